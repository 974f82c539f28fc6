/- Arena: the program's arena and the reference's stay the same under every call (plain). -/
import Derived.Test.YteemiclhnfkekaaZSrD
import Derived.Test.YteemiclhnfkekaaZArC
set_option linter.unusedSimpArgs false
set_option linter.unusedVariables false
namespace Go.Proofs.Yteemiclhnfkekaa
open Go.RowKit Go.Avm
/-- After i calls: the same pages; each is referenced, and seldom. -/
structure RunI (c:Int) (i:Nat) (l ap:List Pg):Prop where
 ars:ArS l ⟨c,ap⟩
 rf: ∀ p∈l,1≤p.refs∧p.refs≤(i:Int)+1∧p.data.length≤1024
 ln:l.length≤1000
theorem RunI.mono {c:Int} {i:Nat} {l ap:List Pg} (h:RunI c i l ap):RunI c (i+1) l ap:=⟨h.ars,fun p hp=>by have:=h.rf p hp;omega,h.ln⟩
theorem RunI.new (c:Int):RunI c 0 [] []:=⟨⟨.refl _,List.Pairwise.nil⟩,by simp,by simp⟩
theorem RunI.len {c:Int} {i:Nat} {l ap:List Pg} (h:RunI c i l ap):ap.length=l.length:=h.ars.perm.length_eq.symm
theorem RunI.mem {c:Int} {i:Nat} {l ap:List Pg} (h:RunI c i l ap): ∀ p∈ap,1≤p.refs∧p.refs≤(i:Int)+1∧p.data.length≤1024:=fun p hp=>h.rf p (h.ars.perm.mem_iff.2 hp)
/-- A number's page in both. -/
theorem RunI.page {c:Int} {i:Nat} {l ap:List Pg} (h:RunI c i l ap) (n:Int):(pgAt n l 0 = -1∧pgAt n ap 0 = -1)∨ ∃ (j k:Nat) (p:Pg),l[j]? = some p∧ap[k]? = some p∧p.num=n∧pgAt n l 0=(j:Int)∧pgAt n ap 0=(k:Int)∧pgGet l (j:Int)=p∧pgGet ap (k:Int)=p:=by
 rcases page_same (n:=n) h.ars with ⟨h1,h2⟩|⟨j,k,p,h1,h2,h3,h4,h5⟩
 ·refine .inl ⟨?_,h2⟩
  rcases pg_at n l with ⟨g1,_⟩|⟨j,p,g1,_,_,_,g5,_⟩
  ·exact g1
  ·exact absurd g5 (h1 p (List.mem_of_getElem? g1))
 ·rcases pg_at n l with ⟨g1,_⟩|⟨j',p',g1,_,g3,_,g5,_⟩
  ·exact absurd h3 ((pgAt_neg n l).1 (by omega) p (List.mem_of_getElem? h1))
  ·have e:=get_num h.ars.nodup h1 g1 (by rw [h3,g5])
   subst e
   exact .inr ⟨j,k,p,h1,h2,h3,g3,h4,by simp [pgGet,h1],h5⟩
theorem RunI.data {c:Int} {i:Nat} {l ap:List Pg} (h:RunI c i l ap) (n:Int):dataR ⟨c,l⟩ n=dataR ⟨c,ap⟩ n:=by
 rcases h.page n with ⟨h1,h2⟩|⟨j,k,p,_,_,_,h4,h5,h6,h7⟩
 ·simp only [dataR,h1,h2];rfl
 ·simp only [dataR,h4,h5,h6,h7]
  rw [if_neg (by omega),if_neg (by omega)]
theorem RunI.alloc {c:Int} {i:Nat} {l ap:List Pg} {d:List Int} (h:RunI c i l ap) (hc:c≤1000):RunI c (i+1) (allocU ⟨c,l⟩ d).1.pages (allocR ⟨c,ap⟩ d).1.pages∧(allocU ⟨c,l⟩ d).2=(allocR ⟨c,ap⟩ d).2∧(allocR ⟨c,ap⟩ d).1.cap=c:=by
 have hs:=alloc_same (d:=d) h.ars
 have e1:(allocU ⟨c,l⟩ d).1.pages=(allocL c l d).1∧(allocU ⟨c,l⟩ d).2=(allocL c l d).2:=by
  unfold allocU allocL
  split
  ·exact ⟨rfl,rfl⟩
  ·split<;>exact ⟨rfl,rfl⟩
 simp only at hs
 have hcap:(allocR ⟨c,ap⟩ d).1.cap=c:=hs.2.2
 refine ⟨⟨?_,?_,?_⟩,by rw [e1.2];exact hs.2.1,hcap⟩
 ·rw [e1.1]
  have:=hs.1
  generalize allocR ⟨c,ap⟩ d=R at *
  obtain ⟨⟨rc,rp⟩,rx⟩:=R
  simp only at hcap
  subst hcap
  exact this
 ·unfold allocU
  intro p hp
  split at hp
  ·have:=h.rf p hp;omega
  ·split at hp
   ·have:=h.rf p hp;omega
   ·simp only [List.mem_append,List.mem_singleton] at hp
    rcases hp with hp|rfl
    ·have:=h.rf p hp;omega
    ·simp only;omega
 ·unfold allocU
  split
  ·exact h.ln
  ·split
   ·exact h.ln
   ·simp only [List.length_append,List.length_singleton];simp only at *;omega
theorem RunI.hold {c:Int} {i:Nat} {l ap:List Pg} (h:RunI c i l ap) (hi:i≤100000) (n:Int):RunI c (i+1) (holdR ⟨c,l⟩ n).1.pages (holdR ⟨c,ap⟩ n).1.pages∧(holdR ⟨c,l⟩ n).2=(holdR ⟨c,ap⟩ n).2∧(holdR ⟨c,ap⟩ n).1.cap=c:=by
 rcases h.page n with ⟨h1,h2⟩|⟨j,k,p,h1,h2,h3,h4,h5,h6,h7⟩
 ·have e1:holdR ⟨c,l⟩ n=(⟨c,l⟩,8):=by simp [holdR,h1]
  have e2:holdR ⟨c,ap⟩ n=(⟨c,ap⟩,8):=by simp [holdR,h2]
  rw [e1,e2]
  exact ⟨h.mono,rfl,rfl⟩
 ·have hh:=hold_same h.ars h1 h2 h3 h5 h7
  have e1:holdR ⟨c,l⟩ n=(⟨c,l.set j ⟨p.num,wr (p.refs+1),p.data⟩⟩,0):=by
   simp only [holdR,setRefs,h4,h6,Int.toNat_natCast]
   rw [if_neg (by omega)]
  have hr:=h.rf p (List.mem_of_getElem? h1)
  have hw:=wr_of (n:=p.refs+1) (by omega) (by omega)
  rw [e1]
  simp only at hh ⊢
  refine ⟨⟨?_,fun q hq=>?_,by rw [List.length_set];exact h.ln⟩,hh.2.1.symm,hh.2.2⟩
  ·have:=hh.1
   have hcap:=hh.2.2
   generalize holdR ⟨c,ap⟩ n=R at *
   obtain ⟨⟨rc,rp⟩,rx⟩:=R
   simp only at hcap
   subst hcap
   exact this
  ·rcases mem_set hq with rfl|⟨i',_,hq2⟩
   ·simp only;rw [hw];omega
   ·have:=h.rf q (List.mem_of_getElem? hq2);omega
theorem RunI.rel {c:Int} {i:Nat} {l ap:List Pg} (h:RunI c i l ap) (hi:i≤100000) (n:Int):RunI c (i+1) (relL ⟨c,l⟩ n).1.pages (releaseR ⟨c,ap⟩ n).1.pages∧(relL ⟨c,l⟩ n).2=(releaseR ⟨c,ap⟩ n).2∧(releaseR ⟨c,ap⟩ n).1.cap=c:=by
 rcases h.page n with ⟨h1,h2⟩|⟨j,k,p,h1,h2,h3,h4,h5,h6,h7⟩
 ·have e1:relL ⟨c,l⟩ n=(⟨c,l⟩,false,8):=by simp [relL,h1]
  have e2:releaseR ⟨c,ap⟩ n=(⟨c,ap⟩,false,8):=by simp [releaseR,h2]
  rw [e1,e2]
  exact ⟨h.mono,rfl,rfl⟩
 ·have hh:=release_same h.ars h1 h2 h3 h5 h7
  have hr:=h.rf p (List.mem_of_getElem? h1)
  have hw:=wr_of (n:=p.refs-1) (by omega) (by omega)
  have hcap:(releaseR ⟨c,ap⟩ n).1.cap=c:=by
   unfold releaseR
   split
   ·rfl
   ·split<;>rfl
  by_cases hz:wr (p.refs-1)=0
  ·have e1:relL ⟨c,l⟩ n=(⟨c,l.eraseIdx j⟩,true,0):=by
    simp only [relL,h4,h6]
    rw [if_neg (by omega),if_pos hz,delAt_erase]
   have hq:=hh.2 (by omega)
   rw [e1]
   refine ⟨⟨?_,fun q hq2=>?_,?_⟩,hq.2.symm,hcap⟩
   ·have:=hq.1
    generalize releaseR ⟨c,ap⟩ n=R at *
    obtain ⟨⟨rc,rp⟩,rx⟩:=R
    simp only at hcap
    subst hcap
    exact this
   ·have:=h.rf q (List.mem_of_mem_eraseIdx hq2);omega
   ·have:=List.length_eraseIdx_le l j
    have:=h.ln
    simp only;omega
  ·have e1:relL ⟨c,l⟩ n=(⟨c,l.set j ⟨p.num,wr (p.refs-1),p.data⟩⟩,false,0):=by
    simp only [relL,setRefs,h4,h6,Int.toNat_natCast]
    rw [if_neg (by omega),if_neg hz]
   have hq:=hh.1 (by rw [hw] at hz ⊢;omega)
   rw [e1]
   refine ⟨⟨?_,fun q hq2=>?_,by simp only;rw [List.length_set];exact h.ln⟩,hq.2.symm,hcap⟩
   ·have:=hq.1
    generalize releaseR ⟨c,ap⟩ n=R at *
    obtain ⟨⟨rc,rp⟩,rx⟩:=R
    simp only at hcap
    subst hcap
    exact this
   ·rcases mem_set hq2 with rfl|⟨i',_,hq3⟩
    ·simp only;rw [hw] at hz ⊢;omega
    ·have:=h.rf q (List.mem_of_getElem? hq3);omega
end Go.Proofs.Yteemiclhnfkekaa
/- ArenaRuns: the state at the head of the law's loop. -/
set_option linter.unusedSimpArgs false
set_option linter.unusedVariables false
namespace Go.Proofs.Yteemiclhnfkekaa
open Go.RowKit Go.Avm Go.ChangeShapes Go.WideShapes Go.ChangeAt
theorem take_rep {α:Type} (k:Nat) (x:α):(List.replicate k x).take k=List.replicate k x:=by simp
theorem str_self (b:ByteArray):(b.toList==b.toList)=true:=beq_self_eq_true _
def stR (c cap:Int) (xs:List Int) (t:Nat×List Pg×List Pg):St:={ slots:=setL [(0,.sc (.int .i64 cap)),(1,.sl 1 (xs.map rowI)),(5,.sc (.int .i64 c)),(6,.ref 35 0),(9,.sc (.int .i64 t.1)),(8,.ref 8 0)] (List.replicate 184 .any),heap:=setH [(8,.box [.sc (.int .i64 c),.sl 3 (t.2.2.map rowPg)]),(35,.box [.sc (.int .i64 c),.mp 535]),(535,.ext (mapB (.int .i64) (ownB (mapPg t.2.1))))] (heap0 [8,16,20,24,35,70,79,83,89,106,110,122,128,146,152,169,177,180,183,535]) }
def QR (c cap:Int) (xs:List Int) (i:Nat) (Q0:Exit→St→Prop):Exit→St→Prop:=loopQ (fun σ'=> ∃ t':Nat×List Pg×List Pg,(t'.1≤30∧RunI c t'.1 t'.2.1 t'.2.2)∧30-t'.1<30-i∧Imp σ' (stR c cap xs t')) Q0
end Go.Proofs.Yteemiclhnfkekaa
/- ArenaRuns: a round of the law's loop: Alloc of a long page. -/
set_option linter.unusedSimpArgs false
set_option linter.unusedVariables false
namespace Go.Proofs.Yteemiclhnfkekaa
open Go.RowKit Go.Avm Go.ChangeShapes Go.WideShapes Go.ChangeAt
set_option maxRecDepth 100000 in set_option maxHeartbeats 12800000 in
theorem runs_make {cap c:Int} {xs:List Int} {i:Nat} {l ap:List Pg} {n:Int} {Q0:Exit→St→Prop} (hi:i≤30) (hc7:c≤7) (hI:RunI c i l ap) (h1:i<xs.length) (h2:i<30) (hn:xs[i]? = some n) (hm:n%4=0) (hz:n/2097152%32=31):TriK Try.prog Try.f6 0 (QR c cap xs i Q0) (stR c cap xs (i,l,ap)):=by
 have hn':=get_map rowI hn
 have hal:=hI.len
 have hlen:=hI.ln
 have hdl:(List.replicate (1024+n/67108864%2).toNat (0:Int)).length≤1000000:=by rw [List.length_replicate];omega
 obtain ⟨hI2,e,ec⟩:=hI.alloc (d:=List.replicate (1024+n/67108864%2).toNat 0) (by omega)
 have k1:=aalloc_calls (cap:=c) (l:=l) (d:=List.replicate (1024+n/67108864%2).toNat 0) (by omega) hdl
 have k2:=ralloc_calls (c:=c) (l:=ap) (d:=List.replicate (1024+n/67108864%2).toNat 0) (by omega) hdl
 rw [e] at k1
 generalize allocU ⟨c,l⟩ (List.replicate (1024+n/67108864%2).toNat 0)=R1 at *
 generalize allocR ⟨c,ap⟩ (List.replicate (1024+n/67108864%2).toNat 0)=R2 at *
 obtain ⟨⟨c1,l1⟩,r1⟩:=R1
 obtain ⟨⟨c2,l2⟩,r2⟩:=R2
 simp only at hI2 ec k1 k2
 subst ec
 obtain ⟨rb,rn⟩:=r2
 simp only at k1 k2
 have hb0:0≤1024+n/67108864%2∧1024+n/67108864%2≤2000:=by omega
 simp only [List.map_replicate,rowW] at k1 k2
 have kb:=bytesk_calls (n:=n/32%65536) (by omega) (by omega)
 have k3:=alive_calls (cap:=c2) (l:=l1)
 have k4:=adump_calls (cap:=c2) hI2.ars (by have:=hI2.ln;omega) (fun p hp=>by have:=hI2.rf p hp;omega)
 have k5:=samepg_calls (l:=l2) (by have:=hI2.ln;have:=hI2.len;omega) (fun p hp=>by have:=hI2.mem p hp;omega)
 have hle:(l1.length:Int)=l2.length:=by have:=hI2.len;omega
 rw [hle] at k3
 unfold QR
 (refine TriK.of (by with_unfolding_all rfl) ?_;simp only [seval,go_sem,stR,setL,setH,List.replicate,heap0,l_3,l_4])
 (all_goals (try have hZ:=(And.intro h1 (And.intro h2 (And.intro hn' (And.intro hm hz)))));(repeat' (first|((with_reducible refine isTriD ?_);first|((with_reducible refine isCallD ?_);first|((with_reducible (first|(refine TriD.cJ (dst:=_) [] (by simp only [seval,go_sem,rowI,List.length_replicate,take_rep,bne_self_eq_false,beq_self_eq_true,decide_true,hZ];rfl) (by simp only [seval,go_sem,rowI,List.length_replicate,take_rep,bne_self_eq_false,beq_self_eq_true,decide_true,hZ];rfl) (k1) (by simp only [seval,go_sem,rowI,List.length_replicate,take_rep,bne_self_eq_false,beq_self_eq_true,decide_true,hZ];first|done|fail) (by simp only [seval,go_sem,rowI,List.length_replicate,take_rep,bne_self_eq_false,beq_self_eq_true,decide_true,hZ];first|done|fail) (by simp only [seval,go_sem,rowI,List.length_replicate,take_rep,bne_self_eq_false,beq_self_eq_true,decide_true,hZ];rfl) ?_)|(refine TriD.cJ (dst:=_) [] (by simp only [seval,go_sem,rowI,List.length_replicate,take_rep,bne_self_eq_false,beq_self_eq_true,decide_true,hZ];rfl) (by simp only [seval,go_sem,rowI,List.length_replicate,take_rep,bne_self_eq_false,beq_self_eq_true,decide_true,hZ];rfl) (k3) (by simp only [seval,go_sem,rowI,List.length_replicate,take_rep,bne_self_eq_false,beq_self_eq_true,decide_true,hZ];first|done|fail) (by simp only [seval,go_sem,rowI,List.length_replicate,take_rep,bne_self_eq_false,beq_self_eq_true,decide_true,hZ];first|done|fail) (by simp only [seval,go_sem,rowI,List.length_replicate,take_rep,bne_self_eq_false,beq_self_eq_true,decide_true,hZ];rfl) ?_)|(refine TriD.cJ (dst:=_) [] (by simp only [seval,go_sem,rowI,List.length_replicate,take_rep,bne_self_eq_false,beq_self_eq_true,decide_true,hZ];rfl) (by simp only [seval,go_sem,rowI,List.length_replicate,take_rep,bne_self_eq_false,beq_self_eq_true,decide_true,hZ];rfl) (k4) (by simp only [seval,go_sem,rowI,List.length_replicate,take_rep,bne_self_eq_false,beq_self_eq_true,decide_true,hZ];first|done|fail) (by simp only [seval,go_sem,rowI,List.length_replicate,take_rep,bne_self_eq_false,beq_self_eq_true,decide_true,hZ];first|done|fail) (by simp only [seval,go_sem,rowI,List.length_replicate,take_rep,bne_self_eq_false,beq_self_eq_true,decide_true,hZ];rfl) ?_)));refine LVs (st:=[100,139,163]) ?_)|((with_reducible refine LVcall (st:=[100,139,163]) ?_);simp only [seval,go_sem,rowI,List.length_replicate,take_rep,bne_self_eq_false,beq_self_eq_true,decide_true,hZ];first|(refine CallL.c (k2) ?_;simp only [seval,go_sem,rowI,List.length_replicate,take_rep,bne_self_eq_false,beq_self_eq_true,decide_true,hZ];(fail_if_success (with_reducible refine isResV ?_)))|(refine CallL.c (k5) ?_;simp only [seval,go_sem,rowI,List.length_replicate,take_rep,bne_self_eq_false,beq_self_eq_true,decide_true,hZ];(fail_if_success (with_reducible refine isResV ?_)))|(refine CallL.c (kb) ?_;simp only [seval,go_sem,rowI,List.length_replicate,take_rep,bne_self_eq_false,beq_self_eq_true,decide_true,hZ];(fail_if_success (with_reducible refine isResV ?_)))))|((with_reducible first|refine TriD.step (by simp only [seval,go_sem,rowI,List.length_replicate,take_rep,bne_self_eq_false,beq_self_eq_true,decide_true,hZ];rfl) ?_|refine TriD.step (by simp (disch:=omega) only [seval,go_sem,cnd,intV,shV,convV,strV,rowI,List.length_replicate,take_rep,bne_self_eq_false,beq_self_eq_true,decide_true,hZ];rfl) ?_);refine LVs (st:=[100,139,163]) ?_)|(with_reducible refine TriD.frz 79 (by simp only [seval,go_sem,rowI,List.length_replicate,take_rep,bne_self_eq_false,beq_self_eq_true,decide_true,hZ];rfl) (by simp only [seval,go_sem,rowI,List.length_replicate,take_rep,bne_self_eq_false,beq_self_eq_true,decide_true,hZ];rfl) ?_;refine LVs (st:=[100,139,163]) ?_))|(with_reducible exact endS_n)|(with_reducible refine isDrawnN 32 ?_;with_reducible apply Tri.cutS;refine Tri.mixedP 32 mix 18 rfl (.f 0 <| .f 1 <| .f 2 <| .f 3 <| .f 5 <| .a <| .b 4 (.a <| .b 6 (.f 7 <| .f 8 <| .f 9 <| .f 10 <| .f 11 <| .f 13 <| .a <| .b 12 (.a <| .b 14 (.a <| .b 15 (.f 16 <| .f 17 <| .d) .e) .e) <| .b 14 (.a <| .b 12 (.a <| .b 15 (.f 16 <| .f 17 <| .d) .e) .e) .e) .e) <| .b 6 (.f 7 <| .a <| .b 4 (.f 8 <| .f 9 <| .f 10 <| .f 11 <| .f 13 <| .a <| .b 12 (.a <| .b 14 (.a <| .b 15 (.f 16 <| .f 17 <| .d) .e) .e) <| .b 14 (.a <| .b 12 (.a <| .b 15 (.f 16 <| .f 17 <| .d) .e) .e) .e) .e) .e) (by kernel_rfl) ?_)|(with_reducible refine isAnyP ?_;first|refine AnyP.D ?_|refine AnyP.F (by simp only [seval,go_sem,l_7,l_6];rfl) (by first|(simp only [seval,go_sem,rowI,List.length_replicate,take_rep,bne_self_eq_false,beq_self_eq_true,decide_true,hZ];first|done|fail)) (by first|(simp only [seval,go_sem,rowI,List.length_replicate,take_rep,bne_self_eq_false,beq_self_eq_true,decide_true,hZ];with_reducible rfl)|(simp (disch:=omega) only [seval,go_sem,cnd,intV,shV,convV,strV,rowI,List.length_replicate,take_rep,bne_self_eq_false,beq_self_eq_true,decide_true,hZ];with_reducible rfl)) ?_|refine AnyP.A ?_)|(with_reducible first|exact NextsP.E|refine NextsP.B (by simp only [seval,go_sem,l_7,l_6];rfl) ?_ ?_)|(with_reducible (refine TVq (st:=[100,139,163]) ?_))|simp only [seval,go_sem,rowI,List.length_replicate,take_rep,bne_self_eq_false,beq_self_eq_true,decide_true,hZ]|(with_reducible refine oV_st (by simp (disch:=omega) only [seval,go_sem,cnd,intV,shV,convV,strV,rowI,List.length_replicate,take_rep,bne_self_eq_false,beq_self_eq_true,decide_true,hZ];rfl) ?_)))<;>(try (fail));all_goals (try clear hZ))
 all_goals (try ((refine isNextVM ((i+1,l1,l2)) (Imp.les (by (refine leQL_spec ?_);(try simp only [seval,go_sem]);first|((repeat' (with_reducible apply And.intro))<;>first|rfl);first|done|fail) (by (refine leQH_spec ?_);(try simp only [seval,go_sem]);first|done|fail)) ?_ ?_)<;>(try (omega))))
 all_goals (try exact ⟨by omega,hI2⟩)
 all_goals done
end Go.Proofs.Yteemiclhnfkekaa
/- ArenaRuns: a round of the law's loop: Alloc. -/
set_option linter.unusedSimpArgs false
set_option linter.unusedVariables false
namespace Go.Proofs.Yteemiclhnfkekaa
open Go.RowKit Go.Avm Go.ChangeShapes Go.WideShapes Go.ChangeAt
set_option maxRecDepth 100000 in set_option maxHeartbeats 12800000 in
theorem runs_alloc {cap c:Int} {xs:List Int} {i:Nat} {l ap:List Pg} {n:Int} {Q0:Exit→St→Prop} (hi:i≤30) (hc7:c≤7) (hI:RunI c i l ap) (h1:i<xs.length) (h2:i<30) (hn:xs[i]? = some n) (hm:n%4=0) (hz: ¬ n/2097152%32=31):TriK Try.prog Try.f6 0 (QR c cap xs i Q0) (stR c cap xs (i,l,ap)):=by
 have hn':=get_map rowI hn
 have hal:=hI.len
 have hlen:=hI.ln
 have hdl:(bytesK (n/32%65536)).length≤1000000:=by have:=(bytesK_ok (n/32%65536)).1;omega
 have kb:=bytesk_calls (n:=n/32%65536) (by omega) (by omega)
 obtain ⟨hI2,e,ec⟩:=hI.alloc (d:=bytesK (n/32%65536)) (by omega)
 have k1:=aalloc_calls (cap:=c) (l:=l) (d:=bytesK (n/32%65536)) (by omega) hdl
 have k2:=ralloc_calls (c:=c) (l:=ap) (d:=bytesK (n/32%65536)) (by omega) hdl
 rw [e] at k1
 generalize allocU ⟨c,l⟩ (bytesK (n/32%65536))=R1 at *
 generalize allocR ⟨c,ap⟩ (bytesK (n/32%65536))=R2 at *
 obtain ⟨⟨c1,l1⟩,r1⟩:=R1
 obtain ⟨⟨c2,l2⟩,r2⟩:=R2
 simp only at hI2 ec k1 k2
 subst ec
 obtain ⟨rb,rn⟩:=r2
 simp only at k1 k2
 have k3:=alive_calls (cap:=c2) (l:=l1)
 have k4:=adump_calls (cap:=c2) hI2.ars (by have:=hI2.ln;omega) (fun p hp=>by have:=hI2.rf p hp;omega)
 have k5:=samepg_calls (l:=l2) (by have:=hI2.ln;have:=hI2.len;omega) (fun p hp=>by have:=hI2.mem p hp;omega)
 have hle:(l1.length:Int)=l2.length:=by have:=hI2.len;omega
 rw [hle] at k3
 unfold QR
 (refine TriK.of (by with_unfolding_all rfl) ?_;simp only [seval,go_sem,stR,setL,setH,List.replicate,heap0,l_3,l_4])
 (all_goals (try have hZ:=(And.intro h1 (And.intro h2 (And.intro hn' (And.intro hm hz)))));(repeat' (first|((with_reducible refine isTriD ?_);first|((with_reducible refine isCallD ?_);first|((with_reducible (first|(refine TriD.cJ (dst:=_) [] (by simp only [seval,go_sem,rowI,bne_self_eq_false,beq_self_eq_true,decide_true,hZ];rfl) (by simp only [seval,go_sem,rowI,bne_self_eq_false,beq_self_eq_true,decide_true,hZ];rfl) (k1) (by simp only [seval,go_sem,rowI,bne_self_eq_false,beq_self_eq_true,decide_true,hZ];first|done|fail) (by simp only [seval,go_sem,rowI,bne_self_eq_false,beq_self_eq_true,decide_true,hZ];first|done|fail) (by simp only [seval,go_sem,rowI,bne_self_eq_false,beq_self_eq_true,decide_true,hZ];rfl) ?_)|(refine TriD.cJ (dst:=_) [] (by simp only [seval,go_sem,rowI,bne_self_eq_false,beq_self_eq_true,decide_true,hZ];rfl) (by simp only [seval,go_sem,rowI,bne_self_eq_false,beq_self_eq_true,decide_true,hZ];rfl) (k3) (by simp only [seval,go_sem,rowI,bne_self_eq_false,beq_self_eq_true,decide_true,hZ];first|done|fail) (by simp only [seval,go_sem,rowI,bne_self_eq_false,beq_self_eq_true,decide_true,hZ];first|done|fail) (by simp only [seval,go_sem,rowI,bne_self_eq_false,beq_self_eq_true,decide_true,hZ];rfl) ?_)|(refine TriD.cJ (dst:=_) [] (by simp only [seval,go_sem,rowI,bne_self_eq_false,beq_self_eq_true,decide_true,hZ];rfl) (by simp only [seval,go_sem,rowI,bne_self_eq_false,beq_self_eq_true,decide_true,hZ];rfl) (k4) (by simp only [seval,go_sem,rowI,bne_self_eq_false,beq_self_eq_true,decide_true,hZ];first|done|fail) (by simp only [seval,go_sem,rowI,bne_self_eq_false,beq_self_eq_true,decide_true,hZ];first|done|fail) (by simp only [seval,go_sem,rowI,bne_self_eq_false,beq_self_eq_true,decide_true,hZ];rfl) ?_)));refine LVs (st:=[100,139,163]) ?_)|((with_reducible refine LVcall (st:=[100,139,163]) ?_);simp only [seval,go_sem,rowI,bne_self_eq_false,beq_self_eq_true,decide_true,hZ];first|(refine CallL.c (k2) ?_)|(refine CallL.c (k5) ?_)|(refine CallL.c (kb) ?_)))|((with_reducible first|refine TriD.step (by simp only [seval,go_sem,rowI,bne_self_eq_false,beq_self_eq_true,decide_true,hZ];rfl) ?_|refine TriD.step (by simp (disch:=omega) only [seval,go_sem,cnd,intV,shV,convV,strV,rowI,bne_self_eq_false,beq_self_eq_true,decide_true,hZ];rfl) ?_);refine LVs (st:=[100,139,163]) ?_))|(with_reducible exact endS_n)|(with_reducible refine isDrawnN 32 ?_;with_reducible apply Tri.cutS;refine Tri.mixedP 32 mix 18 rfl (.f 0 <| .f 1 <| .f 2 <| .f 3 <| .f 5 <| .a <| .b 4 (.a <| .b 6 (.f 7 <| .f 8 <| .f 9 <| .f 10 <| .f 11 <| .f 13 <| .a <| .b 12 (.a <| .b 14 (.a <| .b 15 (.f 16 <| .f 17 <| .d) .e) .e) <| .b 14 (.a <| .b 12 (.a <| .b 15 (.f 16 <| .f 17 <| .d) .e) .e) .e) .e) <| .b 6 (.f 7 <| .a <| .b 4 (.f 8 <| .f 9 <| .f 10 <| .f 11 <| .f 13 <| .a <| .b 12 (.a <| .b 14 (.a <| .b 15 (.f 16 <| .f 17 <| .d) .e) .e) <| .b 14 (.a <| .b 12 (.a <| .b 15 (.f 16 <| .f 17 <| .d) .e) .e) .e) .e) .e) (by kernel_rfl) ?_)|(with_reducible refine isAnyP ?_;first|refine AnyP.D ?_|refine AnyP.F (by simp only [seval,go_sem,l_7,l_6];rfl) (by first|(simp only [seval,go_sem,rowI,bne_self_eq_false,beq_self_eq_true,decide_true,hZ];first|done|fail)) (by first|(simp only [seval,go_sem,rowI,bne_self_eq_false,beq_self_eq_true,decide_true,hZ];with_reducible rfl)|(simp (disch:=omega) only [seval,go_sem,cnd,intV,shV,convV,strV,rowI,bne_self_eq_false,beq_self_eq_true,decide_true,hZ];with_reducible rfl)) ?_|refine AnyP.A ?_)|(with_reducible first|exact NextsP.E|refine NextsP.B (by simp only [seval,go_sem,l_7,l_6];rfl) ?_ ?_)|(with_reducible (refine TVq (st:=[100,139,163]) ?_))|simp only [seval,go_sem,rowI,bne_self_eq_false,beq_self_eq_true,decide_true,hZ]|(with_reducible refine oV_st (by simp (disch:=omega) only [seval,go_sem,cnd,intV,shV,convV,strV,rowI,bne_self_eq_false,beq_self_eq_true,decide_true,hZ];rfl) ?_)))<;>(try (fail));all_goals (try clear hZ))
 all_goals (try ((refine isNextVM ((i+1,l1,l2)) (Imp.les (by (refine leQL_spec ?_);(try simp only [seval,go_sem]);first|((repeat' (with_reducible apply And.intro))<;>first|rfl);first|done|fail) (by (refine leQH_spec ?_);(try simp only [seval,go_sem]);first|done|fail)) ?_ ?_)<;>(try (omega))))
 all_goals (try exact ⟨by omega,hI2⟩)
 all_goals done
end Go.Proofs.Yteemiclhnfkekaa
/- ArenaRuns: a round of the law's loop: Hold. -/
set_option linter.unusedSimpArgs false
set_option linter.unusedVariables false
namespace Go.Proofs.Yteemiclhnfkekaa
open Go.RowKit Go.Avm Go.ChangeShapes Go.WideShapes Go.ChangeAt
set_option maxRecDepth 100000 in set_option maxHeartbeats 12800000 in
theorem runs_hold {cap c:Int} {xs:List Int} {i:Nat} {l ap:List Pg} {n:Int} {Q0:Exit→St→Prop} (hi:i≤30) (hc7:c≤7) (hI:RunI c i l ap) (h1:i<xs.length) (h2:i<30) (hn:xs[i]? = some n) (hm:n%4=1):TriK Try.prog Try.f6 0 (QR c cap xs i Q0) (stR c cap xs (i,l,ap)):=by
 have hn':=get_map rowI hn
 have hal:=hI.len
 have hlen:=hI.ln
 obtain ⟨hI2,e,ec⟩:=hI.hold (by omega) (n/4%8)
 have k1:=ahold_calls (cap:=c) (l:=l) (n:=n/4%8)
 have k2:=rhold_calls (c:=c) (l:=ap) (n:=n/4%8) (by omega)
 rw [e] at k1
 generalize holdR ⟨c,l⟩ (n/4%8)=R1 at *
 generalize holdR ⟨c,ap⟩ (n/4%8)=R2 at *
 obtain ⟨⟨c1,l1⟩,r1⟩:=R1
 obtain ⟨⟨c2,l2⟩,r2⟩:=R2
 simp only at hI2 ec k1 k2
 subst ec
 have k3:=alive_calls (cap:=c2) (l:=l1)
 have k4:=adump_calls (cap:=c2) hI2.ars (by have:=hI2.ln;omega) (fun p hp=>by have:=hI2.rf p hp;omega)
 have k5:=samepg_calls (l:=l2) (by have:=hI2.ln;have:=hI2.len;omega) (fun p hp=>by have:=hI2.mem p hp;omega)
 have hle:(l1.length:Int)=l2.length:=by have:=hI2.len;omega
 rw [hle] at k3
 unfold QR
 (refine TriK.of (by with_unfolding_all rfl) ?_;simp only [seval,go_sem,stR,setL,setH,List.replicate,heap0,l_3,l_4])
 (all_goals (try have hZ:=(And.intro h1 (And.intro h2 (And.intro hn' hm))));(repeat' (first|((with_reducible refine isTriD ?_);first|((with_reducible refine isCallD ?_);first|((with_reducible (first|(refine TriD.cJ (dst:=_) [] (by simp only [seval,go_sem,rowI,bne_self_eq_false,beq_self_eq_true,decide_true,hZ];rfl) (by simp only [seval,go_sem,rowI,bne_self_eq_false,beq_self_eq_true,decide_true,hZ];rfl) (k1) (by simp only [seval,go_sem,rowI,bne_self_eq_false,beq_self_eq_true,decide_true,hZ];first|done|fail) (by simp only [seval,go_sem,rowI,bne_self_eq_false,beq_self_eq_true,decide_true,hZ];first|done|fail) (by simp only [seval,go_sem,rowI,bne_self_eq_false,beq_self_eq_true,decide_true,hZ];rfl) ?_)|(refine TriD.cJ (dst:=_) [] (by simp only [seval,go_sem,rowI,bne_self_eq_false,beq_self_eq_true,decide_true,hZ];rfl) (by simp only [seval,go_sem,rowI,bne_self_eq_false,beq_self_eq_true,decide_true,hZ];rfl) (k3) (by simp only [seval,go_sem,rowI,bne_self_eq_false,beq_self_eq_true,decide_true,hZ];first|done|fail) (by simp only [seval,go_sem,rowI,bne_self_eq_false,beq_self_eq_true,decide_true,hZ];first|done|fail) (by simp only [seval,go_sem,rowI,bne_self_eq_false,beq_self_eq_true,decide_true,hZ];rfl) ?_)|(refine TriD.cJ (dst:=_) [] (by simp only [seval,go_sem,rowI,bne_self_eq_false,beq_self_eq_true,decide_true,hZ];rfl) (by simp only [seval,go_sem,rowI,bne_self_eq_false,beq_self_eq_true,decide_true,hZ];rfl) (k4) (by simp only [seval,go_sem,rowI,bne_self_eq_false,beq_self_eq_true,decide_true,hZ];first|done|fail) (by simp only [seval,go_sem,rowI,bne_self_eq_false,beq_self_eq_true,decide_true,hZ];first|done|fail) (by simp only [seval,go_sem,rowI,bne_self_eq_false,beq_self_eq_true,decide_true,hZ];rfl) ?_)));refine LVs (st:=[100,139,163]) ?_)|((with_reducible refine LVcall (st:=[100,139,163]) ?_);simp only [seval,go_sem,rowI,bne_self_eq_false,beq_self_eq_true,decide_true,hZ];first|(refine CallL.c (k2) ?_)|(refine CallL.c (k5) ?_)))|((with_reducible first|refine TriD.step (by simp only [seval,go_sem,rowI,bne_self_eq_false,beq_self_eq_true,decide_true,hZ];rfl) ?_);refine LVs (st:=[100,139,163]) ?_))|(with_reducible exact endS_n)|(with_reducible refine isDrawnN 32 ?_;with_reducible apply Tri.cutS;refine Tri.mixedP 32 mix 18 rfl (.f 0 <| .f 1 <| .f 2 <| .f 3 <| .f 5 <| .a <| .b 4 (.a <| .b 6 (.f 7 <| .f 8 <| .f 9 <| .f 10 <| .f 11 <| .f 13 <| .a <| .b 12 (.a <| .b 14 (.a <| .b 15 (.f 16 <| .f 17 <| .d) .e) .e) <| .b 14 (.a <| .b 12 (.a <| .b 15 (.f 16 <| .f 17 <| .d) .e) .e) .e) .e) <| .b 6 (.f 7 <| .a <| .b 4 (.f 8 <| .f 9 <| .f 10 <| .f 11 <| .f 13 <| .a <| .b 12 (.a <| .b 14 (.a <| .b 15 (.f 16 <| .f 17 <| .d) .e) .e) <| .b 14 (.a <| .b 12 (.a <| .b 15 (.f 16 <| .f 17 <| .d) .e) .e) .e) .e) .e) (by kernel_rfl) ?_)|(with_reducible refine isAnyP ?_;first|refine AnyP.D ?_|refine AnyP.F (by simp only [seval,go_sem,l_7,l_6];rfl) (by first|(simp only [seval,go_sem,rowI,bne_self_eq_false,beq_self_eq_true,decide_true,hZ];first|done|fail)) (by first|(simp only [seval,go_sem,rowI,bne_self_eq_false,beq_self_eq_true,decide_true,hZ];with_reducible rfl)|(simp (disch:=omega) only [seval,go_sem,cnd,intV,shV,convV,strV,rowI,bne_self_eq_false,beq_self_eq_true,decide_true,hZ];with_reducible rfl)) ?_|refine AnyP.A ?_)|(with_reducible first|exact NextsP.E|refine NextsP.B (by simp only [seval,go_sem,l_7,l_6];rfl) ?_ ?_)|(with_reducible (refine TVq (st:=[100,139,163]) ?_))|simp only [seval,go_sem,rowI,bne_self_eq_false,beq_self_eq_true,decide_true,hZ]|(with_reducible refine oV_st (by simp (disch:=omega) only [seval,go_sem,cnd,intV,shV,convV,strV,rowI,bne_self_eq_false,beq_self_eq_true,decide_true,hZ];rfl) ?_)))<;>(try (fail));all_goals (try clear hZ))
 all_goals (try ((refine isNextVM ((i+1,l1,l2)) (Imp.les (by (refine leQL_spec ?_);(try simp only [seval,go_sem]);first|((repeat' (with_reducible apply And.intro))<;>first|rfl);first|done|fail) (by (refine leQH_spec ?_);(try simp only [seval,go_sem]);first|done|fail)) ?_ ?_)<;>(try (omega))))
 all_goals (try exact ⟨by omega,hI2⟩)
 all_goals done
end Go.Proofs.Yteemiclhnfkekaa
/- ArenaRuns: a round of the law's loop: Release. -/
set_option linter.unusedSimpArgs false
set_option linter.unusedVariables false
namespace Go.Proofs.Yteemiclhnfkekaa
open Go.RowKit Go.Avm Go.ChangeShapes Go.WideShapes Go.ChangeAt
set_option maxRecDepth 100000 in set_option maxHeartbeats 12800000 in
theorem runs_rel {cap c:Int} {xs:List Int} {i:Nat} {l ap:List Pg} {n:Int} {Q0:Exit→St→Prop} (hi:i≤30) (hc7:c≤7) (hI:RunI c i l ap) (h1:i<xs.length) (h2:i<30) (hn:xs[i]? = some n) (hm:n%4=2):TriK Try.prog Try.f6 0 (QR c cap xs i Q0) (stR c cap xs (i,l,ap)):=by
 have hn':=get_map rowI hn
 have hal:=hI.len
 have hlen:=hI.ln
 obtain ⟨hI2,e,ec⟩:=hI.rel (by omega) (n/4%8)
 have k1:=arel_calls (cap:=c) (l:=l) (n:=n/4%8)
 have k2:=rrel_calls (c:=c) (l:=ap) (n:=n/4%8) (by omega)
 rw [e] at k1
 generalize relL ⟨c,l⟩ (n/4%8)=R1 at *
 generalize releaseR ⟨c,ap⟩ (n/4%8)=R2 at *
 obtain ⟨⟨c1,l1⟩,r1⟩:=R1
 obtain ⟨⟨c2,l2⟩,r2⟩:=R2
 simp only at hI2 ec k1 k2
 subst ec
 obtain ⟨rb,rn⟩:=r2
 simp only at k1 k2
 have k3:=alive_calls (cap:=c2) (l:=l1)
 have k4:=adump_calls (cap:=c2) hI2.ars (by have:=hI2.ln;omega) (fun p hp=>by have:=hI2.rf p hp;omega)
 have k5:=samepg_calls (l:=l2) (by have:=hI2.ln;have:=hI2.len;omega) (fun p hp=>by have:=hI2.mem p hp;omega)
 have hle:(l1.length:Int)=l2.length:=by have:=hI2.len;omega
 rw [hle] at k3
 unfold QR
 (refine TriK.of (by with_unfolding_all rfl) ?_;simp only [seval,go_sem,stR,setL,setH,List.replicate,heap0,l_3,l_4])
 (all_goals (try have hZ:=(And.intro h1 (And.intro h2 (And.intro hn' hm))));(repeat' (first|((with_reducible refine isTriD ?_);first|((with_reducible refine isCallD ?_);first|((with_reducible (first|(refine TriD.cJ (dst:=_) [] (by simp only [seval,go_sem,rowI,bne_self_eq_false,beq_self_eq_true,decide_true,hZ];rfl) (by simp only [seval,go_sem,rowI,bne_self_eq_false,beq_self_eq_true,decide_true,hZ];rfl) (k1) (by simp only [seval,go_sem,rowI,bne_self_eq_false,beq_self_eq_true,decide_true,hZ];first|done|fail) (by simp only [seval,go_sem,rowI,bne_self_eq_false,beq_self_eq_true,decide_true,hZ];first|done|fail) (by simp only [seval,go_sem,rowI,bne_self_eq_false,beq_self_eq_true,decide_true,hZ];rfl) ?_)|(refine TriD.cJ (dst:=_) [] (by simp only [seval,go_sem,rowI,bne_self_eq_false,beq_self_eq_true,decide_true,hZ];rfl) (by simp only [seval,go_sem,rowI,bne_self_eq_false,beq_self_eq_true,decide_true,hZ];rfl) (k3) (by simp only [seval,go_sem,rowI,bne_self_eq_false,beq_self_eq_true,decide_true,hZ];first|done|fail) (by simp only [seval,go_sem,rowI,bne_self_eq_false,beq_self_eq_true,decide_true,hZ];first|done|fail) (by simp only [seval,go_sem,rowI,bne_self_eq_false,beq_self_eq_true,decide_true,hZ];rfl) ?_)|(refine TriD.cJ (dst:=_) [] (by simp only [seval,go_sem,rowI,bne_self_eq_false,beq_self_eq_true,decide_true,hZ];rfl) (by simp only [seval,go_sem,rowI,bne_self_eq_false,beq_self_eq_true,decide_true,hZ];rfl) (k4) (by simp only [seval,go_sem,rowI,bne_self_eq_false,beq_self_eq_true,decide_true,hZ];first|done|fail) (by simp only [seval,go_sem,rowI,bne_self_eq_false,beq_self_eq_true,decide_true,hZ];first|done|fail) (by simp only [seval,go_sem,rowI,bne_self_eq_false,beq_self_eq_true,decide_true,hZ];rfl) ?_)));refine LVs (st:=[100,139,163]) ?_)|((with_reducible refine LVcall (st:=[100,139,163]) ?_);simp only [seval,go_sem,rowI,bne_self_eq_false,beq_self_eq_true,decide_true,hZ];first|(refine CallL.c (k2) ?_)|(refine CallL.c (k5) ?_)))|((with_reducible first|refine TriD.step (by simp only [seval,go_sem,rowI,bne_self_eq_false,beq_self_eq_true,decide_true,hZ];rfl) ?_|refine TriD.step (by simp (disch:=omega) only [seval,go_sem,cnd,intV,shV,convV,strV,rowI,bne_self_eq_false,beq_self_eq_true,decide_true,hZ];rfl) ?_);refine LVs (st:=[100,139,163]) ?_))|(with_reducible exact endS_n)|(with_reducible refine isDrawnN 32 ?_;with_reducible apply Tri.cutS;refine Tri.mixedP 32 mix 18 rfl (.f 0 <| .f 1 <| .f 2 <| .f 3 <| .f 5 <| .a <| .b 4 (.a <| .b 6 (.f 7 <| .f 8 <| .f 9 <| .f 10 <| .f 11 <| .f 13 <| .a <| .b 12 (.a <| .b 14 (.a <| .b 15 (.f 16 <| .f 17 <| .d) .e) .e) <| .b 14 (.a <| .b 12 (.a <| .b 15 (.f 16 <| .f 17 <| .d) .e) .e) .e) .e) <| .b 6 (.f 7 <| .a <| .b 4 (.f 8 <| .f 9 <| .f 10 <| .f 11 <| .f 13 <| .a <| .b 12 (.a <| .b 14 (.a <| .b 15 (.f 16 <| .f 17 <| .d) .e) .e) <| .b 14 (.a <| .b 12 (.a <| .b 15 (.f 16 <| .f 17 <| .d) .e) .e) .e) .e) .e) (by kernel_rfl) ?_)|(with_reducible refine isAnyP ?_;first|refine AnyP.D ?_|refine AnyP.F (by simp only [seval,go_sem,l_7,l_6];rfl) (by first|(simp only [seval,go_sem,rowI,bne_self_eq_false,beq_self_eq_true,decide_true,hZ];first|done|fail)) (by first|(simp only [seval,go_sem,rowI,bne_self_eq_false,beq_self_eq_true,decide_true,hZ];with_reducible rfl)|(simp (disch:=omega) only [seval,go_sem,cnd,intV,shV,convV,strV,rowI,bne_self_eq_false,beq_self_eq_true,decide_true,hZ];with_reducible rfl)) ?_|refine AnyP.A ?_)|(with_reducible first|exact NextsP.E|refine NextsP.B (by simp only [seval,go_sem,l_7,l_6];rfl) ?_ ?_)|(with_reducible (refine TVq (st:=[100,139,163]) ?_))|simp only [seval,go_sem,rowI,bne_self_eq_false,beq_self_eq_true,decide_true,hZ]|(with_reducible refine oV_st (by simp (disch:=omega) only [seval,go_sem,cnd,intV,shV,convV,strV,rowI,bne_self_eq_false,beq_self_eq_true,decide_true,hZ];rfl) ?_)))<;>(try (fail));all_goals (try clear hZ))
 all_goals (try ((refine isNextVM ((i+1,l1,l2)) (Imp.les (by (refine leQL_spec ?_);(try simp only [seval,go_sem]);first|((repeat' (with_reducible apply And.intro))<;>first|rfl);first|done|fail) (by (refine leQH_spec ?_);(try simp only [seval,go_sem]);first|done|fail)) ?_ ?_)<;>(try (omega))))
 all_goals (try exact ⟨by omega,hI2⟩)
 all_goals done
end Go.Proofs.Yteemiclhnfkekaa
/- ArenaRuns: a round of the law's loop: Data. -/
set_option linter.unusedSimpArgs false
set_option linter.unusedVariables false
namespace Go.Proofs.Yteemiclhnfkekaa
open Go.RowKit Go.Avm Go.ChangeShapes Go.WideShapes Go.ChangeAt
set_option maxRecDepth 100000 in set_option maxHeartbeats 12800000 in
theorem runs_data {cap c:Int} {xs:List Int} {i:Nat} {l ap:List Pg} {n:Int} {Q0:Exit→St→Prop} (hi:i≤30) (hc7:c≤7) (hI:RunI c i l ap) (h1:i<xs.length) (h2:i<30) (hn:xs[i]? = some n) (hm:n%4=3):TriK Try.prog Try.f6 0 (QR c cap xs i Q0) (stR c cap xs (i,l,ap)):=by
 have hn':=get_map rowI hn
 have hal:=hI.len
 have hlen:=hI.ln
 have hI2:=hI.mono
 have e:=hI.data (n/4%8)
 have k1:=adata_calls (cap:=c) (l:=l) (n:=n/4%8) (fun p hp=>by have:=hI.rf p hp;omega)
 have k2:=rdata_calls (c:=c) (l:=ap) (n:=n/4%8) (by omega) (fun p hp=>by have:=hI.mem p hp;omega)
 rw [e] at k1
 generalize dataR ⟨c,ap⟩ (n/4%8)=R2 at *
 obtain ⟨dd,re⟩:=R2
 simp only at k1 k2
 have k3:=alive_calls (cap:=c) (l:=l)
 have k4:=adump_calls (cap:=c) hI2.ars (by have:=hI2.ln;omega) (fun p hp=>by have:=hI2.rf p hp;omega)
 have k5:=samepg_calls (l:=ap) (by have:=hI2.ln;have:=hI2.len;omega) (fun p hp=>by have:=hI2.mem p hp;omega)
 have hle:(l.length:Int)=ap.length:=by have:=hI2.len;omega
 rw [hle] at k3
 unfold QR
 (refine TriK.of (by with_unfolding_all rfl) ?_;simp only [seval,go_sem,stR,setL,setH,List.replicate,heap0,l_3,l_4])
 (all_goals (try have hZ:=(And.intro h1 (And.intro h2 (And.intro hn' hm))));(repeat' (first|((with_reducible refine isTriD ?_);first|((with_reducible refine isCallD ?_);first|((with_reducible (first|(refine TriD.cJ (dst:=_) [] (by simp only [seval,go_sem,rowI,mapO_rowW,str_self,bne_self_eq_false,beq_self_eq_true,decide_true,hZ];rfl) (by simp only [seval,go_sem,rowI,mapO_rowW,str_self,bne_self_eq_false,beq_self_eq_true,decide_true,hZ];rfl) (k1) (by simp only [seval,go_sem,rowI,mapO_rowW,str_self,bne_self_eq_false,beq_self_eq_true,decide_true,hZ];first|done|fail) (by simp only [seval,go_sem,rowI,mapO_rowW,str_self,bne_self_eq_false,beq_self_eq_true,decide_true,hZ];first|done|fail) (by simp only [seval,go_sem,rowI,mapO_rowW,str_self,bne_self_eq_false,beq_self_eq_true,decide_true,hZ];rfl) ?_)|(refine TriD.cJ (dst:=_) [] (by simp only [seval,go_sem,rowI,mapO_rowW,str_self,bne_self_eq_false,beq_self_eq_true,decide_true,hZ];rfl) (by simp only [seval,go_sem,rowI,mapO_rowW,str_self,bne_self_eq_false,beq_self_eq_true,decide_true,hZ];rfl) (k3) (by simp only [seval,go_sem,rowI,mapO_rowW,str_self,bne_self_eq_false,beq_self_eq_true,decide_true,hZ];first|done|fail) (by simp only [seval,go_sem,rowI,mapO_rowW,str_self,bne_self_eq_false,beq_self_eq_true,decide_true,hZ];first|done|fail) (by simp only [seval,go_sem,rowI,mapO_rowW,str_self,bne_self_eq_false,beq_self_eq_true,decide_true,hZ];rfl) ?_)|(refine TriD.cJ (dst:=_) [] (by simp only [seval,go_sem,rowI,mapO_rowW,str_self,bne_self_eq_false,beq_self_eq_true,decide_true,hZ];rfl) (by simp only [seval,go_sem,rowI,mapO_rowW,str_self,bne_self_eq_false,beq_self_eq_true,decide_true,hZ];rfl) (k4) (by simp only [seval,go_sem,rowI,mapO_rowW,str_self,bne_self_eq_false,beq_self_eq_true,decide_true,hZ];first|done|fail) (by simp only [seval,go_sem,rowI,mapO_rowW,str_self,bne_self_eq_false,beq_self_eq_true,decide_true,hZ];first|done|fail) (by simp only [seval,go_sem,rowI,mapO_rowW,str_self,bne_self_eq_false,beq_self_eq_true,decide_true,hZ];rfl) ?_)));refine LVs (st:=[100,139,163]) ?_)|((with_reducible refine LVcall (st:=[100,139,163]) ?_);simp only [seval,go_sem,rowI,mapO_rowW,str_self,bne_self_eq_false,beq_self_eq_true,decide_true,hZ];first|(refine CallL.c (k2) ?_)|(refine CallL.c (k5) ?_)))|((with_reducible first|refine TriD.step (by simp only [seval,go_sem,rowI,mapO_rowW,str_self,bne_self_eq_false,beq_self_eq_true,decide_true,hZ];rfl) ?_|refine TriD.step (by simp (disch:=omega) only [seval,go_sem,cnd,intV,shV,convV,strV,rowI,mapO_rowW,str_self,bne_self_eq_false,beq_self_eq_true,decide_true,hZ];rfl) ?_);refine LVs (st:=[100,139,163]) ?_))|(with_reducible exact endS_n)|(with_reducible refine isDrawnN 32 ?_;with_reducible apply Tri.cutS;refine Tri.mixedP 32 mix 18 rfl (.f 0 <| .f 1 <| .f 2 <| .f 3 <| .f 5 <| .a <| .b 4 (.a <| .b 6 (.f 7 <| .f 8 <| .f 9 <| .f 10 <| .f 11 <| .f 13 <| .a <| .b 12 (.a <| .b 14 (.a <| .b 15 (.f 16 <| .f 17 <| .d) .e) .e) <| .b 14 (.a <| .b 12 (.a <| .b 15 (.f 16 <| .f 17 <| .d) .e) .e) .e) .e) <| .b 6 (.f 7 <| .a <| .b 4 (.f 8 <| .f 9 <| .f 10 <| .f 11 <| .f 13 <| .a <| .b 12 (.a <| .b 14 (.a <| .b 15 (.f 16 <| .f 17 <| .d) .e) .e) <| .b 14 (.a <| .b 12 (.a <| .b 15 (.f 16 <| .f 17 <| .d) .e) .e) .e) .e) .e) (by kernel_rfl) ?_)|(with_reducible refine isAnyP ?_;first|refine AnyP.D ?_|refine AnyP.F (by simp only [seval,go_sem,l_7,l_6];rfl) (by first|(simp only [seval,go_sem,rowI,mapO_rowW,str_self,bne_self_eq_false,beq_self_eq_true,decide_true,hZ];first|done|fail)) (by first|(simp only [seval,go_sem,rowI,mapO_rowW,str_self,bne_self_eq_false,beq_self_eq_true,decide_true,hZ];with_reducible rfl)|(simp (disch:=omega) only [seval,go_sem,cnd,intV,shV,convV,strV,rowI,mapO_rowW,str_self,bne_self_eq_false,beq_self_eq_true,decide_true,hZ];with_reducible rfl)) ?_|refine AnyP.A ?_)|(with_reducible first|exact NextsP.E|refine NextsP.B (by simp only [seval,go_sem,l_7,l_6];rfl) ?_ ?_)|(with_reducible (refine TVq (st:=[100,139,163]) ?_))|simp only [seval,go_sem,rowI,mapO_rowW,str_self,bne_self_eq_false,beq_self_eq_true,decide_true,hZ]|(with_reducible refine oV_st (by simp (disch:=omega) only [seval,go_sem,cnd,intV,shV,convV,strV,rowI,mapO_rowW,str_self,bne_self_eq_false,beq_self_eq_true,decide_true,hZ];rfl) ?_)))<;>(try (fail));all_goals (try clear hZ))
 all_goals (try ((refine isNextVM ((i+1,l,ap)) (Imp.les (by (refine leQL_spec ?_);(try simp only [seval,go_sem]);first|((repeat' (with_reducible apply And.intro))<;>first|rfl);first|done|fail) (by (refine leQH_spec ?_);(try simp only [seval,go_sem]);first|done|fail)) ?_ ?_)<;>(try (omega))))
 all_goals (try exact ⟨by omega,hI2⟩)
 all_goals done
end Go.Proofs.Yteemiclhnfkekaa
