/- The reference's store: Put; the walk. -/
import Derived.Test.YtmgodadmafcliaaGreatZSrD
import Derived.Test.YtmgodadmafcliaaGreatZSrE
set_option linter.unusedSimpArgs false
set_option linter.unusedVariables false
namespace Go.Proofs.YtmgodadmafcliaaGreat
open Go.RowKit Go.Avm
theorem sharedR_len: ∀ (o l:List (List Int)),(sharedR o l).length=l.length:=by
 intro o l
 induction l generalizing o with
 | nil=>cases o<;>rfl
 | cons x l ih=>cases o with
   | nil=>rw [sharedR,List.length_cons,ih,List.length_cons]
   | cons y o=>rw [sharedR,List.length_cons,ih,List.length_cons]
theorem sharedR_lt: ∀ (o l:List (List Int)) (k:Nat),(sharedR o l)[k]? = some true→k<o.length:=by
 intro o l
 induction l generalizing o with
 | nil=>intro k h;cases o<;>simp [sharedR] at h
 | cons x l ih=>intro k h;cases o with
   | nil=>
     rw [sharedR] at h
     cases k with
     | zero=>simp at h
     | succ k=>rw [l_7] at h;exact absurd (ih [] k h) (by simp)
   | cons y o=>
     rw [sharedR] at h
     cases k with
     | zero=>simp
     | succ k=>rw [l_7] at h;have:=ih o k h;simp only [List.length_cons];omega
theorem holdR_len (a:Ar) (n:Int):(holdR a n).1.pages.length=a.pages.length:=by
 unfold holdR;split
 ·rfl
 ·simp [setRefs]
theorem storedR_len (a:Ar) (l:List Int):(storedR a l).length=l.length:=by simp [storedR]
theorem storedR_mem {a:Ar} {l:List Int} {p:Int→Prop} (h: ∀ q∈a.pages, ∀ z∈q.data,p z): ∀ x∈storedR a l, ∀ z∈x,p z:=by
 intro x hx z hz
 obtain ⟨m,_,rfl⟩:=List.mem_map.1 hx
 unfold dataR at hz
 split at hz
 ·simp at hz
 ·rename_i hc
  rcases pgAt_split m a.pages with h1|⟨j,q,h1,h2,h3,h4⟩
  ·rw [h1] at hc;omega
  ·rw [h4] at hz;exact h q (List.mem_of_getElem? h1) z hz
theorem headD_drop {l:List Int} {k:Nat} {x:Int} (h:l[k]? = some x):(l.drop k).headD 0=x:=by
 rw [drop_get h];rfl
theorem tail_drop (l:List Int) (k:Nat):(l.drop k).tail=l.drop (k+1):=by
 rw [List.tail_drop]
set_option maxRecDepth 100000 in set_option maxHeartbeats 12800000 in
theorem rput_go {a1 a2 a3 a4 a5 a6 a7 com last cap:Int} {os:List Ob} {bs:List Bd} {ps:List Pn} {pg:List Pg} {n:ByteArray} {d:List Int} {C:List (List Int)} {SH:List Bool} {SE:Int} {j:Nat} {o:Ob} {v:Ver} (ho:os.length≤100000) (hg:pg.length≤10000) (hd:d.length≤1000) (h0:0≤com) (h9:com≤1000000000)
  (q1:os[j]? = some o) (q2:j<os.length) (hov:o.vers.length≤100000) (hop: ∀ v∈o.vers,v.pages.length≤1000000) (hvp:v.pages.length≤1000000)
  (hvc:ACalls Tryz.prog 46 [.agg [.sc (.int .i64 a1),.sc (.int .i64 a2),.sc (.int .i64 a3),.sc (.int .i64 a4),.sc (.int .i64 a5),.sc (.int .i64 a6),.sc (.int .i64 a7),.sc (.int .i64 com),.sc (.int .i64 last),.sl 2 (os.map rowOb),.sl 4 (bs.map rowBd),.sl 2 (ps.map rowP),.sc (.int .i64 cap),.sl 3 (pg.map rowPg)],.sc (.string n),.sc (.int .i64 com)] (.tup [.sc (.int .i64 (j:Int)),.agg [.sc (.int .i64 v.from_),.sc (.int .i64 v.to),.sc (.int .i64 v.size),.sl 1 (v.pages.map rowI)],.sc (.bool true)]) [])
  (hsc:ACalls Tryz.prog 39 [.sl 1 (d.map rowW), .sc (.int .i64 a4)] (.tup [.sl 1 (C.map rowL), .sc (.int .i64 SE)]) [])
  (hst:ACalls Tryz.prog 48 [.agg [.sc (.int .i64 a1),.sc (.int .i64 a2),.sc (.int .i64 a3),.sc (.int .i64 a4),.sc (.int .i64 a5),.sc (.int .i64 a6),.sc (.int .i64 a7),.sc (.int .i64 com),.sc (.int .i64 last),.sl 2 (os.map rowOb),.sl 4 (bs.map rowBd),.sl 2 (ps.map rowP),.sc (.int .i64 cap),.sl 3 (pg.map rowPg)],.agg [.sc (.int .i64 v.from_),.sc (.int .i64 v.to),.sc (.int .i64 v.size),.sl 1 (v.pages.map rowI)]] (.sl 1 ((storedR ⟨cap,pg⟩ v.pages).map rowL)) [])
  (hhc:ACalls Tryz.prog 47 [.sl 1 ((storedR ⟨cap,pg⟩ v.pages).map rowL), .sl 1 (C.map rowL)] (.sl 1 (SH.map rowBo)) [])
  (hlv:ACalls Tryz.prog 43 [.agg [.sc (.int .i64 a1),.sc (.int .i64 a2),.sc (.int .i64 a3),.sc (.int .i64 a4),.sc (.int .i64 a5),.sc (.int .i64 a6),.sc (.int .i64 a7),.sc (.int .i64 com),.sc (.int .i64 last),.sl 2 (os.map rowOb),.sl 4 (bs.map rowBd),.sl 2 (ps.map rowP),.sc (.int .i64 cap),.sl 3 (pg.map rowPg)]] (.sc (.int .i64 (pg.length:Int))) [])
  (hCm: ∀ (x:List Int),x∈C→x.length≤1024∧ ∀ (z:Int),z∈x→z∈d) (hCC:C.length≤1000) (hSL:SH.length=C.length) (hSp: ∀ k,SH[k]? = some true→k<v.pages.length):
  ACalls Tryz.prog 23 [.agg [.sc (.int .i64 a1),.sc (.int .i64 a2),.sc (.int .i64 a3),.sc (.int .i64 a4),.sc (.int .i64 a5),.sc (.int .i64 a6),.sc (.int .i64 a7),.sc (.int .i64 com),.sc (.int .i64 last),.sl 2 (os.map rowOb),.sl 4 (bs.map rowBd),.sl 2 (ps.map rowP),.sc (.int .i64 cap),.sl 3 (pg.map rowPg)],.sc (.string n),.sl 1 (d.map rowW)]
   (if a6≤com∨a3<(pg.length:Int)+needR SH then (.tup [.agg (dSr ⟨⟨a1,a2,a3,a4,a5,a6,a7⟩,com,last,os,bs,ps,⟨cap,pg⟩⟩), .sc (.int .i64 0), .sc (.int .i64 14)]) else
   (.tup [.agg (dSr ⟨⟨a1,a2,a3,a4,a5,a6,a7⟩,com+1,last,os.set j ⟨o.id,(appendV o.vers ⟨com+1,0,d.length,(puts ⟨cap,pg⟩ C SH v.pages).2⟩).1⟩,bs,ps,(puts ⟨cap,pg⟩ C SH v.pages).1⟩), .sc (.int .i64 (com+1)), .sc (.int .i64 0)])) []:=by
 have hCn:(C.map rowL).length=C.length:=List.length_map _
 have hSn:(SH.map rowBo).length=C.length:=by rw [List.length_map];exact hSL
 have hvn:(v.pages.map rowI).length=v.pages.length:=List.length_map _
 generalize hAL:puts ⟨cap,pg⟩ C SH v.pages=AL at *
 generalize hND:needR SH=ND at *
 have q1':=get_map rowOb q1
 refine of_tri [] [3,6,10,17,19,31,43,48,50,72,108,119,120,129,137,138,143,156] Tryz.func23 rfl call23 rfl (by decide) (by decide) rfl rfl Tryz.ntmps23 (by simp (disch:=omega) only [seval,go_sem,cnd,intV,shV,convV,strV,List.replicate,l_2,l_1];rfl) (by simp (disch:=omega) only [seval,go_sem,cnd,intV,shV,convV,strV,l_2,l_1];rfl) ?_
 ((repeat' (first|((with_reducible refine isTriD ?_);((with_reducible refine isCallD ?_);((with_reducible refine LVcall (st:=[]) ?_);simp only [seval,go_sem];first|(refine CallL.c (hvc) ?_)|(refine CallL.c (hsc) ?_)|(refine CallL.c (hst) ?_)|(refine CallL.c (hhc) ?_))))|(with_reducible (refine TVq (st:=[]) ?_))|simp only [seval,go_sem]|(with_reducible refine oV_st (by simp (disch:=omega) only [seval,go_sem,cnd,intV,shV,convV,strV];rfl) ?_)))<;>(try (fail)))
 all_goals (with_reducible refine Tri.loopU (fun (t:Nat×Int)=>[(16,.sc (.int .i64 t.1)),(15,.sc (.int .i64 t.2)),(51,.any),(52,.any),(53,.any),(54,.any),(55,.any),(56,.any),(57,.any),(58,.any),(59,.any),(60,.any),(61,.any),(62,.any),(63,.any)]) (fun (t:Nat×Int)=>[]) (fun (t:Nat×Int)=>t.1≤C.length∧0≤t.2∧t.2≤t.1∧t.2+needR (SH.drop t.1)=ND) (fun (t:Nat×Int)=>C.length-t.1) ((0,0)) (⟨Nat.zero_le _,Int.le_refl _,Int.le_refl _,by simp only [List.drop_zero,hND,Int.zero_add]⟩) (by intro _;simp (disch:=omega) only [seval,go_sem,cnd,intV,shV,convV,strV];rfl) (by intro _;simp (disch:=omega) only [seval,go_sem,cnd,intV,shV,convV,strV];rfl) (by (refine leQL_spec ?_);(try simp only [seval,go_sem]);done) (by (refine leQH_spec ?_);(try simp only [seval,go_sem]);done) (fun t hI=>?_))
 all_goals
  obtain ⟨k,nd⟩:=t
  obtain ⟨hk,hn0,hn1,hf⟩:=hI
  simp only at hk hn0 hn1 hf
  by_cases hlt:k<C.length
  ·obtain ⟨b,hb⟩:=get_lt (show k<SH.length by omega)
   have hb':=get_map rowBo hb
   rw [drop_get hb,needR] at hf
   cases b with
   | true=>
     rw [if_pos rfl] at hf
     (all_goals (try have hZ:=(And.intro hb' (And.intro hCn hSn)));(repeat' (first|(with_reducible (refine TVq (st:=[]) ?_))|simp only [seval,go_sem,rowBo,hZ]|(with_reducible refine oV_st (by simp (disch:=omega) only [seval,go_sem,cnd,intV,shV,convV,strV,rowBo,hZ];rfl) ?_)))<;>(try (fail));all_goals (try clear hZ))
     all_goals (try (refine isNextM ((k+1,nd)) (by (refine leQL_spec ?_);(try simp only [seval,go_sem]);first|((repeat' (with_reducible apply And.intro))<;>first|rfl);done) (by (refine leQH_spec ?_);(try simp only [seval,go_sem]);done) ?_ ?_<;>(try (first|omega|(simp;omega)))))
     all_goals (try exact ⟨by simp only;omega,hn0,by simp only;omega,hf⟩)
   | false=>
     rw [if_neg (by decide)] at hf
     (all_goals (try have hZ:=(And.intro hb' (And.intro hCn hSn)));(repeat' (first|(with_reducible (refine TVq (st:=[]) ?_))|simp only [seval,go_sem,rowBo,hZ]|(with_reducible refine oV_st (by simp (disch:=omega) only [seval,go_sem,cnd,intV,shV,convV,strV,rowBo,hZ];rfl) ?_)))<;>(try (fail));all_goals (try clear hZ))
     all_goals (try (refine isNextM ((k+1,nd+1)) (by (refine leQL_spec ?_);(try simp only [seval,go_sem]);first|((repeat' (with_reducible apply And.intro))<;>first|rfl);done) (by (refine leQH_spec ?_);(try simp only [seval,go_sem]);done) ?_ ?_<;>(try (first|omega|(simp;omega)))))
     all_goals (try exact ⟨by simp only;omega,by simp only;omega,by simp only;omega,by simp only;omega⟩)
  ·rw [List.drop_eq_nil_of_le (by omega),needR] at hf
   have hnd:nd=ND:=by omega
   subst hnd
   by_cases c4:a6≤com
   ·rw [if_pos (.inl c4)]
    simp only [dSr]
    ((repeat' (first|(with_reducible refine ListD.nil ?_)|((with_reducible refine isListD ?_);(with_reducible first|refine ListD.step (by simp only [seval,go_sem,hCn];rfl) ?_|refine ListD.step (by simp (disch:=omega) only [seval,go_sem,cnd,intV,shV,convV,strV,hCn];rfl) ?_))|(with_reducible refine isDrawn ?_;refine Tri.drawnD mix (by kernel_rfl) (by simp only [l_3,l_4];rfl) ?_)|(with_reducible refine isRet ?_;refine RetV (rs:=[.cell 6 35,.tmp 7,.tmp 8]) (by with_unfolding_all rfl) rfl ?_<;>simp only [seval,go_sem]<;>(repeat' (with_reducible apply And.intro))<;>(try rfl))|(with_reducible (refine TVq (st:=[]) ?_))|simp only [seval,go_sem,hCn]|(with_reducible refine oV_st (by simp (disch:=omega) only [seval,go_sem,cnd,intV,shV,convV,strV,hCn];rfl) ?_)))<;>(try (fail)))
   ·by_cases c5:a3<(pg.length:Int)+nd
    ·rw [if_pos (.inr c5)]
     simp only [dSr]
     ((repeat' (first|(with_reducible refine ListD.nil ?_)|((with_reducible refine isListD ?_);first|(with_reducible refine ListD.step (by simp only [seval,go_sem,hCn];rfl) ?_)|((with_reducible refine isCallV ?_);((with_reducible (refine ListD.dE (by simp only [seval,go_sem,hCn];rfl) (by simp only [seval,go_sem,hCn];rfl) ?_));refine CallW.c (hlv) (by simp only [seval,go_sem,hCn];rfl) ?_))|(with_reducible refine ListD.step (by simp (disch:=omega) only [seval,go_sem,cnd,intV,shV,convV,strV,hCn];rfl) ?_))|(with_reducible refine isDrawn ?_;refine Tri.drawnD mix (by kernel_rfl) (by simp only [l_3,l_4];rfl) ?_)|(with_reducible refine isRet ?_;refine RetV (rs:=[.cell 6 35,.tmp 7,.tmp 8]) (by with_unfolding_all rfl) rfl ?_<;>simp only [seval,go_sem]<;>(repeat' (with_reducible apply And.intro))<;>(try rfl))|(with_reducible (refine TVq (st:=[]) ?_))|simp only [seval,go_sem,hCn]|(with_reducible refine oV_st (by simp (disch:=omega) only [seval,go_sem,cnd,intV,shV,convV,strV,hCn];rfl) ?_)))<;>(try (fail)))
    ·rw [if_neg (not_or.2 ⟨c4,c5⟩)]
     simp only [dSr]
     ((repeat' (first|(with_reducible refine ListD.nil ?_)|((with_reducible refine isListD ?_);first|(with_reducible refine ListD.step (by simp only [seval,go_sem,hCn];rfl) ?_)|((with_reducible refine isCallV ?_);((with_reducible (refine ListD.dE (by simp only [seval,go_sem,hCn];rfl) (by simp only [seval,go_sem,hCn];rfl) ?_));refine CallW.c (hlv) (by simp only [seval,go_sem,hCn];rfl) ?_))|(with_reducible refine ListD.step (by simp (disch:=omega) only [seval,go_sem,cnd,intV,shV,convV,strV,hCn];rfl) ?_))|(with_reducible refine isDrawn ?_;refine Tri.drawnD mix (by kernel_rfl) (by simp only [l_3,l_4];rfl) ?_)|(with_reducible (refine TVq (st:=[]) ?_))|simp only [seval,go_sem,hCn]|(with_reducible refine oV_st (by simp (disch:=omega) only [seval,go_sem,cnd,intV,shV,convV,strV,hCn];rfl) ?_)))<;>(try (fail)))
     all_goals (refine Tri.bx 10 (by simp only [seval,go_sem];rfl) (by simp only [seval,go_sem];first|done|rfl) (by simp only [seval,go_sem];rfl) ?_)
     all_goals (refine Tri.virtB 17 3 138 1 (by simp only [seval,go_sem];rfl) (by simp only [seval,go_sem];done) (by decide) (by first|(simp only [seval,go_sem];done)) (by simp only [seval,go_sem];rfl) ?_)
     all_goals (with_reducible refine Tri.loopV (fun (t:Nat×Ar×List Int)=>[(18,.sc (.int .i64 t.1)),(19,.any),(20,.any),(21,.any),(90,.any),(91,.any),(92,.any),(93,.any),(94,.any),(95,.any),(96,.any),(97,.any),(98,.any),(99,.any),(100,.any),(101,.any),(102,.any),(103,.any),(104,.any),(105,.any),(106,.any),(107,.any),(108,.any),(109,.any),(110,.any),(111,.any),(112,.any),(113,.any),(114,.any),(115,.any),(116,.any),(117,.any),(118,.any),(119,.any),(120,.any),(121,.any),(122,.any),(123,.any),(124,.any),(125,.any),(126,.any),(127,.any),(128,.any),(129,.any),(130,.any),(131,.any),(132,.any),(133,.any),(134,.any),(135,.any),(136,.any),(137,.any),(138,.any),(139,.any),(140,.any)]) (fun (t:Nat×Ar×List Int)=>[(138,.row 1 (t.2.2.map rowI)),(17,.box [.sc (.int .i64 (com+1)),.sc (.int .i64 0),.sc (.int .i64 d.length),.slo 138 1 0 t.2.2.length]),(3,.box [.sc (.int .i64 a1),.sc (.int .i64 a2),.sc (.int .i64 a3),.sc (.int .i64 a4),.sc (.int .i64 a5),.sc (.int .i64 a6),.sc (.int .i64 a7),.sc (.int .i64 (com+1)),.sc (.int .i64 last),.sl 2 (os.map rowOb),.sl 4 (bs.map rowBd),.sl 2 (ps.map rowP),.sc (.int .i64 t.2.1.cap),.sl 3 (t.2.1.pages.map rowPg)]),(19,.dead),(108,.dead),(119,.dead),(120,.dead),(129,.dead),(137,.dead)]) (fun (t:Nat×Ar×List Int)=>t.1≤C.length∧t.2.2.length=t.1∧t.2.1.pages.length≤pg.length+t.1∧(puts t.2.1 (C.drop t.1) (SH.drop t.1) (v.pages.drop t.1)).1=AL.1∧t.2.2++(puts t.2.1 (C.drop t.1) (SH.drop t.1) (v.pages.drop t.1)).2=AL.2) (fun (t:Nat×Ar×List Int)=>C.length-t.1) ((0,⟨cap,pg⟩,[])) (⟨Nat.zero_le _,rfl,Nat.le_refl _,by simp only [List.drop_zero,hAL],by simp only [List.drop_zero,hAL,List.nil_append]⟩) (by intro _;simp (disch:=omega) only [seval,go_sem,cnd,intV,shV,convV,strV];rfl) (by intro _;simp (disch:=omega) only [seval,go_sem,cnd,intV,shV,convV,strV];rfl) (by (refine leQL_spec ?_);(try simp only [seval,go_sem]);done) (by (refine leQH_spec ?_);(try simp only [seval,go_sem]);done) (fun t hI=>?_))
     all_goals
      obtain ⟨k,⟨A1,A2⟩,ns⟩:=t
      obtain ⟨hk,hnl,hpl,hf1,hf2⟩:=hI
      simp only at hk hnl hpl hf1 hf2
      have hll:(ns.map rowI).length=ns.length:=List.length_map _
      by_cases hlt:k<C.length
      ·obtain ⟨x,hx⟩:=get_lt hlt
       have hx':=get_map rowL hx
       obtain ⟨b,hb⟩:=get_lt (show k<SH.length by omega)
       have hb':=get_map rowBo hb
       rw [drop_get hx,drop_get hb,puts] at hf1 hf2
       cases b with
       | true=>
         rw [if_pos rfl] at hf1 hf2
         obtain ⟨y,hy⟩:=get_lt (hSp k hb)
         have hy':=get_map rowI hy
         have hkv:=hSp k hb
         rw [headD_drop hy,tail_drop] at hf1 hf2
         have hac:=rhold_calls (c:=A1) (l:=A2) (n:=y) (by omega)
         have hal:=holdR_len ⟨A1,A2⟩ y
         simp only at hf1 hf2 hal
         generalize holdR ⟨A1,A2⟩ y=AR at *
         (all_goals (try have hZ:=(And.intro hx' (And.intro hb' (And.intro hy' (And.intro hll (And.intro hCn (And.intro hSn hvn)))))));(repeat' (first|((with_reducible refine isTriD ?_);first|((with_reducible refine isCallD ?_);((with_reducible refine LVcall (st:=[]) ?_);simp only [seval,go_sem,rowL,rowI,rowBo,hZ];(refine CallL.c (hac) ?_)))|((with_reducible first|refine TriD.step (by simp only [seval,go_sem,rowL,rowI,rowBo,hZ];rfl) ?_|refine TriD.step (by simp (disch:=omega) only [seval,go_sem,cnd,intV,shV,convV,strV,rowL,rowI,rowBo,hZ];rfl) ?_);refine LVs (st:=[]) ?_))|(with_reducible refine isDrawnN 22 ?_;refine Tri.mixedP 22 mix 13 rfl (.f 0 <| .f 2 <| .f 4 <| .a <| .b 1 (.a <| .b 3 (.f 5 <| .a <| .b 6 (.a <| .b 7 (.f 8 <| .f 9 <| .f 10 <| .f 11 <| .a <| .b 12 (.d) .e) .e) .e) .e) <| .b 3 (.f 5 <| .a <| .b 1 (.a <| .b 6 (.a <| .b 7 (.f 8 <| .f 9 <| .f 10 <| .f 11 <| .a <| .b 12 (.d) .e) .e) .e) <| .b 6 (.a <| .b 1 (.a <| .b 7 (.f 8 <| .f 9 <| .f 10 <| .f 11 <| .a <| .b 12 (.d) .e) .e) .e) .e) .e) (by kernel_rfl) ?_)|(with_reducible refine isDrawnN 23 ?_;refine Tri.mixedP 23 mix 11 rfl (.f 0 <| .f 2 <| .f 4 <| .a <| .b 1 (.a <| .b 3 (.f 5 <| .a <| .b 6 (.a <| .b 7 (.a <| .b 8 (.f 9 <| .a <| .b 10 (.d) .e) .e) .e) .e) .e) <| .b 3 (.f 5 <| .a <| .b 1 (.a <| .b 6 (.a <| .b 7 (.a <| .b 8 (.f 9 <| .a <| .b 10 (.d) .e) .e) .e) .e) <| .b 6 (.a <| .b 1 (.a <| .b 7 (.a <| .b 8 (.f 9 <| .a <| .b 10 (.d) .e) .e) .e) <| .b 7 (.a <| .b 1 (.a <| .b 8 (.f 9 <| .a <| .b 10 (.d) .e) .e) .e) .e) .e) .e) (by kernel_rfl) ?_)|(with_reducible refine isAnyP ?_;first|refine AnyP.D ?_|refine AnyP.F (by simp only [seval,go_sem,l_7,l_6];rfl) (by first|(simp only [seval,go_sem,rowL,rowI,rowBo,hZ];done)) (by first|(simp only [seval,go_sem,rowL,rowI,rowBo,hZ];with_reducible rfl)|(simp (disch:=omega) only [seval,go_sem,cnd,intV,shV,convV,strV,rowL,rowI,rowBo,hZ];with_reducible rfl)) ?_|refine AnyP.A ?_)|(with_reducible first|exact NextsP.E|refine NextsP.B (by simp only [seval,go_sem,l_7,l_6];rfl) ?_ ?_)|(with_reducible (refine TVq (st:=[]) ?_))|simp only [seval,go_sem,rowL,rowI,rowBo,hZ]|(with_reducible refine oV_st (by simp (disch:=omega) only [seval,go_sem,cnd,intV,shV,convV,strV,rowL,rowI,rowBo,hZ];rfl) ?_)))<;>(try (fail));all_goals (try clear hZ))
         all_goals (try ((refine isNextVM ((k+1,AR.1,ns++[y])) (Imp.rnTo 120 138 (by decide) (by first|(simp only [seval,go_sem];done)) (by simp only [seval,go_sem];rfl) (Imp.les (by (refine leQL_spec ?_);(try simp only [seval,go_sem,rowI]);first|((repeat' (with_reducible apply And.intro))<;>first|rfl);done) (by (refine leQH_spec ?_);(try simp only [seval,go_sem,rowI]);first|((repeat' (with_reducible apply And.intro))<;>first|(simp [rowI];done));done))) ?_ ?_)<;>(try (omega))))
         all_goals (try exact ⟨by simp only;omega,by simp only [List.length_append,List.length_cons,List.length_nil];omega,by simp only;omega,hf1,by simp only [List.append_assoc,List.cons_append,List.nil_append];exact hf2⟩)
       | false=>
         rw [if_neg (by decide)] at hf1 hf2
         rw [tail_drop] at hf1 hf2
         have hac:=ralloc_calls (c:=A1) (l:=A2) (d:=x) (by omega) (by have:=(hCm x (List.mem_of_getElem? hx)).1;omega)
         have hal:=allocR_len ⟨A1,A2⟩ x
         simp only at hf1 hf2 hal
         generalize allocR ⟨A1,A2⟩ x=AR at *
         (all_goals (try have hZ:=(And.intro hx' (And.intro hb' (And.intro hll (And.intro hCn hSn)))));(repeat' (first|((with_reducible refine isTriD ?_);first|((with_reducible refine isCallD ?_);((with_reducible refine LVcall (st:=[]) ?_);simp only [seval,go_sem,rowL,rowBo,hZ];(refine CallL.c (hac) ?_)))|((with_reducible first|refine TriD.step (by simp only [seval,go_sem,rowL,rowBo,hZ];rfl) ?_|refine TriD.step (by simp (disch:=omega) only [seval,go_sem,cnd,intV,shV,convV,strV,rowL,rowBo,hZ];rfl) ?_);refine LVs (st:=[]) ?_))|(with_reducible refine isDrawnN 24 ?_;(try (refine Tri.bx 19 (by simp only [seval,go_sem,rowL,rowBo,hZ];rfl) (by simp only [seval,go_sem,rowL,rowBo,hZ];fail) (by simp only [seval,go_sem,rowL,rowBo,hZ];rfl) ?_));refine Tri.mixedP 24 mix 15 rfl (.f 0 <| .f 2 <| .f 3 <| .f 4 <| .r 5 <| .a <| .b 1 (.a <| .b 6 (.f 7 <| .f 8 <| .f 9 <| .f 10 <| .a <| .b 11 (.a <| .b 12 (.f 13 <| .f 14 <| .d) .e) .e) <| .b 11 (.a <| .b 6 (.f 7 <| .f 8 <| .f 9 <| .f 10 <| .a <| .b 12 (.f 13 <| .f 14 <| .d) .e) .e) .e) <| .b 11 (.a <| .b 1 (.a <| .b 6 (.f 7 <| .f 8 <| .f 9 <| .f 10 <| .a <| .b 12 (.f 13 <| .f 14 <| .d) .e) .e) .e) .e) (by kernel_rfl) ?_)|(with_reducible refine isDrawnN 25 ?_;(try (refine Tri.bx 19 (by simp only [seval,go_sem,rowL,rowBo,hZ];rfl) (by simp only [seval,go_sem,rowL,rowBo,hZ];done) (by simp only [seval,go_sem,rowL,rowBo,hZ];rfl) ?_));refine Tri.mixedP 25 mix 10 rfl (.f 1 <| .f 3 <| .r 0 <| .f 6 <| .a <| .b 2 (.a <| .b 4 (.a <| .b 5 (.a <| .b 7 (.f 8 <| .a <| .b 9 (.d) .e) .e) .e) .e) <| .b 4 (.a <| .b 2 (.a <| .b 5 (.a <| .b 7 (.f 8 <| .a <| .b 9 (.d) .e) .e) .e) .e) .e) (by kernel_rfl) ?_)|(with_reducible refine isAnyP ?_;first|refine AnyP.D ?_|refine AnyP.F (by simp only [seval,go_sem,l_7,l_6];rfl) (by first|(simp only [seval,go_sem,rowL,rowBo,hZ];done)) (by first|(simp only [seval,go_sem,rowL,rowBo,hZ];with_reducible rfl)|(simp (disch:=omega) only [seval,go_sem,cnd,intV,shV,convV,strV,rowL,rowBo,hZ];with_reducible rfl)) ?_|refine AnyP.R (by simp only [seval,go_sem,l_7,l_6];rfl) (by first|(refine .inl ?_;simp only [seval,go_sem,rowL,rowBo,hZ];done)) (by first|(simp only [seval,go_sem,rowL,rowBo,hZ];with_reducible rfl)) ?_|refine AnyP.A ?_)|(with_reducible first|exact NextsP.E|refine NextsP.B (by simp only [seval,go_sem,l_7,l_6];rfl) ?_ ?_)|(with_reducible (refine TVq (st:=[]) ?_))|simp only [seval,go_sem,rowL,rowBo,hZ]|(with_reducible refine oV_st (by simp (disch:=omega) only [seval,go_sem,cnd,intV,shV,convV,strV,rowL,rowBo,hZ];rfl) ?_)))<;>(try (fail));all_goals (try clear hZ))
         all_goals (try ((refine isNextVM ((k+1,AR.1,ns++[AR.2.1])) (Imp.les (by (refine leQL_spec ?_);(try simp only [seval,go_sem,rowI]);first|((repeat' (with_reducible apply And.intro))<;>first|rfl);done) (by (refine leQH_spec ?_);(try simp only [seval,go_sem,rowI]);first|((repeat' (with_reducible apply And.intro))<;>first|(simp [rowI];done));done)) ?_ ?_)<;>(try (omega))))
         all_goals (try exact ⟨by simp only;omega,by simp only [List.length_append,List.length_cons,List.length_nil];omega,by simp only;omega,hf1,by simp only [List.append_assoc,List.cons_append,List.nil_append];exact hf2⟩)
      ·have hz: ∀ a s w,puts a [] s w=(a,[]):=fun a s w=>by cases s<;>rfl
       rw [List.drop_eq_nil_of_le (by omega),hz] at hf1 hf2
       simp only [List.append_nil] at hf1 hf2
       rw [← hf1, ← hf2]
       have htk:(ns.map rowI).take ns.length=ns.map rowI:=List.take_of_length_le (by rw [hll];exact Nat.le_refl _)
       have hapc:=rappend_val (vs:=o.vers) (f:=com+1) (t:=0) (s:=d.length) (p:=ns) hov hop (by omega)
       generalize appendV o.vers ⟨com+1,0,d.length,ns⟩=AV at *
       (refine Tri.frz 138 (by simp only [seval,go_sem];rfl) (by simp only [seval,go_sem];rfl) ?_)
       (all_goals (try have hZ:=(And.intro hll (And.intro htk hCn)));(repeat' (first|((with_reducible refine isTriD ?_);first|((with_reducible refine isCallD ?_);((with_reducible refine LVcall (st:=[]) ?_);simp only [seval,go_sem,q1',rowOb,hZ];(refine CallL.c (hapc) ?_)))|((with_reducible first|refine TriD.step (by simp only [seval,go_sem,q1',rowOb,hZ];rfl) ?_);refine LVs (st:=[]) ?_))|(with_reducible refine isDrawnN 27 ?_;(try (refine Tri.bx 17 (by simp only [seval,go_sem,q1',rowOb,hZ];rfl) (by simp only [seval,go_sem,q1',rowOb,hZ];done) (by simp only [seval,go_sem,q1',rowOb,hZ];rfl) ?_));refine Tri.mixedP 27 mix 17 rfl (.f 0 <| .f 2 <| .f 3 <| .f 5 <| .r 9 <| .a <| .b 1 (.a <| .b 4 (.f 6 <| .f 7 <| .a <| .b 8 (.a <| .b 10 (.f 11 <| .f 12 <| .f 13 <| .f 14 <| .f 15 <| .a <| .b 16 (.d) .e) .e) .e) .e) <| .b 4 (.f 6 <| .f 7 <| .a <| .b 1 (.a <| .b 8 (.a <| .b 10 (.f 11 <| .f 12 <| .f 13 <| .f 14 <| .f 15 <| .a <| .b 16 (.d) .e) .e) .e) <| .b 8 (.a <| .b 1 (.a <| .b 10 (.f 11 <| .f 12 <| .f 13 <| .f 14 <| .f 15 <| .a <| .b 16 (.d) .e) .e) <| .b 10 (.f 11 <| .f 12 <| .f 13 <| .a <| .b 1 (.f 14 <| .f 15 <| .a <| .b 16 (.d) .e) .e) .e) .e) .e) (by kernel_rfl) ?_)|(with_reducible refine isDrawnN 28 ?_;(try (refine Tri.bx 17 (by simp only [seval,go_sem,q1',rowOb,hZ];rfl) (by simp only [seval,go_sem,q1',rowOb,hZ];fail) (by simp only [seval,go_sem,q1',rowOb,hZ];rfl) ?_));refine Tri.mixedP 28 mix 6 rfl (.f 1 <| .a <| .b 0 (.a <| .b 2 (.a <| .b 3 (.f 4 <| .f 5 <| .d) .e) <| .b 3 (.a <| .b 2 (.f 4 <| .f 5 <| .d) .e) .e) <| .b 2 (.a <| .b 0 (.a <| .b 3 (.f 4 <| .f 5 <| .d) .e) .e) .e) (by kernel_rfl) ?_)|(with_reducible refine isAnyP ?_;first|refine AnyP.D ?_|refine AnyP.F (by simp only [seval,go_sem,l_7,l_6];rfl) (by first|(simp only [seval,go_sem,q1',rowOb,hZ];done)) (by first|(simp only [seval,go_sem,q1',rowOb,hZ];with_reducible rfl)|(simp (disch:=omega) only [seval,go_sem,cnd,intV,shV,convV,strV,q1',rowOb,hZ];with_reducible rfl)) ?_|refine AnyP.R (by simp only [seval,go_sem,l_7,l_6];rfl) (by first|(refine .inl ?_;simp only [seval,go_sem,q1',rowOb,hZ];done)) (by first|(simp only [seval,go_sem,q1',rowOb,hZ];with_reducible rfl)) ?_|refine AnyP.A ?_)|(with_reducible first|exact NextsP.E|refine NextsP.B (by simp only [seval,go_sem,l_7,l_6];rfl) ?_ ?_)|(with_reducible refine isRet ?_;(refine RetOK.frz 143 (by simp only [seval,go_sem];rfl) (by simp only [seval,go_sem,q1',rowOb,hZ];rfl) ?_);(with_reducible refine isRet ?_;refine RetOK.q rfl (by with_unfolding_all (show retD _ _ [.cell 6 35,.tmp 7,.tmp 8]=_);simp only [seval,go_sem];rfl) (by simp only [seval,go_sem];rfl) (by decide) (by simp only [seval,go_sem];rfl) (by simp only [seval,go_sem];rfl) rfl ?_<;>(try simp only [seval,go_sem,q1',rowOb,hZ])<;>(repeat' (with_reducible apply And.intro))<;>(try rfl)))|(with_reducible (refine TVq (st:=[]) ?_))|simp only [seval,go_sem,q1',rowOb,hZ]|(with_reducible refine oV_st (by simp (disch:=omega) only [seval,go_sem,cnd,intV,shV,convV,strV,q1',rowOb,hZ];rfl) ?_)))<;>(try (fail));all_goals (try clear hZ))
       all_goals (try (first|(simp [rowOb,rowV,List.map_set];done)|exact List.take_of_length_le (by simp)))
set_option maxRecDepth 100000 in set_option maxHeartbeats 6400000 in
theorem rput_calls {a1 a2 a3 a4 a5 a6 a7 com last cap:Int} {os:List Ob} {bs:List Bd} {ps:List Pn} {pg:List Pg} {n:ByteArray} {d:List Int} (hb:bs.length≤100000) (ho:os.length≤100000) (hg:pg.length≤10000) (hd:d.length≤1000) (h4:1≤a4) (h4':a4≤1024) (h0:0≤com) (h9:com≤1000000000) (hv: ∀ o∈os,o.vers.length≤100000∧ ∀ v∈o.vers,v.pages.length≤1000000) (hpd: ∀ p∈pg,p.data.length≤1000000∧ ∀ z∈p.data,0≤z∧z≤255) (hdb: ∀ z∈d,0≤z∧z≤255):ACalls Tryz.prog 23 [.agg [.sc (.int .i64 a1),.sc (.int .i64 a2),.sc (.int .i64 a3),.sc (.int .i64 a4),.sc (.int .i64 a5),.sc (.int .i64 a6),.sc (.int .i64 a7),.sc (.int .i64 com),.sc (.int .i64 last),.sl 2 (os.map rowOb),.sl 4 (bs.map rowBd),.sl 2 (ps.map rowP),.sc (.int .i64 cap),.sl 3 (pg.map rowPg)],.sc (.string n),.sl 1 (d.map rowW)] (.tup [.agg (dSr (putR ⟨⟨a1,a2,a3,a4,a5,a6,a7⟩,com,last,os,bs,ps,⟨cap,pg⟩⟩ n d).1),.sc (.int .i64 (putR ⟨⟨a1,a2,a3,a4,a5,a6,a7⟩,com,last,os,bs,ps,⟨cap,pg⟩⟩ n d).2.1),.sc (.int .i64 (putR ⟨⟨a1,a2,a3,a4,a5,a6,a7⟩,com,last,os,bs,ps,⟨cap,pg⟩⟩ n d).2.2)]) []:=by
 have hvc:=rver_calls (a1:=a1) (a2:=a2) (a3:=a3) (a4:=a4) (a5:=a5) (a6:=a6) (a7:=a7) (com:=com) (last:=last) (cap:=cap) (os:=os) (bs:=bs) (ps:=ps) (pg:=pg) (n:=n) (c:=com) hb ho (fun o h=>(hv o h).1)
 unfold putR
 simp only
 rw [if_neg (show ¬ 65536<(d.length:Int) by omega)]
 rcases verR_split ⟨⟨a1,a2,a3,a4,a5,a6,a7⟩,com,last,os,bs,ps,⟨cap,pg⟩⟩ n com with ⟨e,_⟩|⟨j,k,o,v,_,q1,q2,q3,q4,q5,q6,e⟩
 ·rw [e] at hvc ⊢
  simp only
  rw [if_pos trivial]
  simp only [rowV,zeroV,l_4] at hvc
  simp only [dSr]
  refine of_tri [] [3,6,10,17,19,31,43,48,50,72,108,119,120,129,137,138,143,156] Tryz.func23 rfl call23 rfl (by decide) (by decide) rfl rfl Tryz.ntmps23 (by simp (disch:=omega) only [seval,go_sem,cnd,intV,shV,convV,strV,List.replicate,l_2,l_1];rfl) (by simp (disch:=omega) only [seval,go_sem,cnd,intV,shV,convV,strV,l_2,l_1];rfl) ?_
  ((repeat' (first|((with_reducible refine isTriD ?_);((with_reducible refine isCallD ?_);((with_reducible refine LVcall (st:=[]) ?_);simp only [seval,go_sem];(refine CallL.c (hvc) ?_))))|(with_reducible refine isRet ?_;refine RetV (rs:=[.cell 6 35,.tmp 7,.tmp 8]) (by with_unfolding_all rfl) rfl ?_<;>simp only [seval,go_sem]<;>(repeat' (with_reducible apply And.intro))<;>(try rfl))|(with_reducible (refine TVq (st:=[]) ?_))|simp only [seval,go_sem]|(with_reducible refine oV_st (by simp (disch:=omega) only [seval,go_sem,cnd,intV,shV,convV,strV];rfl) ?_)))<;>(try (fail)))
 ·rw [e] at hvc ⊢
  simp only
  rw [if_neg (by decide)]
  simp only [rowV] at hvc
  simp only at q1 q2
  simp only [obGet_at q1,setVers_at q1]
  have hm:=List.mem_of_getElem? q1
  have hvm:=List.mem_of_getElem? q4
  have hvp:=(hv o hm).2 v hvm
  have hsc:=rsplit_calls (b:=d) (sz:=a4) (by omega) h4 h4'
  have hCl:=splitR_len (d:=d) (sz:=a4)
  have hCm:=splitR_mem (d:=d) (sz:=a4)
  have hst:=rstored_calls (a1:=a1) (a2:=a2) (a3:=a3) (a4:=a4) (a5:=a5) (a6:=a6) (a7:=a7) (com:=com) (last:=last) (cap:=cap) (os:=os) (bs:=bs) (ps:=ps) (pg:=pg) (f:=v.from_) (t:=v.to) (z:=v.size) (vp:=v.pages) (by omega) (fun p h=>(hpd p h).1) hvp
  have hsl:=storedR_len ⟨cap,pg⟩ v.pages
  have hsm:=storedR_mem (a:=⟨cap,pg⟩) (l:=v.pages) (p:=fun z=>0≤z∧z≤255) (fun q h=>(hpd q h).2)
  generalize splitR d a4=SP at *
  obtain ⟨C,SE⟩:=SP
  simp only at hCl hCm hsc
  have hhc:=rshared_calls (os:=storedR ⟨cap,pg⟩ v.pages) (ns:=C) (by omega) (by omega) hsm (fun x hx z hz=>hdb z ((hCm x hx).2 z hz))
  have hSL:=sharedR_len (storedR ⟨cap,pg⟩ v.pages) C
  have hSp: ∀ k,(sharedR (storedR ⟨cap,pg⟩ v.pages) C)[k]? = some true→k<v.pages.length:=fun k h=>by have:=sharedR_lt _ _ k h;omega
  have hgo:=rput_go (n:=n) (d:=d) (SE:=SE) ho hg hd h0 h9 q1 q2 (hv o hm).1 (hv o hm).2 hvp hvc hsc hst hhc (rlive_calls (a1:=a1) (a2:=a2) (a3:=a3) (a4:=a4) (a5:=a5) (a6:=a6) (a7:=a7) (com:=com) (last:=last) (cap:=cap) (os:=os) (bs:=bs) (ps:=ps) (pg:=pg) (by omega)) hCm (by omega) hSL hSp
  by_cases hc:a6≤com∨a3<(pg.length:Int)+needR (sharedR (storedR ⟨cap,pg⟩ v.pages) C)
  ·rw [if_pos hc] at hgo ⊢
   exact hgo
  ·rw [if_neg hc] at hgo ⊢
   exact hgo
end Go.Proofs.YtmgodadmafcliaaGreat
