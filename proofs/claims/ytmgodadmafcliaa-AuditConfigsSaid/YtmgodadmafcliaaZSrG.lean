/- The reference's store: Put; the walk. -/
import Derived.Test.YtmgodadmafcliaaZDiL
import Derived.Test.YtmgodadmafcliaaZSrF
set_option linter.unusedSimpArgs false
set_option linter.unusedVariables false
namespace Go.Proofs.Ytmgodadmafcliaa
open Go.RowKit Go.Avm
theorem sharedR_len: ∀ (o l:List (List Int)),(sharedR o l).length=l.length:=by
 intro o l
 induction l generalizing o with
 | nil=>cases o<;>rfl
 | cons x l ih=>cases o with
   | nil=>rw [sharedR,List.length_cons,ih,List.length_cons]
   | cons y o=>rw [sharedR,List.length_cons,ih,List.length_cons]
theorem sharedR_lt: ∀ (o l:List (List Int)) (k:Nat),(sharedR o l)[k]? = some true→k<o.length:=by
 intro o l
 induction l generalizing o with
 | nil=>intro k h;cases o<;>simp [sharedR] at h
 | cons x l ih=>intro k h;cases o with
   | nil=>
     rw [sharedR] at h
     cases k with
     | zero=>simp at h
     | succ k=>rw [l_7] at h;exact absurd (ih [] k h) (by simp)
   | cons y o=>
     rw [sharedR] at h
     cases k with
     | zero=>simp
     | succ k=>rw [l_7] at h;have:=ih o k h;simp only [List.length_cons];omega
theorem holdR_len (a:Ar) (n:Int):(holdR a n).1.pages.length=a.pages.length:=by
 unfold holdR;split
 ·rfl
 ·simp [setRefs]
theorem storedR_len (a:Ar) (l:List Int):(storedR a l).length=l.length:=by simp [storedR]
theorem storedR_mem {a:Ar} {l:List Int} {p:Int→Prop} (h: ∀ q∈a.pages, ∀ z∈q.data,p z): ∀ x∈storedR a l, ∀ z∈x,p z:=by
 intro x hx z hz
 obtain ⟨m,_,rfl⟩:=List.mem_map.1 hx
 unfold dataR at hz
 split at hz
 ·simp at hz
 ·rename_i hc
  rcases pgAt_split m a.pages with h1|⟨j,q,h1,h2,h3,h4⟩
  ·rw [h1] at hc;omega
  ·rw [h4] at hz;exact h q (List.mem_of_getElem? h1) z hz
theorem headD_drop {l:List Int} {k:Nat} {x:Int} (h:l[k]? = some x):(l.drop k).headD 0=x:=by
 rw [drop_get h];rfl
theorem tail_drop (l:List Int) (k:Nat):(l.drop k).tail=l.drop (k+1):=by
 rw [List.tail_drop]
set_option maxRecDepth 100000 in set_option maxHeartbeats 12800000 in
theorem rput_go {a1 a2 a3 a4 a5 a6 a7 com last cap:Int} {os:List Ob} {bs:List Bd} {ps:List Pn} {pg:List Pg} {n:ByteArray} {d:List Int} {C:List (List Int)} {SH:List Bool} {SE:Int} {j:Nat} {o:Ob} {v:Ver} (ho:os.length≤100000) (hg:pg.length≤10000) (hd:d.length≤1000) (h0:0≤com) (h9:com≤1000000000)
  (q1:os[j]? = some o) (q2:j<os.length) (hov:o.vers.length≤100000) (hop: ∀ v∈o.vers,v.pages.length≤1000000) (hvp:v.pages.length≤1000000)
  (hvc:ACalls Try.prog 109 [.agg [.sc (.int .i64 a1),.sc (.int .i64 a2),.sc (.int .i64 a3),.sc (.int .i64 a4),.sc (.int .i64 a5),.sc (.int .i64 a6),.sc (.int .i64 a7),.sc (.int .i64 com),.sc (.int .i64 last),.sl 2 (os.map rowOb),.sl 4 (bs.map rowBd),.sl 2 (ps.map rowP),.sc (.int .i64 cap),.sl 3 (pg.map rowPg)],.sc (.string n),.sc (.int .i64 com)] (.tup [.sc (.int .i64 (j:Int)),.agg [.sc (.int .i64 v.from_),.sc (.int .i64 v.to),.sc (.int .i64 v.size),.sl 1 (v.pages.map rowI)],.sc (.bool true)]) [])
  (hsc:ACalls Try.prog 102 [.sl 1 (d.map rowW), .sc (.int .i64 a4)] (.tup [.sl 1 (C.map rowL), .sc (.int .i64 SE)]) [])
  (hst:ACalls Try.prog 111 [.agg [.sc (.int .i64 a1),.sc (.int .i64 a2),.sc (.int .i64 a3),.sc (.int .i64 a4),.sc (.int .i64 a5),.sc (.int .i64 a6),.sc (.int .i64 a7),.sc (.int .i64 com),.sc (.int .i64 last),.sl 2 (os.map rowOb),.sl 4 (bs.map rowBd),.sl 2 (ps.map rowP),.sc (.int .i64 cap),.sl 3 (pg.map rowPg)],.agg [.sc (.int .i64 v.from_),.sc (.int .i64 v.to),.sc (.int .i64 v.size),.sl 1 (v.pages.map rowI)]] (.sl 1 ((storedR ⟨cap,pg⟩ v.pages).map rowL)) [])
  (hhc:ACalls Try.prog 110 [.sl 1 ((storedR ⟨cap,pg⟩ v.pages).map rowL), .sl 1 (C.map rowL)] (.sl 1 (SH.map rowBo)) [])
  (hlv:ACalls Try.prog 106 [.agg [.sc (.int .i64 a1),.sc (.int .i64 a2),.sc (.int .i64 a3),.sc (.int .i64 a4),.sc (.int .i64 a5),.sc (.int .i64 a6),.sc (.int .i64 a7),.sc (.int .i64 com),.sc (.int .i64 last),.sl 2 (os.map rowOb),.sl 4 (bs.map rowBd),.sl 2 (ps.map rowP),.sc (.int .i64 cap),.sl 3 (pg.map rowPg)]] (.sc (.int .i64 (pg.length:Int))) [])
  (hCm: ∀ (x:List Int),x∈C→x.length≤1024∧ ∀ (z:Int),z∈x→z∈d) (hCC:C.length≤1000) (hSL:SH.length=C.length) (hSp: ∀ k,SH[k]? = some true→k<v.pages.length):
  ACalls Try.prog 68 [.agg [.sc (.int .i64 a1),.sc (.int .i64 a2),.sc (.int .i64 a3),.sc (.int .i64 a4),.sc (.int .i64 a5),.sc (.int .i64 a6),.sc (.int .i64 a7),.sc (.int .i64 com),.sc (.int .i64 last),.sl 2 (os.map rowOb),.sl 4 (bs.map rowBd),.sl 2 (ps.map rowP),.sc (.int .i64 cap),.sl 3 (pg.map rowPg)],.sc (.string n),.sl 1 (d.map rowW)]
   (if a6≤com∨a3<(pg.length:Int)+needR SH then (.tup [.agg (dSr ⟨⟨a1,a2,a3,a4,a5,a6,a7⟩,com,last,os,bs,ps,⟨cap,pg⟩⟩), .sc (.int .i64 0), .sc (.int .i64 14)]) else
   (.tup [.agg (dSr ⟨⟨a1,a2,a3,a4,a5,a6,a7⟩,com+1,last,os.set j ⟨o.id,(appendV o.vers ⟨com+1,0,d.length,(puts ⟨cap,pg⟩ C SH v.pages).2⟩).1⟩,bs,ps,(puts ⟨cap,pg⟩ C SH v.pages).1⟩), .sc (.int .i64 (com+1)), .sc (.int .i64 0)])) []:=by
 have hCn:(C.map rowL).length=C.length:=List.length_map _
 have hSn:(SH.map rowBo).length=C.length:=by rw [List.length_map];exact hSL
 have hvn:(v.pages.map rowI).length=v.pages.length:=List.length_map _
 generalize hAL:puts ⟨cap,pg⟩ C SH v.pages=AL at *
 generalize hND:needR SH=ND at *
 have q1':=get_map rowOb q1
 refine of_tri [] [3,6,10,17,19,31,43,48,50,72,108,119,120,129,137,138,143,156] Try.func68 rfl call68 rfl (by decide) (by decide) rfl rfl Try.ntmps68 (by simp (disch:=omega) only [seval,go_sem,cnd,intV,shV,convV,strV,List.replicate,l_2,l_1];rfl) (by simp (disch:=omega) only [seval,go_sem,cnd,intV,shV,convV,strV,l_2,l_1];rfl) ?_
 ((repeat' (first|((with_reducible refine isTriD ?_);((with_reducible refine isCallD ?_);((with_reducible refine LVcall (st:=[]) ?_);simp only [seval,go_sem];first|(refine CallL.c (hvc) ?_)|(refine CallL.c (hsc) ?_)|(refine CallL.c (hst) ?_)|(refine CallL.c (hhc) ?_))))|(with_reducible (refine TVq (st:=[]) ?_))|simp only [seval,go_sem]|(with_reducible refine oV_st (by simp (disch:=omega) only [seval,go_sem,cnd,intV,shV,convV,strV];rfl) ?_)))<;>(try (fail)))
 all_goals (with_reducible refine Tri.loopU (fun (t:Nat×Int)=>[(16,.sc (.int .i64 t.1)),(15,.sc (.int .i64 t.2)),(51,.any),(52,.any),(53,.any),(54,.any),(55,.any),(56,.any),(57,.any),(58,.any),(59,.any),(60,.any),(61,.any),(62,.any),(63,.any)]) (fun (t:Nat×Int)=>[]) (fun (t:Nat×Int)=>t.1≤C.length∧0≤t.2∧t.2≤t.1∧t.2+needR (SH.drop t.1)=ND) (fun (t:Nat×Int)=>C.length-t.1) ((0,0)) (⟨Nat.zero_le _,Int.le_refl _,Int.le_refl _,by simp only [List.drop_zero,hND,Int.zero_add]⟩) (by intro _;simp (disch:=omega) only [seval,go_sem,cnd,intV,shV,convV,strV];rfl) (by intro _;simp (disch:=omega) only [seval,go_sem,cnd,intV,shV,convV,strV];rfl) (by (refine leQL_spec ?_);(try simp only [seval,go_sem]);done) (by (refine leQH_spec ?_);(try simp only [seval,go_sem]);done) (fun t hI=>?_))
 all_goals
  obtain ⟨k,nd⟩:=t
  obtain ⟨hk,hn0,hn1,hf⟩:=hI
  simp only at hk hn0 hn1 hf
  by_cases hlt:k<C.length
  ·obtain ⟨b,hb⟩:=get_lt (show k<SH.length by omega)
   have hb':=get_map rowBo hb
   rw [drop_get hb,needR] at hf
   cases b with
   | true=>
     rw [if_pos rfl] at hf
     (all_goals (try have hZ:=(And.intro hb' (And.intro hCn hSn)));(repeat' (first|(with_reducible (refine TVq (st:=[]) ?_))|simp only [seval,go_sem,rowBo,hZ]|(with_reducible refine oV_st (by simp (disch:=omega) only [seval,go_sem,cnd,intV,shV,convV,strV,rowBo,hZ];rfl) ?_)))<;>(try (fail));all_goals (try clear hZ))
     all_goals (try (refine isNextM ((k+1,nd)) (by (refine leQL_spec ?_);(try simp only [seval,go_sem]);first|((repeat' (with_reducible apply And.intro))<;>first|rfl);done) (by (refine leQH_spec ?_);(try simp only [seval,go_sem]);done) ?_ ?_<;>(try (first|omega|(simp;omega)))))
     all_goals (try exact ⟨by simp only;omega,hn0,by simp only;omega,hf⟩)
   | false=>
     rw [if_neg (by decide)] at hf
     (all_goals (try have hZ:=(And.intro hb' (And.intro hCn hSn)));(repeat' (first|(with_reducible (refine TVq (st:=[]) ?_))|simp only [seval,go_sem,rowBo,hZ]|(with_reducible refine oV_st (by simp (disch:=omega) only [seval,go_sem,cnd,intV,shV,convV,strV,rowBo,hZ];rfl) ?_)))<;>(try (fail));all_goals (try clear hZ))
     all_goals (try (refine isNextM ((k+1,nd+1)) (by (refine leQL_spec ?_);(try simp only [seval,go_sem]);first|((repeat' (with_reducible apply And.intro))<;>first|rfl);done) (by (refine leQH_spec ?_);(try simp only [seval,go_sem]);done) ?_ ?_<;>(try (first|omega|(simp;omega)))))
     all_goals (try exact ⟨by simp only;omega,by simp only;omega,by simp only;omega,by simp only;omega⟩)
  ·rw [List.drop_eq_nil_of_le (by omega),needR] at hf
   have hnd:nd=ND:=by omega
   subst hnd
   by_cases c4:a6≤com
   ·rw [if_pos (.inl c4)]
    simp only [dSr]
    ((repeat' (first|(with_reducible refine ListD.nil ?_)|((with_reducible refine isListD ?_);(with_reducible first|refine ListD.step (by simp only [seval,go_sem,hCn];rfl) ?_|refine ListD.step (by simp (disch:=omega) only [seval,go_sem,cnd,intV,shV,convV,strV,hCn];rfl) ?_))|(with_reducible refine isDrawn ?_;refine Tri.drawnD mix (by kernel_rfl) (by simp only [l_3,l_4];rfl) ?_)|(with_reducible refine isRet ?_;refine RetV (rs:=[.cell 6 32,.tmp 7,.tmp 8]) (by with_unfolding_all rfl) rfl ?_<;>simp only [seval,go_sem]<;>(repeat' (with_reducible apply And.intro))<;>(try rfl))|(with_reducible (refine TVq (st:=[]) ?_))|simp only [seval,go_sem,hCn]|(with_reducible refine oV_st (by simp (disch:=omega) only [seval,go_sem,cnd,intV,shV,convV,strV,hCn];rfl) ?_)))<;>(try (fail)))
   ·by_cases c5:a3<(pg.length:Int)+nd
    ·rw [if_pos (.inr c5)]
     simp only [dSr]
     ((repeat' (first|(with_reducible refine ListD.nil ?_)|((with_reducible refine isListD ?_);first|(with_reducible refine ListD.step (by simp only [seval,go_sem,hCn];rfl) ?_)|((with_reducible refine isCallV ?_);((with_reducible (refine ListD.dE (by simp only [seval,go_sem,hCn];rfl) (by simp only [seval,go_sem,hCn];rfl) ?_));refine CallW.c (hlv) (by simp only [seval,go_sem,hCn];rfl) ?_))|(with_reducible refine ListD.step (by simp (disch:=omega) only [seval,go_sem,cnd,intV,shV,convV,strV,hCn];rfl) ?_))|(with_reducible refine isDrawn ?_;refine Tri.drawnD mix (by kernel_rfl) (by simp only [l_3,l_4];rfl) ?_)|(with_reducible refine isRet ?_;refine RetV (rs:=[.cell 6 32,.tmp 7,.tmp 8]) (by with_unfolding_all rfl) rfl ?_<;>simp only [seval,go_sem]<;>(repeat' (with_reducible apply And.intro))<;>(try rfl))|(with_reducible (refine TVq (st:=[]) ?_))|simp only [seval,go_sem,hCn]|(with_reducible refine oV_st (by simp (disch:=omega) only [seval,go_sem,cnd,intV,shV,convV,strV,hCn];rfl) ?_)))<;>(try (fail)))
    ·rw [if_neg (not_or.2 ⟨c4,c5⟩)]
     simp only [dSr]
     ((repeat' (first|(with_reducible refine ListD.nil ?_)|((with_reducible refine isListD ?_);first|(with_reducible refine ListD.step (by simp only [seval,go_sem,hCn];rfl) ?_)|((with_reducible refine isCallV ?_);((with_reducible (refine ListD.dE (by simp only [seval,go_sem,hCn];rfl) (by simp only [seval,go_sem,hCn];rfl) ?_));refine CallW.c (hlv) (by simp only [seval,go_sem,hCn];rfl) ?_))|(with_reducible refine ListD.step (by simp (disch:=omega) only [seval,go_sem,cnd,intV,shV,convV,strV,hCn];rfl) ?_))|(with_reducible refine isDrawn ?_;refine Tri.drawnD mix (by kernel_rfl) (by simp only [l_3,l_4];rfl) ?_)|(with_reducible (refine TVq (st:=[]) ?_))|simp only [seval,go_sem,hCn]|(with_reducible refine oV_st (by simp (disch:=omega) only [seval,go_sem,cnd,intV,shV,convV,strV,hCn];rfl) ?_)))<;>(try (fail)))
     all_goals (refine Tri.bx 10 (by simp only [seval,go_sem];rfl) (by simp only [seval,go_sem];first|done|rfl) (by simp only [seval,go_sem];rfl) ?_)
     all_goals (refine Tri.virtB 17 3 138 1 (by simp only [seval,go_sem];rfl) (by simp only [seval,go_sem];done) (by decide) (by first|(simp only [seval,go_sem];done)) (by simp only [seval,go_sem];rfl) ?_)
     all_goals (with_reducible refine Tri.loopV (fun (t:Nat×Ar×List Int)=>[(18,.sc (.int .i64 t.1)),(19,.any),(20,.any),(21,.any),(90,.any),(91,.any),(92,.any),(93,.any),(94,.any),(95,.any),(96,.any),(97,.any),(98,.any),(99,.any),(100,.any),(101,.any),(102,.any),(103,.any),(104,.any),(105,.any),(106,.any),(107,.any),(108,.any),(109,.any),(110,.any),(111,.any),(112,.any),(113,.any),(114,.any),(115,.any),(116,.any),(117,.any),(118,.any),(119,.any),(120,.any),(121,.any),(122,.any),(123,.any),(124,.any),(125,.any),(126,.any),(127,.any),(128,.any),(129,.any),(130,.any),(131,.any),(132,.any),(133,.any),(134,.any),(135,.any),(136,.any),(137,.any),(138,.any),(139,.any),(140,.any)]) (fun (t:Nat×Ar×List Int)=>[(138,.row 1 (t.2.2.map rowI)),(17,.box [.sc (.int .i64 (com+1)),.sc (.int .i64 0),.sc (.int .i64 d.length),.slo 138 1 0 t.2.2.length]),(3,.box [.sc (.int .i64 a1),.sc (.int .i64 a2),.sc (.int .i64 a3),.sc (.int .i64 a4),.sc (.int .i64 a5),.sc (.int .i64 a6),.sc (.int .i64 a7),.sc (.int .i64 (com+1)),.sc (.int .i64 last),.sl 2 (os.map rowOb),.sl 4 (bs.map rowBd),.sl 2 (ps.map rowP),.sc (.int .i64 t.2.1.cap),.sl 3 (t.2.1.pages.map rowPg)]),(19,.dead),(108,.dead),(119,.dead),(120,.dead),(129,.dead),(137,.dead)]) (fun (t:Nat×Ar×List Int)=>t.1≤C.length∧t.2.2.length=t.1∧t.2.1.pages.length≤pg.length+t.1∧(puts t.2.1 (C.drop t.1) (SH.drop t.1) (v.pages.drop t.1)).1=AL.1∧t.2.2++(puts t.2.1 (C.drop t.1) (SH.drop t.1) (v.pages.drop t.1)).2=AL.2) (fun (t:Nat×Ar×List Int)=>C.length-t.1) ((0,⟨cap,pg⟩,[])) (⟨Nat.zero_le _,rfl,Nat.le_refl _,by simp only [List.drop_zero,hAL],by simp only [List.drop_zero,hAL,List.nil_append]⟩) (by intro _;simp (disch:=omega) only [seval,go_sem,cnd,intV,shV,convV,strV];rfl) (by intro _;simp (disch:=omega) only [seval,go_sem,cnd,intV,shV,convV,strV];rfl) (by (refine leQL_spec ?_);(try simp only [seval,go_sem]);done) (by (refine leQH_spec ?_);(try simp only [seval,go_sem]);done) (fun t hI=>?_))
     all_goals
      obtain ⟨k,⟨A1,A2⟩,ns⟩:=t
      obtain ⟨hk,hnl,hpl,hf1,hf2⟩:=hI
      simp only at hk hnl hpl hf1 hf2
      have hll:(ns.map rowI).length=ns.length:=List.length_map _
      by_cases hlt:k<C.length
      ·obtain ⟨x,hx⟩:=get_lt hlt
       have hx':=get_map rowL hx
       obtain ⟨b,hb⟩:=get_lt (show k<SH.length by omega)
       have hb':=get_map rowBo hb
       rw [drop_get hx,drop_get hb,puts] at hf1 hf2
       cases b with
       | true=>
         rw [if_pos rfl] at hf1 hf2
         obtain ⟨y,hy⟩:=get_lt (hSp k hb)
         have hy':=get_map rowI hy
         have hkv:=hSp k hb
         rw [headD_drop hy,tail_drop] at hf1 hf2
         have hac:=rhold_calls (c:=A1) (l:=A2) (n:=y) (by omega)
         have hal:=holdR_len ⟨A1,A2⟩ y
         simp only at hf1 hf2 hal
         generalize holdR ⟨A1,A2⟩ y=AR at *
         (all_goals (try have hZ:=(And.intro hx' (And.intro hb' (And.intro hy' (And.intro hll (And.intro hCn (And.intro hSn hvn)))))));(repeat' (first|((with_reducible refine isTriD ?_);first|((with_reducible refine isCallD ?_);((with_reducible refine LVcall (st:=[]) ?_);simp only [seval,go_sem,rowL,rowI,rowBo,hZ];(refine CallL.c (hac) ?_)))|((with_reducible first|refine TriD.step (by simp only [seval,go_sem,rowL,rowI,rowBo,hZ];rfl) ?_|refine TriD.step (by simp (disch:=omega) only [seval,go_sem,cnd,intV,shV,convV,strV,rowL,rowI,rowBo,hZ];rfl) ?_);refine LVs (st:=[]) ?_))|(with_reducible refine isDrawnN 22 ?_;refine Tri.mixedP 22 mix 13 rfl (.f 0 <| .f 2 <| .f 4 <| .a <| .b 1 (.a <| .b 3 (.f 5 <| .a <| .b 6 (.a <| .b 7 (.f 8 <| .f 9 <| .f 10 <| .f 11 <| .a <| .b 12 (.d) .e) .e) .e) .e) <| .b 3 (.f 5 <| .a <| .b 1 (.a <| .b 6 (.a <| .b 7 (.f 8 <| .f 9 <| .f 10 <| .f 11 <| .a <| .b 12 (.d) .e) .e) .e) <| .b 6 (.a <| .b 1 (.a <| .b 7 (.f 8 <| .f 9 <| .f 10 <| .f 11 <| .a <| .b 12 (.d) .e) .e) .e) .e) .e) (by kernel_rfl) ?_)|(with_reducible refine isDrawnN 23 ?_;refine Tri.mixedP 23 mix 11 rfl (.f 0 <| .f 2 <| .f 4 <| .a <| .b 1 (.a <| .b 3 (.f 5 <| .a <| .b 6 (.a <| .b 7 (.a <| .b 8 (.f 9 <| .a <| .b 10 (.d) .e) .e) .e) .e) .e) <| .b 3 (.f 5 <| .a <| .b 1 (.a <| .b 6 (.a <| .b 7 (.a <| .b 8 (.f 9 <| .a <| .b 10 (.d) .e) .e) .e) .e) <| .b 6 (.a <| .b 1 (.a <| .b 7 (.a <| .b 8 (.f 9 <| .a <| .b 10 (.d) .e) .e) .e) <| .b 7 (.a <| .b 1 (.a <| .b 8 (.f 9 <| .a <| .b 10 (.d) .e) .e) .e) .e) .e) .e) (by kernel_rfl) ?_)|(with_reducible refine isAnyP ?_;first|refine AnyP.D ?_|refine AnyP.F (by simp only [seval,go_sem,l_7,l_6];rfl) (by first|(simp only [seval,go_sem,rowL,rowI,rowBo,hZ];done)) (by first|(simp only [seval,go_sem,rowL,rowI,rowBo,hZ];with_reducible rfl)|(simp (disch:=omega) only [seval,go_sem,cnd,intV,shV,convV,strV,rowL,rowI,rowBo,hZ];with_reducible rfl)) ?_|refine AnyP.A ?_)|(with_reducible first|exact NextsP.E|refine NextsP.B (by simp only [seval,go_sem,l_7,l_6];rfl) ?_ ?_)|(with_reducible (refine TVq (st:=[]) ?_))|simp only [seval,go_sem,rowL,rowI,rowBo,hZ]|(with_reducible refine oV_st (by simp (disch:=omega) only [seval,go_sem,cnd,intV,shV,convV,strV,rowL,rowI,rowBo,hZ];rfl) ?_)))<;>(try (fail));all_goals (try clear hZ))
         all_goals (try ((refine isNextVM ((k+1,AR.1,ns++[y])) (Imp.rnTo 120 138 (by decide) (by first|(simp only [seval,go_sem];done)) (by simp only [seval,go_sem];rfl) (Imp.les (by (refine leQL_spec ?_);(try simp only [seval,go_sem,rowI]);first|((repeat' (with_reducible apply And.intro))<;>first|rfl);done) (by (refine leQH_spec ?_);(try simp only [seval,go_sem,rowI]);first|((repeat' (with_reducible apply And.intro))<;>first|(simp [rowI];done));done))) ?_ ?_)<;>(try (omega))))
         all_goals (try exact ⟨by simp only;omega,by simp only [List.length_append,List.length_cons,List.length_nil];omega,by simp only;omega,hf1,by simp only [List.append_assoc,List.cons_append,List.nil_append];exact hf2⟩)
       | false=>
         rw [if_neg (by decide)] at hf1 hf2
         rw [tail_drop] at hf1 hf2
         have hac:=ralloc_calls (c:=A1) (l:=A2) (d:=x) (by omega) (by have:=(hCm x (List.mem_of_getElem? hx)).1;omega)
         have hal:=allocR_len ⟨A1,A2⟩ x
         simp only at hf1 hf2 hal
         generalize allocR ⟨A1,A2⟩ x=AR at *
         (all_goals (try have hZ:=(And.intro hx' (And.intro hb' (And.intro hll (And.intro hCn hSn)))));(repeat' (first|((with_reducible refine isTriD ?_);first|((with_reducible refine isCallD ?_);((with_reducible refine LVcall (st:=[]) ?_);simp only [seval,go_sem,rowL,rowBo,hZ];(refine CallL.c (hac) ?_)))|((with_reducible first|refine TriD.step (by simp only [seval,go_sem,rowL,rowBo,hZ];rfl) ?_|refine TriD.step (by simp (disch:=omega) only [seval,go_sem,cnd,intV,shV,convV,strV,rowL,rowBo,hZ];rfl) ?_);refine LVs (st:=[]) ?_))|(with_reducible refine isDrawnN 24 ?_;(try (refine Tri.bx 19 (by simp only [seval,go_sem,rowL,rowBo,hZ];rfl) (by simp only [seval,go_sem,rowL,rowBo,hZ];fail) (by simp only [seval,go_sem,rowL,rowBo,hZ];rfl) ?_));refine Tri.mixedP 24 mix 15 rfl (.f 0 <| .f 2 <| .f 3 <| .f 4 <| .r 5 <| .a <| .b 1 (.a <| .b 6 (.f 7 <| .f 8 <| .f 9 <| .f 10 <| .a <| .b 11 (.a <| .b 12 (.f 13 <| .f 14 <| .d) .e) .e) <| .b 11 (.a <| .b 6 (.f 7 <| .f 8 <| .f 9 <| .f 10 <| .a <| .b 12 (.f 13 <| .f 14 <| .d) .e) .e) .e) <| .b 11 (.a <| .b 1 (.a <| .b 6 (.f 7 <| .f 8 <| .f 9 <| .f 10 <| .a <| .b 12 (.f 13 <| .f 14 <| .d) .e) .e) .e) .e) (by kernel_rfl) ?_)|(with_reducible refine isDrawnN 25 ?_;(try (refine Tri.bx 19 (by simp only [seval,go_sem,rowL,rowBo,hZ];rfl) (by simp only [seval,go_sem,rowL,rowBo,hZ];done) (by simp only [seval,go_sem,rowL,rowBo,hZ];rfl) ?_));refine Tri.mixedP 25 mix 10 rfl (.f 1 <| .f 3 <| .r 0 <| .f 6 <| .a <| .b 2 (.a <| .b 4 (.a <| .b 5 (.a <| .b 7 (.f 8 <| .a <| .b 9 (.d) .e) .e) .e) .e) <| .b 4 (.a <| .b 2 (.a <| .b 5 (.a <| .b 7 (.f 8 <| .a <| .b 9 (.d) .e) .e) .e) .e) .e) (by kernel_rfl) ?_)|(with_reducible refine isAnyP ?_;first|refine AnyP.D ?_|refine AnyP.F (by simp only [seval,go_sem,l_7,l_6];rfl) (by first|(simp only [seval,go_sem,rowL,rowBo,hZ];done)) (by first|(simp only [seval,go_sem,rowL,rowBo,hZ];with_reducible rfl)|(simp (disch:=omega) only [seval,go_sem,cnd,intV,shV,convV,strV,rowL,rowBo,hZ];with_reducible rfl)) ?_|refine AnyP.R (by simp only [seval,go_sem,l_7,l_6];rfl) (by first|(refine .inl ?_;simp only [seval,go_sem,rowL,rowBo,hZ];done)) (by first|(simp only [seval,go_sem,rowL,rowBo,hZ];with_reducible rfl)) ?_|refine AnyP.A ?_)|(with_reducible first|exact NextsP.E|refine NextsP.B (by simp only [seval,go_sem,l_7,l_6];rfl) ?_ ?_)|(with_reducible (refine TVq (st:=[]) ?_))|simp only [seval,go_sem,rowL,rowBo,hZ]|(with_reducible refine oV_st (by simp (disch:=omega) only [seval,go_sem,cnd,intV,shV,convV,strV,rowL,rowBo,hZ];rfl) ?_)))<;>(try (fail));all_goals (try clear hZ))
         all_goals (try ((refine isNextVM ((k+1,AR.1,ns++[AR.2.1])) (Imp.les (by (refine leQL_spec ?_);(try simp only [seval,go_sem,rowI]);first|((repeat' (with_reducible apply And.intro))<;>first|rfl);done) (by (refine leQH_spec ?_);(try simp only [seval,go_sem,rowI]);first|((repeat' (with_reducible apply And.intro))<;>first|(simp [rowI];done));done)) ?_ ?_)<;>(try (omega))))
         all_goals (try exact ⟨by simp only;omega,by simp only [List.length_append,List.length_cons,List.length_nil];omega,by simp only;omega,hf1,by simp only [List.append_assoc,List.cons_append,List.nil_append];exact hf2⟩)
      ·have hz: ∀ a s w,puts a [] s w=(a,[]):=fun a s w=>by cases s<;>rfl
       rw [List.drop_eq_nil_of_le (by omega),hz] at hf1 hf2
       simp only [List.append_nil] at hf1 hf2
       rw [← hf1, ← hf2]
       have htk:(ns.map rowI).take ns.length=ns.map rowI:=List.take_of_length_le (by rw [hll];exact Nat.le_refl _)
       have hapc:=rappend_val (vs:=o.vers) (f:=com+1) (t:=0) (s:=d.length) (p:=ns) hov hop (by omega)
       generalize appendV o.vers ⟨com+1,0,d.length,ns⟩=AV at *
       (refine Tri.frz 138 (by simp only [seval,go_sem];rfl) (by simp only [seval,go_sem];rfl) ?_)
       (all_goals (try have hZ:=(And.intro hll (And.intro htk hCn)));(repeat' (first|((with_reducible refine isTriD ?_);first|((with_reducible refine isCallD ?_);((with_reducible refine LVcall (st:=[]) ?_);simp only [seval,go_sem,q1',rowOb,hZ];(refine CallL.c (hapc) ?_)))|((with_reducible first|refine TriD.step (by simp only [seval,go_sem,q1',rowOb,hZ];rfl) ?_);refine LVs (st:=[]) ?_))|(with_reducible refine isDrawnN 27 ?_;(try (refine Tri.bx 17 (by simp only [seval,go_sem,q1',rowOb,hZ];rfl) (by simp only [seval,go_sem,q1',rowOb,hZ];done) (by simp only [seval,go_sem,q1',rowOb,hZ];rfl) ?_));refine Tri.mixedP 27 mix 17 rfl (.f 0 <| .f 2 <| .f 3 <| .f 5 <| .r 9 <| .a <| .b 1 (.a <| .b 4 (.f 6 <| .f 7 <| .a <| .b 8 (.a <| .b 10 (.f 11 <| .f 12 <| .f 13 <| .f 14 <| .f 15 <| .a <| .b 16 (.d) .e) .e) .e) .e) <| .b 4 (.f 6 <| .f 7 <| .a <| .b 1 (.a <| .b 8 (.a <| .b 10 (.f 11 <| .f 12 <| .f 13 <| .f 14 <| .f 15 <| .a <| .b 16 (.d) .e) .e) .e) <| .b 8 (.a <| .b 1 (.a <| .b 10 (.f 11 <| .f 12 <| .f 13 <| .f 14 <| .f 15 <| .a <| .b 16 (.d) .e) .e) <| .b 10 (.f 11 <| .f 12 <| .f 13 <| .a <| .b 1 (.f 14 <| .f 15 <| .a <| .b 16 (.d) .e) .e) .e) .e) .e) (by kernel_rfl) ?_)|(with_reducible refine isDrawnN 28 ?_;(try (refine Tri.bx 17 (by simp only [seval,go_sem,q1',rowOb,hZ];rfl) (by simp only [seval,go_sem,q1',rowOb,hZ];fail) (by simp only [seval,go_sem,q1',rowOb,hZ];rfl) ?_));refine Tri.mixedP 28 mix 6 rfl (.f 1 <| .a <| .b 0 (.a <| .b 2 (.a <| .b 3 (.f 4 <| .f 5 <| .d) .e) <| .b 3 (.a <| .b 2 (.f 4 <| .f 5 <| .d) .e) .e) <| .b 2 (.a <| .b 0 (.a <| .b 3 (.f 4 <| .f 5 <| .d) .e) .e) .e) (by kernel_rfl) ?_)|(with_reducible refine isAnyP ?_;first|refine AnyP.D ?_|refine AnyP.F (by simp only [seval,go_sem,l_7,l_6];rfl) (by first|(simp only [seval,go_sem,q1',rowOb,hZ];done)) (by first|(simp only [seval,go_sem,q1',rowOb,hZ];with_reducible rfl)|(simp (disch:=omega) only [seval,go_sem,cnd,intV,shV,convV,strV,q1',rowOb,hZ];with_reducible rfl)) ?_|refine AnyP.R (by simp only [seval,go_sem,l_7,l_6];rfl) (by first|(refine .inl ?_;simp only [seval,go_sem,q1',rowOb,hZ];done)) (by first|(simp only [seval,go_sem,q1',rowOb,hZ];with_reducible rfl)) ?_|refine AnyP.A ?_)|(with_reducible first|exact NextsP.E|refine NextsP.B (by simp only [seval,go_sem,l_7,l_6];rfl) ?_ ?_)|(with_reducible refine isRet ?_;(refine RetOK.frz 143 (by simp only [seval,go_sem];rfl) (by simp only [seval,go_sem,q1',rowOb,hZ];rfl) ?_);(with_reducible refine isRet ?_;refine RetOK.q rfl (by with_unfolding_all (show retD _ _ [.cell 6 32,.tmp 7,.tmp 8]=_);simp only [seval,go_sem];rfl) (by simp only [seval,go_sem];rfl) (by decide) (by simp only [seval,go_sem];rfl) (by simp only [seval,go_sem];rfl) rfl ?_<;>(try simp only [seval,go_sem,q1',rowOb,hZ])<;>(repeat' (with_reducible apply And.intro))<;>(try rfl)))|(with_reducible (refine TVq (st:=[]) ?_))|simp only [seval,go_sem,q1',rowOb,hZ]|(with_reducible refine oV_st (by simp (disch:=omega) only [seval,go_sem,cnd,intV,shV,convV,strV,q1',rowOb,hZ];rfl) ?_)))<;>(try (fail));all_goals (try clear hZ))
       all_goals (try (first|(simp [rowOb,rowV,List.map_set];done)|exact List.take_of_length_le (by simp)))
set_option maxRecDepth 100000 in set_option maxHeartbeats 6400000 in
theorem rput_calls {a1 a2 a3 a4 a5 a6 a7 com last cap:Int} {os:List Ob} {bs:List Bd} {ps:List Pn} {pg:List Pg} {n:ByteArray} {d:List Int} (hb:bs.length≤100000) (ho:os.length≤100000) (hg:pg.length≤10000) (hd:d.length≤1000) (h4:1≤a4) (h4':a4≤1024) (h0:0≤com) (h9:com≤1000000000) (hv: ∀ o∈os,o.vers.length≤100000∧ ∀ v∈o.vers,v.pages.length≤1000000) (hpd: ∀ p∈pg,p.data.length≤1000000∧ ∀ z∈p.data,0≤z∧z≤255) (hdb: ∀ z∈d,0≤z∧z≤255):ACalls Try.prog 68 [.agg [.sc (.int .i64 a1),.sc (.int .i64 a2),.sc (.int .i64 a3),.sc (.int .i64 a4),.sc (.int .i64 a5),.sc (.int .i64 a6),.sc (.int .i64 a7),.sc (.int .i64 com),.sc (.int .i64 last),.sl 2 (os.map rowOb),.sl 4 (bs.map rowBd),.sl 2 (ps.map rowP),.sc (.int .i64 cap),.sl 3 (pg.map rowPg)],.sc (.string n),.sl 1 (d.map rowW)] (.tup [.agg (dSr (putR ⟨⟨a1,a2,a3,a4,a5,a6,a7⟩,com,last,os,bs,ps,⟨cap,pg⟩⟩ n d).1),.sc (.int .i64 (putR ⟨⟨a1,a2,a3,a4,a5,a6,a7⟩,com,last,os,bs,ps,⟨cap,pg⟩⟩ n d).2.1),.sc (.int .i64 (putR ⟨⟨a1,a2,a3,a4,a5,a6,a7⟩,com,last,os,bs,ps,⟨cap,pg⟩⟩ n d).2.2)]) []:=by
 have hvc:=rver_calls (a1:=a1) (a2:=a2) (a3:=a3) (a4:=a4) (a5:=a5) (a6:=a6) (a7:=a7) (com:=com) (last:=last) (cap:=cap) (os:=os) (bs:=bs) (ps:=ps) (pg:=pg) (n:=n) (c:=com) hb ho (fun o h=>(hv o h).1)
 unfold putR
 simp only
 rw [if_neg (show ¬ 65536<(d.length:Int) by omega)]
 rcases verR_split ⟨⟨a1,a2,a3,a4,a5,a6,a7⟩,com,last,os,bs,ps,⟨cap,pg⟩⟩ n com with ⟨e,_⟩|⟨j,k,o,v,_,q1,q2,q3,q4,q5,q6,e⟩
 ·rw [e] at hvc ⊢
  simp only
  rw [if_pos trivial]
  simp only [rowV,zeroV,l_4] at hvc
  simp only [dSr]
  refine of_tri [] [3,6,10,17,19,31,43,48,50,72,108,119,120,129,137,138,143,156] Try.func68 rfl call68 rfl (by decide) (by decide) rfl rfl Try.ntmps68 (by simp (disch:=omega) only [seval,go_sem,cnd,intV,shV,convV,strV,List.replicate,l_2,l_1];rfl) (by simp (disch:=omega) only [seval,go_sem,cnd,intV,shV,convV,strV,l_2,l_1];rfl) ?_
  ((repeat' (first|((with_reducible refine isTriD ?_);((with_reducible refine isCallD ?_);((with_reducible refine LVcall (st:=[]) ?_);simp only [seval,go_sem];(refine CallL.c (hvc) ?_))))|(with_reducible refine isRet ?_;refine RetV (rs:=[.cell 6 32,.tmp 7,.tmp 8]) (by with_unfolding_all rfl) rfl ?_<;>simp only [seval,go_sem]<;>(repeat' (with_reducible apply And.intro))<;>(try rfl))|(with_reducible (refine TVq (st:=[]) ?_))|simp only [seval,go_sem]|(with_reducible refine oV_st (by simp (disch:=omega) only [seval,go_sem,cnd,intV,shV,convV,strV];rfl) ?_)))<;>(try (fail)))
 ·rw [e] at hvc ⊢
  simp only
  rw [if_neg (by decide)]
  simp only [rowV] at hvc
  simp only at q1 q2
  simp only [obGet_at q1,setVers_at q1]
  have hm:=List.mem_of_getElem? q1
  have hvm:=List.mem_of_getElem? q4
  have hvp:=(hv o hm).2 v hvm
  have hsc:=rsplit_calls (b:=d) (sz:=a4) (by omega) h4 h4'
  have hCl:=splitR_len (d:=d) (sz:=a4)
  have hCm:=splitR_mem (d:=d) (sz:=a4)
  have hst:=rstored_calls (a1:=a1) (a2:=a2) (a3:=a3) (a4:=a4) (a5:=a5) (a6:=a6) (a7:=a7) (com:=com) (last:=last) (cap:=cap) (os:=os) (bs:=bs) (ps:=ps) (pg:=pg) (f:=v.from_) (t:=v.to) (z:=v.size) (vp:=v.pages) (by omega) (fun p h=>(hpd p h).1) hvp
  have hsl:=storedR_len ⟨cap,pg⟩ v.pages
  have hsm:=storedR_mem (a:=⟨cap,pg⟩) (l:=v.pages) (p:=fun z=>0≤z∧z≤255) (fun q h=>(hpd q h).2)
  generalize splitR d a4=SP at *
  obtain ⟨C,SE⟩:=SP
  simp only at hCl hCm hsc
  have hhc:=rshared_calls (os:=storedR ⟨cap,pg⟩ v.pages) (ns:=C) (by omega) (by omega) hsm (fun x hx z hz=>hdb z ((hCm x hx).2 z hz))
  have hSL:=sharedR_len (storedR ⟨cap,pg⟩ v.pages) C
  have hSp: ∀ k,(sharedR (storedR ⟨cap,pg⟩ v.pages) C)[k]? = some true→k<v.pages.length:=fun k h=>by have:=sharedR_lt _ _ k h;omega
  have hgo:=rput_go (n:=n) (d:=d) (SE:=SE) ho hg hd h0 h9 q1 q2 (hv o hm).1 (hv o hm).2 hvp hvc hsc hst hhc (rlive_calls (a1:=a1) (a2:=a2) (a3:=a3) (a4:=a4) (a5:=a5) (a6:=a6) (a7:=a7) (com:=com) (last:=last) (cap:=cap) (os:=os) (bs:=bs) (ps:=ps) (pg:=pg) (by omega)) hCm (by omega) hSL hSp
  by_cases hc:a6≤com∨a3<(pg.length:Int)+needR (sharedR (storedR ⟨cap,pg⟩ v.pages) C)
  ·rw [if_pos hc] at hgo ⊢
   exact hgo
  ·rw [if_neg hc] at hgo ⊢
   exact hgo
end Go.Proofs.Ytmgodadmafcliaa
/- The reference's store: sizes of what Change and Store build (plain). -/
set_option linter.unusedSimpArgs false
set_option linter.unusedVariables false
namespace Go.Proofs.Ytmgodadmafcliaa
open Go.RowKit Go.Avm
def DatOk (d:List Int):Prop:=d.length≤1024∧ ∀ z∈d,0≤z∧z≤255
def PgOk (l:List Pg):Prop:= ∀ p∈l,DatOk p.data
theorem datOk_nil:DatOk []:=⟨Nat.zero_le _,fun z hz=>by simp at hz⟩
theorem allocR_ok {a:Ar} {d:List Int} (ha:PgOk a.pages) (hd:DatOk d):PgOk (allocR a d).1.pages:=by
 unfold allocR;split
 ·exact ha
 ·split
  ·exact ha
  ·intro p hp
   rcases List.mem_cons.1 ((insAt_perm _ _ _).mem_iff.1 hp) with rfl|h
   ·exact hd
   ·exact ha p h
theorem pgGet_ok {l:List Pg} {i:Int} (h:PgOk l):DatOk (pgGet l i).data:=by
 unfold pgGet
 cases e:l[i.toNat]? with
 | none=>exact datOk_nil
 | some p=>exact h p (List.mem_of_getElem? e)
theorem holdR_ok {a:Ar} {n:Int} (ha:PgOk a.pages):PgOk (holdR a n).1.pages:=by
 unfold holdR;split
 ·exact ha
 ·intro p hp
  rcases List.mem_or_eq_of_mem_set hp with h|rfl
  ·exact ha p h
  ·exact pgGet_ok ha
theorem hold_len (a:Ar) (n:Int):(holdR a n).1.pages.length=a.pages.length:=by
 unfold holdR;split
 ·rfl
 ·simp [setRefs]
theorem allocs_ok (l:List (List Int)): ∀ a:Ar,(∀ x∈l,DatOk x)→PgOk a.pages→PgOk (allocs a l).1.pages∧(allocs a l).1.pages.length≤a.pages.length+l.length∧(allocs a l).2.length=l.length:=by
 induction l with
 | nil=>intro a _ h;exact ⟨h,Nat.le_refl _,rfl⟩
 | cons x l ih=>
   intro a hx h
   have h1:=ih (allocR a x).1 (fun y hy=>hx y (by simp [hy])) (allocR_ok h (hx x (by simp)))
   have h2:=allocR_len a x
   simp only [allocs,List.length_cons]
   exact ⟨h1.1,by omega,by omega⟩
theorem puts_ok (l:List (List Int)): ∀ (a:Ar) (b:List Bool) (o:List Int),(∀ x∈l,DatOk x)→PgOk a.pages→PgOk (puts a l b o).1.pages∧(puts a l b o).1.pages.length≤a.pages.length+l.length∧(puts a l b o).2.length≤l.length:=by
 induction l with
 | nil=>intro a b o _ h;cases b<;>exact ⟨h,Nat.le_refl _,Nat.zero_le _⟩
 | cons x l ih=>
   intro a b o hx h
   cases b with
   | nil=>exact ⟨h,Nat.le_add_right _ _,Nat.zero_le _⟩
   | cons b bs=>
     rw [puts]
     split
     ·have h1:=ih (holdR a (o.headD 0)).1 bs o.tail (fun y hy=>hx y (by simp [hy])) (holdR_ok h)
      have h2:=hold_len a (o.headD 0)
      simp only [List.length_cons]
      exact ⟨h1.1,by omega,by omega⟩
     ·have h1:=ih (allocR a x).1 bs o.tail (fun y hy=>hx y (by simp [hy])) (allocR_ok h (hx x (by simp)))
      have h2:=allocR_len a x
      simp only [List.length_cons]
      exact ⟨h1.1,by omega,by omega⟩
structure SrB (i:Nat) (s:Sr):Prop where
 hb:s.binds.length≤i
 ho:s.objs.length≤i
 hv: ∀ o∈s.objs,o.vers.length≤i∧ ∀ v∈o.vers,v.pages.length≤61∧v.size≤61
 hp:s.pins.length≤i
 hg:s.ar.pages.length≤61*i
 hd:PgOk s.ar.pages
 hc:0≤s.commit∧s.commit≤i
 hl:0≤s.last∧s.last≤i
 hz:1≤s.c.psz∧s.c.psz≤1024
theorem SrB.up {i:Nat} {s:Sr} (h:SrB i s):SrB (i+1) s:=
 ⟨by have:=h.hb;omega,by have:=h.ho;omega,fun o ho=>⟨by have:=(h.hv o ho).1;omega,(h.hv o ho).2⟩,by have:=h.hp;omega,by have:=h.hg;omega,h.hd,⟨h.hc.1,by have:=h.hc.2;omega⟩,⟨h.hl.1,by have:=h.hl.2;omega⟩,h.hz⟩
def VOk (i:Nat) (l:List Ver):Prop:=l.length≤i∧ ∀ v∈l,v.pages.length≤61∧v.size≤61
theorem appendV_ok {i:Nat} {l:List Ver} {v:Ver} (h:VOk i l) (hv:v.pages.length≤61∧v.size≤61):VOk (i+1) (appendV l v).1:=by
 unfold appendV
 split
 ·exact ⟨Nat.zero_le _,fun v hv=>by simp at hv⟩
 ·split
  ·exact ⟨Nat.zero_le _,fun v hv=>by simp at hv⟩
  ·split
   ·exact ⟨by simp,fun w hw=>by rw [List.mem_singleton.1 hw];exact hv⟩
   ·rename_i u hu
    have hum:=h.2 u (List.mem_of_getElem? hu)
    split
    ·exact ⟨Nat.zero_le _,fun v hv=>by simp at hv⟩
    ·split
     ·refine ⟨by have:=h.1;simp only [List.length_append,List.length_set,List.length_cons,List.length_nil];omega,fun w hw=>?_⟩
      rcases List.mem_append.1 hw with h1|h1
      ·rcases List.mem_or_eq_of_mem_set h1 with h2|rfl
       ·exact h.2 w h2
       ·exact hum
      ·rw [List.mem_singleton.1 h1];exact hv
     ·refine ⟨by have:=h.1;simp only [List.length_append,List.length_cons,List.length_nil];omega,fun w hw=>?_⟩
      rcases List.mem_append.1 hw with h1|h1
      ·exact h.2 w h1
      ·rw [List.mem_singleton.1 h1];exact hv
theorem closeV_ok {i:Nat} {l:List Ver} {c:Int} (h:VOk i l):VOk (i+1) (closeV l c).1:=by
 unfold closeV
 split
 ·exact ⟨Nat.zero_le _,fun v hv=>by simp at hv⟩
 ·split
  ·exact ⟨Nat.zero_le _,fun v hv=>by simp at hv⟩
  ·rename_i u hu
   have hum:=h.2 u (List.mem_of_getElem? hu)
   split
   ·exact ⟨Nat.zero_le _,fun v hv=>by simp at hv⟩
   ·split
    ·exact ⟨Nat.zero_le _,fun v hv=>by simp at hv⟩
    ·refine ⟨by have:=h.1;simp only [List.length_set];omega,fun w hw=>?_⟩
     rcases List.mem_or_eq_of_mem_set hw with h2|rfl
     ·exact h.2 w h2
     ·exact hum
theorem obGet_ok {i:Nat} {s:Sr} (h:SrB i s) (j:Int):VOk i (obGet s.objs j).vers:=by
 unfold obGet
 cases e:s.objs[j.toNat]? with
 | none=>exact ⟨Nat.zero_le _,fun v hv=>by simp at hv⟩
 | some o=>exact h.hv o (List.mem_of_getElem? e)
theorem setVers_ok {i:Nat} {s:Sr} (h:SrB i s) {j:Int} {v:List Ver} (hv:VOk (i+1) v):(setVers s.objs j v).length≤i+1∧ ∀ o∈setVers s.objs j v,o.vers.length≤i+1∧ ∀ v∈o.vers,v.pages.length≤61∧v.size≤61:=by
 refine ⟨by have:=h.ho;simp only [setVers,List.length_set];omega,fun o ho=>?_⟩
 rcases List.mem_or_eq_of_mem_set ho with h2|rfl
 ·exact h.up.hv o h2
 ·exact hv
theorem bytesK_ok (n:Int):(bytesK n).length≤61∧ ∀ z∈bytesK n,0≤z∧z≤255:=by
 have hl:(n/8%64%61).toNat≤61:=by omega
 refine ⟨by simp only [bytesK,List.length_map,List.length_range];exact hl,fun z hz=>?_⟩
 obtain ⟨i,hi,rfl⟩:=List.mem_map.1 hz
 have:=List.mem_range.1 hi
 unfold byteK;split<;>omega
theorem split_ok (n sz:Int):(splitR (bytesK n) sz).1.length≤61∧ ∀ x∈(splitR (bytesK n) sz).1,DatOk x:=by
 have h:=bytesK_ok n
 exact ⟨by have:=splitR_len (d:=bytesK n) (sz:=sz);omega,fun x hx=>⟨(splitR_mem x hx).1,fun z hz=>h.2 z ((splitR_mem x hx).2 z hz)⟩⟩
theorem createR_ok {i:Nat} {s:Sr} {m:ByteArray} {n:Int} (h:SrB i s):SrB (i+1) (createR s m (bytesK n)).1:=by
 have hs:=split_ok n s.c.psz
 have ha:=allocs_ok (splitR (bytesK n) s.c.psz).1 s.ar hs.2 h.hd
 have hbl:=(bytesK_ok n).1
 unfold createR
 split
 ·exact h.up
 ·split
  ·exact h.up
  ·split
   ·exact h.up
   ·split
    ·exact h.up
    ·refine ⟨?_,?_,?_,?_,?_,ha.1,?_,?_,h.hz⟩
     ·have:=bindB_len s.binds m (s.last+1) (s.commit+1);have:=h.hb;simp only;omega
     ·have:=h.ho;simp only [List.length_append,List.length_cons,List.length_nil];omega
     ·intro o ho
      rcases List.mem_append.1 ho with h1|h1
      ·exact h.up.hv o h1
      ·rw [List.mem_singleton.1 h1]
       refine ⟨by simp,fun v hv=>?_⟩
       rw [List.mem_singleton.1 hv]
       exact ⟨by simp only;omega,by simp only;omega⟩
     ·have:=h.hp;simp only;omega
     ·have:=h.hg;simp only;omega
     ·have:=h.hc;simp only;omega
     ·have:=h.hl;simp only;omega
theorem putR_ok {i:Nat} {s:Sr} {m:ByteArray} {n:Int} (h:SrB i s):SrB (i+1) (putR s m (bytesK n)).1:=by
 have hs:=split_ok n s.c.psz
 have ha:=puts_ok (splitR (bytesK n) s.c.psz).1 s.ar (sharedR (storedR s.ar (verR s m s.commit).2.1.pages) (splitR (bytesK n) s.c.psz).1) (verR s m s.commit).2.1.pages hs.2 h.hd
 have hbl:=(bytesK_ok n).1
 unfold putR
 split
 ·exact h.up
 ·split
  ·exact h.up
  ·split
   ·exact h.up
   ·have hv:=setVers_ok h (j:=(verR s m s.commit).1) (appendV_ok (obGet_ok h (verR s m s.commit).1) (v:=⟨s.commit+1,0,(bytesK n).length,(puts s.ar (splitR (bytesK n) s.c.psz).1 (sharedR (storedR s.ar (verR s m s.commit).2.1.pages) (splitR (bytesK n) s.c.psz).1) (verR s m s.commit).2.1.pages).2⟩) ⟨by simp only;omega,by simp only;omega⟩)
    refine ⟨?_,hv.1,hv.2,?_,?_,ha.1,?_,?_,h.hz⟩
    ·have:=h.hb;simp only;omega
    ·have:=h.hp;simp only;omega
    ·have:=h.hg;simp only;omega
    ·have:=h.hc;simp only;omega
    ·have:=h.hl;simp only;omega
theorem dropR_ok {i:Nat} {s:Sr} {m:ByteArray} (h:SrB i s):SrB (i+1) (dropR s m).1:=by
 unfold dropR
 split
 ·exact h.up
 ·split
  ·exact h.up
  ·have hv:=setVers_ok h (j:=(verR s m s.commit).1) (closeV_ok (c:=s.commit+1) (obGet_ok h (verR s m s.commit).1))
   refine ⟨?_,hv.1,hv.2,?_,?_,h.hd,?_,?_,h.hz⟩
   ·have:=unbindB_len s.binds m (s.commit+1);have:=h.hb;simp only;omega
   ·have:=h.hp;simp only;omega
   ·have:=h.hg;simp only;omega
   ·have:=h.hc;simp only;omega
   ·have:=h.hl;simp only;omega
theorem renameR_ok {i:Nat} {s:Sr} {m k:ByteArray} (h:SrB i s):SrB (i+1) (renameR s m k).1:=by
 unfold renameR
 split
 ·exact h.up
 ·split
  ·exact h.up
  ·split
   ·exact h.up
   ·split
    ·exact h.up
    ·refine ⟨?_,h.up.ho,h.up.hv,h.up.hp,h.up.hg,h.hd,?_,h.up.hl,h.hz⟩
     ·have:=renameB_len s.binds m k (s.commit+1);have:=h.hb;simp only;omega
     ·have:=h.hc;simp only;omega
theorem pinR_ok {i:Nat} {s:Sr} {c:Int} (h:SrB i s):SrB (i+1) (pinR s c).1:=by
 unfold pinR
 split
 ·exact h.up
 ·split
  ·exact h.up
  ·exact ⟨h.up.hb,h.up.ho,h.up.hv,addP_len h.hp,h.up.hg,h.hd,h.up.hc,h.up.hl,h.hz⟩
theorem unpinR_ok {i:Nat} {s:Sr} {c:Int} (h:SrB i s):SrB (i+1) (unpinR s c).1:=by
 unfold unpinR
 split
 ·exact h.up
 ·exact ⟨h.up.hb,h.up.ho,h.up.hv,remP_len h.up.hp,h.up.hg,h.hd,h.up.hc,h.up.hl,h.hz⟩
theorem changeR_ok {i:Nat} {s:Sr} {n:Int} (h:SrB i s):SrB (i+1) (changeR s n):=by
 unfold changeR
 repeat' split
 ·exact createR_ok h
 ·exact putR_ok h
 ·exact dropR_ok h
 ·exact renameR_ok h
 ·exact pinR_ok h
 ·exact h.up
 ·exact unpinR_ok h
theorem inR_of {n lo hi:Int} (h1:lo≤n) (h2:n≤hi):inR n lo hi=true:=by
 simp only [inR,decide_eq_true h1,decide_eq_true h2,Bool.and_self]
theorem pickR {p q r:Prop} [Decidable p] [Decidable q] [Decidable r] {a b c d lo hi:Int} (h:lo≤a∧a≤hi∧lo≤b∧b≤hi∧lo≤c∧c≤hi∧lo≤d∧d≤hi):inR (if p then a else if q then b else if r then c else d) lo hi=true:=by
 split
 ·exact inR_of h.1 h.2.1
 ·split
  ·exact inR_of h.2.2.1 h.2.2.2.1
  ·split
   ·exact inR_of h.2.2.2.2.1 h.2.2.2.2.2.1
   ·exact inR_of h.2.2.2.2.2.2.1 h.2.2.2.2.2.2.2
theorem cfgK_ok (n:Int):cfOk (cfgK n)=true:=by
 simp only [cfOk,cfgK,Bool.and_eq_true]
 exact ⟨⟨⟨⟨⟨⟨inR_of (by omega) (by omega),inR_of (by omega) (by omega)⟩,pickR (by decide)⟩,pickR (by decide)⟩,pickR (by decide)⟩,pickR (by decide)⟩,inR_of (by omega) (by omega)⟩
theorem newR_ok (n:Int):SrB 1 (newR (cfgK n)).1:=by
 have hz:1≤(cfgK n).psz∧(cfgK n).psz≤1024:=by
  have h:=cfgK_ok n
  simp only [cfOk,inR,Bool.and_eq_true,decide_eq_true_eq] at h
  omega
 unfold newR
 rw [if_neg (by rw [cfgK_ok];decide)]
 exact ⟨Nat.zero_le _,Nat.zero_le _,fun o ho=>by simp at ho,Nat.zero_le _,Nat.zero_le _,fun o ho=>by simp at ho,⟨Int.le_refl _,by simp⟩,⟨Int.le_refl _,by simp⟩,hz⟩
theorem atK_rng (l:List Int) (i:Nat) (hi:i≤1000):0≤atK l i∧atK l i≤70000:=by
 unfold atK;split
 ·omega
 ·have:i/l.length≤i:=Nat.div_le_self _ _
  generalize i/l.length=q at *
  omega
theorem storeGo_ok (l:List Int) (k:Nat): ∀ (i:Nat) (s:Sr),SrB i s→SrB (i+k) (storeGo l k i s):=by
 have up: ∀ (k i:Nat) (s:Sr),SrB i s→SrB (i+k) s:=by
  intro k
  induction k with
  | zero=>intro i s h;exact h
  | succ k ih=>intro i s h;exact (ih i s h).up
 induction k with
 | zero=>intro i s h;exact h
 | succ k ih=>
   intro i s h
   rw [storeGo]
   split
   ·have:=ih (i+1) _ (changeR_ok (n:=atK l i) h)
    rwa [show i+1+k=i+(k+1) by omega] at this
   ·exact up (k+1) i s h
theorem storeR_ok (l:List Int):SrB 13 (storeR l):=storeGo_ok l 12 1 _ (newR_ok _)
end Go.Proofs.Ytmgodadmafcliaa
