/- The program's store walked: Put, its main road. -/
import Derived.Test.YteemiclhnfkekaaZDiK
import Derived.Test.YteemiclhnfkekaaZCfg
set_option linter.unusedSimpArgs false
set_option linter.unusedVariables false
namespace Go.Proofs.Yteemiclhnfkekaa
open Go.RowKit Go.Avm
set_option maxRecDepth 100000 in set_option maxHeartbeats 12800000 in
theorem sp_ok {a1 a2 a3 a4 a5 a6 a7 com last cap:Int} {os:List Ob} {bs:List Bd} {ps:List Pn} {pg:List Pg} {n:ByteArray} {d:List Int} (hb:bs.length≤100000) (hp:ps.length≤100000) (hv: ∀ o∈os,o.vers.length≤100000) (hdl:d.length≤200) (hvp: ∀ o∈os,∀ v∈o.vers,v.pages.length≤1000000) (hs:8≤a4∧a4≤1024) (hg:pg.length≤50000) (hpd: ∀ x∈pg,x.data.length≤1024∧ ∀ z∈x.data,0≤z∧z≤255) (hdd: ∀ z∈d,0≤z∧z≤255) {id f t s:Int} {p:List Int} (hpl0:p.length≤1000) (hF:findS ⟨⟨a1,a2,a3,a4,a5,a6,a7⟩,com,last,os,bs,ps,⟨cap,pg⟩⟩ n com=(id,⟨f,t,s,p⟩,0)) (hr1:0≤com) (hrb:com≤1000000) (hob: ¬ objAt id os 0<0) (d1: ¬ a6≤com) (d2: ¬ a3<(pg.length:Int)+needR (sharedR (storedR ⟨cap,pg⟩ p) (splitR d a4).1)):MCalls Try.prog 30 [.box [.sc (.int .i64 a1),.sc (.int .i64 a2),.sc (.int .i64 a3),.sc (.int .i64 a4),.sc (.int .i64 a5),.sc (.int .i64 a6),.sc (.int .i64 a7),.sc (.int .i64 com),.mp 1,.sc (.int .i64 last),.sl 4 (bs.map rowBd),.sl 2 (ps.map rowP),.ref 2 0],.ext (mapX (.int .i64) (mapOb os)),.box [.sc (.int .i64 cap),.mp 3],.ext (mapB (.int .i64) (ownB (mapPg pg)))] [.ref 0 0,.sc (.string n),.sl 1 (d.map rowW)] (.tup [.sc (.int .i64 (com+1)),.sc (.int .i64 0)])
  [.box [.sc (.int .i64 a1),.sc (.int .i64 a2),.sc (.int .i64 a3),.sc (.int .i64 a4),.sc (.int .i64 a5),.sc (.int .i64 a6),.sc (.int .i64 a7),.sc (.int .i64 (com+1)),.mp 1,.sc (.int .i64 last),.sl 4 (bs.map rowBd),.sl 2 (ps.map rowP),.ref 2 0],.ext (mapX (.int .i64) (mapOb (setVers os (objAt id os 0) (appendV (versS os id) ⟨com+1,0,d.length,(putsI ⟨cap,pg⟩ (splitR d a4).1 (sharedR (storedR ⟨cap,pg⟩ p) (splitR d a4).1) p (splitR d a4).1.length).2⟩).1))),.box [.sc (.int .i64 cap),.mp 3],.ext (mapB (.int .i64) (ownB (mapPg (putsI ⟨cap,pg⟩ (splitR d a4).1 (sharedR (storedR ⟨cap,pg⟩ p) (splitR d a4).1) p (splitR d a4).1.length).1.pages)))]:=by
 have hsat:=sharedR_at (storedR ⟨cap,pg⟩ p) (splitR d a4).1
 have hsdl:(storedR ⟨cap,pg⟩ p).length=p.length:=by simp [storedR]
 have hfi:=sfind_calls (a1:=a1) (a2:=a2) (a3:=a3) (a4:=a4) (a5:=a5) (a6:=a6) (a7:=a7) (com:=com) (last:=last) (cap:=cap) (os:=os) (bs:=bs) (ps:=ps) (pg:=pg) (n:=n) (c:=com) hb hp hv
 rw [hF] at hfi
 simp only [rowV] at hfi
 have hsp:=split_calls (b:=d) (sz:=a4) hdl hs.1 hs.2
 have hpl:=splitR_len (d:=d) hs.1
 have hda:=sdata_calls (a1:=a1) (a2:=a2) (a3:=a3) (a4:=a4) (a5:=a5) (a6:=a6) (a7:=a7) (com:=com) (last:=last) (cap:=cap) (os:=os) (bs:=bs) (ps:=ps) (pg:=pg) (f:=f) (t:=t) (s:=s) (p:=p) (by omega) (fun x hx=>by have:=(hpd x hx).1;omega) (by omega)
 have hsd:=stored_dat (cap:=cap) (p:=p) hpd
 have hbl:=splitR_dat (sz:=a4) hdd
 have hsh:=shared_calls (os:=storedR ⟨cap,pg⟩ p) (ns:=(splitR d a4).1) (by simp [storedR];omega) (by omega) hsd hbl
 have hsl:=sharedR_len (storedR ⟨cap,pg⟩ p) (splitR d a4).1
 generalize sharedR (storedR ⟨cap,pg⟩ p) (splitR d a4).1=SH at *
 generalize storedR ⟨cap,pg⟩ p=SD at *
 generalize splitR d a4=SP at *
 obtain ⟨L,se⟩:=SP
 simp only at hsp hpl hsh hsl hbl
 have c0: ¬ 65536<(d.length:Int):=by omega
 rcases ob_at id os with ⟨q1,_⟩|⟨j,o,q1,q2,q3,q4,q5,q6,q7,q8⟩
 ·exact absurd (show objAt id os 0<0 by rw [q1];omega) hob
 rw [q3,q7]
 refine of_tri [1000,1001,1002,1003] [9,17,31,44,49,51,60,64,67,106,113,119,120,143] Try.func30 rfl call30 rfl (by decide) (by decide) (by first|rfl) (by first|(simp only [seval,go_sem,List.all_cons,List.all_nil,Bool.and_true,List.length_cons,List.length_nil];done)) Try.ntmps30 (by simp (disch:=omega) only [seval,go_sem,cnd,intV,shV,convV,strV,List.replicate,l_2,l_1];rfl) (by simp (disch:=omega) only [seval,go_sem,cnd,intV,shV,convV,strV,l_2,l_1];rfl) ?_
 ((repeat' (first|((with_reducible refine isTriD ?_);((with_reducible refine isCallD ?_);first|((with_reducible (first|(refine TriD.cK (dst:=_) [] (by simp only [seval,go_sem,c0];rfl) (by simp only [seval,go_sem,c0];rfl) (hfi) (by simp only [seval,go_sem,c0];first|done|fail) (by simp only [seval,go_sem,c0];first|done|fail) (by simp only [seval,go_sem,c0];rfl) ?_)|(refine TriD.cK (dst:=_) [] (by simp only [seval,go_sem,c0];rfl) (by simp only [seval,go_sem,c0];rfl) (hda) (by simp only [seval,go_sem,c0];first|done|fail) (by simp only [seval,go_sem,c0];first|done|fail) (by simp only [seval,go_sem,c0];rfl) ?_)));refine LVs (st:=[]) ?_)|((with_reducible refine LVcall (st:=[]) ?_);simp only [seval,go_sem,c0];first|(refine CallL.c (hsp) ?_)|(refine CallL.c (hsh) ?_))))|(with_reducible (refine TVq (st:=[]) ?_))|simp only [seval,go_sem,c0]|(with_reducible refine oV_st (by simp (disch:=omega) only [seval,go_sem,cnd,intV,shV,convV,strV,c0];rfl) ?_)))<;>(try (fail)))
 all_goals (with_reducible refine Tri.loopV (fun (i:Nat)=>[(54,.sc (.int .i64 i)),(14,.sc (.int .i64 (needR (SH.take i)))),(16,.any),(55,.any),(56,.any),(57,.any),(58,.any),(59,.any),(60,.any),(61,.any),(62,.any)]) (fun (i:Nat)=>[]) (fun (i:Nat)=>i≤SH.length) (fun (i:Nat)=>SH.length-i) (0) (Nat.zero_le _) (by intro _;simp (disch:=omega) only [seval,go_sem,cnd,intV,shV,convV,strV];rfl) (by intro _;simp (disch:=omega) only [seval,go_sem,cnd,intV,shV,convV,strV];rfl) (by (refine leQL_spec ?_);(try simp only [seval,go_sem,List.take_zero,needR]);first|done|fail) (by (refine leQH_spec ?_);(try simp only [seval,go_sem,List.take_zero,needR]);first|done|fail) (fun i hI=>?_))
 all_goals
  have hnd:=needR_rng (SH.take i)
  rw [List.length_take] at hnd
  by_cases hlt:i<SH.length
  ·obtain ⟨x,hx⟩:=get_lt hlt
   have hx':=get_map rowBo hx
   have htk:SH.take (i+1)=SH.take i++[x]:=by rw [List.take_add_one,hx];rfl
   have hnx:=needR_snoc x (SH.take i)
   rw [← htk] at hnx
   cases x
   ·simp only [Bool.false_eq_true,if_false] at hnx
    ((repeat' (first|(with_reducible (refine TVq (st:=[]) ?_))|simp only [seval,go_sem,hx',rowBo]|(with_reducible refine oV_st (by simp (disch:=omega) only [seval,go_sem,cnd,intV,shV,convV,strV,hx',rowBo];rfl) ?_)))<;>(try (fail)))
    all_goals (try ((refine isNextVM (i+1) (Imp.les (by (refine leQL_spec ?_);(try simp only [seval,go_sem,hnx]);first|((repeat' (with_reducible apply And.intro))<;>first|rfl);first|done|fail) (by (refine leQH_spec ?_);(try simp only [seval,go_sem,hnx]);first|done|fail)) ?_ ?_)<;>(try (omega))))
    all_goals done
   ·simp only [if_true,Int.add_zero] at hnx
    ((repeat' (first|(with_reducible (refine TVq (st:=[]) ?_))|simp only [seval,go_sem,hx',rowBo]|(with_reducible refine oV_st (by simp (disch:=omega) only [seval,go_sem,cnd,intV,shV,convV,strV,hx',rowBo];rfl) ?_)))<;>(try (fail)))
    all_goals (try ((refine isNextVM (i+1) (Imp.les (by (refine leQL_spec ?_);(try simp only [seval,go_sem,hnx]);first|((repeat' (with_reducible apply And.intro))<;>first|rfl);first|done|fail) (by (refine leQH_spec ?_);(try simp only [seval,go_sem,hnx]);first|done|fail)) ?_ ?_)<;>(try (omega))))
    all_goals done
  ·have e1:i=SH.length:=by omega
   subst e1
   rw [List.take_length] at hnd ⊢
   ((repeat' (first|((with_reducible refine isTriD ?_);first|((with_reducible refine isCallD ?_);((with_reducible (first|(refine TriD.cK (dst:=_) [] (by simp only [seval,go_sem,d1,d2];rfl) (by simp only [seval,go_sem,d1,d2];rfl) (sfull_calls) (by simp only [seval,go_sem,d1,d2];first|done|fail) (by simp only [seval,go_sem,d1,d2];rfl) (by simp only [seval,go_sem,d1,d2];rfl) ?_)|(refine TriD.cK (dst:=_) [] (by simp only [seval,go_sem,d1,d2];rfl) (by simp only [seval,go_sem,d1,d2];rfl) (slive_calls) (by simp only [seval,go_sem,d1,d2];first|done|fail) (by simp only [seval,go_sem,d1,d2];rfl) (by simp only [seval,go_sem,d1,d2];rfl) ?_)));refine LVs (st:=[]) ?_))|((with_reducible first|refine TriD.step (by simp only [seval,go_sem,d1,d2];rfl) ?_);refine LVs (st:=[]) ?_))|(with_reducible exact endS_n)|(with_reducible refine isDrawnN 15 ?_;with_reducible apply Tri.cutS;refine Tri.mixedP 15 mix 14 rfl (.f 0 <| .a <| .b 1 (.f 2 <| .f 3 <| .f 5 <| .f 7 <| .f 8 <| .f 9 <| .f 10 <| .a <| .b 4 (.f 6 <| .a <| .b 11 (.f 12 <| .f 13 <| .d) .e) <| .b 11 (.a <| .b 4 (.f 6 <| .f 12 <| .f 13 <| .d) .e) .e) .e) (by kernel_rfl) ?_)|(with_reducible refine isAnyP ?_;first|refine AnyP.D ?_|refine AnyP.Fn (by simp only [seval,go_sem,l_7,l_6];rfl) (by first|(simp only [seval,go_sem,d1,d2];with_reducible rfl)) ?_|refine AnyP.F (by simp only [seval,go_sem,l_7,l_6];rfl) (by first|(simp only [seval,go_sem,d1,d2];first|done|fail)) (by first|(simp only [seval,go_sem,d1,d2];with_reducible rfl)|(simp (disch:=omega) only [seval,go_sem,cnd,intV,shV,convV,strV,d1,d2];with_reducible rfl)) ?_|refine AnyP.A ?_)|(with_reducible first|exact NextsP.E|refine NextsP.B (by simp only [seval,go_sem,l_7,l_6];rfl) ?_ ?_)|(with_reducible (refine TVq (st:=[]) ?_))|simp only [seval,go_sem,d1,d2]|(with_reducible refine oV_st (by simp (disch:=omega) only [seval,go_sem,cnd,intV,shV,convV,strV,d1,d2];rfl) ?_)))<;>(try (fail)))
   all_goals (refine Tri.virtB 17 3 60 1 (by simp only [seval,go_sem];rfl) (by simp only [seval,go_sem];first|done|fail) (by decide) (by first|(simp only [seval,go_sem];first|done|fail)) (by simp only [seval,go_sem];rfl) ?_)
   all_goals (with_reducible refine Tri.loopV (fun (i:Nat)=>[(87,.sc (.int .i64 i)),(18,.any),(19,.any),(20,.any),(88,.any),(89,.any),(90,.any),(91,.any),(92,.any),(93,.any),(94,.any),(95,.any),(96,.any),(97,.any),(98,.any),(99,.any),(100,.any),(101,.any),(102,.any),(103,.any),(104,.any),(105,.any),(106,.any),(107,.any),(108,.any),(109,.any),(110,.any),(111,.any),(112,.any),(113,.any),(114,.any),(115,.any),(116,.any),(117,.any),(118,.any),(119,.any),(120,.any),(121,.any),(122,.any)]) (fun (i:Nat)=>[(17,.box [.sc (.int .i64 (com+1)),.sc (.int .i64 0),.sc (.int .i64 d.length),.slo 60 1 0 i]),(60,.row 1 (((putsI ⟨cap,pg⟩ L SH p i).2).map rowI)),(1003,.ext (mapB (.int .i64) (ownB (mapPg (putsI ⟨cap,pg⟩ L SH p i).1.pages)))),(106,.dead),(113,.dead),(119,.dead),(120,.dead)]) (fun (i:Nat)=>i≤L.length) (fun (i:Nat)=>L.length-i) (0) (Nat.zero_le _) (by intro _;simp (disch:=omega) only [seval,go_sem,cnd,intV,shV,convV,strV];rfl) (by intro _;simp (disch:=omega) only [seval,go_sem,cnd,intV,shV,convV,strV];rfl) (by (refine leQL_spec ?_);(try simp only [seval,go_sem,putsI,l_4]);first|done|fail) (by (refine leQH_spec ?_);(try simp only [seval,go_sem,putsI,l_4]);first|done|fail) (fun i hI=>?_))
   all_goals
    obtain ⟨hac,hal,hxn⟩:=putsI_inv ⟨cap,pg⟩ L SH p i
    by_cases hlt:i<L.length
    ·obtain ⟨x,hx⟩:=get_lt hlt
     obtain ⟨b,hbx⟩:=get_lt (show i<SH.length by omega)
     have hx':=get_map rowL hx
     have hb':=get_map rowBo hbx
     have hsn:putsI ⟨cap,pg⟩ L SH p (i+1)=((stepU (putsI ⟨cap,pg⟩ L SH p i).1 x b ((p[i]?).getD 0)).1,(putsI ⟨cap,pg⟩ L SH p i).2++[(stepU (putsI ⟨cap,pg⟩ L SH p i).1 x b ((p[i]?).getD 0)).2]):=by rw [putsI,hx,hbx];rfl
     generalize putsI ⟨cap,pg⟩ L SH p i=X at *
     obtain ⟨⟨xc,xl⟩,xn⟩:=X
     simp only at hal hac hsn hxn ⊢
     subst hac
     have hxl:(xn.map rowI).length=i:=by rw [List.length_map];omega
     cases b
     ·have hak:=aalloc_calls (cap:=xc) (l:=xl) (d:=x) (by omega) (by have:=hpl.2 x (List.mem_of_getElem? hx);omega)
      rw [stepU,if_neg (by simp)] at hsn
      generalize allocU ⟨xc,xl⟩ x=Y at *
      obtain ⟨⟨yc,yl⟩,yn,ye⟩:=Y
      have hs1:(putsI ⟨xc,pg⟩ L SH p (i+1)).2=xn++[yn]:=by rw [hsn]
      have hs2:(putsI ⟨xc,pg⟩ L SH p (i+1)).1.pages=yl:=by rw [hsn]
      simp only at hak
      (all_goals (try have hZ:=(And.intro hx' (And.intro hb' hxl)));(repeat' (first|((with_reducible refine isTriD ?_);((with_reducible refine isCallD ?_);((with_reducible ((refine TriD.cJ (dst:=_) [] (by simp only [seval,go_sem,rowL,rowBo,hZ];rfl) (by simp only [seval,go_sem,rowL,rowBo,hZ];rfl) (hak) (by simp only [seval,go_sem,rowL,rowBo,hZ];first|done|fail) (by simp only [seval,go_sem,rowL,rowBo,hZ];first|done|fail) (by simp only [seval,go_sem,rowL,rowBo,hZ];rfl) ?_)));refine LVs (st:=[]) ?_)))|(with_reducible (refine TVq (st:=[]) ?_))|simp only [seval,go_sem,rowL,rowBo,hZ]|(with_reducible refine oV_st (by simp (disch:=omega) only [seval,go_sem,cnd,intV,shV,convV,strV,rowL,rowBo,hZ];rfl) ?_)))<;>(try (fail));all_goals (try clear hZ))
      all_goals (try ((refine isNextVM (i+1) (Imp.rnTo 120 60 (by decide) (by first|(simp only [seval,go_sem];first|done|fail)) (by simp only [seval,go_sem];rfl) (Imp.les (by (refine leQL_spec ?_);(try simp only [seval,go_sem,hs1,hs2,rowI,List.map_append,l_3,l_4]);first|((repeat' (with_reducible apply And.intro))<;>first|rfl);first|done|fail) (by (refine leQH_spec ?_);(try simp only [seval,go_sem,hs1,hs2,rowI,List.map_append,l_3,l_4]);first|((repeat' (with_reducible apply And.intro))<;>first|(simp [hs1,hs2,rowI,List.map_append,l_3,l_4];omega));first|done|fail))) ?_ ?_)<;>(try (omega))))
      all_goals done
     ·have hip:i<p.length:=by have:=hsat i hbx;omega
      obtain ⟨m,hm⟩:=get_lt hip
      have hm':=get_map rowI hm
      have hak:=ahold_calls (cap:=xc) (l:=xl) (n:=m)
      rw [stepU,if_pos rfl,hm] at hsn
      simp only [Option.getD_some] at hsn
      generalize holdR ⟨xc,xl⟩ m=Y at *
      obtain ⟨⟨yc,yl⟩,ye⟩:=Y
      have hs1:(putsI ⟨xc,pg⟩ L SH p (i+1)).2=xn++[m]:=by rw [hsn]
      have hs2:(putsI ⟨xc,pg⟩ L SH p (i+1)).1.pages=yl:=by rw [hsn]
      simp only at hak
      (all_goals (try have hZ:=(And.intro hx' (And.intro hb' (And.intro hm' hxl))));(repeat' (first|((with_reducible refine isTriD ?_);((with_reducible refine isCallD ?_);((with_reducible ((refine TriD.cJ (dst:=_) [] (by simp only [seval,go_sem,rowL,rowBo,rowI,hZ];rfl) (by simp only [seval,go_sem,rowL,rowBo,rowI,hZ];rfl) (hak) (by simp only [seval,go_sem,rowL,rowBo,rowI,hZ];first|done|fail) (by simp only [seval,go_sem,rowL,rowBo,rowI,hZ];first|done|fail) (by simp only [seval,go_sem,rowL,rowBo,rowI,hZ];rfl) ?_)));refine LVs (st:=[]) ?_)))|(with_reducible (refine TVq (st:=[]) ?_))|simp only [seval,go_sem,rowL,rowBo,rowI,hZ]|(with_reducible refine oV_st (by simp (disch:=omega) only [seval,go_sem,cnd,intV,shV,convV,strV,rowL,rowBo,rowI,hZ];rfl) ?_)))<;>(try (fail));all_goals (try clear hZ))
      all_goals (try ((refine isNextVM (i+1) (Imp.rnTo 120 60 (by decide) (by first|(simp only [seval,go_sem];first|done|fail)) (by simp only [seval,go_sem];rfl) (Imp.les (by (refine leQL_spec ?_);(try simp only [seval,go_sem,hs1,hs2,rowI,List.map_append,l_3,l_4]);first|((repeat' (with_reducible apply And.intro))<;>first|rfl);first|done|fail) (by (refine leQH_spec ?_);(try simp only [seval,go_sem,hs1,hs2,rowI,List.map_append,l_3,l_4]);first|((repeat' (with_reducible apply And.intro))<;>first|(simp [hs1,hs2,rowI,List.map_append,l_3,l_4];omega));first|done|fail))) ?_ ?_)<;>(try (omega))))
      all_goals done
    ·have e1:i=L.length:=by omega
     subst e1
     generalize putsI ⟨cap,pg⟩ L SH p L.length=X at *
     obtain ⟨⟨xc,xl⟩,xn⟩:=X
     simp only at hal hac hxn ⊢
     rw [← hxn]
     have hap:=append_val (vs:=o.vers) (f:=com+1) (t:=0) (s:=d.length) (p:=xn) (hv o (List.mem_of_getElem? q1)) (hvp o (List.mem_of_getElem? q1)) (by omega)
     have hms:=q5 (appendV o.vers ⟨com+1,0,d.length,xn⟩).1
     generalize appendV o.vers ⟨com+1,0,d.length,xn⟩=AV at *
     obtain ⟨av,ae⟩:=AV
     simp only at hap hms ⊢
     (refine Tri.frz 60 (by simp only [seval,go_sem];rfl) (by simp only [seval,go_sem];rfl) ?_)
     ((repeat' (first|((with_reducible refine isTriD ?_);first|((with_reducible refine isCallD ?_);((with_reducible refine LVcall (st:=[]) ?_);simp only [seval,go_sem,q4,hms];(refine CallL.c (hap) ?_)))|((with_reducible first|refine TriD.step (by simp only [seval,go_sem,q4,hms];rfl) ?_);refine LVs (st:=[]) ?_)|(with_reducible refine isLookup ?_;with_reducible refine TriD.lookup (by simp only [seval,go_sem,q4,hms]) (by simp only [seval,go_sem,q4,hms];rfl) (by simp only [seval,go_sem,q4,hms];rfl) (by simp only [seval,go_sem,q4,hms];rfl) (by simp only [seval,go_sem,q4,hms];rfl) (by simp only [seval,go_sem,q4,hms];rfl) (by simp only [seval,go_sem,q4,hms];rfl) (by simp only [seval,go_sem,q4,hms];rfl) (by simp only [seval,go_sem,q4,hms];rfl) (by simp only [seval,go_sem,q4,hms];first|done|fail) (by simp only [seval,go_sem,q4,hms];rfl) (by simp only [seval,go_sem,q4,hms];rfl) ?_;refine LVs (st:=[]) ?_)|(with_reducible refine isMapUpdate ?_;with_reducible refine TriD.mapUpdate (by simp only [seval,go_sem,q4,hms]) (by simp only [seval,go_sem,q4,hms];rfl) (by simp only [seval,go_sem,q4,hms];rfl) (by simp only [seval,go_sem,q4,hms];rfl) (by simp only [seval,go_sem,q4,hms];rfl) (by simp only [seval,go_sem,q4,hms];rfl) (by simp only [seval,go_sem,q4,hms];rfl) (by simp only [seval,go_sem,q4,hms];rfl) (by simp only [seval,go_sem,q4,hms];first|done|fail) (by simp only [seval,go_sem,q4,hms];rfl) (by simp only [seval,go_sem,q4,hms];first|done|fail) (by simp only [seval,go_sem,q4,hms];rfl) ?_;refine LVs (st:=[]) ?_))|(with_reducible exact endS_n)|(with_reducible refine isDrawnN 29 ?_;with_reducible apply Tri.cutS;refine Tri.mixedP 29 mix 17 rfl (.f 0 <| .f 1 <| .f 2 <| .f 4 <| .f 5 <| .f 6 <| .f 7 <| .f 9 <| .a <| .b 3 (.a <| .b 8 (.a <| .b 10 (.a <| .b 11 (.a <| .b 12 (.f 13 <| .f 14 <| .f 15 <| .a <| .b 16 (.d) .e) .e) .e) <| .b 11 (.a <| .b 10 (.a <| .b 12 (.f 13 <| .f 14 <| .f 15 <| .a <| .b 16 (.d) .e) .e) .e) .e) <| .b 11 (.a <| .b 8 (.a <| .b 10 (.a <| .b 12 (.f 13 <| .f 14 <| .f 15 <| .a <| .b 16 (.d) .e) .e) .e) .e) .e) <| .b 8 (.a <| .b 3 (.a <| .b 10 (.a <| .b 11 (.a <| .b 12 (.f 13 <| .f 14 <| .f 15 <| .a <| .b 16 (.d) .e) .e) .e) <| .b 11 (.a <| .b 10 (.a <| .b 12 (.f 13 <| .f 14 <| .f 15 <| .a <| .b 16 (.d) .e) .e) .e) .e) <| .b 10 (.a <| .b 3 (.a <| .b 11 (.a <| .b 12 (.f 13 <| .f 14 <| .f 15 <| .a <| .b 16 (.d) .e) .e) .e) <| .b 11 (.a <| .b 3 (.a <| .b 12 (.f 13 <| .f 14 <| .f 15 <| .a <| .b 16 (.d) .e) .e) <| .b 12 (.f 13 <| .f 14 <| .f 15 <| .a <| .b 3 (.a <| .b 16 (.d) .e) .e) .e) .e) <| .b 11 (.a <| .b 3 (.a <| .b 10 (.a <| .b 12 (.f 13 <| .f 14 <| .f 15 <| .a <| .b 16 (.d) .e) .e) .e) <| .b 10 (.a <| .b 3 (.a <| .b 12 (.f 13 <| .f 14 <| .f 15 <| .a <| .b 16 (.d) .e) .e) <| .b 12 (.f 13 <| .f 14 <| .f 15 <| .a <| .b 3 (.a <| .b 16 (.d) .e) .e) .e) .e) .e) <| .b 11 (.a <| .b 3 (.a <| .b 8 (.a <| .b 10 (.a <| .b 12 (.f 13 <| .f 14 <| .f 15 <| .a <| .b 16 (.d) .e) .e) .e) .e) <| .b 8 (.a <| .b 3 (.a <| .b 10 (.a <| .b 12 (.f 13 <| .f 14 <| .f 15 <| .a <| .b 16 (.d) .e) .e) .e) <| .b 10 (.a <| .b 3 (.a <| .b 12 (.f 13 <| .f 14 <| .f 15 <| .a <| .b 16 (.d) .e) .e) <| .b 12 (.f 13 <| .f 14 <| .f 15 <| .a <| .b 3 (.a <| .b 16 (.d) .e) .e) .e) .e) .e) .e) (by kernel_rfl) ?_)|(with_reducible refine isAnyP ?_;first|refine AnyP.D ?_|refine AnyP.Fn (by simp only [seval,go_sem,l_7,l_6];rfl) (by first|(simp only [seval,go_sem,q4,hms];with_reducible rfl)) ?_|refine AnyP.F (by simp only [seval,go_sem,l_7,l_6];rfl) (by first|(simp only [seval,go_sem,q4,hms];first|done|fail)) (by first|(simp only [seval,go_sem,q4,hms];with_reducible rfl)) ?_|refine AnyP.A ?_)|(with_reducible first|exact NextsP.E|refine NextsP.B (by simp only [seval,go_sem,l_7,l_6];rfl) ?_ ?_)|(with_reducible refine isRet ?_;refine RetV (rs:=[.tmp 6,.tmp 7]) (by with_unfolding_all rfl) rfl ?_<;>simp only [seval,go_sem]<;>(repeat' (with_reducible apply And.intro))<;>(try rfl))|(with_reducible (refine TVq (st:=[]) ?_))|simp only [seval,go_sem,q4,hms]|(with_reducible refine oV_st (by simp (disch:=omega) only [seval,go_sem,cnd,intV,shV,convV,strV,q4,hms];rfl) ?_)))<;>(try (fail)))
     all_goals done
end Go.Proofs.Yteemiclhnfkekaa
/- The program's store walked: New; Create and Put as one; the sanity check of the laws. -/
set_option linter.unusedSimpArgs false
set_option linter.unusedVariables false
namespace Go.Proofs.Yteemiclhnfkekaa
open Go.RowKit Go.Avm
theorem cfOk_rng {a1 a2 a3 a4 a5 a6 a7:Int} (h:cfOk ⟨a1,a2,a3,a4,a5,a6,a7⟩=true):(1≤a3∧a3≤16384)∧(8≤a4∧a4≤1024):=by
 simp only [cfOk,inR,Bool.and_eq_true,decide_eq_true_eq] at h
 omega
set_option maxRecDepth 100000 in set_option maxHeartbeats 3200000 in
theorem snew_err {a1 a2 a3 a4 a5 a6 a7:Int} (h:cfOk ⟨a1,a2,a3,a4,a5,a6,a7⟩=false):ACalls Try.prog 25 [.agg [.sc (.int .i64 a1),.sc (.int .i64 a2),.sc (.int .i64 a3),.sc (.int .i64 a4),.sc (.int .i64 a5),.sc (.int .i64 a6),.sc (.int .i64 a7)]] (.tup [.sc (.pointer none),.sc (.int .i64 5)]) []:=by
 have hc:=cfg_calls (a:=a1) (b:=a2) (c:=a3) (d:=a4) (e:=a5) (f:=a6) (g:=a7)
 rw [h] at hc
 refine of_tri [] [1,8,15,22,25] Try.func25 rfl call25 rfl (by decide) (by decide) rfl rfl Try.ntmps25 (by simp (disch:=omega) only [seval,go_sem,cnd,intV,shV,convV,strV,List.replicate,l_2,l_1];rfl) (by simp (disch:=omega) only [seval,go_sem,cnd,intV,shV,convV,strV,l_2,l_1];rfl) ?_
 ((repeat' (first|((with_reducible refine isTriD ?_);((with_reducible refine isCallD ?_);((with_reducible refine LVcall (st:=[]) ?_);simp only [seval,go_sem];(refine CallL.c (hc) ?_))))|(with_reducible refine isRet ?_;refine RetV (rs:=[.tmp 2,.tmp 3]) (by with_unfolding_all rfl) rfl ?_<;>simp only [seval,go_sem]<;>(repeat' (with_reducible apply And.intro))<;>(try rfl))|(with_reducible (refine TVq (st:=[]) ?_))|simp only [seval,go_sem]|(with_reducible refine oV_st (by simp (disch:=omega) only [seval,go_sem,cnd,intV,shV,convV,strV];rfl) ?_)))<;>(try (fail)))
set_option maxRecDepth 100000 in set_option maxHeartbeats 3200000 in
theorem snew_calls {a1 a2 a3 a4 a5 a6 a7:Int} (h:cfOk ⟨a1,a2,a3,a4,a5,a6,a7⟩=true):ACalls Try.prog 25 [.agg [.sc (.int .i64 a1),.sc (.int .i64 a2),.sc (.int .i64 a3),.sc (.int .i64 a4),.sc (.int .i64 a5),.sc (.int .i64 a6),.sc (.int .i64 a7)]] (.tup [.ref 0 0,.sc (.int .i64 0)]) [.box [.sc (.int .i64 a1),.sc (.int .i64 a2),.sc (.int .i64 a3),.sc (.int .i64 a4),.sc (.int .i64 a5),.sc (.int .i64 a6),.sc (.int .i64 a7),.sc (.int .i64 0),.mp 1,.sc (.int .i64 0),.sl 4 (([]:List Bd).map rowBd),.sl 2 (([]:List Pn).map rowP),.ref 2 0],.ext (mapX (.int .i64) (mapOb ([]:List Ob))),.box [.sc (.int .i64 a3),.mp 3],.ext (mapB (.int .i64) (ownB (mapPg ([]:List Pg))))]:=by
 have hc:=cfg_calls (a:=a1) (b:=a2) (c:=a3) (d:=a4) (e:=a5) (f:=a6) (g:=a7)
 rw [h] at hc
 have hr:=cfOk_rng h
 have hn:=anew_calls (c:=a3) (by omega) (by omega)
 refine of_tri [] [1,8,15,22,25,515] Try.func25 rfl call25 rfl (by decide) (by decide) rfl rfl Try.ntmps25 (by simp (disch:=omega) only [seval,go_sem,cnd,intV,shV,convV,strV,List.replicate,l_2,l_1];rfl) (by simp (disch:=omega) only [seval,go_sem,cnd,intV,shV,convV,strV,l_2,l_1];rfl) ?_
 ((repeat' (first|((with_reducible refine isTriD ?_);first|((with_reducible refine isCallD ?_);((with_reducible refine LVcall (st:=[]) ?_);simp only [seval,go_sem];first|(refine CallL.c (hc) ?_)|(refine CallL.n2 (hn) ?_)))|(with_reducible refine isMake ?_;with_reducible refine TriD.makeMap (by simp only [seval,go_sem]) (by simp only [seval,go_sem];rfl) (by simp only [seval,go_sem];rfl) (by simp only [seval,go_sem];rfl) (by simp only [seval,go_sem];rfl) (by simp only [seval,go_sem];first|done|fail) (by simp only [seval,go_sem];rfl) ?_;refine LVs (st:=[]) ?_))|(with_reducible (refine TVq (st:=[]) ?_))|simp only [seval,go_sem]|(with_reducible refine oV_st (by simp (disch:=omega) only [seval,go_sem,cnd,intV,shV,convV,strV];rfl) ?_)))<;>(try (fail)))
 all_goals (with_reducible refine isRet ?_;refine RetVn [25,22,15,515] (rs:=[.tmp 2, .tmp 3]) (by with_unfolding_all rfl) rfl (by with_unfolding_all rfl) ?_<;>simp only [seval,go_sem,mapOb_nil,l_4]<;>(repeat' (with_reducible apply And.intro))<;>(try rfl))
 all_goals done
set_option maxRecDepth 100000 in set_option maxHeartbeats 3200000 in
theorem config19_calls:ACalls Try.prog 36 [] (.agg [.sc (.int .i64 1), .sc (.int .i64 2), .sc (.int .i64 4), .sc (.int .i64 8), .sc (.int .i64 2), .sc (.int .i64 9), .sc (.int .i64 1)]) []:=by
 refine of_tri [] [0] Try.func36 rfl call36 rfl (by decide) (by decide) rfl rfl Try.ntmps36 (by simp (disch:=omega) only [seval,go_sem,cnd,intV,shV,convV,strV,List.replicate,l_2,l_1];rfl) (by simp (disch:=omega) only [seval,go_sem,cnd,intV,shV,convV,strV,l_2,l_1];rfl) ?_
 ((repeat' (first|(with_reducible refine isRet ?_;refine RetV (rs:=[.cell 0 57]) (by with_unfolding_all rfl) rfl ?_<;>simp only [seval,go_sem]<;>(repeat' (with_reducible apply And.intro))<;>(try rfl))|(with_reducible (refine TVq (st:=[]) ?_))|simp only [seval,go_sem]))<;>(try (fail)))
def k19D:List Int:=[48,49,50,51,52,53,54,55,56,57]
def k19P:List Int:=[48,49,50,51,52,53,54,55]
theorem k19_1:allocsU ⟨4,[]⟩ (splitR k19D 8).1=(⟨4,[⟨1,1,k19P⟩,⟨2,1,[56,57]⟩]⟩,[1,2]):=by kernel_rfl
theorem k19_2:(bindB [] ⟨#[97]⟩ 1 1).1=[⟨⟨#[97]⟩,1,1,0⟩]:=by kernel_rfl
theorem k19_3:putsI ⟨4,[⟨1,1,k19P⟩,⟨2,1,[56,57]⟩]⟩ (splitR k19D 8).1 (sharedR (storedR ⟨4,[⟨1,1,k19P⟩,⟨2,1,[56,57]⟩]⟩ [1,2]) (splitR k19D 8).1) [1,2] (splitR k19D 8).1.length=(⟨4,[⟨1,2,k19P⟩,⟨2,2,[56,57]⟩]⟩,[1,2]):=by kernel_rfl
theorem k19_4:setVers [⟨1,[⟨1,0,10,[1,2]⟩]⟩] (objAt 1 [⟨1,[⟨1,0,10,[1,2]⟩]⟩] 0) (appendV (versS [⟨1,[⟨1,0,10,[1,2]⟩]⟩] 1) ⟨2,0,10,[1,2]⟩).1=[⟨1,[⟨1,2,10,[1,2]⟩,⟨2,0,10,[1,2]⟩]⟩]:=by kernel_rfl
theorem k19_5:readS ⟨⟨1,2,4,8,2,9,1⟩,2,1,[⟨1,[⟨1,2,10,[1,2]⟩,⟨2,0,10,[1,2]⟩]⟩],[⟨⟨#[97]⟩,1,1,0⟩],[],⟨4,[⟨1,2,k19P⟩,⟨2,2,[56,57]⟩]⟩⟩ ⟨#[97]⟩ 2=(k19D,0):=by kernel_rfl
theorem k19_6:((strOfNums k19D).toList==(⟨#[48,49,50,51,52,53,54,55,56,57]⟩:ByteArray).toList)=true:=by kernel_rfl
theorem k19_7:listP 0 []=[]:=by kernel_rfl
set_option maxRecDepth 100000 in set_option maxHeartbeats 12800000 in
theorem known19_calls:ACalls Try.prog 27 [] (.sc (.bool true)) []:=by
 have cn:=snew_calls (a1:=1) (a2:=2) (a3:=4) (a4:=8) (a5:=2) (a6:=9) (a7:=1) (by decide)
 have c1:MCalls Try.prog 28 [.box [.sc (.int .i64 1),.sc (.int .i64 2),.sc (.int .i64 4),.sc (.int .i64 8),.sc (.int .i64 2),.sc (.int .i64 9),.sc (.int .i64 1),.sc (.int .i64 0),.mp 1,.sc (.int .i64 0),.sl 4 (([]:List Bd).map rowBd),.sl 2 (([]:List Pn).map rowP),.ref 2 0],.ext (mapX (.int .i64) (mapOb ([]:List Ob))),.box [.sc (.int .i64 4),.mp 3],.ext (mapB (.int .i64) (ownB (mapPg ([]:List Pg))))] [.ref 0 0,.sc (.string ⟨#[97]⟩),.sl 1 [[D.sc (.int .u8 48)],[D.sc (.int .u8 49)],[D.sc (.int .u8 50)],[D.sc (.int .u8 51)],[D.sc (.int .u8 52)],[D.sc (.int .u8 53)],[D.sc (.int .u8 54)],[D.sc (.int .u8 55)],[D.sc (.int .u8 56)],[D.sc (.int .u8 57)]]] (.tup [.sc (.int .i64 1),.sc (.int .i64 0)]) [.box [.sc (.int .i64 1),.sc (.int .i64 2),.sc (.int .i64 4),.sc (.int .i64 8),.sc (.int .i64 2),.sc (.int .i64 9),.sc (.int .i64 1),.sc (.int .i64 1),.mp 1,.sc (.int .i64 1),.sl 4 ([(⟨⟨#[97]⟩,1,1,0⟩:Bd)].map rowBd),.sl 2 (([]:List Pn).map rowP),.ref 2 0],.ext (mapX (.int .i64) (mapOb [(⟨1,[⟨1,0,10,[1,2]⟩]⟩:Ob)])),.box [.sc (.int .i64 4),.mp 3],.ext (mapB (.int .i64) (ownB (mapPg [(⟨1,1,k19P⟩:Pg),⟨2,1,[56,57]⟩])))]:=by
  have h:=sc_ok (a1:=1) (a2:=2) (a3:=4) (a4:=8) (a5:=2) (a6:=9) (a7:=1) (cap:=4) (ps:=[]) (com:=0) (last:=0) (os:=[]) (bs:=[]) (pg:=[]) (n:=⟨#[97]⟩) (d:=k19D) (by decide) (by decide) (by decide) (by decide) (by decide) (by decide) (by decide) (by decide) (by simp) (by kernel_rfl) (by kernel_rfl) (by rw [k19_7];decide) (by decide) (by decide)
  rw [k19_1] at h
  rw [show (0:Int)+1=1 from rfl,k19_2] at h
  exact h
 have c2:MCalls Try.prog 30 [.box [.sc (.int .i64 1),.sc (.int .i64 2),.sc (.int .i64 4),.sc (.int .i64 8),.sc (.int .i64 2),.sc (.int .i64 9),.sc (.int .i64 1),.sc (.int .i64 1),.mp 1,.sc (.int .i64 1),.sl 4 ([(⟨⟨#[97]⟩,1,1,0⟩:Bd)].map rowBd),.sl 2 (([]:List Pn).map rowP),.ref 2 0],.ext (mapX (.int .i64) (mapOb [(⟨1,[⟨1,0,10,[1,2]⟩]⟩:Ob)])),.box [.sc (.int .i64 4),.mp 3],.ext (mapB (.int .i64) (ownB (mapPg [(⟨1,1,k19P⟩:Pg),⟨2,1,[56,57]⟩])))] [.ref 0 0,.sc (.string ⟨#[97]⟩),.sl 1 [[D.sc (.int .u8 48)],[D.sc (.int .u8 49)],[D.sc (.int .u8 50)],[D.sc (.int .u8 51)],[D.sc (.int .u8 52)],[D.sc (.int .u8 53)],[D.sc (.int .u8 54)],[D.sc (.int .u8 55)],[D.sc (.int .u8 56)],[D.sc (.int .u8 57)]]] (.tup [.sc (.int .i64 2),.sc (.int .i64 0)]) [.box [.sc (.int .i64 1),.sc (.int .i64 2),.sc (.int .i64 4),.sc (.int .i64 8),.sc (.int .i64 2),.sc (.int .i64 9),.sc (.int .i64 1),.sc (.int .i64 2),.mp 1,.sc (.int .i64 1),.sl 4 ([(⟨⟨#[97]⟩,1,1,0⟩:Bd)].map rowBd),.sl 2 (([]:List Pn).map rowP),.ref 2 0],.ext (mapX (.int .i64) (mapOb [(⟨1,[⟨1,2,10,[1,2]⟩,⟨2,0,10,[1,2]⟩]⟩:Ob)])),.box [.sc (.int .i64 4),.mp 3],.ext (mapB (.int .i64) (ownB (mapPg [(⟨1,2,k19P⟩:Pg),⟨2,2,[56,57]⟩])))]:=by
  have h:=sp_ok (a1:=1) (a2:=2) (a3:=4) (a4:=8) (a5:=2) (a6:=9) (a7:=1) (cap:=4) (ps:=[]) (com:=1) (last:=1) (os:=[⟨1,[⟨1,0,10,[1,2]⟩]⟩]) (bs:=[⟨⟨#[97]⟩,1,1,0⟩]) (pg:=[⟨1,1,k19P⟩,⟨2,1,[56,57]⟩]) (n:=⟨#[97]⟩) (d:=k19D) (id:=1) (f:=1) (t:=0) (s:=10) (p:=[1,2]) (by decide) (by decide) (by decide) (by decide) (by decide) (by decide) (by decide) (by decide) (by decide) (by decide) (by kernel_rfl) (by decide) (by decide) (by decide) (by decide) (by decide)
  rw [k19_3] at h
  rw [show (1:Int)+1=2 from rfl] at h
  simp only [show ((k19D.length:Nat):Int)=10 from rfl] at h
  rw [k19_4] at h
  exact h
 have c3:MCalls Try.prog 31 [.box [.sc (.int .i64 1),.sc (.int .i64 2),.sc (.int .i64 4),.sc (.int .i64 8),.sc (.int .i64 2),.sc (.int .i64 9),.sc (.int .i64 1),.sc (.int .i64 2),.mp 1,.sc (.int .i64 1),.sl 4 ([(⟨⟨#[97]⟩,1,1,0⟩:Bd)].map rowBd),.sl 2 (([]:List Pn).map rowP),.ref 2 0],.ext (mapX (.int .i64) (mapOb [(⟨1,[⟨1,2,10,[1,2]⟩,⟨2,0,10,[1,2]⟩]⟩:Ob)])),.box [.sc (.int .i64 4),.mp 3],.ext (mapB (.int .i64) (ownB (mapPg [(⟨1,2,k19P⟩:Pg),⟨2,2,[56,57]⟩])))] [.ref 0 0,.sc (.string ⟨#[97]⟩),.sc (.int .i64 2)] (.tup [.sl 1 (k19D.map rowW),.sc (.int .i64 0)]) [.box [.sc (.int .i64 1),.sc (.int .i64 2),.sc (.int .i64 4),.sc (.int .i64 8),.sc (.int .i64 2),.sc (.int .i64 9),.sc (.int .i64 1),.sc (.int .i64 2),.mp 1,.sc (.int .i64 1),.sl 4 ([(⟨⟨#[97]⟩,1,1,0⟩:Bd)].map rowBd),.sl 2 (([]:List Pn).map rowP),.ref 2 0],.ext (mapX (.int .i64) (mapOb [(⟨1,[⟨1,2,10,[1,2]⟩,⟨2,0,10,[1,2]⟩]⟩:Ob)])),.box [.sc (.int .i64 4),.mp 3],.ext (mapB (.int .i64) (ownB (mapPg [(⟨1,2,k19P⟩:Pg),⟨2,2,[56,57]⟩])))]:=by
  have h:=sread_calls (a1:=1) (a2:=2) (a3:=4) (a4:=8) (a5:=2) (a6:=9) (a7:=1) (cap:=4) (ps:=[]) (com:=2) (last:=1) (os:=[⟨1,[⟨1,2,10,[1,2]⟩,⟨2,0,10,[1,2]⟩]⟩]) (bs:=[⟨⟨#[97]⟩,1,1,0⟩]) (pg:=[⟨1,2,k19P⟩,⟨2,2,[56,57]⟩]) (n:=⟨#[97]⟩) (c:=2) (by decide) (by decide) (by decide) (by decide) (by decide)
  rw [k19_5] at h
  exact h
 have c4:=scommit_calls (a1:=1) (a2:=2) (a3:=4) (a4:=8) (a5:=2) (a6:=9) (a7:=1) (cap:=4) (ps:=[]) (com:=2) (last:=1) (os:=[⟨1,[⟨1,2,10,[1,2]⟩,⟨2,0,10,[1,2]⟩]⟩]) (bs:=[⟨⟨#[97]⟩,1,1,0⟩]) (pg:=[⟨1,2,k19P⟩,⟨2,2,[56,57]⟩])
 have c5:=slive_calls (a1:=1) (a2:=2) (a3:=4) (a4:=8) (a5:=2) (a6:=9) (a7:=1) (cap:=4) (ps:=[]) (com:=2) (last:=1) (os:=[⟨1,[⟨1,2,10,[1,2]⟩,⟨2,0,10,[1,2]⟩]⟩]) (bs:=[⟨⟨#[97]⟩,1,1,0⟩]) (pg:=[⟨1,2,k19P⟩,⟨2,2,[56,57]⟩])
 have hst:=k19_6
 generalize k19D=DD at c3 hst
 refine of_tri [] [10,11,22,24,29,31,36,59,64,311,511,711] Try.func27 rfl call27 rfl (by decide) (by decide) rfl rfl Try.ntmps27 (by simp (disch:=omega) only [seval,go_sem,cnd,intV,shV,convV,strV,List.replicate,l_2,l_1];rfl) (by simp (disch:=omega) only [seval,go_sem,cnd,intV,shV,convV,strV,l_2,l_1];rfl) ?_
 ((repeat' (first|((with_reducible refine isTriD ?_);first|(with_reducible refine isLitB ?_;refine TriD.litB (by simp only [seval,go_sem,mapO_rowW,hst];rfl) (by simp only [seval,go_sem,mapO_rowW,hst];first|done|fail) (by simp only [seval,go_sem,mapO_rowW,hst];rfl) Try.underlying5 (by with_unfolding_all rfl) (by decide) (by with_unfolding_all rfl) (by with_unfolding_all rfl) (by with_unfolding_all rfl) (by with_unfolding_all rfl) (by simp only [List.length_cons,List.length_nil];omega) (by simp only [seval,go_sem,mapO_rowW,hst];rfl) ?_;refine LVs (st:=[22,29,43,47,51,55,60,65,70]) ?_)|((with_reducible refine isCallD ?_);first|((with_reducible (first|(refine TriD.cK (dst:=_) [] (by simp only [seval,go_sem,mapO_rowW,hst];rfl) (by simp only [seval,go_sem,mapO_rowW,hst];rfl) (c1) (by simp only [seval,go_sem,mapO_rowW,hst];first|done|fail) (by simp only [seval,go_sem,mapO_rowW,hst];first|done|fail) (by simp only [seval,go_sem,mapO_rowW,hst];rfl) ?_)|(refine TriD.cK (dst:=_) [] (by simp only [seval,go_sem,mapO_rowW,hst];rfl) (by simp only [seval,go_sem,mapO_rowW,hst];rfl) (c2) (by simp only [seval,go_sem,mapO_rowW,hst];first|done|fail) (by simp only [seval,go_sem,mapO_rowW,hst];first|done|fail) (by simp only [seval,go_sem,mapO_rowW,hst];rfl) ?_)|(refine TriD.cK (dst:=_) [] (by simp only [seval,go_sem,mapO_rowW,hst];rfl) (by simp only [seval,go_sem,mapO_rowW,hst];rfl) (c3) (by simp only [seval,go_sem,mapO_rowW,hst];first|done|fail) (by simp only [seval,go_sem,mapO_rowW,hst];first|done|fail) (by simp only [seval,go_sem,mapO_rowW,hst];rfl) ?_)|(refine TriD.cK (dst:=_) [] (by simp only [seval,go_sem,mapO_rowW,hst];rfl) (by simp only [seval,go_sem,mapO_rowW,hst];rfl) (c4) (by simp only [seval,go_sem,mapO_rowW,hst];first|done|fail) (by simp only [seval,go_sem,mapO_rowW,hst];first|done|fail) (by simp only [seval,go_sem,mapO_rowW,hst];rfl) ?_)|(refine TriD.cK (dst:=_) [] (by simp only [seval,go_sem,mapO_rowW,hst];rfl) (by simp only [seval,go_sem,mapO_rowW,hst];rfl) (c5) (by simp only [seval,go_sem,mapO_rowW,hst];first|done|fail) (by simp only [seval,go_sem,mapO_rowW,hst];first|done|fail) (by simp only [seval,go_sem,mapO_rowW,hst];rfl) ?_)));refine LVs (st:=[22,29,43,47,51,55,60,65,70]) ?_)|((with_reducible refine LVcall (st:=[22,29,43,47,51,55,60,65,70]) ?_);simp only [seval,go_sem,mapO_rowW,hst];first|(refine CallL.n4 (cn) ?_)|(refine CallL.c (config19_calls) ?_)))|((with_reducible first|refine TriD.step (by simp (disch:=omega) only [seval,go_sem,cnd,intV,shV,convV,strV,mapO_rowW,hst];rfl) ?_);refine LVs (st:=[22,29,43,47,51,55,60,65,70]) ?_)|(with_reducible refine isPtrEq ?_;with_reducible refine TriD.ptrEq (by simp only [seval,go_sem,mapO_rowW,hst]) (by simp only [seval,go_sem,mapO_rowW,hst];rfl) (by simp only [seval,go_sem,mapO_rowW,hst];rfl) (by simp only [seval,go_sem,mapO_rowW,hst];rfl) (by simp only [seval,go_sem,mapO_rowW,hst];rfl) ?_;refine LVs (st:=[22,29,43,47,51,55,60,65,70]) ?_))|(with_reducible refine isRet ?_;refine RetV (rs:=[.tmp 0]) (by with_unfolding_all rfl) rfl ?_<;>simp only [seval,go_sem]<;>(repeat' (with_reducible apply And.intro))<;>(try rfl))|(with_reducible (refine TVq (st:=[22,29,43,47,51,55,60,65,70]) ?_))|simp only [seval,go_sem,mapO_rowW,hst]|(with_reducible refine oV_st (by simp (disch:=omega) only [seval,go_sem,cnd,intV,shV,convV,strV,mapO_rowW,hst];rfl) ?_)))<;>(try (fail)))
 all_goals done
end Go.Proofs.Yteemiclhnfkekaa
/- StoreConfigs: the numbers that the law takes (plain). -/
set_option linter.unusedSimpArgs false
set_option linter.unusedVariables false
namespace Go.Proofs.Yteemiclhnfkekaa
open Go.RowKit Go.Avm Go.ChangeShapes Go.WideShapes Go.ChangeAt
theorem conf_k (n:Int): ∃ k:Int,([[D.sc (.int .i64 0)],[D.sc (.int .i64 (-1))],[D.sc (.int .i64 2097152)],[D.sc (.int .i64 32768)],[D.sc (.int .i64 2000)],[D.sc (.int .i64 65)],[D.sc (.int .i64 7)]]:List (List D))[(n/65536%8%7).toNat]? = some [.sc (.int .i64 k)]:=by
 have h:(n/65536%8%7).toNat<7:=by omega
 generalize (n/65536%8%7).toNat=i at *
 match i,h with
 | 0,_=>exact ⟨_,rfl⟩
 | 1,_=>exact ⟨_,rfl⟩
 | 2,_=>exact ⟨_,rfl⟩
 | 3,_=>exact ⟨_,rfl⟩
 | 4,_=>exact ⟨_,rfl⟩
 | 5,_=>exact ⟨_,rfl⟩
 | 6,_=>exact ⟨_,rfl⟩
end Go.Proofs.Yteemiclhnfkekaa
