/- Directory: the walks of List of the program and of the reference. -/
import Derived.Test.YteemiclhnfkekaaZStB
import Derived.Test.YteemiclhnfkekaaZDiF
import Derived.Sort.Walk0
import Derived.Lib.RowBridge
import Derived.Test.YteemiclhnfkekaaZCfg
set_option linter.unusedSimpArgs false
set_option linter.unusedVariables false
namespace Go.Proofs.Yteemiclhnfkekaa
open Go.RowKit Go.Avm Go.Sort
def toB (z:List UInt8):ByteArray:=⟨z.toArray⟩
def ofB (s:ByteArray):List UInt8:=s.data.toList
theorem toB_ofB (s:ByteArray):toB (ofB s)=s:=by cases s;simp [toB,ofB]
theorem rowN_enc (ns:List ByteArray):ns.map rowN=(ns.map ofB).map fun z=>[D.sc (encStr z)]:=by
 rw [List.map_map]
 apply List.map_congr_left
 intro s _
 have:=toB_ofB s
 simp only [toB] at this
 simp only [rowN,Function.comp,encStr,this]
theorem enc_rowN (zs:List (List UInt8)):(zs.map fun z=>[D.sc (encStr z)])=(zs.map toB).map rowN:=by
 rw [List.map_map];rfl
def sortN (ns:List ByteArray):List ByteArray:=((ns.map ofB).mergeSort fun x y=>decide (x≤y)).map toB
def compZ (zs:List (List UInt8)):List (List UInt8):=Lib.compact zs++List.replicate (zs.length-(Lib.compact zs).length) []
def compN (ns:List ByteArray):List ByteArray:=(Lib.compact (ns.map ofB)).map toB
def restN (ns:List ByteArray):List ByteArray:=(compZ (ns.map ofB)).map toB
theorem compZ_len (zs:List (List UInt8)):(compZ zs).length=zs.length:=by
 have:=Lib.compact_length_le zs
 simp only [compZ,List.length_append,List.length_replicate];omega
theorem sortn_calls {ns:List ByteArray} {n:Nat} (hn:ns.length=n) (h0:0<n) (hl:n≤1000000):MCalls Try.prog 57 [.row 1 (ns.map rowN)] [.slo 0 1 0 n] (.tup []) [.row 1 ((sortN ns).map rowN)]:=by
 subst hn
 have h:=sort_calls (enc:=encStr) (P:=Try.prog) (fun l=>l.mergeSort fun x y=>decide (x≤y)) (fun l=>by simp) (fun _=>rfl) call57 (fun blk cap zs w hH hb hs=>slices_Sort_string blk 0 cap zs w hH hb hs) (zs:=ns.map ofB) (fun e=>by simp at e;subst e;simp at h0) (by simpa using hl)
 rw [← rowN_enc,enc_rowN,List.length_map] at h
 exact h
theorem sortn_none:MCalls Try.prog 57 [.row 1 []] [.slo 0 1 0 0] (.tup []) [.row 1 []]:=none_calls call57 slices_Sort_string_none
theorem compn_calls {ns:List ByteArray} {n:Nat} (hn:ns.length=n) (h0:0<n) (hl:n≤1000000):MCalls Try.prog 58 [.row 1 (ns.map rowN)] [.slo 0 1 0 n] (.slo 0 1 0 (compN ns).length) [.row 1 ((restN ns).map rowN)]:=by
 subst hn
 have h:=head_calls (enc:=encStr) (P:=Try.prog) compZ (fun l=>(Lib.compact l).length) (fun l=>Lib.compact_length_le l) compZ_len (fun _=>rfl) call58 (fun blk cap zs w hH hb hs hc=>slices_Compact_string blk 0 cap zs w hH (by omega) hc) (zs:=ns.map ofB) (fun e=>by simp at e;subst e;simp at h0) (by simpa using hl)
 rw [← rowN_enc,enc_rowN,List.length_map] at h
 rw [compN,List.length_map]
 exact h
theorem compn_none:MCalls Try.prog 58 [.row 1 []] [.slo 0 1 0 0] (.slo 0 1 0 0) [.row 1 []]:=none_head call58 slices_Compact_string_empty
theorem restN_take (ns:List ByteArray):(restN ns).take (compN ns).length=compN ns:=by
 simp only [restN,compN,compZ,List.map_append,List.length_map]
 rw [List.take_left' (by simp)]
theorem restN_len (ns:List ByteArray):(restN ns).length=ns.length:=by simp [restN,compZ_len]
theorem sortN_len (ns:List ByteArray):(sortN ns).length=ns.length:=by simp [sortN]
def namesB (c:Int) (l:List Bd):List ByteArray:=(l.filter fun b=>holdsB b.frm b.to c).map (·.name)
def listP (c:Int) (l:List Bd):List ByteArray:=compN (sortN (namesB c l))
theorem namesB_cons (c:Int) (b:Bd) (l:List Bd):namesB c (b::l)=if holdsB b.frm b.to c=true then b.name::namesB c l else namesB c l:=by
 unfold namesB
 rw [List.filter_cons]
 split<;>rfl
set_option maxRecDepth 100000 in set_option maxHeartbeats 6400000 in
theorem list_calls {l:List Bd} {c:Int} (hl:l.length≤100000):ACalls Try.prog 41 [.sl 4 (l.map rowBd), .sc (.int .i64 c)] (.sl 1 ((listP c l).map rowN)) []:=by
 refine of_tri [] [7,16,20,21,24,26] Try.func41 rfl call41 rfl (by decide) (by decide) rfl rfl Try.ntmps41 (by simp (disch:=omega) only [seval,go_sem,cnd,intV,shV,convV,strV,List.replicate,l_2,l_1];rfl) (by simp (disch:=omega) only [seval,go_sem,cnd,intV,shV,convV,strV,l_2,l_1];rfl) ?_
 ((repeat' (first|(with_reducible (first|refine Tri.seq ?_|refine Tri.block ?_|refine TriD.nil ?_|refine thenQ_n ?_|refine Tri.regionD (by simp only [l_3,l_4];rfl) ?_))|((with_reducible refine isTriD ?_);(with_reducible refine TriD.step (by simp only [seval,go_sem];rfl) ?_))))<;>(try (fail)))
 (refine Tri.virt 5 21 1 (by first|(simp only [seval,go_sem];first|done|fail)) (by first|(simp only [seval,go_sem];first|done|fail)) (by simp only [seval,go_sem];rfl) ?_)
 (with_reducible refine Tri.loopU (fun (t:Nat×List ByteArray)=>[(10,.sc (.int .i64 t.1)),(5,.slo 21 1 0 t.2.length),(7,.any),(11,.any),(12,.any),(13,.any),(14,.any),(15,.any),(16,.any),(17,.any),(18,.any),(19,.any),(20,.any),(21,.any),(22,.any)]) (fun (t:Nat×List ByteArray)=>[(21,.row 1 (t.2.map rowN)),(7,.dead),(16,.dead),(20,.dead)]) (fun (t:Nat×List ByteArray)=>t.1≤l.length∧t.2.length≤t.1∧t.2++namesB c (l.drop t.1)=namesB c l) (fun (t:Nat×List ByteArray)=>l.length-t.1) ((0,[])) (⟨Nat.zero_le _,by simp,rfl⟩) (by intro _;simp (disch:=omega) only [seval,go_sem,cnd,intV,shV,convV,strV];rfl) (by intro _;simp (disch:=omega) only [seval,go_sem,cnd,intV,shV,convV,strV];rfl) (by (refine leQL_spec ?_);(try simp only [seval,go_sem]);first|done|fail) (by (refine leQH_spec ?_);(try simp only [seval,go_sem]);first|done|fail) (fun t hI=>?_))
 obtain ⟨k,ns⟩:=t
 obtain ⟨hk,hnl,hf⟩:=hI
 simp only at hk hnl hf
 by_cases hlt:k<l.length
 ·obtain ⟨b,hb⟩:=get_lt hlt
  have hb':=get_map rowBd hb
  rw [drop_get hb,namesB_cons] at hf
  cases hh:holdsB b.frm b.to c with
  | true=>
    rw [if_pos hh] at hf
    (all_goals (try have hZ:=(And.intro hb' hh));(repeat' (first|(with_reducible (first|refine Tri.seq ?_|refine Tri.block ?_|refine Tri.skip ?_|refine TriD.nil ?_|refine thenQ_n ?_|refine inBlockQ_n ?_|refine loopQ_n ?_|refine Tri.regionD (by simp only [l_3,l_4];rfl) ?_))|((with_reducible refine isTriD ?_);first|(with_reducible refine TriD.step (by simp only [seval,go_sem,rowBd,hZ];rfl) ?_)|((with_reducible refine isCallD ?_);((with_reducible (refine TriD.dE (by simp only [seval,go_sem,rowBd,hZ];rfl) (by simp only [seval,go_sem,rowBd,hZ];rfl) ?_));refine CallK.c [] (holds_calls) (by simp only [seval,go_sem,rowBd,hZ];rfl) ?_))|(with_reducible refine TriD.step (by simp (disch:=omega) only [seval,go_sem,cnd,intV,shV,convV,strV,rowBd,hZ];rfl) ?_))|(with_reducible refine isCond ?_;with_reducible refine Tri.cond (by simp only [seval,go_sem,rowBd,hZ];rfl) (cvI ?_) (cvI ?_))|(with_reducible refine isCv ?_;intro hc;(try simp only [bls,reduceCtorEq] at hc);(try (exfalso;omega)))))<;>(try (fail));all_goals (try clear hZ))
    all_goals (try (refine isNext ((k+1,ns++[b.name])) (by (refine leQL_spec ?_);(try simp only [seval,go_sem,rowN]);first|((repeat' (with_reducible apply And.intro))<;>first|rfl|(simp [rowN];done));first|done|fail) (by (refine leQH_spec ?_);(try simp only [seval,go_sem,rowN]);first|((repeat' (with_reducible apply And.intro))<;>first|(simp [rowN];done));first|done|fail) ?_ ?_<;>(try (omega))))
    all_goals (try (exact ⟨by simp only;omega,by simp only [List.length_append,List.length_cons,List.length_nil];omega,by simp only [List.append_assoc,List.cons_append,List.nil_append];exact hf⟩))
  | false=>
    rw [if_neg (by simp [hh])] at hf
    (all_goals (try have hZ:=(And.intro hb' hh));(repeat' (first|(with_reducible (first|refine Tri.seq ?_|refine Tri.block ?_|refine Tri.skip ?_|refine TriD.nil ?_|refine thenQ_n ?_|refine inBlockQ_n ?_|refine loopQ_n ?_|refine Tri.regionD (by simp only [l_3,l_4];rfl) ?_))|((with_reducible refine isTriD ?_);first|(with_reducible refine TriD.step (by simp only [seval,go_sem,rowBd,hZ];rfl) ?_)|((with_reducible refine isCallD ?_);((with_reducible (refine TriD.dE (by simp only [seval,go_sem,rowBd,hZ];rfl) (by simp only [seval,go_sem,rowBd,hZ];rfl) ?_));refine CallK.c [] (holds_calls) (by simp only [seval,go_sem,rowBd,hZ];rfl) ?_))|(with_reducible refine TriD.step (by simp (disch:=omega) only [seval,go_sem,cnd,intV,shV,convV,strV,rowBd,hZ];rfl) ?_))|(with_reducible refine isCond ?_;with_reducible refine Tri.cond (by simp only [seval,go_sem,rowBd,hZ];rfl) (cvI ?_) (cvI ?_))|(with_reducible refine isCv ?_;intro hc;(try simp only [bls,reduceCtorEq] at hc);(try (exfalso;omega)))))<;>(try (fail));all_goals (try clear hZ))
    all_goals (try (refine isNext ((k+1,ns)) (by (refine leQL_spec ?_);(try simp only [seval,go_sem]);first|((repeat' (with_reducible apply And.intro))<;>first|rfl);first|done|fail) (by (refine leQH_spec ?_);(try simp only [seval,go_sem]);first|done|fail) ?_ ?_<;>(try (omega))))
    all_goals (try (exact ⟨by simp only;omega,by simp only;omega,hf⟩))
 ·rw [List.drop_eq_nil_of_le (by omega),show namesB c []=[] from rfl,List.append_nil] at hf
  subst hf
  unfold listP
  by_cases hz:(namesB c l).length=0
  ·have e:namesB c l=[]:=List.eq_nil_of_length_eq_zero hz
   have e2:compN (sortN [])=[]:=by simp [compN,sortN,Lib.compact,Lib.compactUpTo]
   rw [e] at hnl ⊢
   rw [e2]
   ((repeat' (first|(with_reducible (first|refine Tri.seq ?_|refine Tri.exit ?_|refine Tri.ret ?_|refine TriD.nil ?_|refine thenQ_n ?_|refine thenQ_e ?_|refine inBlockQ_e ?_|refine loopQ_e ?_|refine Tri.regionD (by simp only [l_3,l_4];rfl) ?_))|((with_reducible refine isTriD ?_);first|(with_reducible refine TriD.step (by simp only [seval,go_sem,List.length_nil,l_4];rfl) ?_)|((with_reducible refine isCallD ?_);(with_reducible (first|(refine TriD.cI (dst:=_) [] (by simp only [seval,go_sem,List.length_nil,l_4];rfl) (by simp only [seval,go_sem,List.length_nil,l_4];rfl) (sortn_none) (by simp only [seval,go_sem,List.length_nil,l_4];first|done|fail) (by simp only [seval,go_sem,List.length_nil,l_4];first|done|fail) (by simp only [seval,go_sem,List.length_nil,l_4];rfl) ?_)|(refine TriD.cI (dst:=_) [] (by simp only [seval,go_sem,List.length_nil,l_4];rfl) (by simp only [seval,go_sem,List.length_nil,l_4];rfl) (compn_none) (by simp only [seval,go_sem,List.length_nil,l_4];first|done|fail) (by simp only [seval,go_sem,List.length_nil,l_4];first|done|fail) (by simp only [seval,go_sem,List.length_nil,l_4];rfl) ?_))))|(with_reducible refine TriD.step (by simp (disch:=omega) only [seval,go_sem,cnd,intV,shV,convV,strV,List.length_nil,l_4];rfl) ?_))|(with_reducible refine isCond ?_;with_reducible refine Tri.cond (by simp only [seval,go_sem,List.length_nil,l_4];rfl) (cvI ?_) (cvI ?_))|(with_reducible refine isCv ?_;intro hc;(try simp only [bls,reduceCtorEq] at hc);(try (exfalso;omega)))|(with_reducible refine isRet ?_;(refine RetOK.frz 21 (by simp only [seval,go_sem];rfl) (by simp only [seval,go_sem,List.length_nil,l_4];rfl) ?_);(with_reducible refine isRet ?_;refine RetOK.q rfl rfl (by simp only [seval,go_sem];rfl) (by decide) (by simp only [seval,go_sem];rfl) (by simp only [seval,go_sem];rfl) rfl ?_<;>(try simp only [seval,go_sem,List.length_nil,l_4])<;>(repeat' (with_reducible apply And.intro))<;>(try rfl)))))<;>(try (fail)))
   all_goals trace_state
  ·have hs:=sortN_len (namesB c l)
   have hr:=restN_take (sortN (namesB c l))
   have hr2:=congrArg (List.map rowN) hr
   rw [List.map_take] at hr2
   have hcl:((restN (sortN (namesB c l))).map rowN).length=(namesB c l).length:=by rw [List.length_map,restN_len,sortN_len]
   have hcc:(compN (sortN (namesB c l))).length≤(namesB c l).length:=by
    have:=Lib.compact_length_le ((sortN (namesB c l)).map ofB)
    rw [List.length_map,sortN_len] at this
    simp only [compN,List.length_map];exact this
   (all_goals (try have hZ:=(And.intro hr2 (And.intro hcl (And.intro hs hcc))));(repeat' (first|(with_reducible (first|refine Tri.seq ?_|refine Tri.exit ?_|refine Tri.ret ?_|refine TriD.nil ?_|refine thenQ_n ?_|refine thenQ_e ?_|refine inBlockQ_e ?_|refine loopQ_e ?_|refine Tri.regionD (by simp only [l_3,l_4];rfl) ?_))|((with_reducible refine isTriD ?_);first|(with_reducible refine TriD.step (by simp only [seval,go_sem,hZ];rfl) ?_)|((with_reducible refine isCallD ?_);(with_reducible (first|(refine TriD.cI (dst:=_) [] (by simp only [seval,go_sem,hZ];rfl) (by simp only [seval,go_sem,hZ];rfl) (sortn_calls ?_ ?_ ?_) (by simp only [seval,go_sem,hZ];rfl) (by simp only [seval,go_sem,hZ];rfl) (by simp only [seval,go_sem,hZ];rfl) ?_)|(refine TriD.cI (dst:=_) [] (by simp only [seval,go_sem,hZ];rfl) (by simp only [seval,go_sem,hZ];rfl) (compn_calls ?_ ?_ ?_) (by simp only [seval,go_sem,hZ];rfl) (by simp only [seval,go_sem,hZ];rfl) (by simp only [seval,go_sem,hZ];rfl) ?_))))|(with_reducible refine TriD.step (by simp (disch:=omega) only [seval,go_sem,cnd,intV,shV,convV,strV,hZ];rfl) ?_))|(with_reducible refine isCond ?_;with_reducible refine Tri.cond (by simp only [seval,go_sem,hZ];rfl) (cvI ?_) (cvI ?_))|(with_reducible refine isCv ?_;intro hc;(try simp only [bls,reduceCtorEq] at hc);(try (exfalso;omega)))|(with_reducible refine isRet ?_;(refine RetOK.frz 21 (by simp only [seval,go_sem];rfl) (by simp only [seval,go_sem,hZ];rfl) ?_);(with_reducible refine isRet ?_;refine RetOK.q rfl rfl (by simp only [seval,go_sem];rfl) (by decide) (by simp only [seval,go_sem];rfl) (by simp only [seval,go_sem];rfl) rfl ?_<;>(try simp only [seval,go_sem,hZ])<;>(repeat' (with_reducible apply And.intro))<;>(try rfl)))))<;>(try (first|(with_reducible assumption)|((with_reducible show (_:Nat)≤_);omega)));all_goals (try clear hZ))
   all_goals (try omega)
end Go.Proofs.Yteemiclhnfkekaa
/- The program's store walked: Create. -/
set_option linter.unusedSimpArgs false
set_option linter.unusedVariables false
namespace Go.Proofs.Yteemiclhnfkekaa
open Go.RowKit Go.Avm
/-- Pages for new bytes, one after another, as the program lays them. -/
def allocsU:Ar→List (List Int)→Ar×List Int
 | a,[]=>(a,[])
 | a,d::l=>((allocsU (allocU a d).1 l).1,(allocU a d).2.1::(allocsU (allocU a d).1 l).2)
def createS (s:Sr) (n:ByteArray) (d:List Int):Sr×Int×Int:=
 if nameOk n=false then (s,0,6) else if 65536<(d.length:Int) then (s,0,11) else if boundR s n=true then (s,0,9) else
 if s.c.nam≤((listP s.commit s.binds).length:Int)∨s.c.com≤s.commit∨s.c.pag<(s.ar.pages.length:Int)+((splitR d s.c.psz).1.length:Int) then (s,0,14) else
 ({ s with commit:=s.commit+1,last:=s.last+1,objs:=s.objs++[⟨s.last+1,[⟨s.commit+1,0,d.length,(allocsU s.ar (splitR d s.c.psz).1).2⟩]⟩],binds:=(bindB s.binds n (s.last+1) (s.commit+1)).1,ar:=(allocsU s.ar (splitR d s.c.psz).1).1 },s.commit+1,0)
theorem allocU_cap (a:Ar) (d:List Int):(allocU a d).1.cap=a.cap:=by
 unfold allocU
 split
 ·rfl
 ·split<;>rfl
theorem allocU_len (a:Ar) (d:List Int):(allocU a d).1.pages.length≤a.pages.length+1:=by
 unfold allocU
 split
 ·exact Nat.le_succ _
 ·split
  ·exact Nat.le_succ _
  ·simp
theorem allocsU_snoc (d:List Int): ∀ (l:List (List Int)) (a:Ar),allocsU a (l++[d])=((allocU (allocsU a l).1 d).1,(allocsU a l).2++[(allocU (allocsU a l).1 d).2.1])
 | [],a=>rfl
 | x::l,a=>by
   rw [List.cons_append,allocsU,allocsU_snoc d l,allocsU];rfl
theorem allocsU_cap: ∀ (l:List (List Int)) (a:Ar),(allocsU a l).1.cap=a.cap
 | [],_=>rfl
 | x::l,a=>by rw [allocsU];exact (allocsU_cap l _).trans (allocU_cap a x)
theorem allocsU_len: ∀ (l:List (List Int)) (a:Ar),(allocsU a l).1.pages.length≤a.pages.length+l.length∧(allocsU a l).2.length=l.length
 | [],_=>⟨Nat.le_refl _,rfl⟩
 | x::l,a=>by
   rw [allocsU]
   have:=allocsU_len l (allocU a x).1
   have:=allocU_len a x
   simp only [List.length_cons];omega
theorem chunks_len {sz:Nat} (h:1≤sz): ∀ (k:Nat) (l:List Int),(chunks sz k l).length≤l.length∧ ∀ x∈chunks sz k l,x.length≤l.length
 | 0,l=>by simp [chunks]
 | k+1,l=>by
   rw [chunks]
   split
   ·simp
   ·have h1:=(chunks_len h k (l.drop sz)).1
    have h2:=(chunks_len h k (l.drop sz)).2
    rw [List.length_drop] at h1 h2
    refine ⟨by rw [List.length_cons];omega,fun x hx=>?_⟩
    rcases List.mem_cons.1 hx with rfl|hx
    ·rw [List.length_take];omega
    ·have:=h2 x hx;omega
theorem splitR_len {d:List Int} {sz:Int} (h:8≤sz):(splitR d sz).1.length≤d.length∧ ∀ x∈(splitR d sz).1,x.length≤d.length:=by
 unfold splitR
 split
 ·simp
 ·exact chunks_len (by omega) _ _
end Go.Proofs.Yteemiclhnfkekaa
/- The program's store walked: Create, its main road. -/
set_option linter.unusedSimpArgs false
set_option linter.unusedVariables false
namespace Go.Proofs.Yteemiclhnfkekaa
open Go.RowKit Go.Avm
theorem allocsU0 (a:Ar):allocsU a []=(a,[]):=rfl
set_option maxRecDepth 100000 in set_option maxHeartbeats 12800000 in
theorem sc_ok {a1 a2 a3 a4 a5 a6 a7 com last cap:Int} {os:List Ob} {bs:List Bd} {ps:List Pn} {pg:List Pg} {n:ByteArray} {d:List Int} (hb:bs.length≤100000) (hdl:d.length≤200) (hs:8≤a4∧a4≤1024) (hg:pg.length≤50000) (hr1:0≤com) (hrb:com≤1000000) (hr3:0≤last) (hr4:last≤1000000) (hid: ∀ o∈os,o.id≠last+1)
  (c1:nameOk n=true) (c2:boundR ⟨⟨a1,a2,a3,a4,a5,a6,a7⟩,com,last,os,bs,ps,⟨cap,pg⟩⟩ n=false) (d1: ¬ a2≤((listP com bs).length:Int)) (d2: ¬ a6≤com) (d3: ¬ a3<(pg.length:Int)+((splitR d a4).1.length:Int)):
  MCalls Try.prog 28 [.box [.sc (.int .i64 a1),.sc (.int .i64 a2),.sc (.int .i64 a3),.sc (.int .i64 a4),.sc (.int .i64 a5),.sc (.int .i64 a6),.sc (.int .i64 a7),.sc (.int .i64 com),.mp 1,.sc (.int .i64 last),.sl 4 (bs.map rowBd),.sl 2 (ps.map rowP),.ref 2 0],.ext (mapX (.int .i64) (mapOb os)),.box [.sc (.int .i64 cap),.mp 3],.ext (mapB (.int .i64) (ownB (mapPg pg)))] [.ref 0 0,.sc (.string n),.sl 1 (d.map rowW)] (.tup [.sc (.int .i64 (com+1)),.sc (.int .i64 0)])
   [.box [.sc (.int .i64 a1),.sc (.int .i64 a2),.sc (.int .i64 a3),.sc (.int .i64 a4),.sc (.int .i64 a5),.sc (.int .i64 a6),.sc (.int .i64 a7),.sc (.int .i64 (com+1)),.mp 1,.sc (.int .i64 (last+1)),.sl 4 ((bindB bs n (last+1) (com+1)).1.map rowBd),.sl 2 (ps.map rowP),.ref 2 0],.ext (mapX (.int .i64) (mapOb (os++[⟨last+1,[⟨com+1,0,d.length,(allocsU ⟨cap,pg⟩ (splitR d a4).1).2⟩]⟩]))),.box [.sc (.int .i64 cap),.mp 3],.ext (mapB (.int .i64) (ownB (mapPg (allocsU ⟨cap,pg⟩ (splitR d a4).1).1.pages)))]:=by
 have hsp:=split_calls (b:=d) (sz:=a4) hdl hs.1 hs.2
 have hpl:=splitR_len (d:=d) hs.1
 generalize splitR d a4=SP at *
 obtain ⟨L,se⟩:=SP
 simp only at hsp hpl d3 ⊢
 have c0: ¬ 65536<(d.length:Int):=by omega
 have hbd:=sbound_calls (a1:=a1) (a2:=a2) (a3:=a3) (a4:=a4) (a5:=a5) (a6:=a6) (a7:=a7) (com:=com) (last:=last) (cap:=cap) (os:=os) (bs:=bs) (ps:=ps) (pg:=pg) (n:=n) hb
 rw [c2] at hbd
 have hli:=list_calls (l:=bs) (c:=com) hb
 have hbi:=bind_calls (l:=bs) (n:=n) (o:=last+1) (c:=com+1) hb
 generalize listP com bs=LP at *
 generalize bindB bs n (last+1) (com+1)=BI at *
 obtain ⟨bi,be⟩:=BI
 simp only at hbi ⊢
 refine of_tri [1000,1001,1002,1003] [10,22,27,36,46,56,60,91,97,98,124,140] Try.func28 rfl call28 rfl (by decide) (by decide) (by first|rfl) (by first|(simp only [seval,go_sem,List.all_cons,List.all_nil,Bool.and_true,List.length_cons,List.length_nil];done)) Try.ntmps28 (by simp (disch:=omega) only [seval,go_sem,cnd,intV,shV,convV,strV,List.replicate,l_2,l_1];rfl) (by simp (disch:=omega) only [seval,go_sem,cnd,intV,shV,convV,strV,l_2,l_1];rfl) ?_
 ((repeat' (first|((with_reducible refine isTriD ?_);first|((with_reducible refine isCallD ?_);first|((with_reducible (first|(refine TriD.cK (dst:=_) [] (by simp only [seval,go_sem,c1,c0,d1,d2,d3];rfl) (by simp only [seval,go_sem,c1,c0,d1,d2,d3];rfl) (hbd) (by simp only [seval,go_sem,c1,c0,d1,d2,d3];first|done|fail) (by simp only [seval,go_sem,c1,c0,d1,d2,d3];first|done|fail) (by simp only [seval,go_sem,c1,c0,d1,d2,d3];rfl) ?_)|(refine TriD.cK (dst:=_) [] (by simp only [seval,go_sem,c1,c0,d1,d2,d3];rfl) (by simp only [seval,go_sem,c1,c0,d1,d2,d3];rfl) (sfull_calls) (by simp only [seval,go_sem,c1,c0,d1,d2,d3];first|done|fail) (by simp only [seval,go_sem,c1,c0,d1,d2,d3];rfl) (by simp only [seval,go_sem,c1,c0,d1,d2,d3];rfl) ?_)|(refine TriD.cK (dst:=_) [] (by simp only [seval,go_sem,c1,c0,d1,d2,d3];rfl) (by simp only [seval,go_sem,c1,c0,d1,d2,d3];rfl) (slive_calls) (by simp only [seval,go_sem,c1,c0,d1,d2,d3];first|done|fail) (by simp only [seval,go_sem,c1,c0,d1,d2,d3];rfl) (by simp only [seval,go_sem,c1,c0,d1,d2,d3];rfl) ?_)));refine LVs (st:=[]) ?_)|((with_reducible refine LVcall (st:=[]) ?_);simp only [seval,go_sem,c1,c0,d1,d2,d3];first|(refine CallL.c (hsp) ?_)|(refine CallL.c (hli) ?_)|(refine CallL.c (isname_calls) ?_)))|((with_reducible first|refine TriD.step (by simp only [seval,go_sem,c1,c0,d1,d2,d3];rfl) ?_);refine LVs (st:=[]) ?_))|(with_reducible exact endS_n)|(with_reducible refine isDrawnN 8 ?_;with_reducible apply Tri.cutS;refine Tri.mixedP 8 mix 34 rfl (.f 0 <| .f 1 <| .f 2 <| .f 4 <| .f 5 <| .f 6 <| .f 10 <| .f 11 <| .f 12 <| .f 13 <| .a <| .b 3 (.a <| .b 7 (.a <| .b 8 (.f 9 <| .a <| .b 14 (.f 15 <| .f 16 <| .f 17 <| .a <| .b 18 (.f 19 <| .f 20 <| .f 21 <| .f 23 <| .f 24 <| .f 26 <| .f 27 <| .f 28 <| .f 29 <| .a <| .b 22 (.f 25 <| .a <| .b 30 (.f 31 <| .f 32 <| .f 33 <| .d) .e) <| .b 30 (.a <| .b 22 (.f 25 <| .f 31 <| .f 32 <| .f 33 <| .d) .e) .e) .e) .e) <| .b 14 (.a <| .b 8 (.f 9 <| .f 15 <| .f 16 <| .f 17 <| .a <| .b 18 (.f 19 <| .f 20 <| .f 21 <| .f 23 <| .f 24 <| .f 26 <| .f 27 <| .f 28 <| .f 29 <| .a <| .b 22 (.f 25 <| .a <| .b 30 (.f 31 <| .f 32 <| .f 33 <| .d) .e) <| .b 30 (.a <| .b 22 (.f 25 <| .f 31 <| .f 32 <| .f 33 <| .d) .e) .e) .e) .e) .e) <| .b 14 (.a <| .b 7 (.a <| .b 8 (.f 9 <| .f 15 <| .f 16 <| .f 17 <| .a <| .b 18 (.f 19 <| .f 20 <| .f 21 <| .f 23 <| .f 24 <| .f 26 <| .f 27 <| .f 28 <| .f 29 <| .a <| .b 22 (.f 25 <| .a <| .b 30 (.f 31 <| .f 32 <| .f 33 <| .d) .e) <| .b 30 (.a <| .b 22 (.f 25 <| .f 31 <| .f 32 <| .f 33 <| .d) .e) .e) .e) .e) .e) .e) <| .b 7 (.a <| .b 3 (.a <| .b 8 (.f 9 <| .a <| .b 14 (.f 15 <| .f 16 <| .f 17 <| .a <| .b 18 (.f 19 <| .f 20 <| .f 21 <| .f 23 <| .f 24 <| .f 26 <| .f 27 <| .f 28 <| .f 29 <| .a <| .b 22 (.f 25 <| .a <| .b 30 (.f 31 <| .f 32 <| .f 33 <| .d) .e) <| .b 30 (.a <| .b 22 (.f 25 <| .f 31 <| .f 32 <| .f 33 <| .d) .e) .e) .e) .e) <| .b 14 (.a <| .b 8 (.f 9 <| .f 15 <| .f 16 <| .f 17 <| .a <| .b 18 (.f 19 <| .f 20 <| .f 21 <| .f 23 <| .f 24 <| .f 26 <| .f 27 <| .f 28 <| .f 29 <| .a <| .b 22 (.f 25 <| .a <| .b 30 (.f 31 <| .f 32 <| .f 33 <| .d) .e) <| .b 30 (.a <| .b 22 (.f 25 <| .f 31 <| .f 32 <| .f 33 <| .d) .e) .e) .e) .e) .e) <| .b 14 (.a <| .b 3 (.a <| .b 8 (.f 9 <| .f 15 <| .f 16 <| .f 17 <| .a <| .b 18 (.f 19 <| .f 20 <| .f 21 <| .f 23 <| .f 24 <| .f 26 <| .f 27 <| .f 28 <| .f 29 <| .a <| .b 22 (.f 25 <| .a <| .b 30 (.f 31 <| .f 32 <| .f 33 <| .d) .e) <| .b 30 (.a <| .b 22 (.f 25 <| .f 31 <| .f 32 <| .f 33 <| .d) .e) .e) .e) .e) .e) .e) <| .b 14 (.a <| .b 3 (.a <| .b 7 (.a <| .b 8 (.f 9 <| .f 15 <| .f 16 <| .f 17 <| .a <| .b 18 (.f 19 <| .f 20 <| .f 21 <| .f 23 <| .f 24 <| .f 26 <| .f 27 <| .f 28 <| .f 29 <| .a <| .b 22 (.f 25 <| .a <| .b 30 (.f 31 <| .f 32 <| .f 33 <| .d) .e) <| .b 30 (.a <| .b 22 (.f 25 <| .f 31 <| .f 32 <| .f 33 <| .d) .e) .e) .e) .e) .e) <| .b 7 (.a <| .b 3 (.a <| .b 8 (.f 9 <| .f 15 <| .f 16 <| .f 17 <| .a <| .b 18 (.f 19 <| .f 20 <| .f 21 <| .f 23 <| .f 24 <| .f 26 <| .f 27 <| .f 28 <| .f 29 <| .a <| .b 22 (.f 25 <| .a <| .b 30 (.f 31 <| .f 32 <| .f 33 <| .d) .e) <| .b 30 (.a <| .b 22 (.f 25 <| .f 31 <| .f 32 <| .f 33 <| .d) .e) .e) .e) .e) .e) .e) .e) (by kernel_rfl) ?_)|(with_reducible refine isAnyP ?_;first|refine AnyP.D ?_|refine AnyP.Fn (by simp only [seval,go_sem,l_7,l_6];rfl) (by first|(simp only [seval,go_sem,c1,c0,d1,d2,d3];with_reducible rfl)) ?_|refine AnyP.F (by simp only [seval,go_sem,l_7,l_6];rfl) (by first|(simp only [seval,go_sem,c1,c0,d1,d2,d3];first|done|fail)) (by first|(simp only [seval,go_sem,c1,c0,d1,d2,d3];with_reducible rfl)|(simp (disch:=omega) only [seval,go_sem,cnd,intV,shV,convV,strV,c1,c0,d1,d2,d3];with_reducible rfl)) ?_|refine AnyP.A ?_)|(with_reducible first|exact NextsP.E|refine NextsP.B (by simp only [seval,go_sem,l_7,l_6];rfl) ?_ ?_)|(with_reducible (refine TVq (st:=[]) ?_))|simp only [seval,go_sem,c1,c0,d1,d2,d3]|(with_reducible refine oV_st (by simp (disch:=omega) only [seval,go_sem,cnd,intV,shV,convV,strV,c1,c0,d1,d2,d3];rfl) ?_)))<;>(try (fail)))
 all_goals (refine Tri.virtB 10 3 60 1 (by simp only [seval,go_sem];rfl) (by simp only [seval,go_sem];first|done|fail) (by decide) (by first|(simp only [seval,go_sem];first|done|fail)) (by simp only [seval,go_sem];rfl) ?_)
 all_goals (with_reducible refine Tri.loopV (fun (i:Nat)=>[(81,.sc (.int .i64 i)),(12,.any),(13,.any),(14,.any),(82,.any),(83,.any),(84,.any),(85,.any),(86,.any),(87,.any),(88,.any),(89,.any),(90,.any),(91,.any),(92,.any),(93,.any),(94,.any),(95,.any),(96,.any),(97,.any),(98,.any),(99,.any),(100,.any)]) (fun (i:Nat)=>[(10,.box [.sc (.int .i64 (com+1)),.sc (.int .i64 0),.sc (.int .i64 d.length),.slo 60 1 0 i]),(60,.row 1 (((allocsU ⟨cap,pg⟩ (L.take i)).2).map rowI)),(1003,.ext (mapB (.int .i64) (ownB (mapPg (allocsU ⟨cap,pg⟩ (L.take i)).1.pages)))),(91,.dead),(97,.dead),(98,.dead)]) (fun (i:Nat)=>i≤L.length) (fun (i:Nat)=>L.length-i) (0) (Nat.zero_le _) (by intro _;simp (disch:=omega) only [seval,go_sem,cnd,intV,shV,convV,strV];rfl) (by intro _;simp (disch:=omega) only [seval,go_sem,cnd,intV,shV,convV,strV];rfl) (by (refine leQL_spec ?_);(try simp only [seval,go_sem,List.take_zero,allocsU0,l_4]);first|done|fail) (by (refine leQH_spec ?_);(try simp only [seval,go_sem,List.take_zero,allocsU0,l_4]);first|done|fail) (fun i hI=>?_))
 all_goals
  have hal:=allocsU_len (L.take i) ⟨cap,pg⟩
  have hac:=allocsU_cap (L.take i) ⟨cap,pg⟩
  rw [List.length_take] at hal
  by_cases hlt:i<L.length
  ·obtain ⟨x,hx⟩:=get_lt hlt
   have hx':=get_map rowL hx
   have htk:L.take (i+1)=L.take i++[x]:=by rw [List.take_add_one,hx];rfl
   have hsn:=allocsU_snoc x (L.take i) ⟨cap,pg⟩
   rw [← htk] at hsn
   generalize allocsU ⟨cap,pg⟩ (L.take i)=X at *
   obtain ⟨⟨xc,xl⟩,xn⟩:=X
   simp only at hal hac hsn ⊢
   subst hac
   have hak:=aalloc_calls (cap:=xc) (l:=xl) (d:=x) (by omega) (by have:=hpl.2 x (List.mem_of_getElem? hx);omega)
   generalize allocU ⟨xc,xl⟩ x=Y at *
   obtain ⟨⟨yc,yl⟩,yn,ye⟩:=Y
   have hs1:(allocsU ⟨xc,pg⟩ (L.take (i+1))).2=xn++[yn]:=by rw [hsn]
   have hs2:(allocsU ⟨xc,pg⟩ (L.take (i+1))).1.pages=yl:=by rw [hsn]
   simp only at hak
   have hxl:(xn.map rowI).length=i:=by rw [List.length_map];omega
   (all_goals (try have hZ:=(And.intro hx' hxl));(repeat' (first|((with_reducible refine isTriD ?_);((with_reducible refine isCallD ?_);((with_reducible ((refine TriD.cJ (dst:=_) [] (by simp only [seval,go_sem,rowL,hZ];rfl) (by simp only [seval,go_sem,rowL,hZ];rfl) (hak) (by simp only [seval,go_sem,rowL,hZ];first|done|fail) (by simp only [seval,go_sem,rowL,hZ];first|done|fail) (by simp only [seval,go_sem,rowL,hZ];rfl) ?_)));refine LVs (st:=[]) ?_)))|(with_reducible (refine TVq (st:=[]) ?_))|simp only [seval,go_sem,rowL,hZ]|(with_reducible refine oV_st (by simp (disch:=omega) only [seval,go_sem,cnd,intV,shV,convV,strV,rowL,hZ];rfl) ?_)))<;>(try (fail));all_goals (try clear hZ))
   all_goals (try ((refine isNextVM (i+1) (Imp.rnTo 98 60 (by decide) (by first|(simp only [seval,go_sem];first|done|fail)) (by simp only [seval,go_sem];rfl) (Imp.les (by (refine leQL_spec ?_);(try simp only [seval,go_sem,hs1,hs2,rowI,List.map_append,l_3,l_4]);first|((repeat' (with_reducible apply And.intro))<;>first|rfl);first|done|fail) (by (refine leQH_spec ?_);(try simp only [seval,go_sem,hs1,hs2,rowI,List.map_append,l_3,l_4]);first|((repeat' (with_reducible apply And.intro))<;>first|(simp [hs1,hs2,rowI,List.map_append,l_3,l_4];omega));first|done|fail))) ?_ ?_)<;>(try (omega))))
   all_goals done
  ·have e1:i=L.length:=by omega
   subst e1
   rw [List.take_length] at hal hac ⊢
   generalize allocsU ⟨cap,pg⟩ L=X at *
   obtain ⟨⟨xc,xl⟩,xn⟩:=X
   simp only at hal hac ⊢
   have hxn:xn.length=L.length:=by omega
   rw [← hxn]
   have hms:mSet (.int .i64 (last+1)) (.sl 4 [[D.sc (.int .i64 (com+1)), .sc (.int .i64 0), .sc (.int .i64 d.length), .sl 1 (xn.map rowI)]]) (mapOb os)=mapOb (os++[⟨last+1,[⟨com+1,0,d.length,xn⟩]⟩]):=by
    rcases ob_at (last+1) os with ⟨q1,q2,q3,q4,q5⟩|⟨j,o,q1,q2,_⟩
    ·rw [q4, ← mapOb_snoc];rfl
    ·exact absurd q2 (hid o (List.mem_of_getElem? q1))
   (refine Tri.frz 60 (by simp only [seval,go_sem];rfl) (by simp only [seval,go_sem];rfl) ?_)
   ((repeat' (first|((with_reducible refine isTriD ?_);first|((with_reducible refine isCallD ?_);((with_reducible refine LVcall (st:=[]) ?_);simp only [seval,go_sem,hms];(refine CallL.c (hbi) ?_;simp only [seval,go_sem,hms];(fail_if_success (with_reducible refine isResV ?_)))))|((with_reducible first|refine TriD.step (by simp only [seval,go_sem,hms];rfl) ?_);refine LVs (st:=[]) ?_)|(with_reducible refine isMapUpdate ?_;with_reducible refine TriD.mapUpdate (by simp only [seval,go_sem,hms]) (by simp only [seval,go_sem,hms];rfl) (by simp only [seval,go_sem,hms];rfl) (by simp only [seval,go_sem,hms];rfl) (by simp only [seval,go_sem,hms];rfl) (by simp only [seval,go_sem,hms];rfl) (by simp only [seval,go_sem,hms];rfl) (by simp only [seval,go_sem,hms];rfl) (by simp only [seval,go_sem,hms];first|done|fail) (by simp only [seval,go_sem,hms];rfl) (by simp only [seval,go_sem,hms];first|done|fail) (by simp only [seval,go_sem,hms];rfl) ?_;refine LVs (st:=[]) ?_))|(with_reducible exact endS_n)|(with_reducible refine isDrawnN 19 ?_;with_reducible apply Tri.cutS;refine Tri.mixedP 19 mix 11 rfl (.f 0 <| .f 1 <| .f 2 <| .f 4 <| .f 5 <| .f 6 <| .a <| .b 3 (.a <| .b 7 (.a <| .b 8 (.a <| .b 9 (.a <| .b 10 (.d) .e) .e) .e) <| .b 8 (.a <| .b 7 (.a <| .b 9 (.a <| .b 10 (.d) .e) .e) <| .b 9 (.a <| .b 7 (.a <| .b 10 (.d) .e) .e) .e) .e) <| .b 7 (.a <| .b 3 (.a <| .b 8 (.a <| .b 9 (.a <| .b 10 (.d) .e) .e) .e) <| .b 8 (.a <| .b 3 (.a <| .b 9 (.a <| .b 10 (.d) .e) .e) <| .b 9 (.a <| .b 3 (.a <| .b 10 (.d) .e) .e) .e) .e) <| .b 8 (.a <| .b 3 (.a <| .b 7 (.a <| .b 9 (.a <| .b 10 (.d) .e) .e) <| .b 9 (.a <| .b 7 (.a <| .b 10 (.d) .e) .e) .e) <| .b 7 (.a <| .b 3 (.a <| .b 9 (.a <| .b 10 (.d) .e) .e) <| .b 9 (.a <| .b 3 (.a <| .b 10 (.d) .e) .e) .e) <| .b 9 (.a <| .b 3 (.a <| .b 7 (.a <| .b 10 (.d) .e) .e) <| .b 7 (.a <| .b 3 (.a <| .b 10 (.d) .e) .e) .e) .e) .e) (by kernel_rfl) ?_)|(with_reducible refine isDrawnN 20 ?_;with_reducible apply Tri.cutS;refine Tri.mixedP 20 mix 21 rfl (.f 0 <| .f 1 <| .f 2 <| .f 3 <| .f 5 <| .f 6 <| .f 7 <| .f 8 <| .f 10 <| .f 11 <| .f 12 <| .a <| .b 4 (.a <| .b 9 (.a <| .b 13 (.a <| .b 14 (.f 15 <| .f 16 <| .f 17 <| .f 18 <| .f 19 <| .a <| .b 20 (.d) .e) .e) .e) <| .b 13 (.a <| .b 9 (.a <| .b 14 (.f 15 <| .f 16 <| .f 17 <| .f 18 <| .f 19 <| .a <| .b 20 (.d) .e) .e) .e) .e) <| .b 9 (.a <| .b 4 (.a <| .b 13 (.a <| .b 14 (.f 15 <| .f 16 <| .f 17 <| .f 18 <| .f 19 <| .a <| .b 20 (.d) .e) .e) .e) <| .b 13 (.a <| .b 4 (.a <| .b 14 (.f 15 <| .f 16 <| .f 17 <| .f 18 <| .f 19 <| .a <| .b 20 (.d) .e) .e) .e) .e) <| .b 13 (.a <| .b 4 (.a <| .b 9 (.a <| .b 14 (.f 15 <| .f 16 <| .f 17 <| .f 18 <| .f 19 <| .a <| .b 20 (.d) .e) .e) .e) <| .b 9 (.a <| .b 4 (.a <| .b 14 (.f 15 <| .f 16 <| .f 17 <| .f 18 <| .f 19 <| .a <| .b 20 (.d) .e) .e) .e) .e) .e) (by kernel_rfl) ?_)|(with_reducible refine isAnyP ?_;first|refine anyP_frz 124 (by simp only [seval,go_sem,hms];with_reducible rfl) (by simp only [seval,go_sem,hms];with_reducible rfl) ?_|refine AnyP.D ?_|refine AnyP.Fn (by simp only [seval,go_sem,l_7,l_6];rfl) (by first|(simp only [seval,go_sem,hms];with_reducible rfl)) ?_|refine AnyP.F (by simp only [seval,go_sem,l_7,l_6];rfl) (by first|(simp only [seval,go_sem,hms];first|done|fail)) (by first|(simp only [seval,go_sem,hms];with_reducible rfl)) ?_|refine AnyP.A ?_)|(with_reducible first|exact NextsP.E|refine NextsP.B (by simp only [seval,go_sem,l_7,l_6];rfl) ?_ ?_)|(with_reducible refine isRet ?_;refine RetV (rs:=[.tmp 6,.tmp 7]) (by with_unfolding_all rfl) rfl ?_<;>simp only [seval,go_sem]<;>(repeat' (with_reducible apply And.intro))<;>(try rfl))|(with_reducible (refine TVq (st:=[]) ?_))|simp only [seval,go_sem,hms]|(with_reducible refine oV_st (by simp (disch:=omega) only [seval,go_sem,cnd,intV,shV,convV,strV,hms];rfl) ?_)))<;>(try (fail)))
   all_goals done
end Go.Proofs.Yteemiclhnfkekaa
/- The program's store walked: Put, its error roads. -/
set_option linter.unusedSimpArgs false
set_option linter.unusedVariables false
namespace Go.Proofs.Yteemiclhnfkekaa
open Go.RowKit Go.Avm
/-- A page of a new version: the old one held, or a new one. -/
def stepU (a:Ar) (d:List Int) (b:Bool) (n:Int):Ar×Int:=if b=true then ((holdR a n).1,n) else ((allocU a d).1,(allocU a d).2.1)
def putsI (a:Ar) (l:List (List Int)) (bs:List Bool) (o:List Int):Nat→Ar×List Int
 | 0=>(a,[])
 | i+1=>((stepU (putsI a l bs o i).1 ((l[i]?).getD []) ((bs[i]?).getD false) ((o[i]?).getD 0)).1,(putsI a l bs o i).2++[(stepU (putsI a l bs o i).1 ((l[i]?).getD []) ((bs[i]?).getD false) ((o[i]?).getD 0)).2])
theorem needR_snoc (b:Bool): ∀ l:List Bool,needR (l++[b])=needR l+(if b=true then 0 else 1)
 | []=>by cases b<;>rfl
 | x::l=>by
   rw [List.cons_append,needR,needR,needR_snoc b l]
   split<;>omega
theorem needR_rng: ∀ l:List Bool,0≤needR l∧needR l≤l.length
 | []=>⟨Int.le_refl _,Int.le_refl _⟩
 | x::l=>by
   have:=needR_rng l
   rw [needR]
   simp only [List.length_cons]
   split<;>omega
theorem sharedR_len: ∀ (o l:List (List Int)),(sharedR o l).length=l.length
 | [],[]=>rfl
 | _::_,[]=>rfl
 | [],x::l=>by rw [sharedR,List.length_cons,sharedR_len [] l,List.length_cons]
 | y::o,x::l=>by rw [sharedR,List.length_cons,sharedR_len o l,List.length_cons]
theorem sharedR_at: ∀ (o l:List (List Int)) (i:Nat),(sharedR o l)[i]? = some true→i<o.length
 | _,[],i,h=>by simp [sharedR] at h
 | [],x::l,0,h=>by simp [sharedR] at h
 | [],x::l,i+1,h=>by
   have:=sharedR_at [] l i (by simpa [sharedR] using h)
   simp at this
 | y::o,x::l,0,h=>by simp
 | y::o,x::l,i+1,h=>by
   have:=sharedR_at o l i (by simpa [sharedR] using h)
   simp;omega
theorem stored_dat {cap:Int} {pg:List Pg} {p:List Int} (hpd: ∀ x∈pg,x.data.length≤1024∧ ∀ z∈x.data,0≤z∧z≤255): ∀ x∈storedR ⟨cap,pg⟩ p, ∀ z∈x,0≤z∧z≤255:=by
 intro x hx z hz
 obtain ⟨m,_,rfl⟩:=List.mem_map.1 hx
 rcases pg_at m pg with ⟨h1,_⟩|⟨j,q,h1,h2,h3,h4,_⟩
 ·simp [dataR,h1] at hz
 ·rw [dataR,if_neg (by rw [h3];omega),h4] at hz
  exact (hpd q (List.mem_of_getElem? h1)).2 z hz
theorem chunks_mem {sz:Nat}: ∀ (k:Nat) (l:List Int), ∀ x∈chunks sz k l, ∀ z∈x,z∈l
 | 0,l,x,hx,_,_=>by simp [chunks] at hx
 | k+1,l,x,hx,z,hz=>by
   rw [chunks] at hx
   split at hx
   ·cases hx
   ·rcases List.mem_cons.1 hx with rfl|hx
    ·exact List.mem_of_mem_take hz
    ·exact List.mem_of_mem_drop (chunks_mem k (l.drop sz) x hx z hz)
theorem splitR_dat {sz:Int} {d:List Int} (h: ∀ z∈d,0≤z∧z≤255): ∀ x∈(splitR d sz).1, ∀ z∈x,0≤z∧z≤255:=by
 unfold splitR
 split
 ·intro x hx;cases hx
 ·exact fun x hx z hz=>h z (chunks_mem _ _ x hx z hz)
theorem putsI_inv (a:Ar) (l:List (List Int)) (bs:List Bool) (o:List Int): ∀ i,(putsI a l bs o i).1.cap=a.cap∧(putsI a l bs o i).1.pages.length≤a.pages.length+i∧(putsI a l bs o i).2.length=i
 | 0=>⟨rfl,Nat.le_refl _,rfl⟩
 | i+1=>by
   obtain ⟨h1,h2,h3⟩:=putsI_inv a l bs o i
   rw [putsI]
   generalize putsI a l bs o i=X at *
   refine ⟨?_,?_,by simp [h3]⟩
   ·unfold stepU
    split
    ·simp only [holdR]
     split<;>exact h1
    ·exact (allocU_cap _ _).trans h1
   ·unfold stepU
    split
    ·have:(holdR X.1 ((o[i]?).getD 0)).1.pages.length=X.1.pages.length:=by
      simp only [holdR]
      split
      ·rfl
      ·simp [setRefs]
     simp only;omega
    ·have:=allocU_len X.1 ((l[i]?).getD [])
     simp only;omega
end Go.Proofs.Yteemiclhnfkekaa
