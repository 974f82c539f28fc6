/- Directory: the walks of Bind, Unbind and Rename of the program and of the reference. -/
import Derived.Test.YteemiclhnfkekaaZDiB
import Derived.Test.YteemiclhnfkekaaZCfg
import Derived.Test.YteemiclhnfkekaaZSlInsB
import Derived.Test.YteemiclhnfkekaaZCov
import Derived.Test.YteemiclhnfkekaaZAvmS
import Derived.Test.YteemiclhnfkekaaZAvmW
set_option linter.unusedSimpArgs false
set_option linter.unusedVariables false
namespace Go.Proofs.Yteemiclhnfkekaa
open Go.RowKit Go.Avm
set_option maxRecDepth 100000 in set_option maxHeartbeats 6400000 in
theorem bind_calls {l:List Bd} {n:ByteArray} {o c:Int} (hl:l.length≤100000):ACalls Try.prog 43 [.sl 4 (l.map rowBd), .sc (.string n), .sc (.int .i64 o), .sc (.int .i64 c)] (.tup [.sl 4 ((bindB l n o c).1.map rowBd), .sc (.int .i64 (bindB l n o c).2)]) []:=by
 have hb1:=has2_calls hl (fun b=>bind1_calls (b:=b) (n:=n) (o:=o))
 have hb2:=has2_calls hl (fun b=>bind2_calls (b:=b) (n:=n) (c:=c))
 have hv:=validd_calls hl
 by_cases h1:validB l=0
 ·rw [h1] at hv
  cases h2:nameOk n with
  | false=>
    have e:bindB l n o c=([],6):=by unfold bindB;rw [if_neg (by simp [h1]),if_pos h2]
    rw [e]
    refine of_tri [] [5,6,7,12,18,30,34,38,44] Try.func43 rfl call43 rfl (by decide) (by decide) rfl rfl Try.ntmps43 (by simp (disch:=omega) only [seval,go_sem,cnd,intV,shV,convV,strV,List.replicate,l_2,l_1];rfl) (by simp (disch:=omega) only [seval,go_sem,cnd,intV,shV,convV,strV,l_2,l_1];rfl) ?_
    ((repeat' (first|(with_reducible (first|refine Tri.seq ?_|refine Tri.block ?_|refine Tri.skip ?_|refine Tri.ret ?_|refine TriD.nil ?_|refine thenQ_n ?_|refine thenQ_r ?_|refine inBlockQ_r ?_|refine Tri.regionD (by simp only [l_3,l_4];rfl) ?_))|((with_reducible refine isTriD ?_);first|(with_reducible refine TriD.step (by simp only [seval,go_sem,h2];rfl) ?_)|((with_reducible refine isCallD ?_);((with_reducible (refine TriD.dE (by simp only [seval,go_sem,h2];rfl) (by simp only [seval,go_sem,h2];rfl) ?_));first|refine CallK.c [] (hv) (by simp only [seval,go_sem,h2];rfl) ?_|refine CallK.c [] (isname_calls) (by simp only [seval,go_sem,h2];rfl) ?_))|(with_reducible refine TriD.step (by simp (disch:=omega) only [seval,go_sem,cnd,intV,shV,convV,strV,h2];rfl) ?_))|(with_reducible refine isCond ?_;with_reducible refine Tri.cond (by simp only [seval,go_sem,h2];rfl) (cvI ?_) (cvI ?_))|(with_reducible refine isCv ?_;intro hc;(try simp only [bls,reduceCtorEq] at hc);(try (exfalso;omega)))|(with_reducible refine isRet ?_;refine RetOK.q rfl rfl (by simp only [seval,go_sem];rfl) (by decide) (by simp only [seval,go_sem];rfl) (by simp only [seval,go_sem];rfl) rfl ?_<;>(try simp only [seval,go_sem])<;>(repeat' (with_reducible apply And.intro))<;>(try rfl))))<;>(try (fail)))
  | true=>
    by_cases h3:o<1∨c<1
    ·have e:bindB l n o c=([],5):=by unfold bindB;rw [if_neg (by simp [h1]),if_neg (by simp [h2]),if_pos h3]
     rw [e]
     by_cases h4:o<1
     ·refine of_tri [] [5,6,7,12,18,30,34,38,44] Try.func43 rfl call43 rfl (by decide) (by decide) rfl rfl Try.ntmps43 (by simp (disch:=omega) only [seval,go_sem,cnd,intV,shV,convV,strV,List.replicate,l_2,l_1];rfl) (by simp (disch:=omega) only [seval,go_sem,cnd,intV,shV,convV,strV,l_2,l_1];rfl) ?_
      ((repeat' (first|(with_reducible (first|refine Tri.seq ?_|refine Tri.block ?_|refine Tri.skip ?_|refine Tri.ret ?_|refine TriD.nil ?_|refine thenQ_n ?_|refine thenQ_r ?_|refine inBlockQ_r ?_|refine Tri.regionD (by simp only [l_3,l_4];rfl) ?_))|((with_reducible refine isTriD ?_);first|(with_reducible refine TriD.step (by simp only [seval,go_sem,h2];rfl) ?_)|((with_reducible refine isCallD ?_);((with_reducible (refine TriD.dE (by simp only [seval,go_sem,h2];rfl) (by simp only [seval,go_sem,h2];rfl) ?_));first|refine CallK.c [] (hv) (by simp only [seval,go_sem,h2];rfl) ?_|refine CallK.c [] (isname_calls) (by simp only [seval,go_sem,h2];rfl) ?_))|(with_reducible refine TriD.step (by simp (disch:=omega) only [seval,go_sem,cnd,intV,shV,convV,strV,h2];rfl) ?_))|(with_reducible refine isCond ?_;with_reducible refine Tri.cond (by simp only [seval,go_sem,h2];rfl) (cvI ?_) (cvI ?_))|(with_reducible refine isCv ?_;intro hc;(try simp only [bls,reduceCtorEq] at hc);(try (exfalso;omega)))|(with_reducible refine isRet ?_;refine RetOK.q rfl rfl (by simp only [seval,go_sem];rfl) (by decide) (by simp only [seval,go_sem];rfl) (by simp only [seval,go_sem];rfl) rfl ?_<;>(try simp only [seval,go_sem])<;>(repeat' (with_reducible apply And.intro))<;>(try rfl))))<;>(try (fail)))
     ·have h5:c<1:=by omega
      refine of_tri [] [5,6,7,12,18,30,34,38,44] Try.func43 rfl call43 rfl (by decide) (by decide) rfl rfl Try.ntmps43 (by simp (disch:=omega) only [seval,go_sem,cnd,intV,shV,convV,strV,List.replicate,l_2,l_1];rfl) (by simp (disch:=omega) only [seval,go_sem,cnd,intV,shV,convV,strV,l_2,l_1];rfl) ?_
      ((repeat' (first|(with_reducible (first|refine Tri.seq ?_|refine Tri.block ?_|refine Tri.skip ?_|refine Tri.ret ?_|refine TriD.nil ?_|refine thenQ_n ?_|refine thenQ_r ?_|refine inBlockQ_r ?_|refine Tri.regionD (by simp only [l_3,l_4];rfl) ?_))|((with_reducible refine isTriD ?_);first|(with_reducible refine TriD.step (by simp only [seval,go_sem,h2];rfl) ?_)|((with_reducible refine isCallD ?_);((with_reducible (refine TriD.dE (by simp only [seval,go_sem,h2];rfl) (by simp only [seval,go_sem,h2];rfl) ?_));first|refine CallK.c [] (hv) (by simp only [seval,go_sem,h2];rfl) ?_|refine CallK.c [] (isname_calls) (by simp only [seval,go_sem,h2];rfl) ?_))|(with_reducible refine TriD.step (by simp (disch:=omega) only [seval,go_sem,cnd,intV,shV,convV,strV,h2];rfl) ?_))|(with_reducible refine isCond ?_;with_reducible refine Tri.cond (by simp only [seval,go_sem,h2];rfl) (cvI ?_) (cvI ?_))|(with_reducible refine isCv ?_;intro hc;(try simp only [bls,reduceCtorEq] at hc);(try (exfalso;omega)))|(with_reducible refine isRet ?_;refine RetOK.q rfl rfl (by simp only [seval,go_sem];rfl) (by decide) (by simp only [seval,go_sem];rfl) (by simp only [seval,go_sem];rfl) rfl ?_<;>(try simp only [seval,go_sem])<;>(repeat' (with_reducible apply And.intro))<;>(try rfl))))<;>(try (fail)))
    ·cases h4:lateB c l with
     | true=>
       have e:bindB l n o c=([],19):=by unfold bindB;rw [if_neg (by simp [h1]),if_neg (by simp [h2]),if_neg h3,if_pos h4]
       rw [e]
       refine of_tri [] [5,6,7,12,18,30,34,38,44] Try.func43 rfl call43 rfl (by decide) (by decide) rfl rfl Try.ntmps43 (by simp (disch:=omega) only [seval,go_sem,cnd,intV,shV,convV,strV,List.replicate,l_2,l_1];rfl) (by simp (disch:=omega) only [seval,go_sem,cnd,intV,shV,convV,strV,l_2,l_1];rfl) ?_
       (all_goals (try have hZ:=(And.intro h2 h4));(repeat' (first|(with_reducible (first|refine Tri.seq ?_|refine Tri.block ?_|refine Tri.skip ?_|refine Tri.ret ?_|refine TriD.nil ?_|refine thenQ_n ?_|refine thenQ_r ?_|refine inBlockQ_r ?_|refine Tri.regionD (by simp only [l_3,l_4];rfl) ?_))|((with_reducible refine isTriD ?_);first|(with_reducible refine TriD.step (by simp only [seval,go_sem,hZ];rfl) ?_)|((with_reducible refine isCallD ?_);((with_reducible (refine TriD.dE (by simp only [seval,go_sem,hZ];rfl) (by simp only [seval,go_sem,hZ];rfl) ?_));first|refine CallK.c [] (hv) (by simp only [seval,go_sem,hZ];rfl) ?_|refine CallK.c [] (isname_calls) (by simp only [seval,go_sem,hZ];rfl) ?_|refine CallK.c [] (late_calls ?_) (by simp only [seval,go_sem,hZ];rfl) ?_))|(with_reducible refine TriD.step (by simp (disch:=omega) only [seval,go_sem,cnd,intV,shV,convV,strV,hZ];rfl) ?_))|(with_reducible refine isCond ?_;with_reducible refine Tri.cond (by simp only [seval,go_sem,hZ];rfl) (cvI ?_) (cvI ?_))|(with_reducible refine isCv ?_;intro hc;(try simp only [bls,reduceCtorEq] at hc);(try (exfalso;omega)))|(with_reducible refine isRet ?_;refine RetOK.q rfl rfl (by simp only [seval,go_sem];rfl) (by decide) (by simp only [seval,go_sem];rfl) (by simp only [seval,go_sem];rfl) rfl ?_<;>(try simp only [seval,go_sem])<;>(repeat' (with_reducible apply And.intro))<;>(try rfl))))<;>(try ((with_reducible assumption)));all_goals (try clear hZ))
     | false=>
       cases h5:l.any (fun b=>b.to==0&&(eqN b.name n||b.obj==o)) with
       | true=>
         have e:bindB l n o c=([],9):=by unfold bindB;rw [if_neg (by simp [h1]),if_neg (by simp [h2]),if_neg h3,if_neg (by simp [h4]),if_pos h5]
         rw [e]
         rw [h5] at hb1
         refine of_tri [] [5,6,7,12,18,30,34,38,44] Try.func43 rfl call43 rfl (by decide) (by decide) rfl rfl Try.ntmps43 (by simp (disch:=omega) only [seval,go_sem,cnd,intV,shV,convV,strV,List.replicate,l_2,l_1];rfl) (by simp (disch:=omega) only [seval,go_sem,cnd,intV,shV,convV,strV,l_2,l_1];rfl) ?_
         (all_goals (try have hZ:=(And.intro h2 h4));(repeat' (first|(with_reducible (first|refine Tri.seq ?_|refine Tri.block ?_|refine Tri.skip ?_|refine Tri.ret ?_|refine TriD.nil ?_|refine thenQ_n ?_|refine thenQ_r ?_|refine inBlockQ_r ?_|refine Tri.regionD (by simp only [l_3,l_4];rfl) ?_))|((with_reducible refine isTriD ?_);first|(with_reducible refine TriD.step (by simp only [seval,go_sem,hZ];rfl) ?_)|((with_reducible refine isCallD ?_);((with_reducible (first|refine TriD.dE (by simp only [seval,go_sem,hZ];rfl) (by simp only [seval,go_sem,hZ];rfl) ?_|refine TriD.dS (by simp only [seval,go_sem,hZ];rfl) (by simp only [seval,go_sem,hZ];rfl) ?_));first|refine CallK.c [] (hv) (by simp only [seval,go_sem,hZ];rfl) ?_|refine CallK.c [] (hb1) (by simp only [seval,go_sem,hZ];rfl) ?_|refine CallK.c [] (isname_calls) (by simp only [seval,go_sem,hZ];rfl) ?_|refine CallK.c [] (late_calls ?_) (by simp only [seval,go_sem,hZ];rfl) ?_))|(with_reducible refine TriD.step (by simp (disch:=omega) only [seval,go_sem,cnd,intV,shV,convV,strV,hZ];rfl) ?_))|(with_reducible refine isCond ?_;with_reducible refine Tri.cond (by simp only [seval,go_sem,hZ];rfl) (cvI ?_) (cvI ?_))|(with_reducible refine isCv ?_;intro hc;(try simp only [bls,reduceCtorEq] at hc);(try (exfalso;omega)))|(with_reducible refine isRet ?_;refine RetOK.q rfl rfl (by simp only [seval,go_sem];rfl) (by decide) (by simp only [seval,go_sem];rfl) (by simp only [seval,go_sem];rfl) rfl ?_<;>(try simp only [seval,go_sem])<;>(repeat' (with_reducible apply And.intro))<;>(try rfl))))<;>(try ((with_reducible assumption)));all_goals (try clear hZ))
       | false=>
         have e:bindB l n o c=(addB ⟨n,o,c,0⟩ l,0):=by unfold bindB;rw [if_neg (by simp [h1]),if_neg (by simp [h2]),if_neg h3,if_neg (by simp [h4]),if_neg (by simp [h5])]
         rw [e]
         rw [h5] at hb1
         rw [bind2_none (valid1_all _ _ (validB_1 h1)) (lateB_not h4) (any_open h5)] at hb2
         have ha:=addb_calls (l:=l) (b:=⟨n,o,c,0⟩) hl
         simp only [rowBd] at ha
         refine of_tri [] [5,6,7,12,18,30,34,38,44] Try.func43 rfl call43 rfl (by decide) (by decide) rfl rfl Try.ntmps43 (by simp (disch:=omega) only [seval,go_sem,cnd,intV,shV,convV,strV,List.replicate,l_2,l_1];rfl) (by simp (disch:=omega) only [seval,go_sem,cnd,intV,shV,convV,strV,l_2,l_1];rfl) ?_
         (all_goals (try have hZ:=(And.intro h2 h4));(repeat' (first|(with_reducible (first|refine Tri.seq ?_|refine Tri.block ?_|refine Tri.skip ?_|refine Tri.ret ?_|refine TriD.nil ?_|refine thenQ_n ?_|refine inBlockQ_n ?_|refine Tri.regionD (by simp only [l_3,l_4];rfl) ?_))|((with_reducible refine isTriD ?_);first|(with_reducible refine TriD.step (by simp only [seval,go_sem,hZ];rfl) ?_)|((with_reducible refine isCallD ?_);((with_reducible (first|refine TriD.dE (by simp only [seval,go_sem,hZ];rfl) (by simp only [seval,go_sem,hZ];rfl) ?_|refine TriD.dS (by simp only [seval,go_sem,hZ];rfl) (by simp only [seval,go_sem,hZ];rfl) ?_));first|refine CallK.c [] (hv) (by simp only [seval,go_sem,hZ];rfl) ?_|refine CallK.c [] (hb1) (by simp only [seval,go_sem,hZ];rfl) ?_|refine CallK.c [] (hb2) (by simp only [seval,go_sem,hZ];rfl) ?_|refine CallK.c [] (ha) (by simp only [seval,go_sem,hZ];rfl) ?_|refine CallK.c [] (isname_calls) (by simp only [seval,go_sem,hZ];rfl) ?_|refine CallK.c [] (late_calls ?_) (by simp only [seval,go_sem,hZ];rfl) ?_))|(with_reducible refine TriD.step (by simp (disch:=omega) only [seval,go_sem,cnd,intV,shV,convV,strV,hZ];rfl) ?_))|(with_reducible refine isCond ?_;with_reducible refine Tri.cond (by simp only [seval,go_sem,hZ];rfl) (cvI ?_) (cvI ?_))|(with_reducible refine isCv ?_;intro hc;(try simp only [bls,reduceCtorEq] at hc);(try (exfalso;omega)))|(with_reducible refine isRet ?_;refine RetOK.q rfl rfl (by simp only [seval,go_sem];rfl) (by decide) (by simp only [seval,go_sem];rfl) (by simp only [seval,go_sem];rfl) rfl ?_<;>(try simp only [seval,go_sem])<;>(repeat' (with_reducible apply And.intro))<;>(try rfl))))<;>(try ((with_reducible assumption)));all_goals (try clear hZ))
 ·have e:bindB l n o c=([],validB l):=by unfold bindB;rw [if_pos h1]
  rw [e]
  refine of_tri [] [5,6,7,12,18,30,34,38,44] Try.func43 rfl call43 rfl (by decide) (by decide) rfl rfl Try.ntmps43 (by simp (disch:=omega) only [seval,go_sem,cnd,intV,shV,convV,strV,List.replicate,l_2,l_1];rfl) (by simp (disch:=omega) only [seval,go_sem,cnd,intV,shV,convV,strV,l_2,l_1];rfl) ?_
  ((repeat' (first|(with_reducible (first|refine Tri.seq ?_|refine Tri.ret ?_|refine TriD.nil ?_|refine thenQ_n ?_|refine thenQ_r ?_|refine Tri.regionD (by simp only [l_3,l_4];rfl) ?_))|((with_reducible refine isTriD ?_);first|(with_reducible refine TriD.step (by simp only [seval,go_sem];rfl) ?_)|((with_reducible refine isCallD ?_);((with_reducible (refine TriD.dE (by simp only [seval,go_sem];rfl) (by simp only [seval,go_sem];rfl) ?_));refine CallK.c [] (hv) (by simp only [seval,go_sem];rfl) ?_))|(with_reducible refine TriD.step (by simp (disch:=omega) only [seval,go_sem,cnd,intV,shV,convV,strV];rfl) ?_))|(with_reducible refine isCond ?_;with_reducible refine Tri.cond (by simp only [seval,go_sem];rfl) (cvI ?_) (cvI ?_))|(with_reducible refine isCv ?_;intro hc;(try simp only [bls,reduceCtorEq] at hc);(try (exfalso;omega)))|(with_reducible refine isRet ?_;refine RetOK.q rfl rfl (by simp only [seval,go_sem];rfl) (by decide) (by simp only [seval,go_sem];rfl) (by simp only [seval,go_sem];rfl) rfl ?_<;>(try simp only [seval,go_sem])<;>(repeat' (with_reducible apply And.intro))<;>(try rfl))))<;>(try (fail)))
end Go.Proofs.Yteemiclhnfkekaa
/- Directory: the law's known, made and spoil. -/
set_option linter.unusedSimpArgs false
set_option linter.unusedVariables false
namespace Go.Proofs.Yteemiclhnfkekaa
open Go.RowKit Go.Avm
def nameK (n:Int):ByteArray:=if n%16777216%3=0 then ⟨#[97]⟩ else if n%16777216%3=1 then ⟨#[98]⟩ else ⟨#[99]⟩
def rowJ (z:Int):List D:=[.sc (.int .i64 z)]
def stepD (k:Int) (d:List Bd) (c o:Int):(List Bd×Int)×Int:=
 if k%4=0∨k%4=1 then (bindB d (nameK (k/4%16)) o c,o+1) else if k%4=2 then (unbindB d (nameK (k/4%16)) c,o) else (renameB d (nameK (k/4%16)) (nameK (k/64%16)) c,o)
def madeD:List Int→Nat→List Bd→Int→Int→List Bd×Int
 | [],_,d,c,_=>(d,c)
 | k::l,i,d,c,o=>if 10≤i then (d,c) else if (stepD k d c o).1.2=0 then madeD l (i+1) (stepD k d c o).1.1 (c+1) (stepD k d c o).2 else madeD l (i+1) d c (stepD k d c o).2
end Go.Proofs.Yteemiclhnfkekaa
/- Directory: the list of the reference (plain). -/
set_option linter.unusedSimpArgs false
set_option linter.unusedVariables false
namespace Go.Proofs.Yteemiclhnfkekaa
open Go.RowKit Go.Avm
def rowN (s:ByteArray):List D:=[.sc (.string s)]
def insN (n:ByteArray):List ByteArray→List ByteArray
 | []=>[n]
 | y::l=>if ltN y n=true then y::insN n l else if eqN y n=true then y::l else n::y::l
def listR (c:Int):List Bd→List ByteArray→List ByteArray
 | [],a=>a
 | b::l,a=>if holdsB b.frm b.to c=true then listR c l (insN b.name a) else listR c l a
end Go.Proofs.Yteemiclhnfkekaa
/- The reference's store (layers 14 to 19): what its functions compute (plain). -/
set_option linter.unusedSimpArgs false
set_option linter.unusedVariables false
namespace Go.Proofs.Yteemiclhnfkekaa
open Go.RowKit Go.Avm
structure Ar where
 cap:Int
 pages:List Pg
structure Sr where
 c:Cf
 commit:Int
 last:Int
 objs:List Ob
 binds:List Bd
 pins:List Pn
 ar:Ar
def dAr (a:Ar):List D:=[.sc (.int .i64 a.cap), .sl 3 (a.pages.map rowPg)]
def dSr (s:Sr):List D:=[.sc (.int .i64 s.c.ses),.sc (.int .i64 s.c.nam),.sc (.int .i64 s.c.pag),.sc (.int .i64 s.c.psz),.sc (.int .i64 s.c.pin),.sc (.int .i64 s.c.com),.sc (.int .i64 s.c.chk),.sc (.int .i64 s.commit),.sc (.int .i64 s.last),.sl 2 (s.objs.map rowOb),.sl 4 (s.binds.map rowBd),.sl 2 (s.pins.map rowP),.sc (.int .i64 s.ar.cap),.sl 3 (s.ar.pages.map rowPg)]
def pgGet (l:List Pg) (i:Int):Pg:=(l[i.toNat]?).getD ⟨0,0,[]⟩
/-- The first free number from n on. -/
def freeGo (l:List Pg):Nat→Int→Int
 | 0,n=>n
 | k+1,n=>if pgAt n l 0<0 then n else freeGo l k (n+1)
def freeN (l:List Pg):Int:=freeGo l (l.length+1) 1
def insPg (x:Pg) (l:List Pg):List Pg:=insAt l (stopAt (fun k=>decide (x.num<(pgGet l k).num)) l.length) x
def allocR (a:Ar) (d:List Int):Ar×Int×Int:=
 if 1024<(d.length:Int) then (a,0,11) else if a.cap≤(a.pages.length:Int) then (a,0,14) else (⟨a.cap,insPg ⟨freeN a.pages,1,d⟩ a.pages⟩,freeN a.pages,0)
def setRefs (l:List Pg) (i:Int) (r:Int):List Pg:=l.set i.toNat ⟨(pgGet l i).num,r,(pgGet l i).data⟩
def holdR (a:Ar) (n:Int):Ar×Int:=if pgAt n a.pages 0<0 then (a,8) else (⟨a.cap,setRefs a.pages (pgAt n a.pages 0) (wr ((pgGet a.pages (pgAt n a.pages 0)).refs+1))⟩,0)
def delAt {α:Type} (l:List α) (i:Int):List α:=l.take i.toNat++l.drop (i.toNat+1)
def releaseR (a:Ar) (n:Int):Ar×Bool×Int:=
 if pgAt n a.pages 0<0 then (a,false,8) else
 if 0<wr ((pgGet a.pages (pgAt n a.pages 0)).refs-1) then (⟨a.cap,setRefs a.pages (pgAt n a.pages 0) (wr ((pgGet a.pages (pgAt n a.pages 0)).refs-1))⟩,false,0) else (⟨a.cap,delAt a.pages (pgAt n a.pages 0)⟩,true,0)
def dataR (a:Ar) (n:Int):List Int×Int:=if pgAt n a.pages 0<0 then ([],8) else ((pgGet a.pages (pgAt n a.pages 0)).data,0)
def chunks (sz:Nat):Nat→List Int→List (List Int)
 | 0,_=>[]
 | k+1,l=>if l.length=0 then [] else l.take sz::chunks sz k (l.drop sz)
def splitR (b:List Int) (sz:Int):List (List Int)×Int:=if sz<1∨1024<sz then ([],5) else (chunks sz.toNat b.length b,0)
def sharedR:List (List Int)→List (List Int)→List Bool
 | _,[]=>[]
 | [],_::l=>false::sharedR [] l
 | o::os,x::l=>decide (o=x)::sharedR os l
def newR (c:Cf):Sr×Int:=if cfOk c=false then (⟨⟨0,0,0,0,0,0,0⟩,0,0,[],[],[],⟨0,[]⟩⟩,5) else (⟨c,0,0,[],[],[],⟨c.pag,[]⟩⟩,0)
def pinnedR (l:List Pn) (c:Int):Bool:=l.any fun p=>p.commit==c
def visE (s:Sr) (c:Int):Int:=if inR c 0 s.commit=false then 5 else if c≠s.commit∧pinnedR s.pins c=false then 17 else 0
def obGet (l:List Ob) (i:Int):Ob:=(l[i.toNat]?).getD ⟨0,[]⟩
def verGet (l:List Ver) (i:Int):Ver:=(l[i.toNat]?).getD zeroV
/-- The object and the version of a name. -/
def verR (s:Sr) (n:ByteArray) (c:Int):Int×Ver×Bool:=
 if (lookB n c s.binds).2=false∨objAt (lookB n c s.binds).1 s.objs 0<0 then (0,zeroV,false) else
 if (findN c (obGet s.objs (objAt (lookB n c s.binds).1 s.objs 0)).vers 0).2=false then (0,zeroV,false) else
 (objAt (lookB n c s.binds).1 s.objs 0,verGet (obGet s.objs (objAt (lookB n c s.binds).1 s.objs 0)).vers (findN c (obGet s.objs (objAt (lookB n c s.binds).1 s.objs 0)).vers 0).1,true)
def storedR (a:Ar) (l:List Int):List (List Int):=l.map fun n=>(dataR a n).1
def boundR (s:Sr) (n:ByteArray):Bool:=(lookB n s.commit s.binds).2
/-- Pages for new bytes, one after another. -/
def allocs:Ar→List (List Int)→Ar×List Int
 | a,[]=>(a,[])
 | a,d::l=>((allocs (allocR a d).1 l).1,(allocR a d).2.1::(allocs (allocR a d).1 l).2)
def setVers (l:List Ob) (i:Int) (v:List Ver):List Ob:=l.set i.toNat ⟨(obGet l i).id,v⟩
def needR:List Bool→Int
 | []=>0
 | b::l=>if b=true then needR l else needR l+1
/-- The pages of the next version. -/
def puts:Ar→List (List Int)→List Bool→List Int→Ar×List Int
 | a,d::l,b::bs,o=>if b=true then ((puts (holdR a (o.headD 0)).1 l bs o.tail).1,o.headD 0::(puts (holdR a (o.headD 0)).1 l bs o.tail).2) else ((puts (allocR a d).1 l bs o.tail).1,(allocR a d).2.1::(puts (allocR a d).1 l bs o.tail).2)
 | a,_,_,_=>(a,[])
def dropR (s:Sr) (n:ByteArray):Sr×Int×Int:=
 if (verR s n s.commit).2.2=false then (s,0,8) else if s.c.com≤s.commit then (s,0,14) else
 ({ s with commit:=s.commit+1,objs:=setVers s.objs (verR s n s.commit).1 (closeV (obGet s.objs (verR s n s.commit).1).vers (s.commit+1)).1,binds:=(unbindB s.binds n (s.commit+1)).1 },s.commit+1,0)
def pinR (s:Sr) (c:Int):Sr×Int:=if visE s c≠0 then (s,visE s c) else if s.c.pin≤totalP s.pins 0 then (s,14) else ({ s with pins:=(addP s.pins c).1 },0)
def unpinR (s:Sr) (c:Int):Sr×Int:=if pinnedR s.pins c=false then (s,8) else ({ s with pins:=(remP s.pins c).1 },0)
def renameR (s:Sr) (n m:ByteArray):Sr×Int×Int:=
 if nameOk m=false then (s,0,6) else if boundR s n=false then (s,0,8) else if boundR s m=true then (s,0,9) else if s.c.com≤s.commit then (s,0,14) else
 ({ s with commit:=s.commit+1,binds:=(renameB s.binds n m (s.commit+1)).1 },s.commit+1,0)
def createR (s:Sr) (n:ByteArray) (d:List Int):Sr×Int×Int:=
 if nameOk n=false then (s,0,6) else if 65536<(d.length:Int) then (s,0,11) else if boundR s n=true then (s,0,9) else
 if s.c.nam≤((listR s.commit s.binds []).length:Int)∨s.c.com≤s.commit∨s.c.pag<(s.ar.pages.length:Int)+((splitR d s.c.psz).1.length:Int) then (s,0,14) else
 ({ s with commit:=s.commit+1,last:=s.last+1,objs:=s.objs++[⟨s.last+1,[⟨s.commit+1,0,d.length,(allocs s.ar (splitR d s.c.psz).1).2⟩]⟩],binds:=(bindB s.binds n (s.last+1) (s.commit+1)).1,ar:=(allocs s.ar (splitR d s.c.psz).1).1 },s.commit+1,0)
def putR (s:Sr) (n:ByteArray) (d:List Int):Sr×Int×Int:=
 if 65536<(d.length:Int) then (s,0,11) else if (verR s n s.commit).2.2=false then (s,0,8) else
 if s.c.com≤s.commit∨s.c.pag<(s.ar.pages.length:Int)+needR (sharedR (storedR s.ar (verR s n s.commit).2.1.pages) (splitR d s.c.psz).1) then (s,0,14) else
 ({ s with commit:=s.commit+1,objs:=setVers s.objs (verR s n s.commit).1 (appendV (obGet s.objs (verR s n s.commit).1).vers ⟨s.commit+1,0,d.length,(puts s.ar (splitR d s.c.psz).1 (sharedR (storedR s.ar (verR s n s.commit).2.1.pages) (splitR d s.c.psz).1) (verR s n s.commit).2.1.pages).2⟩).1,ar:=(puts s.ar (splitR d s.c.psz).1 (sharedR (storedR s.ar (verR s n s.commit).2.1.pages) (splitR d s.c.psz).1) (verR s n s.commit).2.1.pages).1 },s.commit+1,0)
def rels:Ar→List Int→Ar
 | a,[]=>a
 | a,n::l=>rels (releaseR a n).1 l
def removeR (s:Sr) (id frm:Int):Sr×Int:=
 if objAt id s.objs 0<0 then (s,8) else if (removeV (obGet s.objs (objAt id s.objs 0)).vers frm).2.2≠0 then (s,(removeV (obGet s.objs (objAt id s.objs 0)).vers frm).2.2) else
 if (removeV (obGet s.objs (objAt id s.objs 0)).vers frm).2.1.to=0∨coversP (removeV (obGet s.objs (objAt id s.objs 0)).vers frm).2.1.from_ (removeV (obGet s.objs (objAt id s.objs 0)).vers frm).2.1.to s.pins=true then (s,17) else
 ({ s with objs:=if (removeV (obGet s.objs (objAt id s.objs 0)).vers frm).1.length=0 then delAt s.objs (objAt id s.objs 0) else setVers s.objs (objAt id s.objs 0) (removeV (obGet s.objs (objAt id s.objs 0)).vers frm).1,ar:=rels s.ar (removeV (obGet s.objs (objAt id s.objs 0)).vers frm).2.1.pages },0)
def atK (l:List Int) (i:Nat):Int:=if l.length=0 then (i:Int)%65536 else ((l[i%l.length]?).getD 0)%65536+((i/l.length:Nat):Int)
def byteK (n:Int) (i:Nat):Int:=if ((i%16:Nat):Int)=n/512%16 then n%256 else (i:Int)
def bytesK (n:Int):List Int:=(List.range (n/8%64%61).toNat).map (byteK n)
def changeR (s:Sr) (n:Int):Sr:=
 if n%8=0∨n%8=1 then (createR s (nameK (n/8)) (bytesK n)).1 else if n%8=2∨n%8=3 then (putR s (nameK (n/8)) (bytesK n)).1 else if n%8=4 then (dropR s (nameK (n/8))).1 else
 if n%8=5 then (renameR s (nameK (n/8)) (nameK (n/32))).1 else if n%8=6 then (pinR s s.commit).1 else
 if s.pins.length=0 then s else (unpinR s (((s.pins[(n/8%(s.pins.length:Int)).toNat]?).map (·.commit)).getD 0)).1
def storeGo (l:List Int):Nat→Nat→Sr→Sr
 | 0,_,s=>s
 | k+1,i,s=>if i≤12∧i<l.length then storeGo l k (i+1) (changeR s (atK l i)) else s
def storeR (l:List Int):Sr:=storeGo l 12 1 (newR (cfgK (atK l 0))).1
def dumpR (s:Sr):Dm:=⟨s.commit,s.objs,s.binds,s.pins,s.ar.pages⟩
end Go.Proofs.Yteemiclhnfkekaa
/- Arena: its pages as a map of boxes (plain). -/
set_option linter.unusedSimpArgs false
set_option linter.unusedVariables false
namespace Go.Proofs.Yteemiclhnfkekaa
open Go.RowKit Go.Avm
def pgEn (p:Pg):Value×List D:=(.int .i64 p.num,[.sc (.int .i64 p.num), .sc (.int .i64 p.refs), .sl 1 (p.data.map rowW)])
def mapPg (l:List Pg):List (Value×List D):=l.map pgEn
theorem own_nil:ownB (mapPg [])=[]:=rfl
theorem mapPg_len {l:List Pg}:(mapPg l).length=l.length:=by simp [mapPg]
theorem mapPg_get {l:List Pg} {i:Nat} {p:Pg} (h:l[i]? = some p):(mapPg l)[i]? = some (pgEn p):=by simp [mapPg,h]
theorem mapPg_set {l:List Pg} {i:Nat} {p:Pg}:(mapPg l).set i (pgEn p)=mapPg (l.set i p):=by simp [mapPg,List.map_set]
theorem mapPg_snoc {l:List Pg} {p:Pg}:mapPg l++[pgEn p]=mapPg (l++[p]):=by simp [mapPg]
theorem set_same {α:Type} {l:List α} {j:Nat} {x:α} (h:l[j]? = some x):l.set j x=l:=by
 refine List.ext_getElem? fun i=>?_
 rw [List.getElem?_set]
 split
 ·rename_i e;subst e
  rw [if_pos (List.getElem?_eq_some_iff.1 h).1,h]
 ·rfl
theorem keyB_i {a b:Int}:keyB (.int .i64 a) (.int .i64 b)=decide (a=b):=by
 show (a==b)=_
 by_cases h:a=b<;>simp [h]
theorem kIdx_at {n:Int}: ∀ {l:List Pg} (k:Nat),(pgAt n l k = -1→kIdx (.int .i64 n) (mapPg l)=none)∧(∀ j:Nat,pgAt n l k=((k+j:Nat):Int)→kIdx (.int .i64 n) (mapPg l)=some j)
 | [],k=>⟨fun _=>rfl,fun j h=>by rw [pgAt] at h;omega⟩
 | p::l,k=>by
   obtain ⟨i1,i2⟩:=kIdx_at (n:=n) (l:=l) (k+1)
   have e:kIdx (.int .i64 n) (mapPg (p::l))=if keyB (.int .i64 p.num) (.int .i64 n)=true then some 0 else (kIdx (.int .i64 n) (mapPg l)).map (· + 1):=rfl
   rw [e,keyB_i,pgAt]
   by_cases hc:p.num=n
   ·rw [if_pos hc,if_pos (by simpa using hc)]
    exact ⟨fun h=>by omega,fun j h=>by rw [show j=0 by omega]⟩
   ·rw [if_neg hc,if_neg (by simpa using hc)]
    refine ⟨fun h=>by rw [i1 h];rfl,fun j h=>?_⟩
    rcases pgAt_cases n l (k+1) with ⟨h1,_⟩|⟨i,q,h1,h2,h3,_⟩
    ·omega
    ·have:=i2 i h3
     rw [this,show j=i+1 by omega];rfl
theorem delAt_erase {α:Type} (l:List α) (j:Nat):delAt l (j:Int)=l.eraseIdx j:=by
 rw [delAt,Int.toNat_natCast,List.eraseIdx_eq_take_drop_succ]
/-- A number's page and its key in the map. -/
theorem pg_at (n:Int) (l:List Pg):(pgAt n l 0 = -1∧kIdx (.int .i64 n) (mapPg l)=none)∨ ∃ (j:Nat) (p:Pg),l[j]? = some p∧j<l.length∧pgAt n l 0=(j:Int)∧pgGet l (pgAt n l 0)=p∧p.num=n∧kIdx (.int .i64 n) (mapPg l)=some j∧
  (mapPg l)[j]? = some (.int .i64 n,[.sc (.int .i64 n), .sc (.int .i64 p.refs), .sl 1 (p.data.map rowW)]):=by
 rcases pgAt_cases n l 0 with ⟨h,_⟩|⟨j,p,h1,h2,h3,_⟩
 ·exact .inl ⟨h,(kIdx_at 0).1 h⟩
 ·have h4:=(kIdx_at (n:=n) (l:=l) 0).2 j h3
  rw [Nat.zero_add] at h3
  exact .inr ⟨j,p,h1,(List.getElem?_eq_some_iff.1 h1).1,h3,by simp [pgGet,h3,h1],h2,h4,by rw [mapPg_get h1,pgEn,h2]⟩
end Go.Proofs.Yteemiclhnfkekaa
/- The reference's pages, and the numbers and bytes of the laws: the walks. -/
set_option linter.unusedSimpArgs false
set_option linter.unusedVariables false
namespace Go.Proofs.Yteemiclhnfkekaa
open Go.RowKit Go.Avm
def rowL (x:List Int):List D:=[.sl 1 (x.map rowW)]
def rowBo (b:Bool):List D:=[.sc (.bool b)]
theorem chunks_fuel {sz:Nat} (h:1≤sz) (k:Nat): ∀ (k':Nat) (l:List Int),l.length≤k→l.length≤k'→chunks sz k l=chunks sz k' l:=by
 induction k with
 | zero=>
   intro k' l h1 h2
   cases k' with
   | zero=>rfl
   | succ k'=>rw [chunks,chunks,if_pos (by omega)]
 | succ k ih=>
   intro k' l h1 h2
   cases k' with
   | zero=>rw [chunks,chunks,if_pos (by omega)]
   | succ k'=>
     rw [chunks,chunks]
     split
     ·rfl
     ·rw [ih k' (l.drop sz) (by rw [List.length_drop];omega) (by rw [List.length_drop];omega)]
theorem chunks_step {sz:Nat} (h:1≤sz) {b:List Int} {i:Nat} (hi:i<b.length):chunks sz b.length (b.drop i)=(b.drop i).take sz::chunks sz b.length (b.drop (i+sz)):=by
 rw [chunks_fuel h b.length ((b.length-1)+1) (b.drop i) (by rw [List.length_drop];omega) (by rw [List.length_drop];omega),chunks,if_neg (by rw [List.length_drop];omega),List.drop_drop]
 rw [chunks_fuel h (b.length-1) b.length (b.drop (i+sz)) (by rw [List.length_drop];omega) (by rw [List.length_drop];omega)]
theorem chunks_end {sz k:Nat} {b:List Int} {i:Nat} (hi:b.length≤i):chunks sz k (b.drop i)=[]:=by
 rw [List.drop_eq_nil_of_le hi]
 cases k<;>simp [chunks]
theorem mapO_rowW: ∀ zs:List Int,mapO Go.Avm.byteOf (zs.map rowW)=some zs
 | []=>rfl
 | z::zs=>by simp [mapO,rowW,Go.Avm.byteOf,mapO_rowW zs]
theorem strNums_eq {a b:List Int} (ha: ∀ z∈a,0≤z∧z≤255) (hb: ∀ z∈b,0≤z∧z≤255):((strOfNums a).toList==(strOfNums b).toList)=decide (a=b):=by
 rw [Go.ByteArray.toList_eq,Go.ByteArray.toList_eq]
 simp only [strOfNums]
 rw [Bool.eq_iff_iff,beq_iff_eq,decide_eq_true_eq]
 constructor
 ·intro h
  have key: ∀ (a b:List Int),(∀ z∈a,0≤z∧z≤255)→(∀ z∈b,0≤z∧z≤255)→(a.map fun n=>UInt8.ofNat n.toNat)=(b.map fun n=>UInt8.ofNat n.toNat)→a=b:=by
   intro a
   induction a with
   | nil=>intro b _ _ h;cases b with
     | nil=>rfl
     | cons y b=>cases h
   | cons x a ih=>
     intro b ha hb h
     cases b with
     | nil=>cases h
     | cons y b=>
       simp only [l_3,List.cons.injEq] at h
       obtain ⟨h1,h2⟩:=h
       have hx:=ha x (by simp)
       have hy:=hb y (by simp)
       have h3:=congrArg UInt8.toNat h1
       simp only [UInt8.toNat_ofNat'] at h3
       rw [ih b (fun z hz=>ha z (by simp [hz])) (fun z hz=>hb z (by simp [hz])) h2]
       congr 1
       omega
  exact key a b ha hb (by simpa using h)
 ·rintro rfl;rfl
def w8 (n:Int):Int:=IntKind.u8.wrap n
end Go.Proofs.Yteemiclhnfkekaa
/- Audit: the walks of the checks of a configuration, of pins and of bindings, of the program and of the reference. -/
set_option linter.unusedSimpArgs false
set_option linter.unusedVariables false
namespace Go.Proofs.Yteemiclhnfkekaa
open Go.RowKit Go.Avm
set_option maxRecDepth 100000 in set_option maxHeartbeats 3200000 in
theorem inside_calls {n a b:Int}:ACalls Try.prog 35 [.sc (.int .i64 n), .sc (.int .i64 a), .sc (.int .i64 b)] (.sc (.bool (inR n a b))) []:=by
 refine of_tri [] [] Try.func35 rfl call35 rfl (by decide) (by decide) rfl rfl Try.ntmps35 (by simp (disch:=omega) only [seval,go_sem,cnd,intV,shV,convV,strV,List.replicate,l_2,l_1];rfl) (by simp (disch:=omega) only [seval,go_sem,cnd,intV,shV,convV,strV,l_2,l_1];rfl) ?_
 ((repeat' (first|(with_reducible refine isCv ?_;intro hc;(try simp only [bls,reduceCtorEq] at hc);(try (exfalso;omega)))|((with_reducible refine isTriD ?_);((with_reducible first|refine TriD.step (by simp only [seval,go_sem];rfl) ?_|refine TriD.step (by simp (disch:=omega) only [seval,go_sem,cnd,intV,shV,convV,strV];rfl) ?_);refine LVs (st:=[13]) ?_))|(with_reducible refine isRet ?_;refine RetV (rs:=[.tmp 6]) (by with_unfolding_all rfl) rfl ?_<;>simp only [seval,go_sem]<;>(repeat' (with_reducible apply And.intro))<;>(try rfl))|(with_reducible (refine TVq (st:=[13]) ?_))|simp only [seval,go_sem]|(with_reducible first|refine oV_st (by simp (disch:=omega) only [seval,go_sem,cnd,intV,shV,convV,strV];rfl) ?_|refine gV_split (by simp only [seval,go_sem];rfl) (by simp only [seval,go_sem];rfl) (by simp only [seval,go_sem];first|done|fail) (cvI ?_) (cvI ?_) (by simp only [seval,go_sem]))))<;>(try (fail)))
 all_goals (simp [inR];try omega)
set_option maxRecDepth 100000 in set_option maxHeartbeats 3200000 in
theorem rwithin_calls {n a b:Int}:ACalls Try.prog 34 [.sc (.int .i64 n), .sc (.int .i64 a), .sc (.int .i64 b)] (.sc (.bool (inR n a b))) []:=by
 refine of_tri [] [] Try.func34 rfl call34 rfl (by decide) (by decide) rfl rfl Try.ntmps34 (by simp (disch:=omega) only [seval,go_sem,cnd,intV,shV,convV,strV,List.replicate,l_2,l_1];rfl) (by simp (disch:=omega) only [seval,go_sem,cnd,intV,shV,convV,strV,l_2,l_1];rfl) ?_
 ((repeat' (first|(with_reducible refine isCv ?_;intro hc;(try simp only [bls,reduceCtorEq] at hc);(try (exfalso;omega)))|((with_reducible refine isTriD ?_);((with_reducible first|refine TriD.step (by simp only [seval,go_sem];rfl) ?_|refine TriD.step (by simp (disch:=omega) only [seval,go_sem,cnd,intV,shV,convV,strV];rfl) ?_);refine LVs (st:=[13]) ?_))|(with_reducible refine isRet ?_;refine RetV (rs:=[.tmp 6]) (by with_unfolding_all rfl) rfl ?_<;>simp only [seval,go_sem]<;>(repeat' (with_reducible apply And.intro))<;>(try rfl))|(with_reducible (refine TVq (st:=[13]) ?_))|simp only [seval,go_sem]|(with_reducible first|refine oV_st (by simp (disch:=omega) only [seval,go_sem,cnd,intV,shV,convV,strV];rfl) ?_|refine gV_split (by simp only [seval,go_sem];rfl) (by simp only [seval,go_sem];rfl) (by simp only [seval,go_sem];first|done|fail) (cvI ?_) (cvI ?_) (by simp only [seval,go_sem]))))<;>(try (fail)))
 all_goals (simp [inR];try omega)
set_option maxRecDepth 100000 in set_option maxHeartbeats 6400000 in
theorem cfg_calls {a b c d e f g:Int}:ACalls Try.prog 26 [.agg [.sc (.int .i64 a), .sc (.int .i64 b), .sc (.int .i64 c), .sc (.int .i64 d), .sc (.int .i64 e), .sc (.int .i64 f), .sc (.int .i64 g)]] (.sc (.int .i64 (cond (cfOk ⟨a,b,c,d,e,f,g⟩) 0 5))) []:=by
 simp only [cfOk]
 generalize h1:inR a 1 64=x1
 generalize h2:inR b 1 64=x2
 generalize h3:inR c 1 16384=x3
 generalize h4:inR d 8 1024=x4
 generalize h5:inR e 1 1024=x5
 generalize h6:inR f 1 1048576=x6
 generalize h7:inR g 1 64=x7
 refine of_tri [] [1,5,10,16,22,28,34,40] Try.func26 rfl call26 rfl (by decide) (by decide) rfl rfl Try.ntmps26 (by simp (disch:=omega) only [seval,go_sem,cnd,intV,shV,convV,strV,List.replicate,l_2,l_1];rfl) (by simp (disch:=omega) only [seval,go_sem,cnd,intV,shV,convV,strV,l_2,l_1];rfl) ?_
 (all_goals (try have hZ:=(And.intro h1 (And.intro h2 (And.intro h3 (And.intro h4 (And.intro h5 (And.intro h6 h7)))))));(repeat' (first|(with_reducible refine isCv ?_;intro hc;(try simp only [bls,reduceCtorEq] at hc);(try (exfalso;omega)))|((with_reducible refine isTriD ?_);((with_reducible refine isCallD ?_);((with_reducible refine LVcall (st:=[]) ?_);simp only [seval,go_sem,hZ];(refine CallL.c (inside_calls) ?_))))|(with_reducible refine isRet ?_;refine RetV (rs:=[.tmp 2]) (by with_unfolding_all rfl) rfl ?_<;>simp only [seval,go_sem]<;>(repeat' (with_reducible apply And.intro))<;>(try rfl))|(with_reducible (refine TVq (st:=[]) ?_))|simp only [seval,go_sem,hZ]|(with_reducible first|refine gV_split (by simp only [seval,go_sem,hZ];rfl) (by simp only [seval,go_sem,hZ];rfl) (by simp only [seval,go_sem,hZ];first|done|fail) (cvI ?_) (cvI ?_) (by simp only [seval,go_sem,hZ])|refine cV_split (cvI ?_) (cvI ?_))))<;>(try (fail));all_goals (try clear hZ))
 all_goals (simp_all)
set_option maxRecDepth 100000 in set_option maxHeartbeats 6400000 in
theorem rcfg_calls {a b c d e f g:Int}:ACalls Try.prog 24 [.agg [.sc (.int .i64 a), .sc (.int .i64 b), .sc (.int .i64 c), .sc (.int .i64 d), .sc (.int .i64 e), .sc (.int .i64 f), .sc (.int .i64 g)]] (.sc (.int .i64 (cond (cfOk ⟨a,b,c,d,e,f,g⟩) 0 5))) []:=by
 simp only [cfOk]
 generalize h1:inR a 1 64=x1
 generalize h2:inR b 1 64=x2
 generalize h3:inR c 1 16384=x3
 generalize h4:inR d 8 1024=x4
 generalize h5:inR e 1 1024=x5
 generalize h6:inR f 1 1048576=x6
 generalize h7:inR g 1 64=x7
 refine of_tri [] [1,5,10,16,22,28,34,40] Try.func24 rfl call24 rfl (by decide) (by decide) rfl rfl Try.ntmps24 (by simp (disch:=omega) only [seval,go_sem,cnd,intV,shV,convV,strV,List.replicate,l_2,l_1];rfl) (by simp (disch:=omega) only [seval,go_sem,cnd,intV,shV,convV,strV,l_2,l_1];rfl) ?_
 (all_goals (try have hZ:=(And.intro h1 (And.intro h2 (And.intro h3 (And.intro h4 (And.intro h5 (And.intro h6 h7)))))));(repeat' (first|(with_reducible refine isCv ?_;intro hc;(try simp only [bls,reduceCtorEq] at hc);(try (exfalso;omega)))|((with_reducible refine isTriD ?_);((with_reducible refine isCallD ?_);((with_reducible refine LVcall (st:=[]) ?_);simp only [seval,go_sem,hZ];(refine CallL.c (rwithin_calls) ?_))))|(with_reducible refine isRet ?_;refine RetV (rs:=[.tmp 2]) (by with_unfolding_all rfl) rfl ?_<;>simp only [seval,go_sem]<;>(repeat' (with_reducible apply And.intro))<;>(try rfl))|(with_reducible (refine TVq (st:=[]) ?_))|simp only [seval,go_sem,hZ]|(with_reducible first|refine gV_split (by simp only [seval,go_sem,hZ];rfl) (by simp only [seval,go_sem,hZ];rfl) (by simp only [seval,go_sem,hZ];first|done|fail) (cvI ?_) (cvI ?_) (by simp only [seval,go_sem,hZ])|refine cV_split (cvI ?_) (cvI ?_))))<;>(try (fail));all_goals (try clear hZ))
 all_goals (simp_all)
set_option maxRecDepth 100000 in set_option maxHeartbeats 3200000 in
theorem sized_calls {n:Int}:ACalls Try.prog 82 [.sc (.int .i64 n)] (.sc (.bool (inR n 1 1024))) []:=by
 refine of_tri [] [] Try.func82 rfl call82 rfl (by decide) (by decide) rfl rfl Try.ntmps82 (by simp (disch:=omega) only [seval,go_sem,cnd,intV,shV,convV,strV,List.replicate,l_2,l_1];rfl) (by simp (disch:=omega) only [seval,go_sem,cnd,intV,shV,convV,strV,l_2,l_1];rfl) ?_
 ((repeat' (first|(with_reducible refine isCv ?_;intro hc;(try simp only [bls,reduceCtorEq] at hc);(try (exfalso;omega)))|((with_reducible refine isTriD ?_);((with_reducible first|refine TriD.step (by simp only [seval,go_sem];rfl) ?_|refine TriD.step (by simp (disch:=omega) only [seval,go_sem,cnd,intV,shV,convV,strV];rfl) ?_);refine LVs (st:=[7]) ?_))|(with_reducible refine isRet ?_;refine RetV (rs:=[.tmp 2]) (by with_unfolding_all rfl) rfl ?_<;>simp only [seval,go_sem]<;>(repeat' (with_reducible apply And.intro))<;>(try rfl))|(with_reducible (refine TVq (st:=[7]) ?_))|simp only [seval,go_sem]|(with_reducible first|refine oV_st (by simp (disch:=omega) only [seval,go_sem,cnd,intV,shV,convV,strV];rfl) ?_|refine gV_split (by simp only [seval,go_sem];rfl) (by simp only [seval,go_sem];rfl) (by simp only [seval,go_sem];first|done|fail) (cvI ?_) (cvI ?_) (by simp only [seval,go_sem]))))<;>(try (fail)))
 all_goals (simp [inR];try omega)
set_option maxRecDepth 100000 in set_option maxHeartbeats 3200000 in
theorem ceild_calls {a b:Int} (ha:0≤a∧a≤9223372036854775807) (hb:2≤b∧b≤1024):ACalls Try.prog 83 [.sc (.int .i64 a), .sc (.int .i64 b)] (.tup [.sc (.int .i64 (cntE a b)), .sc (.int .i64 0)]) []:=by
 have h1:0≤a/b∧a/b≤a:=⟨Int.ediv_nonneg (by omega) (by omega),Int.ediv_le_self b (by omega)⟩
 have h2:a/b+1≤9223372036854775807:=by
  have:a/b≤9223372036854775806:=by
   have:a/b<9223372036854775807:=Int.ediv_lt_of_lt_mul (by omega) (by omega)
   omega
  omega
 refine of_tri [] [] Try.func83 rfl call83 rfl (by decide) (by decide) rfl rfl Try.ntmps83 (by simp (disch:=omega) only [seval,go_sem,cnd,intV,shV,convV,strV,List.replicate,l_2,l_1];rfl) (by simp (disch:=omega) only [seval,go_sem,cnd,intV,shV,convV,strV,l_2,l_1];rfl) ?_
 ((repeat' (first|(with_reducible refine isCv ?_;intro hc;(try simp only [bls,reduceCtorEq] at hc);(try (exfalso;omega)))|(with_reducible refine isRet ?_;refine RetV (rs:=[.tmp 4,.tmp 5]) (by with_unfolding_all rfl) rfl ?_<;>simp only [seval,go_sem]<;>(repeat' (with_reducible apply And.intro))<;>(try rfl))|(with_reducible (refine TVq (st:=[]) ?_))|simp only [seval,go_sem]|(with_reducible first|refine oV_st (by simp (disch:=omega) only [seval,go_sem,cnd,intV,shV,convV,strV];rfl) ?_|refine cV_split (cvI ?_) (cvI ?_))))<;>(try (fail)))
 all_goals (simp only [cntE];split<;>first|rfl|omega)
set_option maxRecDepth 100000 in set_option maxHeartbeats 3200000 in
theorem count_calls {a b:Int} (ha:0≤a) (ha2:a≤9223372036854775807) (hb:8≤b∧b≤1024):ACalls Try.prog 51 [.sc (.int .i64 a), .sc (.int .i64 b)] (.tup [.sc (.int .i64 (cntE a b)), .sc (.int .i64 0)]) []:=by
 have hr:inR b 1 1024=true:=by simp [inR];omega
 have hc:=ceild_calls (a:=a) (b:=b) ⟨ha,ha2⟩ ⟨by omega,hb.2⟩
 refine of_tri [] [12,18] Try.func51 rfl call51 rfl (by decide) (by decide) rfl rfl Try.ntmps51 (by simp (disch:=omega) only [seval,go_sem,cnd,intV,shV,convV,strV,List.replicate,l_2,l_1];rfl) (by simp (disch:=omega) only [seval,go_sem,cnd,intV,shV,convV,strV,l_2,l_1];rfl) ?_
 ((repeat' (first|((with_reducible refine isTriD ?_);((with_reducible refine isCallD ?_);((with_reducible refine LVcall (st:=[]) ?_);simp only [seval,go_sem,hr];first|(refine CallL.c (hc) ?_)|(refine CallL.c (sized_calls) ?_))))|(with_reducible refine isRet ?_;refine RetV (rs:=[.tmp 4,.tmp 5]) (by with_unfolding_all rfl) rfl ?_<;>simp only [seval,go_sem]<;>(repeat' (with_reducible apply And.intro))<;>(try rfl))|(with_reducible (refine TVq (st:=[]) ?_))|simp only [seval,go_sem,hr]|(with_reducible refine oV_st (by simp (disch:=omega) only [seval,go_sem,cnd,intV,shV,convV,strV,hr];rfl) ?_)))<;>(try (fail)))
end Go.Proofs.Yteemiclhnfkekaa
