/- The walks of Covers, of the program and of the reference. -/
import Derived.Test.YteemiclhnfkekaaZBase
set_option linter.unusedSimpArgs false
set_option linter.unusedVariables false
namespace Go.Proofs.Yteemiclhnfkekaa
open Go.RowKit Go.Avm
structure Pn where
 commit:Int
 count:Int
 deriving DecidableEq
def rowP (p:Pn):List D:=[.sc (.int .i64 p.commit), .sc (.int .i64 p.count)]
def coversP (f t:Int):List Pn→Bool
 | []=>false
 | p::l=>if f≤p.commit∧(p.commit<t∨t=0) then true else coversP f t l
end Go.Proofs.Yteemiclhnfkekaa
/- Pins: what Validate, Total and the reference's functions compute; their walks. -/
set_option linter.unusedSimpArgs false
set_option linter.unusedVariables false
namespace Go.Proofs.Yteemiclhnfkekaa
open Go.RowKit Go.Avm
def validP (prev:Option Pn):List Pn→Int
 | []=>0
 | p::l=>if p.commit<0∨p.count<1∨p.count>1024 then 5 else
    match prev with
    | some q=>if p.commit≤q.commit then 19 else validP (some p) l
    | none=>validP (some p) l
def prevP (l:List Pn) (k:Nat):Option Pn:=if k=0 then none else l[k-1]?
def cap40 (n c:Int):Int:=min (n+min (max c 0) 1099511627776) 1099511627776
def totalP:List Pn→Int→Int
 | [],n=>n
 | p::l,n=>totalP l (cap40 n p.count)
def addSat (a b m:Int):Int×Bool:=if max a 0>max m 0∨max b 0>max m 0-max a 0 then (max m 0,true) else (max a 0+max b 0,false)
end Go.Proofs.Yteemiclhnfkekaa
/- Pins: the place of a commit; what Add and Remove make of a valid list (plain lemmas). -/
set_option linter.unusedSimpArgs false
set_option linter.unusedVariables false
namespace Go.Proofs.Yteemiclhnfkekaa
open Go.RowKit Go.Avm
structure OkP (l:List Pn):Prop where
 range: ∀ p∈l,0≤p.commit∧1≤p.count∧p.count≤1024
 asc:l.Pairwise (fun a b=>a.commit<b.commit)
theorem OkP.tail {p:Pn} {l:List Pn} (h:OkP (p::l)):OkP l∧ ∀ q∈l,p.commit<q.commit:=by
 have:=h.asc
 rw [List.pairwise_cons] at this
 exact ⟨⟨fun q hq=>h.range q (List.mem_cons_of_mem _ hq),this.2⟩,this.1⟩
def placeP (c:Int):List Pn→Nat
 | []=>0
 | p::l=>if p.commit<c then placeP c l+1 else 0
def insGo (c:Int):List Pn→List Pn
 | []=>[⟨c,1⟩]
 | p::l=>if c<p.commit then ⟨c,1⟩::p::l else if p.commit=c then ⟨p.commit,p.count+1⟩::l else p::insGo c l
def fullP (c:Int):List Pn→Bool
 | []=>false
 | p::l=>if p.commit=c∧p.count=1024 then true else fullP c l
def addP (l:List Pn) (c:Int):List Pn×Int:=
 if validP none l≠0 then ([],validP none l) else if c<0 then ([],5) else if fullP c l then ([],14) else (insGo c l,0)
def hasP (c:Int):List Pn→Bool
 | []=>false
 | p::l=>if p.commit=c then true else hasP c l
def delGo (c:Int):List Pn→List Pn
 | []=>[]
 | p::l=>if p.commit=c then (if p.count-1>0 then ⟨p.commit,p.count-1⟩::delGo c l else delGo c l) else if p.count>0 then p::delGo c l else delGo c l
def remP (l:List Pn) (c:Int):List Pn×Int:=
 if validP none l≠0 then ([],validP none l) else if hasP c l then (delGo c l,0) else ([],8)
end Go.Proofs.Yteemiclhnfkekaa
/- The order of strings as lists of bytes is a strict total order (plain lemmas). -/
set_option linter.unusedSimpArgs false
set_option linter.unusedVariables false
namespace Go.Proofs.Yteemiclhnfkekaa
open Go.RowKit Go.Avm
end Go.Proofs.Yteemiclhnfkekaa
/- Directory: what its functions compute (plain). -/
set_option linter.unusedSimpArgs false
set_option linter.unusedVariables false
namespace Go.Proofs.Yteemiclhnfkekaa
open Go.RowKit Go.Avm
structure Bd where
 name:ByteArray
 obj:Int
 frm:Int
 to:Int
 deriving DecidableEq
def rowBd (b:Bd):List D:=[.sc (.string b.name), .sc (.int .i64 b.obj), .sc (.int .i64 b.frm), .sc (.int .i64 b.to)]
def bytesS (s:ByteArray):List Int:=s.data.toList.map fun b=>(b.toNat:Int)
theorem bytesS_len (s:ByteArray):(bytesS s).length=s.size:=by
 rw [bytesS,List.length_map,Array.length_toList];rfl
def lowC (c:Int):Bool:=decide (97≤c)&&decide (c≤122)
def digC (c:Int):Bool:=decide (48≤c)&&decide (c≤57)
def chrOk (c:Int):Bool:=lowC c||digC c||c==45||c==46
def nameOk (s:ByteArray):Bool:=decide (1≤(s.size:Int))&&decide ((s.size:Int)≤16)&&((bytesS s)[0]?).any lowC&&(bytesS s).all chrOk
def holdsB (f t c:Int):Bool:=decide (f≤c)&&(decide (c<t)||t==0)
def eqN (x y:ByteArray):Bool:=x.toList==y.toList
def ltN (x y:ByteArray):Bool:=Op.bytesLess x.toList y.toList
def badB (b:Bd):Int:=if nameOk b.name=false then 6 else if b.obj<1∨b.frm<1∨b.to<0 then 5 else if b.to≠0∧b.to≤b.frm then 19 else 0
def badP (a b:Bd):Bool:=ltN b.name a.name||(eqN b.name a.name&&(decide (b.frm≤a.frm)||a.to==0||decide (b.frm<a.to)))
def valid1 (prev:Option Bd):List Bd→Int
 | []=>0
 | b::l=>if badB b≠0 then badB b else if prev.any (fun a=>badP a b)=true then 19 else valid1 (some b) l
def ovB (a b:Bd):Bool:=(a.to==0||decide (b.frm<a.to))&&(b.to==0||decide (a.frm<b.to))
def dupB (l:List Bd):List Bd→Nat→Bool
 | [],_=>false
 | b::m,i=>(l.take i).any (fun a=>a.obj==b.obj&&ovB a b)||dupB l m (i+1)
def validB (l:List Bd):Int:=if valid1 none l≠0 then valid1 none l else if dupB l l 0=true then 9 else 0
def lateB (c:Int) (l:List Bd):Bool:=l.any fun b=>decide (c<b.frm)||decide (c<b.to)
def openP (n:ByteArray) (b:Bd):Bool:=eqN b.name n&&b.to==0
def idxB (p:Bd→Bool):List Bd→Nat→Int
 | [],_=> -1
 | b::l,i=>if p b=true then (i:Int) else idxB p l (i+1)
def openB (n:ByteArray) (l:List Bd):Int:=idxB (openP n) l 0
def ltB (x b:Bd):Bool:=ltN x.name b.name||(eqN x.name b.name&&decide (x.frm<b.frm))
def placeB (b:Bd):List Bd→Nat
 | []=>0
 | x::l=>if ltB x b=true then placeB b l+1 else 0
def addB (b:Bd) (l:List Bd):List Bd:=l.take (placeB b l)++[b]++l.drop (placeB b l)
def bindB (l:List Bd) (n:ByteArray) (o c:Int):List Bd×Int:=
 if validB l≠0 then ([],validB l) else if nameOk n=false then ([],6) else if o<1∨c<1 then ([],5) else if lateB c l=true then ([],19) else
 if l.any (fun b=>b.to==0&&(eqN b.name n||b.obj==o))=true then ([],9) else (addB ⟨n,o,c,0⟩ l,0)
def bdAt (l:List Bd) (i:Int):Bd:=(l[i.toNat]?).getD ⟨.empty,0,0,0⟩
def endB (l:List Bd) (i c:Int):List Bd:=l.set i.toNat ⟨(bdAt l i).name,(bdAt l i).obj,(bdAt l i).frm,c⟩
def unbindB (l:List Bd) (n:ByteArray) (c:Int):List Bd×Int:=
 if validB l≠0 then ([],validB l) else if nameOk n=false then ([],6) else if c<1 then ([],5) else if lateB c l=true then ([],19) else
 if openB n l<0 then ([],8) else if c≤(bdAt l (openB n l)).frm then ([],19) else (endB l (openB n l) c,0)
def renameB (l:List Bd) (n m:ByteArray) (c:Int):List Bd×Int:=
 if validB l≠0 then ([],validB l) else if nameOk n=false∨nameOk m=false then ([],6) else if c<1 then ([],5) else if lateB c l=true then ([],19) else
 if openB n l<0 then ([],8) else if 0≤openB m l then ([],9) else if c≤(bdAt l (openB n l)).frm then ([],19) else (addB ⟨m,(bdAt l (openB n l)).obj,c,0⟩ (endB l (openB n l) c),0)
def lookB (n:ByteArray) (c:Int):List Bd→Int×Bool
 | []=>(0,false)
 | b::l=>if (eqN b.name n&&holdsB b.frm b.to c)=true then (b.obj,true) else lookB n c l
end Go.Proofs.Yteemiclhnfkekaa
/- Directory: the walks of the small functions of the program and of the reference; names. -/
set_option linter.unusedSimpArgs false
set_option linter.unusedVariables false
namespace Go.Proofs.Yteemiclhnfkekaa
open Go.RowKit Go.Avm
theorem str_get {s:ByteArray} {i:Nat} {z:Int} (h:(bytesS s)[i]? = some z): ∃ b:UInt8,s[i]? = some b∧z=(b.toNat:Int):=by
 rw [bytesS,List.getElem?_map] at h
 cases hb:s.data.toList[i]? with
 | none=>rw [hb] at h;simp at h
 | some b=>
   rw [hb] at h
   simp only [Option.map_some,l_5] at h
   have hlt:=(List.getElem?_eq_some_iff.1 hb).1
   refine ⟨b,?_,h.symm⟩
   rw [Array.length_toList] at hlt
   have h2:i<s.size:=hlt
   rw [getElem?_pos s i h2]
   rw [Array.getElem?_toList,Array.getElem?_eq_getElem hlt] at hb
   exact hb
theorem index_str {s:ByteArray} {i z:Int} (h0:0≤i) (h:(bytesS s)[i.toNat]? = some z):pureRun Try.prog (Instr.index 9 (.string s) (.int .i64 i))=some (.int .u8 z):=by
 obtain ⟨b,hb,rfl⟩:=str_get h
 have hu:pureRun Try.prog (underlying 9)=some .string:=pureRun_underlying Try.underlying9
 unfold Instr.index
 simp only [asIntOf,pureRun_bind,pureRun_pure,Option.bind_some,hu,h0,if_true,hb]
set_option maxRecDepth 100000 in set_option maxHeartbeats 3200000 in
theorem lowc_calls {c:Int}:ACalls Try.prog 53 [.sc (.int .u8 c)] (.sc (.bool (lowC c))) []:=by
 unfold lowC
 refine of_tri [] [] Try.func53 rfl call53 rfl (by decide) (by decide) rfl rfl Try.ntmps53 (by simp (disch:=omega) only [seval,go_sem,cnd,intV,shV,convV,strV,List.replicate,l_2,l_1];rfl) (by simp (disch:=omega) only [seval,go_sem,cnd,intV,shV,convV,strV,l_2,l_1];rfl) ?_
 ((repeat' (first|(with_reducible (first|refine Tri.seq ?_|refine Tri.ret ?_|refine TriD.nil ?_|refine thenQ_n ?_|refine Tri.regionD (by simp only [l_3,l_4];rfl) ?_))|((with_reducible refine isTriD ?_);(with_reducible first|refine TriD.step (by simp only [seval,go_sem];rfl) ?_|refine TriD.step (by simp (disch:=omega) only [seval,go_sem,cnd,intV,shV,convV,strV];rfl) ?_|refine TriD.byGuard (by simp only [seval,go_sem];rfl) (by simp only [seval,go_sem];rfl) (by (fail_if_success (with_reducible exact nlT));(fail_if_success (with_reducible exact nlF));exact nlI) (cvI ?_) (cvI ?_)))|(with_reducible refine isCv ?_;intro hc;(try simp only [bls,reduceCtorEq] at hc);(try (exfalso;omega)))|(with_reducible refine isRet ?_;refine RetOK.q rfl rfl (by simp only [seval,go_sem];rfl) (by decide) (by simp only [seval,go_sem];rfl) (by simp only [seval,go_sem];rfl) rfl ?_<;>(try simp only [seval,go_sem])<;>(repeat' (with_reducible apply And.intro))<;>(try rfl))))<;>(try (fail)))
 all_goals (try (first|rfl|(simp;omega)|(simp_all;done)|(simp_all;omega)))
set_option maxRecDepth 100000 in set_option maxHeartbeats 3200000 in
theorem digc_calls {c:Int}:ACalls Try.prog 54 [.sc (.int .u8 c)] (.sc (.bool (digC c))) []:=by
 unfold digC
 refine of_tri [] [] Try.func54 rfl call54 rfl (by decide) (by decide) rfl rfl Try.ntmps54 (by simp (disch:=omega) only [seval,go_sem,cnd,intV,shV,convV,strV,List.replicate,l_2,l_1];rfl) (by simp (disch:=omega) only [seval,go_sem,cnd,intV,shV,convV,strV,l_2,l_1];rfl) ?_
 ((repeat' (first|(with_reducible (first|refine Tri.seq ?_|refine Tri.ret ?_|refine TriD.nil ?_|refine thenQ_n ?_|refine Tri.regionD (by simp only [l_3,l_4];rfl) ?_))|((with_reducible refine isTriD ?_);(with_reducible first|refine TriD.step (by simp only [seval,go_sem];rfl) ?_|refine TriD.step (by simp (disch:=omega) only [seval,go_sem,cnd,intV,shV,convV,strV];rfl) ?_|refine TriD.byGuard (by simp only [seval,go_sem];rfl) (by simp only [seval,go_sem];rfl) (by (fail_if_success (with_reducible exact nlT));(fail_if_success (with_reducible exact nlF));exact nlI) (cvI ?_) (cvI ?_)))|(with_reducible refine isCv ?_;intro hc;(try simp only [bls,reduceCtorEq] at hc);(try (exfalso;omega)))|(with_reducible refine isRet ?_;refine RetOK.q rfl rfl (by simp only [seval,go_sem];rfl) (by decide) (by simp only [seval,go_sem];rfl) (by simp only [seval,go_sem];rfl) rfl ?_<;>(try simp only [seval,go_sem])<;>(repeat' (with_reducible apply And.intro))<;>(try rfl))))<;>(try (fail)))
 all_goals (try (first|rfl|(simp;omega)|(simp_all;done)|(simp_all;omega)))
set_option maxRecDepth 100000 in set_option maxHeartbeats 3200000 in
theorem holds_calls {n:ByteArray} {o f t c:Int}:ACalls Try.prog 56 [.agg [.sc (.string n), .sc (.int .i64 o), .sc (.int .i64 f), .sc (.int .i64 t)], .sc (.int .i64 c)] (.sc (.bool (holdsB f t c))) []:=by
 unfold holdsB
 refine of_tri [] [2] Try.func56 rfl call56 rfl (by decide) (by decide) rfl rfl Try.ntmps56 (by simp (disch:=omega) only [seval,go_sem,cnd,intV,shV,convV,strV,List.replicate,l_2,l_1];rfl) (by simp (disch:=omega) only [seval,go_sem,cnd,intV,shV,convV,strV,l_2,l_1];rfl) ?_
 ((repeat' (first|(with_reducible (first|refine Tri.seq ?_|refine Tri.ret ?_|refine TriD.nil ?_|refine thenQ_n ?_|refine Tri.regionD (by simp only [l_3,l_4];rfl) ?_))|((with_reducible refine isTriD ?_);(with_reducible first|refine TriD.step (by simp only [seval,go_sem];rfl) ?_|refine TriD.step (by simp (disch:=omega) only [seval,go_sem,cnd,intV,shV,convV,strV];rfl) ?_|refine TriD.byGuard (by simp only [seval,go_sem];rfl) (by simp only [seval,go_sem];rfl) (by (fail_if_success (with_reducible exact nlT));(fail_if_success (with_reducible exact nlF));exact nlI) (cvI ?_) (cvI ?_)))|(with_reducible refine isCv ?_;intro hc;(try simp only [bls,reduceCtorEq] at hc);(try (exfalso;omega)))|(with_reducible refine isRet ?_;refine RetOK.q rfl rfl (by simp only [seval,go_sem];rfl) (by decide) (by simp only [seval,go_sem];rfl) (by simp only [seval,go_sem];rfl) rfl ?_<;>(try simp only [seval,go_sem])<;>(repeat' (with_reducible apply And.intro))<;>(try rfl))))<;>(try (fail)))
 all_goals (try (first|rfl|(simp;omega)|(simp_all;done)|(simp_all;omega)))
set_option maxRecDepth 100000 in set_option maxHeartbeats 3200000 in
theorem overlap_calls {a b:Bd}:ACalls Try.prog 85 [.agg (rowBd a), .agg (rowBd b)] (.sc (.bool (ovB a b))) []:=by
 unfold ovB
 simp only [rowBd]
 refine of_tri [] [2,3] Try.func85 rfl call85 rfl (by decide) (by decide) rfl rfl Try.ntmps85 (by simp (disch:=omega) only [seval,go_sem,cnd,intV,shV,convV,strV,List.replicate,l_2,l_1];rfl) (by simp (disch:=omega) only [seval,go_sem,cnd,intV,shV,convV,strV,l_2,l_1];rfl) ?_
 ((repeat' (first|(with_reducible (first|refine Tri.seq ?_|refine Tri.ret ?_|refine TriD.nil ?_|refine thenQ_n ?_|refine Tri.regionD (by simp only [l_3,l_4];rfl) ?_))|((with_reducible refine isTriD ?_);(with_reducible first|refine TriD.step (by simp only [seval,go_sem];rfl) ?_|refine TriD.step (by simp (disch:=omega) only [seval,go_sem,cnd,intV,shV,convV,strV];rfl) ?_|refine TriD.byGuard (by simp only [seval,go_sem];rfl) (by simp only [seval,go_sem];rfl) (by (fail_if_success (with_reducible exact nlT));(fail_if_success (with_reducible exact nlF));exact nlI) (cvI ?_) (cvI ?_)))|(with_reducible refine isCv ?_;intro hc;(try simp only [bls,reduceCtorEq] at hc);(try (exfalso;omega)))|(with_reducible refine isRet ?_;refine RetOK.q rfl rfl (by simp only [seval,go_sem];rfl) (by decide) (by simp only [seval,go_sem];rfl) (by simp only [seval,go_sem];rfl) rfl ?_<;>(try simp only [seval,go_sem])<;>(repeat' (with_reducible apply And.intro))<;>(try rfl))))<;>(try (fail)))
 all_goals (try (first|rfl|(simp;omega)|(simp_all;done)|(simp_all;omega)))
theorem nameOk_false {s:ByteArray} (h:s.size<1∨16<s.size):nameOk s=false:=by
 unfold nameOk
 rcases h with h|h
 ·rw [decide_eq_false (by omega)];rfl
 ·rw [decide_eq_false (p:=(s.size:Int)≤16) (by omega)];simp
set_option maxRecDepth 100000 in set_option maxHeartbeats 3200000 in
theorem isname_calls {s:ByteArray}:ACalls Try.prog 39 [.sc (.string s)] (.sc (.bool (nameOk s))) []:=by
 by_cases h1:s.size<1∨16<s.size
 ·rw [nameOk_false h1]
  by_cases h2:s.size<1
  ·refine of_tri [] [16,28,32] Try.func39 rfl call39 rfl (by decide) (by decide) rfl rfl Try.ntmps39 (by simp (disch:=omega) only [seval,go_sem,cnd,intV,shV,convV,strV,List.replicate,l_2,l_1];rfl) (by simp (disch:=omega) only [seval,go_sem,cnd,intV,shV,convV,strV,l_2,l_1];rfl) ?_
   ((repeat' (first|(with_reducible (first|refine Tri.seq ?_|refine Tri.ret ?_|refine TriD.nil ?_|refine thenQ_n ?_|refine thenQ_r ?_|refine Tri.regionD (by simp only [l_3,l_4];rfl) ?_))|((with_reducible refine isTriD ?_);(with_reducible first|refine TriD.step (by simp only [seval,go_sem];rfl) ?_|refine TriD.step (by simp (disch:=omega) only [seval,go_sem,cnd,intV,shV,convV,strV];rfl) ?_))|(with_reducible refine isCond ?_;with_reducible refine Tri.cond (by simp only [seval,go_sem];rfl) (cvI ?_) (cvI ?_))|(with_reducible refine isCv ?_;intro hc;(try simp only [bls,reduceCtorEq] at hc);(try (exfalso;omega)))|(with_reducible refine isRet ?_;refine RetOK.q rfl rfl (by simp only [seval,go_sem];rfl) (by decide) (by simp only [seval,go_sem];rfl) (by simp only [seval,go_sem];rfl) rfl ?_<;>(try simp only [seval,go_sem])<;>(repeat' (with_reducible apply And.intro))<;>(try rfl))))<;>(try (fail)))
  ·refine of_tri [] [16,28,32] Try.func39 rfl call39 rfl (by decide) (by decide) rfl rfl Try.ntmps39 (by simp (disch:=omega) only [seval,go_sem,cnd,intV,shV,convV,strV,List.replicate,l_2,l_1];rfl) (by simp (disch:=omega) only [seval,go_sem,cnd,intV,shV,convV,strV,l_2,l_1];rfl) ?_
   ((repeat' (first|(with_reducible (first|refine Tri.seq ?_|refine Tri.ret ?_|refine TriD.nil ?_|refine thenQ_n ?_|refine thenQ_r ?_|refine Tri.regionD (by simp only [l_3,l_4];rfl) ?_))|((with_reducible refine isTriD ?_);(with_reducible first|refine TriD.step (by simp only [seval,go_sem];rfl) ?_|refine TriD.step (by simp (disch:=omega) only [seval,go_sem,cnd,intV,shV,convV,strV];rfl) ?_))|(with_reducible refine isCond ?_;with_reducible refine Tri.cond (by simp only [seval,go_sem];rfl) (cvI ?_) (cvI ?_))|(with_reducible refine isCv ?_;intro hc;(try simp only [bls,reduceCtorEq] at hc);(try (exfalso;omega)))|(with_reducible refine isRet ?_;refine RetOK.q rfl rfl (by simp only [seval,go_sem];rfl) (by decide) (by simp only [seval,go_sem];rfl) (by simp only [seval,go_sem];rfl) rfl ?_<;>(try simp only [seval,go_sem])<;>(repeat' (with_reducible apply And.intro))<;>(try rfl))))<;>(try (fail)))
 have hsz:=bytesS_len s
 obtain ⟨z,hz⟩:=get_lt (l:=bytesS s) (k:=0) (by omega)
 have hi:=index_str (s:=s) (i:=0) (by omega) hz
 have e:nameOk s=(lowC z&&(bytesS s).all chrOk):=by
  unfold nameOk
  rw [decide_eq_true (by omega),decide_eq_true (by omega),hz];rfl
 rw [e]
 cases h3:lowC z with
 | false=>
   simp only [Bool.false_and]
   refine of_tri [] [16,28,32] Try.func39 rfl call39 rfl (by decide) (by decide) rfl rfl Try.ntmps39 (by simp (disch:=omega) only [seval,go_sem,cnd,intV,shV,convV,strV,List.replicate,l_2,l_1];rfl) (by simp (disch:=omega) only [seval,go_sem,cnd,intV,shV,convV,strV,l_2,l_1];rfl) ?_
   (all_goals (try have hZ:=(And.intro hi h3));(repeat' (first|(with_reducible (first|refine Tri.seq ?_|refine Tri.ret ?_|refine TriD.nil ?_|refine thenQ_n ?_|refine thenQ_r ?_|refine Tri.regionD (by simp only [l_3,l_4];rfl) ?_))|((with_reducible refine isTriD ?_);first|(with_reducible refine TriD.step (by simp only [seval,go_sem,hZ];rfl) ?_)|((with_reducible refine isCallD ?_);((with_reducible (refine TriD.dE (by simp only [seval,go_sem,hZ];rfl) (by simp only [seval,go_sem,hZ];rfl) ?_));refine CallK.c [] (lowc_calls) (by simp only [seval,go_sem,hZ];rfl) ?_))|(with_reducible refine TriD.step (by simp (disch:=omega) only [seval,go_sem,cnd,intV,shV,convV,strV,hZ];rfl) ?_))|(with_reducible refine isCond ?_;with_reducible refine Tri.cond (by simp only [seval,go_sem,hZ];rfl) (cvI ?_) (cvI ?_))|(with_reducible refine isCv ?_;intro hc;(try simp only [bls,reduceCtorEq] at hc);(try (exfalso;omega)))|(with_reducible refine isRet ?_;refine RetOK.q rfl rfl (by simp only [seval,go_sem];rfl) (by decide) (by simp only [seval,go_sem];rfl) (by simp only [seval,go_sem];rfl) rfl ?_<;>(try simp only [seval,go_sem])<;>(repeat' (with_reducible apply And.intro))<;>(try rfl))))<;>(try (fail));all_goals (try clear hZ))
 | true=>
   simp only [Bool.true_and]
   refine of_tri [] [16,28,32] Try.func39 rfl call39 rfl (by decide) (by decide) rfl rfl Try.ntmps39 (by simp (disch:=omega) only [seval,go_sem,cnd,intV,shV,convV,strV,List.replicate,l_2,l_1];rfl) (by simp (disch:=omega) only [seval,go_sem,cnd,intV,shV,convV,strV,l_2,l_1];rfl) ?_
   (all_goals (try have hZ:=(And.intro hi h3));(repeat' (first|(with_reducible (first|refine Tri.seq ?_|refine Tri.block ?_|refine Tri.skip ?_|refine TriD.nil ?_|refine thenQ_n ?_|refine Tri.regionD (by simp only [l_3,l_4];rfl) ?_))|((with_reducible refine isTriD ?_);first|(with_reducible refine TriD.step (by simp only [seval,go_sem,hZ];rfl) ?_)|((with_reducible refine isCallD ?_);((with_reducible (refine TriD.dE (by simp only [seval,go_sem,hZ];rfl) (by simp only [seval,go_sem,hZ];rfl) ?_));refine CallK.c [] (lowc_calls) (by simp only [seval,go_sem,hZ];rfl) ?_))|(with_reducible refine TriD.step (by simp (disch:=omega) only [seval,go_sem,cnd,intV,shV,convV,strV,hZ];rfl) ?_))|(with_reducible refine isCond ?_;with_reducible refine Tri.cond (by simp only [seval,go_sem,hZ];rfl) (cvI ?_) (cvI ?_))|(with_reducible refine isCv ?_;intro hc;(try simp only [bls,reduceCtorEq] at hc);(try (exfalso;omega)))))<;>(try (fail));all_goals (try clear hZ))
   (with_reducible refine Tri.loopU (fun (k:Nat)=>[(21,.sc (.int .i64 k)),(2,.any),(3,.any),(4,.any),(22,.any),(23,.any),(24,.any),(25,.any),(26,.any),(27,.any),(28,.any),(29,.any),(30,.any),(31,.any),(32,.any),(33,.any),(34,.any),(35,.any),(36,.any),(37,.any),(38,.any),(39,.any),(40,.any),(41,.any),(42,.any),(43,.any)]) (fun (k:Nat)=>[(28,.dead),(32,.dead)]) (fun (k:Nat)=>k≤s.size∧((bytesS s).drop k).all chrOk=(bytesS s).all chrOk) (fun (k:Nat)=>s.size-k) (0) (⟨Nat.zero_le _,rfl⟩) (by intro _;simp (disch:=omega) only [seval,go_sem,cnd,intV,shV,convV,strV];rfl) (by intro _;simp (disch:=omega) only [seval,go_sem,cnd,intV,shV,convV,strV];rfl) (by (refine leQL_spec ?_);(try simp only [seval,go_sem]);first|done|fail) (by (refine leQH_spec ?_);(try simp only [seval,go_sem]);first|done|fail) (fun k hI=>?_))
   obtain ⟨hk,hf⟩:=hI
   by_cases hlt:k<s.size
   ·obtain ⟨y,hy⟩:=get_lt (l:=bytesS s) (k:=k) (by omega)
    have hiy:=index_str (s:=s) (i:=k) (by omega) hy
    rw [drop_get hy,List.all_cons,chrOk] at hf
    cases c1:lowC y<;>cases c2:digC y<;>cases c3:(y==45)<;>cases c4:(y==46)<;>simp only [c1,c2,c3,c4,Bool.or_false,Bool.or_true,Bool.false_or,Bool.true_or,Bool.false_and,Bool.true_and] at hf<;>simp only [beq_iff_eq,beq_eq_false_iff_ne,ne_eq] at c3 c4
    all_goals (try (exfalso;omega))
    all_goals ((repeat' (first|(with_reducible (first|refine Tri.seq ?_|refine Tri.block ?_|refine Tri.skip ?_|refine Tri.ret ?_|refine TriD.nil ?_|refine thenQ_n ?_|refine thenQ_r ?_|refine inBlockQ_n ?_|refine inBlockQ_r ?_|refine loopQ_n ?_|refine loopQ_r ?_|refine Tri.regionD (by simp only [l_3,l_4];rfl) ?_))|((with_reducible refine isTriD ?_);first|(with_reducible refine TriD.step (by simp only [seval,go_sem,hiy,c1,c2];rfl) ?_)|((with_reducible refine isCallD ?_);((with_reducible (refine TriD.dE (by simp only [seval,go_sem,hiy,c1,c2];rfl) (by simp only [seval,go_sem,hiy,c1,c2];rfl) ?_));first|refine CallK.c [] (lowc_calls) (by simp only [seval,go_sem,hiy,c1,c2];rfl) ?_|refine CallK.c [] (digc_calls) (by simp only [seval,go_sem,hiy,c1,c2];rfl) ?_))|(with_reducible refine TriD.step (by simp (disch:=omega) only [seval,go_sem,cnd,intV,shV,convV,strV,hiy,c1,c2];rfl) ?_))|(with_reducible refine isCond ?_;with_reducible refine Tri.cond (by simp only [seval,go_sem,hiy,c1,c2];rfl) (cvI ?_) (cvI ?_))|(with_reducible refine isCv ?_;intro hc;(try simp only [bls,reduceCtorEq] at hc);(try (exfalso;omega)))|(with_reducible refine isRet ?_;refine RetOK.q rfl rfl (by simp only [seval,go_sem];rfl) (by decide) (by simp only [seval,go_sem];rfl) (by simp only [seval,go_sem];rfl) rfl ?_<;>(try simp only [seval,go_sem])<;>(repeat' (with_reducible apply And.intro))<;>(try rfl))))<;>(try ((with_reducible assumption))))
    all_goals (try (refine isNext (k+1) (by (refine leQL_spec ?_);(try simp only [seval,go_sem]);first|((repeat' (with_reducible apply And.intro))<;>first|rfl);first|done|fail) (by (refine leQH_spec ?_);(try simp only [seval,go_sem]);first|done|fail) ?_ ?_<;>(try (omega))))
    all_goals (try (first|(exfalso;omega)|exact ⟨by omega,hf⟩|(exact hf)|(exact hf.symm)))
   ·rw [List.drop_eq_nil_of_le (by omega)] at hf
    rw [← hf]
    ((repeat' (first|(with_reducible (first|refine Tri.seq ?_|refine Tri.exit ?_|refine Tri.ret ?_|refine TriD.nil ?_|refine thenQ_n ?_|refine thenQ_e ?_|refine inBlockQ_e ?_|refine loopQ_e ?_|refine Tri.regionD (by simp only [l_3,l_4];rfl) ?_))|((with_reducible refine isTriD ?_);(with_reducible first|refine TriD.step (by simp only [seval,go_sem];rfl) ?_|refine TriD.step (by simp (disch:=omega) only [seval,go_sem,cnd,intV,shV,convV,strV];rfl) ?_))|(with_reducible refine isCond ?_;with_reducible refine Tri.cond (by simp only [seval,go_sem];rfl) (cvI ?_) (cvI ?_))|(with_reducible refine isCv ?_;intro hc;(try simp only [bls,reduceCtorEq] at hc);(try (exfalso;omega)))|(with_reducible refine isRet ?_;refine RetOK.q rfl rfl (by simp only [seval,go_sem];rfl) (by decide) (by simp only [seval,go_sem];rfl) (by simp only [seval,go_sem];rfl) rfl ?_<;>(try simp only [seval,go_sem])<;>(repeat' (with_reducible apply And.intro))<;>(try rfl))))<;>(try (fail)))
end Go.Proofs.Yteemiclhnfkekaa
