/- Directory: the law's known, made and spoil. -/
import Derived.Test.YtmgodadmafcliaaGreatZDiC
import Derived.Test.YtmgodadmafcliaaGreatZDiF
import Derived.Test.YtmgodadmafcliaaGreatZDiA
import Derived.Test.YtmgodadmafcliaaGreatZAvmS
import Derived.Test.YtmgodadmafcliaaGreatZVnP
import Derived.Test.YtmgodadmafcliaaGreatZCoS
set_option linter.unusedSimpArgs false
set_option linter.unusedVariables false
namespace Go.Proofs.YtmgodadmafcliaaGreat
open Go.RowKit Go.Avm
theorem rbind2_calls {l:List Bd} {n:ByteArray} {o c:Int} (hl:l.length≤100000):ACalls Tryz.prog 45 [.sl 4 (l.map rowBd),.sc (.string n),.sc (.int .i64 o),.sc (.int .i64 c)] (.tup [.sl 4 ((bindB l n o c).1.map rowBd),.sc (.int .i64 (bindB l n o c).2)]) []:=rbind_calls hl (rvalidd_calls hl)
theorem runbind2_calls {l:List Bd} {n:ByteArray} {c:Int} (hl:l.length≤100000):ACalls Tryz.prog 52 [.sl 4 (l.map rowBd), .sc (.string n), .sc (.int .i64 c)] (.tup [.sl 4 ((unbindB l n c).1.map rowBd), .sc (.int .i64 (unbindB l n c).2)]) []:=runbind_calls hl (rvalidd_calls hl)
theorem rrename2_calls {l:List Bd} {n m:ByteArray} {c:Int} (hl:l.length≤100000):ACalls Tryz.prog 53 [.sl 4 (l.map rowBd),.sc (.string n),.sc (.string m),.sc (.int .i64 c)] (.tup [.sl 4 ((renameB l n m c).1.map rowBd),.sc (.int .i64 (renameB l n m c).2)]) []:=rrename_calls hl (rvalidd_calls hl)
theorem addB_len (b:Bd) (l:List Bd):(addB b l).length=l.length+1:=by
 have:=placeB_le b l
 simp only [addB,List.length_append,List.length_take,List.length_drop,List.length_cons,List.length_nil];omega
theorem bindB_len (l:List Bd) (n:ByteArray) (o c:Int):(bindB l n o c).1.length≤l.length+1:=by
 unfold bindB
 repeat (split;simp)
 simp only [addB_len];omega
theorem unbindB_len (l:List Bd) (n:ByteArray) (c:Int):(unbindB l n c).1.length≤l.length+1:=by
 unfold unbindB
 repeat (split;simp)
 simp only [endB,List.length_set];omega
theorem renameB_len (l:List Bd) (n m:ByteArray) (c:Int):(renameB l n m c).1.length≤l.length+1:=by
 unfold renameB
 repeat (split;simp)
 simp only [endB,addB_len,List.length_set];omega
def nameK (n:Int):ByteArray:=if n%16777216%3=0 then ⟨#[97]⟩ else if n%16777216%3=1 then ⟨#[98]⟩ else ⟨#[99]⟩
theorem nameK_get (n:Int):([[.sc (.string ⟨#[97]⟩)],[.sc (.string ⟨#[98]⟩)],[.sc (.string ⟨#[99]⟩)]]:List (List D))[(n%16777216%3).toNat]? = some [.sc (.string (nameK n))]:=by
 have:n%16777216%3=0∨n%16777216%3=1∨n%16777216%3=2:=by omega
 unfold nameK
 rcases this with h|h|h<;>rw [h]<;>rfl
set_option maxRecDepth 100000 in set_option maxHeartbeats 3200000 in
theorem nameK_calls {n:Int}:ACalls Tryz.prog 20 [.sc (.int .i64 n)] (.sc (.string (nameK n))) []:=by
 have h:=nameK_get n
 refine of_tri [] [3] Tryz.func20 rfl call20 rfl (by decide) (by decide) rfl rfl Tryz.ntmps20 (by simp (disch:=omega) only [seval,go_sem,cnd,intV,shV,convV,strV,List.replicate,l_2,l_1];rfl) (by simp (disch:=omega) only [seval,go_sem,cnd,intV,shV,convV,strV,l_2,l_1];rfl) ?_
 ((repeat' (first|(with_reducible (first|refine Tri.seq ?_|refine Tri.ret ?_|refine TriD.nil ?_|refine thenQ_n ?_|refine Tri.regionD (by simp only [l_3,l_4];rfl) ?_))|((with_reducible refine isTriD ?_);(with_reducible first|refine TriD.step (by simp only [seval,go_sem,h];rfl) ?_|refine TriD.step (by simp (disch:=omega) only [seval,go_sem,cnd,intV,shV,convV,strV,h];rfl) ?_))|(with_reducible refine isRet ?_;refine RetOK.q rfl rfl (by simp only [seval,go_sem];rfl) (by decide) (by simp only [seval,go_sem];rfl) (by simp only [seval,go_sem];rfl) rfl ?_<;>(try simp only [seval,go_sem])<;>(repeat' (with_reducible apply And.intro))<;>(try rfl))))<;>(try (fail)))
def rowJ (z:Int):List D:=[.sc (.int .i64 z)]
def stepD (k:Int) (d:List Bd) (c o:Int):(List Bd×Int)×Int:=
 if k%4=0∨k%4=1 then (bindB d (nameK (k/4%16)) o c,o+1) else if k%4=2 then (unbindB d (nameK (k/4%16)) c,o) else (renameB d (nameK (k/4%16)) (nameK (k/64%16)) c,o)
def madeD:List Int→Nat→List Bd→Int→Int→List Bd×Int
 | [],_,d,c,_=>(d,c)
 | k::l,i,d,c,o=>if 10≤i then (d,c) else if (stepD k d c o).1.2=0 then madeD l (i+1) (stepD k d c o).1.1 (c+1) (stepD k d c o).2 else madeD l (i+1) d c (stepD k d c o).2
end Go.Proofs.YtmgodadmafcliaaGreat
/- Directory: the list of the reference (plain). -/
set_option linter.unusedSimpArgs false
set_option linter.unusedVariables false
namespace Go.Proofs.YtmgodadmafcliaaGreat
open Go.RowKit Go.Avm
def rowN (s:ByteArray):List D:=[.sc (.string s)]
def insN (n:ByteArray):List ByteArray→List ByteArray
 | []=>[n]
 | y::l=>if ltN y n=true then y::insN n l else if eqN y n=true then y::l else n::y::l
def listR (c:Int):List Bd→List ByteArray→List ByteArray
 | [],a=>a
 | b::l,a=>if holdsB b.frm b.to c=true then listR c l (insN b.name a) else listR c l a
end Go.Proofs.YtmgodadmafcliaaGreat
/- The reference's store (layers 14 to 19): what its functions compute (plain). -/
set_option linter.unusedSimpArgs false
set_option linter.unusedVariables false
namespace Go.Proofs.YtmgodadmafcliaaGreat
open Go.RowKit Go.Avm
structure Ar where
 cap:Int
 pages:List Pg
structure Sr where
 c:Cf
 commit:Int
 last:Int
 objs:List Ob
 binds:List Bd
 pins:List Pn
 ar:Ar
def dAr (a:Ar):List D:=[.sc (.int .i64 a.cap), .sl 3 (a.pages.map rowPg)]
def dSr (s:Sr):List D:=[.sc (.int .i64 s.c.ses),.sc (.int .i64 s.c.nam),.sc (.int .i64 s.c.pag),.sc (.int .i64 s.c.psz),.sc (.int .i64 s.c.pin),.sc (.int .i64 s.c.com),.sc (.int .i64 s.c.chk),.sc (.int .i64 s.commit),.sc (.int .i64 s.last),.sl 2 (s.objs.map rowOb),.sl 4 (s.binds.map rowBd),.sl 2 (s.pins.map rowP),.sc (.int .i64 s.ar.cap),.sl 3 (s.ar.pages.map rowPg)]
def pgGet (l:List Pg) (i:Int):Pg:=(l[i.toNat]?).getD ⟨0,0,[]⟩
/-- The first free number from n on. -/
def freeGo (l:List Pg):Nat→Int→Int
 | 0,n=>n
 | k+1,n=>if pgAt n l 0<0 then n else freeGo l k (n+1)
def freeN (l:List Pg):Int:=freeGo l (l.length+1) 1
def insPg (x:Pg) (l:List Pg):List Pg:=insAt l (stopAt (fun k=>decide (x.num<(pgGet l k).num)) l.length) x
def allocR (a:Ar) (d:List Int):Ar×Int×Int:=
 if 1024<(d.length:Int) then (a,0,11) else if a.cap≤(a.pages.length:Int) then (a,0,14) else (⟨a.cap,insPg ⟨freeN a.pages,1,d⟩ a.pages⟩,freeN a.pages,0)
def setRefs (l:List Pg) (i:Int) (r:Int):List Pg:=l.set i.toNat ⟨(pgGet l i).num,r,(pgGet l i).data⟩
def holdR (a:Ar) (n:Int):Ar×Int:=if pgAt n a.pages 0<0 then (a,8) else (⟨a.cap,setRefs a.pages (pgAt n a.pages 0) (wr ((pgGet a.pages (pgAt n a.pages 0)).refs+1))⟩,0)
def delAt {α:Type} (l:List α) (i:Int):List α:=l.take i.toNat++l.drop (i.toNat+1)
def releaseR (a:Ar) (n:Int):Ar×Bool×Int:=
 if pgAt n a.pages 0<0 then (a,false,8) else
 if 0<wr ((pgGet a.pages (pgAt n a.pages 0)).refs-1) then (⟨a.cap,setRefs a.pages (pgAt n a.pages 0) (wr ((pgGet a.pages (pgAt n a.pages 0)).refs-1))⟩,false,0) else (⟨a.cap,delAt a.pages (pgAt n a.pages 0)⟩,true,0)
def dataR (a:Ar) (n:Int):List Int×Int:=if pgAt n a.pages 0<0 then ([],8) else ((pgGet a.pages (pgAt n a.pages 0)).data,0)
def chunks (sz:Nat):Nat→List Int→List (List Int)
 | 0,_=>[]
 | k+1,l=>if l.length=0 then [] else l.take sz::chunks sz k (l.drop sz)
def splitR (b:List Int) (sz:Int):List (List Int)×Int:=if sz<1∨1024<sz then ([],5) else (chunks sz.toNat b.length b,0)
def sharedR:List (List Int)→List (List Int)→List Bool
 | _,[]=>[]
 | [],_::l=>false::sharedR [] l
 | o::os,x::l=>decide (o=x)::sharedR os l
def newR (c:Cf):Sr×Int:=if cfOk c=false then (⟨⟨0,0,0,0,0,0,0⟩,0,0,[],[],[],⟨0,[]⟩⟩,5) else (⟨c,0,0,[],[],[],⟨c.pag,[]⟩⟩,0)
def pinnedR (l:List Pn) (c:Int):Bool:=l.any fun p=>p.commit==c
def visE (s:Sr) (c:Int):Int:=if inR c 0 s.commit=false then 5 else if c≠s.commit∧pinnedR s.pins c=false then 17 else 0
def obGet (l:List Ob) (i:Int):Ob:=(l[i.toNat]?).getD ⟨0,[]⟩
def verGet (l:List Ver) (i:Int):Ver:=(l[i.toNat]?).getD zeroV
/-- The object and the version of a name. -/
def verR (s:Sr) (n:ByteArray) (c:Int):Int×Ver×Bool:=
 if (lookB n c s.binds).2=false∨objAt (lookB n c s.binds).1 s.objs 0<0 then (0,zeroV,false) else
 if (findN c (obGet s.objs (objAt (lookB n c s.binds).1 s.objs 0)).vers 0).2=false then (0,zeroV,false) else
 (objAt (lookB n c s.binds).1 s.objs 0,verGet (obGet s.objs (objAt (lookB n c s.binds).1 s.objs 0)).vers (findN c (obGet s.objs (objAt (lookB n c s.binds).1 s.objs 0)).vers 0).1,true)
def storedR (a:Ar) (l:List Int):List (List Int):=l.map fun n=>(dataR a n).1
def boundR (s:Sr) (n:ByteArray):Bool:=(lookB n s.commit s.binds).2
/-- Pages for new bytes, one after another. -/
def allocs:Ar→List (List Int)→Ar×List Int
 | a,[]=>(a,[])
 | a,d::l=>((allocs (allocR a d).1 l).1,(allocR a d).2.1::(allocs (allocR a d).1 l).2)
def setVers (l:List Ob) (i:Int) (v:List Ver):List Ob:=l.set i.toNat ⟨(obGet l i).id,v⟩
def needR:List Bool→Int
 | []=>0
 | b::l=>if b=true then needR l else needR l+1
/-- The pages of the next version. -/
def puts:Ar→List (List Int)→List Bool→List Int→Ar×List Int
 | a,d::l,b::bs,o=>if b=true then ((puts (holdR a (o.headD 0)).1 l bs o.tail).1,o.headD 0::(puts (holdR a (o.headD 0)).1 l bs o.tail).2) else ((puts (allocR a d).1 l bs o.tail).1,(allocR a d).2.1::(puts (allocR a d).1 l bs o.tail).2)
 | a,_,_,_=>(a,[])
def dropR (s:Sr) (n:ByteArray):Sr×Int×Int:=
 if (verR s n s.commit).2.2=false then (s,0,8) else if s.c.com≤s.commit then (s,0,14) else
 ({ s with commit:=s.commit+1,objs:=setVers s.objs (verR s n s.commit).1 (closeV (obGet s.objs (verR s n s.commit).1).vers (s.commit+1)).1,binds:=(unbindB s.binds n (s.commit+1)).1 },s.commit+1,0)
def pinR (s:Sr) (c:Int):Sr×Int:=if visE s c≠0 then (s,visE s c) else if s.c.pin≤totalP s.pins 0 then (s,14) else ({ s with pins:=(addP s.pins c).1 },0)
def unpinR (s:Sr) (c:Int):Sr×Int:=if pinnedR s.pins c=false then (s,8) else ({ s with pins:=(remP s.pins c).1 },0)
def renameR (s:Sr) (n m:ByteArray):Sr×Int×Int:=
 if nameOk m=false then (s,0,6) else if boundR s n=false then (s,0,8) else if boundR s m=true then (s,0,9) else if s.c.com≤s.commit then (s,0,14) else
 ({ s with commit:=s.commit+1,binds:=(renameB s.binds n m (s.commit+1)).1 },s.commit+1,0)
def createR (s:Sr) (n:ByteArray) (d:List Int):Sr×Int×Int:=
 if nameOk n=false then (s,0,6) else if 65536<(d.length:Int) then (s,0,11) else if boundR s n=true then (s,0,9) else
 if s.c.nam≤((listR s.commit s.binds []).length:Int)∨s.c.com≤s.commit∨s.c.pag<(s.ar.pages.length:Int)+((splitR d s.c.psz).1.length:Int) then (s,0,14) else
 ({ s with commit:=s.commit+1,last:=s.last+1,objs:=s.objs++[⟨s.last+1,[⟨s.commit+1,0,d.length,(allocs s.ar (splitR d s.c.psz).1).2⟩]⟩],binds:=(bindB s.binds n (s.last+1) (s.commit+1)).1,ar:=(allocs s.ar (splitR d s.c.psz).1).1 },s.commit+1,0)
def putR (s:Sr) (n:ByteArray) (d:List Int):Sr×Int×Int:=
 if 65536<(d.length:Int) then (s,0,11) else if (verR s n s.commit).2.2=false then (s,0,8) else
 if s.c.com≤s.commit∨s.c.pag<(s.ar.pages.length:Int)+needR (sharedR (storedR s.ar (verR s n s.commit).2.1.pages) (splitR d s.c.psz).1) then (s,0,14) else
 ({ s with commit:=s.commit+1,objs:=setVers s.objs (verR s n s.commit).1 (appendV (obGet s.objs (verR s n s.commit).1).vers ⟨s.commit+1,0,d.length,(puts s.ar (splitR d s.c.psz).1 (sharedR (storedR s.ar (verR s n s.commit).2.1.pages) (splitR d s.c.psz).1) (verR s n s.commit).2.1.pages).2⟩).1,ar:=(puts s.ar (splitR d s.c.psz).1 (sharedR (storedR s.ar (verR s n s.commit).2.1.pages) (splitR d s.c.psz).1) (verR s n s.commit).2.1.pages).1 },s.commit+1,0)
def rels:Ar→List Int→Ar
 | a,[]=>a
 | a,n::l=>rels (releaseR a n).1 l
def removeR (s:Sr) (id frm:Int):Sr×Int:=
 if objAt id s.objs 0<0 then (s,8) else if (removeV (obGet s.objs (objAt id s.objs 0)).vers frm).2.2≠0 then (s,(removeV (obGet s.objs (objAt id s.objs 0)).vers frm).2.2) else
 if (removeV (obGet s.objs (objAt id s.objs 0)).vers frm).2.1.to=0∨coversP (removeV (obGet s.objs (objAt id s.objs 0)).vers frm).2.1.from_ (removeV (obGet s.objs (objAt id s.objs 0)).vers frm).2.1.to s.pins=true then (s,17) else
 ({ s with objs:=if (removeV (obGet s.objs (objAt id s.objs 0)).vers frm).1.length=0 then delAt s.objs (objAt id s.objs 0) else setVers s.objs (objAt id s.objs 0) (removeV (obGet s.objs (objAt id s.objs 0)).vers frm).1,ar:=rels s.ar (removeV (obGet s.objs (objAt id s.objs 0)).vers frm).2.1.pages },0)
def atK (l:List Int) (i:Nat):Int:=if l.length=0 then (i:Int)%65536 else ((l[i%l.length]?).getD 0)%65536+((i/l.length:Nat):Int)
def byteK (n:Int) (i:Nat):Int:=if ((i%16:Nat):Int)=n/512%16 then n%256 else (i:Int)
def bytesK (n:Int):List Int:=(List.range (n/8%64%61).toNat).map (byteK n)
def changeR (s:Sr) (n:Int):Sr:=
 if n%8=0∨n%8=1 then (createR s (nameK (n/8)) (bytesK n)).1 else if n%8=2∨n%8=3 then (putR s (nameK (n/8)) (bytesK n)).1 else if n%8=4 then (dropR s (nameK (n/8))).1 else
 if n%8=5 then (renameR s (nameK (n/8)) (nameK (n/32))).1 else if n%8=6 then (pinR s s.commit).1 else
 if s.pins.length=0 then s else (unpinR s (((s.pins[(n/8%(s.pins.length:Int)).toNat]?).map (·.commit)).getD 0)).1
def storeGo (l:List Int):Nat→Nat→Sr→Sr
 | 0,_,s=>s
 | k+1,i,s=>if i≤12∧i<l.length then storeGo l k (i+1) (changeR s (atK l i)) else s
def storeR (l:List Int):Sr:=storeGo l 12 1 (newR (cfgK (atK l 0))).1
def dumpR (s:Sr):Dm:=⟨s.commit,s.objs,s.binds,s.pins,s.ar.pages⟩
end Go.Proofs.YtmgodadmafcliaaGreat
/- The reference's arena and pages: the walks of its functions. -/
set_option linter.unusedSimpArgs false
set_option linter.unusedVariables false
namespace Go.Proofs.YtmgodadmafcliaaGreat
open Go.RowKit Go.Avm
set_option maxRecDepth 100000 in set_option maxHeartbeats 3200000 in
theorem index_calls {c n:Int} {l:List Pg} (hl:l.length≤100000):ACalls Tryz.prog 70 [.agg [.sc (.int .i64 c), .sl 3 (l.map rowPg)], .sc (.int .i64 n)] (.sc (.int .i64 (pgAt n l 0))) []:=by
 refine of_tri [] [2] Tryz.func70 rfl call70 rfl (by decide) (by decide) rfl rfl Tryz.ntmps70 (by simp (disch:=omega) only [seval,go_sem,cnd,intV,shV,convV,strV,List.replicate,l_2,l_1];rfl) (by simp (disch:=omega) only [seval,go_sem,cnd,intV,shV,convV,strV,l_2,l_1];rfl) ?_
 ((repeat' (first|(with_reducible (refine TVq (st:=[]) ?_))|simp only [seval,go_sem]))<;>(try (fail)))
 all_goals (with_reducible refine Tri.loopU (fun (k:Nat)=>[(5,.sc (.int .i64 k)),(4,.any),(6,.any),(7,.any),(8,.any),(9,.any),(10,.any),(11,.any),(12,.any),(13,.any),(14,.any),(15,.any),(16,.any),(17,.any),(18,.any),(19,.any),(20,.any),(21,.any)]) (fun (k:Nat)=>[]) (fun (k:Nat)=>k≤l.length∧pgAt n (l.drop k) k=pgAt n l 0) (fun (k:Nat)=>l.length-k) (0) (⟨Nat.zero_le _,rfl⟩) (by intro _;simp (disch:=omega) only [seval,go_sem,cnd,intV,shV,convV,strV];rfl) (by intro _;simp (disch:=omega) only [seval,go_sem,cnd,intV,shV,convV,strV];rfl) (by (refine leQL_spec ?_);(try simp only [seval,go_sem]);done) (by (refine leQH_spec ?_);(try simp only [seval,go_sem]);done) (fun k hI=>?_))
 all_goals obtain ⟨hk,hf⟩:=hI
 by_cases hlt:k<l.length
 ·obtain ⟨o,ho⟩:=get_lt hlt
  have ho':=get_map rowPg ho
  rw [drop_get ho,pgAt] at hf
  by_cases hc:o.num=n
  ·rw [if_pos hc] at hf
   rw [← hf]
   ((repeat' (first|(with_reducible refine isRet ?_;refine RetV (rs:=[.tmp 4]) (by with_unfolding_all rfl) rfl ?_<;>simp only [seval,go_sem]<;>(repeat' (with_reducible apply And.intro))<;>(try rfl))|(with_reducible (refine TVq (st:=[]) ?_))|simp only [seval,go_sem,ho',rowPg]|(with_reducible refine oV_st (by simp (disch:=omega) only [seval,go_sem,cnd,intV,shV,convV,strV,ho',rowPg];rfl) ?_)))<;>(try (fail)))
  ·rw [if_neg hc] at hf
   ((repeat' (first|(with_reducible (refine TVq (st:=[]) ?_))|simp only [seval,go_sem,ho',rowPg]|(with_reducible refine oV_st (by simp (disch:=omega) only [seval,go_sem,cnd,intV,shV,convV,strV,ho',rowPg];rfl) ?_)))<;>(try (fail)))
   all_goals (try (refine isNextM (k+1) (by (refine leQL_spec ?_);(try simp only [seval,go_sem]);first|((repeat' (with_reducible apply And.intro))<;>first|rfl);done) (by (refine leQH_spec ?_);(try simp only [seval,go_sem]);done) ?_ ?_<;>(try (omega))))
   all_goals (try exact ⟨by omega,hf⟩)
 ·rw [List.drop_eq_nil_of_le (by omega),pgAt] at hf
  rw [← hf]
  ((repeat' (first|(with_reducible refine isRet ?_;refine RetV (rs:=[.tmp 4]) (by with_unfolding_all rfl) rfl ?_<;>simp only [seval,go_sem]<;>(repeat' (with_reducible apply And.intro))<;>(try rfl))|(with_reducible (refine TVq (st:=[]) ?_))|simp only [seval,go_sem]|(with_reducible refine oV_st (by simp (disch:=omega) only [seval,go_sem,cnd,intV,shV,convV,strV];rfl) ?_)))<;>(try (fail)))
/-- A number's place: none, or one that has it. -/
theorem pgAt_split (n:Int) (l:List Pg):(pgAt n l 0 = -1)∨ ∃ (j:Nat) (p:Pg),l[j]? = some p∧j<l.length∧pgAt n l 0=(j:Int)∧pgGet l (pgAt n l 0)=p:=by
 rcases pgAt_cases n l 0 with ⟨h,_⟩|⟨j,p,h1,h2,h3,_⟩
 ·exact .inl h
 ·rw [Nat.zero_add] at h3
  exact .inr ⟨j,p,h1,(List.getElem?_eq_some_iff.1 h1).1,h3,by simp [pgGet,h3,h1]⟩
set_option maxRecDepth 100000 in set_option maxHeartbeats 3200000 in
theorem rdata_calls {c n:Int} {l:List Pg} (hl:l.length≤100000) (hd: ∀ p∈l,p.data.length≤1000000):ACalls Tryz.prog 76 [.agg [.sc (.int .i64 c), .sl 3 (l.map rowPg)], .sc (.int .i64 n)] (.tup [.sl 1 ((dataR ⟨c,l⟩ n).1.map rowW), .sc (.int .i64 (dataR ⟨c,l⟩ n).2)]) []:=by
 have hix:=index_calls (c:=c) (n:=n) hl
 rcases pgAt_split n l with h|⟨j,p,h1,h2,h3,h4⟩
 ·have e:dataR ⟨c,l⟩ n=([],8):=by simp [dataR,h]
  rw [e]
  rw [h] at hix
  refine of_tri [] [2,9,18] Tryz.func76 rfl call76 rfl (by decide) (by decide) rfl rfl Tryz.ntmps76 (by simp (disch:=omega) only [seval,go_sem,cnd,intV,shV,convV,strV,List.replicate,l_2,l_1];rfl) (by simp (disch:=omega) only [seval,go_sem,cnd,intV,shV,convV,strV,l_2,l_1];rfl) ?_
  ((repeat' (first|((with_reducible refine isTriD ?_);((with_reducible refine isCallD ?_);((with_reducible refine LVcall (st:=[]) ?_);simp only [seval,go_sem];(refine CallL.c (hix) ?_))))|(with_reducible refine isRet ?_;refine RetV (rs:=[.tmp 4,.tmp 5]) (by with_unfolding_all rfl) rfl ?_<;>simp only [seval,go_sem]<;>(repeat' (with_reducible apply And.intro))<;>(try rfl))|(with_reducible (refine TVq (st:=[]) ?_))|simp only [seval,go_sem]|(with_reducible refine oV_st (by simp (disch:=omega) only [seval,go_sem,cnd,intV,shV,convV,strV];rfl) ?_)))<;>(try (fail)))
 ·have e:dataR ⟨c,l⟩ n=(p.data,0):=by rw [dataR,if_neg (by rw [h3];omega),h4]
  rw [e]
  rw [h3] at hix
  have h1':=get_map rowPg h1
  have hdl:=hd p (List.mem_of_getElem? h1)
  refine of_tri [] [2,9,18] Tryz.func76 rfl call76 rfl (by decide) (by decide) rfl rfl Tryz.ntmps76 (by simp (disch:=omega) only [seval,go_sem,cnd,intV,shV,convV,strV,List.replicate,l_2,l_1];rfl) (by simp (disch:=omega) only [seval,go_sem,cnd,intV,shV,convV,strV,l_2,l_1];rfl) ?_
  ((repeat' (first|((with_reducible refine isTriD ?_);((with_reducible refine isCallD ?_);((with_reducible refine LVcall (st:=[]) ?_);simp only [seval,go_sem,h1',rowPg];(refine CallL.c (hix) ?_))))|(with_reducible refine isRet ?_;(refine RetOK.frz 18 (by simp only [seval,go_sem];rfl) (by simp only [seval,go_sem,h1',rowPg];rfl) ?_);(with_reducible refine isRet ?_;refine RetOK.q rfl rfl (by simp only [seval,go_sem];rfl) (by decide) (by simp only [seval,go_sem];rfl) (by simp only [seval,go_sem];rfl) rfl ?_<;>(try simp only [seval,go_sem,h1',rowPg])<;>(repeat' (with_reducible apply And.intro))<;>(try rfl)))|(with_reducible (refine TVq (st:=[]) ?_))|simp only [seval,go_sem,h1',rowPg]|(with_reducible refine oV_st (by simp (disch:=omega) only [seval,go_sem,cnd,intV,shV,convV,strV,h1',rowPg];rfl) ?_)))<;>(try (fail)))
  all_goals (try simp)
theorem wrS (n:Int):IntKind.i64.wrap n=wr n:=rfl
set_option maxRecDepth 100000 in set_option maxHeartbeats 6400000 in
theorem rhold_calls {c n:Int} {l:List Pg} (hl:l.length≤100000):ACalls Tryz.prog 49 [.agg [.sc (.int .i64 c),.sl 3 (l.map rowPg)],.sc (.int .i64 n)] (.tup [.agg [.sc (.int .i64 (holdR ⟨c,l⟩ n).1.cap),.sl 3 ((holdR ⟨c,l⟩ n).1.pages.map rowPg)],.sc (.int .i64 (holdR ⟨c,l⟩ n).2)]) []:=by
 have hix:=index_calls (c:=c) (n:=n) hl
 rcases pgAt_split n l with h|⟨j,p,h1,h2,h3,h4⟩
 ·have e:holdR ⟨c,l⟩ n=(⟨c,l⟩,8):=by simp [holdR,h]
  rw [e]
  rw [h] at hix
  refine of_tri [] [2,4,10,16] Tryz.func49 rfl call49 rfl (by decide) (by decide) rfl rfl Tryz.ntmps49 (by simp (disch:=omega) only [seval,go_sem,cnd,intV,shV,convV,strV,List.replicate,l_2,l_1];rfl) (by simp (disch:=omega) only [seval,go_sem,cnd,intV,shV,convV,strV,l_2,l_1];rfl) ?_
  ((repeat' (first|((with_reducible refine isTriD ?_);((with_reducible refine isCallD ?_);((with_reducible refine LVcall (st:=[]) ?_);simp only [seval,go_sem];(refine CallL.c (hix) ?_))))|(with_reducible refine isRet ?_;refine RetV (rs:=[.cell 4 33,.tmp 5]) (by with_unfolding_all rfl) rfl ?_<;>simp only [seval,go_sem]<;>(repeat' (with_reducible apply And.intro))<;>(try rfl))|(with_reducible (refine TVq (st:=[]) ?_))|simp only [seval,go_sem]|(with_reducible refine oV_st (by simp (disch:=omega) only [seval,go_sem,cnd,intV,shV,convV,strV];rfl) ?_)))<;>(try (fail)))
 ·have e:holdR ⟨c,l⟩ n=(⟨c,l.set j ⟨p.num,wr (p.refs+1),p.data⟩⟩,0):=by
   simp only [holdR]
   rw [if_neg (by rw [h3];omega),setRefs,h4,h3,Int.toNat_natCast]
  rw [e]
  rw [h3] at hix
  have h1':=get_map rowPg h1
  refine of_tri [] [2,4,10,16] Tryz.func49 rfl call49 rfl (by decide) (by decide) rfl rfl Tryz.ntmps49 (by simp (disch:=omega) only [seval,go_sem,cnd,intV,shV,convV,strV,List.replicate,l_2,l_1];rfl) (by simp (disch:=omega) only [seval,go_sem,cnd,intV,shV,convV,strV,l_2,l_1];rfl) ?_
  ((repeat' (first|((with_reducible refine isTriD ?_);((with_reducible refine isCallD ?_);((with_reducible refine LVcall (st:=[]) ?_);simp only [seval,go_sem,h1',rowPg,wrS];(refine CallL.c (hix) ?_))))|(with_reducible refine isRet ?_;(refine RetOK.frz 16 (by simp only [seval,go_sem];rfl) (by simp only [seval,go_sem,h1',rowPg,wrS];rfl) ?_);(with_reducible refine isRet ?_;refine RetOK.q rfl (by with_unfolding_all (show retD _ _ [.cell 4 33,.tmp 5]=_);simp only [seval,go_sem];rfl) (by simp only [seval,go_sem];rfl) (by decide) (by simp only [seval,go_sem];rfl) (by simp only [seval,go_sem];rfl) rfl ?_<;>(try simp only [seval,go_sem,h1',rowPg,wrS])<;>(repeat' (with_reducible apply And.intro))<;>(try rfl)))|(with_reducible (refine TVq (st:=[]) ?_))|simp only [seval,go_sem,h1',rowPg,wrS]|(with_reducible refine oV_st (by simp (disch:=omega) only [seval,go_sem,cnd,intV,shV,convV,strV,h1',rowPg,wrS];rfl) ?_)))<;>(try (fail)))
  all_goals (try (first|(simp [rowPg,List.map_set];done)|exact List.take_of_length_le (by simp)))
theorem mem_le (m:Nat): ∀ l:List Int,(∀ i:Nat,1≤i→i≤m→(i:Int)∈l)→m≤l.length:=by
 induction m with
 | zero=>intro _ _;exact Nat.zero_le _
 | succ m ih=>
   intro l h
   have h1:=ih (l.filter (fun x=>x != ((m+1:Nat):Int))) (fun i a b=>by
    rw [List.mem_filter]
    exact ⟨h i a (by omega),by simp;omega⟩)
   have h2:(l.filter (fun x=>x != ((m+1:Nat):Int))).length<l.length:=by
    rw [List.length_filter_lt_length_iff_exists]
    exact ⟨((m+1:Nat):Int),h (m+1) (by omega) (by omega),by simp⟩
   omega
theorem pgAt_mem {n:Int} {l:List Pg} (h: ¬ pgAt n l 0<0):n∈l.map (·.num):=by
 rcases pgAt_cases n l 0 with ⟨h1,_⟩|⟨j,p,h1,h2,_⟩
 ·omega
 ·exact List.mem_map.2 ⟨p,List.mem_of_getElem? h1,h2⟩
theorem freeGo_step {l:List Pg} {k:Nat} (hk:k≤l.length) (hf:freeGo l (l.length+1-k) (1+k)=freeN l):(pgAt (1+(k:Int)) l 0<0→freeN l=1+k)∧(¬ pgAt (1+(k:Int)) l 0<0→freeGo l (l.length+1-(k+1)) (1+((k+1:Nat):Int))=freeN l):=by
 rw [show l.length+1-k=(l.length-k)+1 by omega,freeGo] at hf
 refine ⟨fun h=>by rw [if_pos h] at hf;exact hf.symm,fun h=>?_⟩
 rw [if_neg h] at hf
 rw [show l.length+1-(k+1)=l.length-k by omega,show (1+((k+1:Nat):Int))=1+(k:Int)+1 by omega]
 exact hf
set_option maxRecDepth 100000 in set_option maxHeartbeats 12800000 in
theorem ralloc_calls {c:Int} {l:List Pg} {d:List Int} (hl:l.length≤100000) (hd:d.length≤1000000):ACalls Tryz.prog 44 [.agg [.sc (.int .i64 c),.sl 3 (l.map rowPg)],.sl 1 (d.map rowW)] (.tup [.agg [.sc (.int .i64 (allocR ⟨c,l⟩ d).1.cap),.sl 3 ((allocR ⟨c,l⟩ d).1.pages.map rowPg)],.sc (.int .i64 (allocR ⟨c,l⟩ d).2.1),.sc (.int .i64 (allocR ⟨c,l⟩ d).2.2)]) []:=by
 by_cases c1:1024<(d.length:Int)
 ·have e:allocR ⟨c,l⟩ d=(⟨c,l⟩,0,11):=by rw [allocR,if_pos c1]
  rw [e]
  refine of_tri [] [2,4,8,24,30,34,36,37] Tryz.func44 rfl call44 rfl (by decide) (by decide) rfl rfl Tryz.ntmps44 (by simp (disch:=omega) only [seval,go_sem,cnd,intV,shV,convV,strV,List.replicate,l_2,l_1];rfl) (by simp (disch:=omega) only [seval,go_sem,cnd,intV,shV,convV,strV,l_2,l_1];rfl) ?_
  ((repeat' (first|(with_reducible refine isRet ?_;refine RetV (rs:=[.cell 4 33,.tmp 5,.tmp 6]) (by with_unfolding_all rfl) rfl ?_<;>simp only [seval,go_sem]<;>(repeat' (with_reducible apply And.intro))<;>(try rfl))|(with_reducible (refine TVq (st:=[]) ?_))|simp only [seval,go_sem]|(with_reducible refine oV_st (by simp (disch:=omega) only [seval,go_sem,cnd,intV,shV,convV,strV];rfl) ?_)))<;>(try (fail)))
 by_cases c2:c≤(l.length:Int)
 ·have e:allocR ⟨c,l⟩ d=(⟨c,l⟩,0,14):=by rw [allocR,if_neg c1];exact if_pos c2
  rw [e]
  refine of_tri [] [2,4,8,24,30,34,36,37] Tryz.func44 rfl call44 rfl (by decide) (by decide) rfl rfl Tryz.ntmps44 (by simp (disch:=omega) only [seval,go_sem,cnd,intV,shV,convV,strV,List.replicate,l_2,l_1];rfl) (by simp (disch:=omega) only [seval,go_sem,cnd,intV,shV,convV,strV,l_2,l_1];rfl) ?_
  ((repeat' (first|(with_reducible refine isRet ?_;refine RetV (rs:=[.cell 4 33,.tmp 5,.tmp 6]) (by with_unfolding_all rfl) rfl ?_<;>simp only [seval,go_sem]<;>(repeat' (with_reducible apply And.intro))<;>(try rfl))|(with_reducible (refine TVq (st:=[]) ?_))|simp only [seval,go_sem]|(with_reducible refine oV_st (by simp (disch:=omega) only [seval,go_sem,cnd,intV,shV,convV,strV];rfl) ?_)))<;>(try (fail)))
 have e:allocR ⟨c,l⟩ d=(⟨c,insPg ⟨freeN l,1,d⟩ l⟩,freeN l,0):=by rw [allocR,if_neg c1];exact if_neg c2
 rw [e]
 simp only
 generalize hN:freeN l=N
 have hN':freeGo l (l.length+1) 1=N:=hN
 have hix:=fun m=>index_calls (c:=c) (n:=m) hl
 refine of_tri [] [2,4,8,24,30,34,36,37] Tryz.func44 rfl call44 rfl (by decide) (by decide) rfl rfl Tryz.ntmps44 (by simp (disch:=omega) only [seval,go_sem,cnd,intV,shV,convV,strV,List.replicate,l_2,l_1];rfl) (by simp (disch:=omega) only [seval,go_sem,cnd,intV,shV,convV,strV,l_2,l_1];rfl) ?_
 ((repeat' (first|(with_reducible (refine TVq (st:=[]) ?_))|simp only [seval,go_sem]|(with_reducible refine oV_st (by simp (disch:=omega) only [seval,go_sem,cnd,intV,shV,convV,strV];rfl) ?_)))<;>(try (fail)))
 all_goals (refine Tri.bx 2 (by simp only [seval,go_sem];rfl) (by simp only [seval,go_sem];first|done|rfl) (by simp only [seval,go_sem];rfl) ?_)
 all_goals (with_reducible refine Tri.loopU (fun (k:Nat)=>[(7,.sc (.int .i64 (1+k))),(22,.any),(23,.any),(24,.any),(25,.any),(26,.any),(27,.any)]) (fun (k:Nat)=>[(24,.dead)]) (fun (k:Nat)=>k≤l.length∧freeGo l (l.length+1-k) (1+k)=N∧ ∀ i:Nat,1≤i→i≤k→(i:Int)∈l.map (·.num)) (fun (k:Nat)=>l.length+1-k) (0) (⟨Nat.zero_le _,by simpa using hN',by omega⟩) (by intro _;simp (disch:=omega) only [seval,go_sem,cnd,intV,shV,convV,strV];rfl) (by intro _;simp (disch:=omega) only [seval,go_sem,cnd,intV,shV,convV,strV];rfl) (by (refine leQL_spec ?_);(try simp only [seval,go_sem]);done) (by (refine leQH_spec ?_);(try simp only [seval,go_sem]);done) (fun k hI=>?_))
 all_goals
  obtain ⟨hk,hf,hmem⟩:=hI
  obtain ⟨g1,g2⟩:=freeGo_step hk (hf.trans hN.symm)
  rw [hN] at g1 g2
  have hic:=hix (1+(k:Int))
  by_cases hp:pgAt (1+(k:Int)) l 0<0
  ·have hNk:=g1 hp
   generalize pgAt (1+(k:Int)) l 0=z at hic hp
   have hl1:(List.map rowPg l++[[D.sc (.int .i64 (1+(k:Int))),D.sc (.int .i64 1),D.sl 1 (d.map rowW)]]).length=l.length+1:=by simp
   have hen:(List.map rowPg l++[[D.sc (.int .i64 (1+(k:Int))),D.sc (.int .i64 1),D.sl 1 (d.map rowW)]])=(insAt l l.length ⟨1+k,1,d⟩).map rowPg:=by rw [insAt_end];simp [rowPg]
   ((repeat' (first|((with_reducible refine isTriD ?_);first|(with_reducible refine TriD.frz 30 (by simp only [seval,go_sem,hl1];rfl) (by simp only [seval,go_sem,hl1];rfl) ?_;refine LVs (st:=[]) ?_)|((with_reducible refine isCallD ?_);((with_reducible refine LVcall (st:=[]) ?_);simp only [seval,go_sem,hl1];(refine CallL.c (hic) ?_;simp only [seval,go_sem,hl1];(fail_if_success (with_reducible refine isResV ?_)))))|((with_reducible first|refine TriD.step (by simp only [seval,go_sem,hl1];rfl) ?_|refine TriD.step (by simp (disch:=omega) only [seval,go_sem,cnd,intV,shV,convV,strV,hl1];rfl) ?_);refine LVs (st:=[]) ?_))|(with_reducible refine isDrawnN 9 ?_;refine Tri.mixedP 9 mix 7 rfl (.f 0 <| .a <| .b 1 (.a <| .b 2 (.a <| .b 3 (.a <| .b 4 (.a <| .b 5 (.f 6 <| .d) .e) .e) .e) <| .b 3 (.a <| .b 2 (.a <| .b 4 (.a <| .b 5 (.f 6 <| .d) .e) .e) <| .b 4 (.a <| .b 2 (.a <| .b 5 (.f 6 <| .d) .e) .e) .e) .e) <| .b 3 (.a <| .b 1 (.a <| .b 2 (.a <| .b 4 (.a <| .b 5 (.f 6 <| .d) .e) .e) <| .b 4 (.a <| .b 2 (.a <| .b 5 (.f 6 <| .d) .e) .e) .e) <| .b 4 (.a <| .b 1 (.a <| .b 2 (.a <| .b 5 (.f 6 <| .d) .e) .e) .e) .e) .e) (by kernel_rfl) ?_)|(with_reducible refine isAnyP ?_;first|refine AnyP.D ?_|refine AnyP.F (by simp only [seval,go_sem,l_7,l_6];rfl) (by first|(simp only [seval,go_sem,hl1];done)) (by first|(simp only [seval,go_sem,hl1];with_reducible rfl)) ?_|refine AnyP.A ?_)|(with_reducible first|exact NextsP.E|refine NextsP.B (by simp only [seval,go_sem,l_7,l_6];rfl) ?_ ?_)|(with_reducible (refine TVq (st:=[]) ?_))|simp only [seval,go_sem,hl1]|(with_reducible refine oV_st (by simp (disch:=omega) only [seval,go_sem,cnd,intV,shV,convV,strV,hl1];rfl) ?_)))<;>(try (fail)))
   all_goals (with_reducible refine Tri.loopU (fun (j2:Nat)=>[(10,.sc (.int .i64 j2)),(9,.slo 37 3 0 (l.length+1)),(41,.any),(42,.any),(43,.any),(44,.any),(45,.any),(46,.any),(47,.any),(48,.any),(49,.any),(50,.any),(51,.any),(52,.any),(53,.any),(54,.any),(55,.any),(56,.any),(57,.any),(58,.any),(59,.any),(60,.any),(61,.any),(62,.any),(63,.any),(64,.any),(65,.any),(66,.any),(67,.any),(68,.any),(69,.any),(70,.any),(71,.any),(72,.any),(73,.any),(74,.any)]) (fun (j2:Nat)=>[(37,.row 3 ((insAt l j2 ⟨1+k,1,d⟩).map rowPg))]) (fun (j2:Nat)=>j2≤l.length∧stopAt (fun i=>decide (1+(k:Int)<(pgGet l i).num)) j2=stopAt (fun i=>decide (1+(k:Int)<(pgGet l i).num)) l.length) (fun (j2:Nat)=>j2) (l.length) (⟨Nat.le_refl _,rfl⟩) (by intro _;simp (disch:=omega) only [seval,go_sem,cnd,intV,shV,convV,strV];rfl) (by intro _;simp (disch:=omega) only [seval,go_sem,cnd,intV,shV,convV,strV];rfl) (by (refine leQL_spec ?_);(try simp only [seval,go_sem,hen]);first|((repeat' (with_reducible apply And.intro))<;>first|omega);done) (by (refine leQH_spec ?_);(try simp only [seval,go_sem,hen]);done) (fun j2 hI=>?_))
   all_goals
    obtain ⟨hj2,hst⟩:=hI
    have hins:stopAt (fun i=>decide (1+(k:Int)<(pgGet l i).num)) l.length=j2→insPg ⟨N,1,d⟩ l=insAt l j2 ⟨1+k,1,d⟩:=fun h=>by rw [hNk,insPg,h]
    have hli:(insAt l j2 (⟨1+k,1,d⟩:Pg)).length=l.length+1:=insAt_len hj2
    have hll:((insAt l j2 (⟨1+k,1,d⟩:Pg)).map rowPg).length=l.length+1:=by rw [List.length_map];exact hli
    have htk:((insAt l j2 (⟨1+k,1,d⟩:Pg)).map rowPg).take (l.length+1)=(insAt l j2 (⟨1+k,1,d⟩:Pg)).map rowPg:=List.take_of_length_le (by rw [hll];exact Nat.le_refl _)
    rcases j2 with _|j2
    ·rw [hins (by rw [← hst];rfl),hNk]
     (all_goals (try have hZ:=(And.intro hll htk));(repeat' (first|(with_reducible refine ListD.nil ?_)|((with_reducible refine isListD ?_);(with_reducible first|refine ListD.step (by simp only [seval,go_sem,hZ];rfl) ?_|refine ListD.step (by simp (disch:=omega) only [seval,go_sem,cnd,intV,shV,convV,strV,hZ];rfl) ?_))|(with_reducible refine isDrawn ?_;refine Tri.drawnD mix (by kernel_rfl) (by simp only [l_3,l_4];rfl) ?_)|(with_reducible refine isRet ?_;(refine RetOK.frz 37 (by simp only [seval,go_sem];rfl) (by simp only [seval,go_sem,hZ];rfl) ?_);(with_reducible refine isRet ?_;refine RetOK.q rfl (by with_unfolding_all (show retD _ _ [.cell 4 33,.tmp 5,.tmp 6]=_);simp only [seval,go_sem];rfl) (by simp only [seval,go_sem];rfl) (by decide) (by simp only [seval,go_sem];rfl) (by simp only [seval,go_sem];rfl) rfl ?_<;>(try simp only [seval,go_sem,hZ])<;>(repeat' (with_reducible apply And.intro))<;>(try rfl)))|(with_reducible (refine TVq (st:=[]) ?_))|simp only [seval,go_sem,hZ]))<;>(try (fail));all_goals (try clear hZ))
    ·obtain ⟨y,hy⟩:=get_lt (show j2<l.length by omega)
     have g1:=get_map rowPg (insAt_at (x:=(⟨1+k,1,d⟩:Pg)) hj2)
     have g2:=get_map rowPg ((insAt_pre (x:=(⟨1+k,1,d⟩:Pg)) hj2).trans hy)
     have hsw:=congrArg (List.map rowPg) (insAt_swap (x:=(⟨1+k,1,d⟩:Pg)) hy)
     simp only [List.map_set] at hsw
     have ey:pgGet l (j2:Int)=y:=by simp [pgGet,hy]
     rw [stopAt] at hst
     rw [ey] at hst
     have e1:((j2+1:Nat):Int)-1=j2:=by omega
     have g3:((List.map rowPg (insAt l (j2+1) (⟨1+k,1,d⟩:Pg))).set (j2+1) (rowPg y))[j2]? = some (rowPg y):=by rw [List.getElem?_set_ne (by omega)];exact g2
     simp only [rowPg] at g3
     simp only [rowPg] at hsw
     generalize hR:insAt l (j2+1) (⟨1+k,1,d⟩:Pg)=RR at *
     by_cases hb:1+(k:Int)<y.num
     ·rw [if_pos (decide_eq_true hb)] at hst
      ((repeat' (first|((with_reducible refine isTriD ?_);((with_reducible first|refine TriD.step (by simp only [seval,go_sem,g1,g2,g3,rowPg,e1];rfl) ?_);refine LVs (st:=[]) ?_))|(with_reducible refine ListD.nil ?_)|((with_reducible refine isListD ?_);(with_reducible first|refine ListD.step (by simp only [seval,go_sem,g1,g2,g3,rowPg,e1];rfl) ?_|refine ListD.step (by simp (disch:=omega) only [seval,go_sem,cnd,intV,shV,convV,strV,g1,g2,g3,rowPg,e1];rfl) ?_))|(with_reducible refine isDrawnN 13 ?_;refine Tri.mixedP 13 mix 18 rfl (.f 0 <| .f 1 <| .f 2 <| .f 3 <| .f 4 <| .f 5 <| .f 6 <| .f 7 <| .f 8 <| .f 10 <| .f 11 <| .f 12 <| .a <| .b 9 (.a <| .b 13 (.f 14 <| .a <| .b 15 (.f 16 <| .a <| .b 17 (.d) .e) .e) .e) <| .b 13 (.a <| .b 9 (.f 14 <| .a <| .b 15 (.f 16 <| .a <| .b 17 (.d) .e) .e) .e) .e) (by kernel_rfl) ?_)|(with_reducible refine isAnyP ?_;first|refine AnyP.D ?_|refine AnyP.F (by simp only [seval,go_sem,l_7,l_6];rfl) (by first|(simp only [seval,go_sem,g1,g2,g3,rowPg,e1];done)) (by first|(simp only [seval,go_sem,g1,g2,g3,rowPg,e1];with_reducible rfl)|(simp (disch:=omega) only [seval,go_sem,cnd,intV,shV,convV,strV,g1,g2,g3,rowPg,e1];with_reducible rfl)) ?_|refine AnyP.A ?_)|(with_reducible first|exact NextsP.E|refine NextsP.B (by simp only [seval,go_sem,l_7,l_6];rfl) ?_ ?_)|(with_reducible refine isDrawn ?_;refine Tri.drawnD mix (by kernel_rfl) (by simp only [l_3,l_4];rfl) ?_)|(with_reducible (refine TVq (st:=[]) ?_))|simp only [seval,go_sem,g1,g2,g3,rowPg,e1]|(with_reducible refine oV_st (by simp (disch:=omega) only [seval,go_sem,cnd,intV,shV,convV,strV,g1,g2,g3,rowPg,e1];rfl) ?_)))<;>(try (fail)))
      all_goals (try (refine isNextM (j2) (by (refine leQL_spec ?_);(try simp only [seval,go_sem,hsw]);done) (by (refine leQH_spec ?_);(try simp only [seval,go_sem,hsw]);done) ?_ ?_<;>(try (omega))))
      all_goals (try exact ⟨by omega,hst⟩)
     ·rw [if_neg (by simp [hb])] at hst
      rw [hins hst.symm,hNk]
      (all_goals (try have hZ:=(And.intro hll htk));(repeat' (first|(with_reducible refine ListD.nil ?_)|((with_reducible refine isListD ?_);(with_reducible first|refine ListD.step (by simp only [seval,go_sem,g1,g2,rowPg,e1,hZ];rfl) ?_|refine ListD.step (by simp (disch:=omega) only [seval,go_sem,cnd,intV,shV,convV,strV,g1,g2,rowPg,e1,hZ];rfl) ?_))|(with_reducible refine isDrawn ?_;refine Tri.drawnD mix (by kernel_rfl) (by simp only [l_3,l_4];rfl) ?_)|(with_reducible refine isRet ?_;(refine RetOK.frz 37 (by simp only [seval,go_sem];rfl) (by simp only [seval,go_sem,g1,g2,rowPg,e1,hZ];rfl) ?_);(with_reducible refine isRet ?_;refine RetOK.q rfl (by with_unfolding_all (show retD _ _ [.cell 4 33,.tmp 5,.tmp 6]=_);simp only [seval,go_sem];rfl) (by simp only [seval,go_sem];rfl) (by decide) (by simp only [seval,go_sem];rfl) (by simp only [seval,go_sem];rfl) rfl ?_<;>(try simp only [seval,go_sem,g1,g2,rowPg,e1,hZ])<;>(repeat' (with_reducible apply And.intro))<;>(try rfl)))|(with_reducible (refine TVq (st:=[]) ?_))|simp only [seval,go_sem,g1,g2,rowPg,e1,hZ]))<;>(try (fail));all_goals (try clear hZ))
  ·have h3:=g2 hp
   have hm:=pgAt_mem hp
   have hk2:k+1≤l.length:=by
    have hm2: ∀ i:Nat,1≤i→i≤k+1→(i:Int)∈l.map (·.num):=fun i a b=>by
     by_cases e:i=k+1
     ·subst e;rw [show ((k+1:Nat):Int)=1+(k:Int) by omega];exact hm
     ·exact hmem i a (by omega)
    have:=mem_le (k+1) _ hm2
    rwa [List.length_map] at this
   generalize pgAt (1+(k:Int)) l 0=z at hic hp
   ((repeat' (first|((with_reducible refine isTriD ?_);((with_reducible refine isCallD ?_);((with_reducible refine LVcall (st:=[]) ?_);simp only [seval,go_sem];(refine CallL.c (hic) ?_))))|(with_reducible (refine TVq (st:=[]) ?_))|simp only [seval,go_sem]|(with_reducible refine oV_st (by simp (disch:=omega) only [seval,go_sem,cnd,intV,shV,convV,strV];rfl) ?_)))<;>(try (fail)))
   all_goals (try (refine isNextM (k+1) (by (refine leQL_spec ?_);(try simp only [seval,go_sem]);first|((repeat' (with_reducible apply And.intro))<;>first|rfl);done) (by (refine leQH_spec ?_);(try simp only [seval,go_sem]);done) ?_ ?_<;>(try (omega))))
   all_goals (try exact ⟨hk2,h3,fun i a b=>by
     by_cases e:i=k+1
     ·subst e;rw [show ((k+1:Nat):Int)=1+(k:Int) by omega];exact hm
     ·exact hmem i a (by omega)⟩)
end Go.Proofs.YtmgodadmafcliaaGreat
