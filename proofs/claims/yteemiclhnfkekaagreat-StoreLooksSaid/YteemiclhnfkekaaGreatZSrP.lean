/- The reference's store (layers 14 to 19): what its functions compute (plain). -/
import Derived.Test.YteemiclhnfkekaaGreatZVnP
import Derived.Test.YteemiclhnfkekaaGreatZCfg
import Derived.Test.YteemiclhnfkekaaGreatZChD
import Derived.Test.YteemiclhnfkekaaGreatZChE
set_option linter.unusedSimpArgs false
set_option linter.unusedVariables false
namespace Go.Proofs.YteemiclhnfkekaaGreat
open Go.RowKit Go.eB
structure Ar where
 cap:Int
 pages:List Pg
structure Sr where
 c:Cf
 commit:Int
 last:Int
 objs:List Ob
 binds:List Bd
 pins:List Pn
 ar:Ar
def dAr (a:Ar):List D:=[.sc (.int .i64 a.cap), .sl 3 (a.pages.map bt)]
def eS (s:Sr):List D:=[.sc (.int .i64 s.c.tV),.sc (.int .i64 s.c.qI),.sc (.int .i64 s.c.nu),.sc (.int .i64 s.c.fF),.sc (.int .i64 s.c.kf),.sc (.int .i64 s.c.com),.sc (.int .i64 s.c.tW),.sc (.int .i64 s.commit),.sc (.int .i64 s.last),.sl 2 (s.objs.map aK),.sl 4 (s.binds.map ag),.sl 2 (s.pins.map aW),.sc (.int .i64 s.ar.cap),.sl 3 (s.ar.pages.map bt)]
def fh (l:List Pg) (i:Int):Pg:=(l[i.toNat]?).getD ⟨0,0,[]⟩
def ju (l:List Pg):Nat->Int->Int
 | 0,n=>n
 | k+1,n=>if eP n l 0<0 then n else ju l k (n+1)
def gO (l:List Pg):Int:=ju l (l.length+1) 1
def tF (x:Pg) (l:List Pg):List Pg:=fH l (gx (fun k=>decide (x.num<(fh l k).num)) l.length) x
def dG (a:Ar) (d:List Int):Ar×Int×Int:=
 if 1024<(d.length:Int) then (a,0,11) else if a.cap<=(a.pages.length:Int) then (a,0,14) else (⟨a.cap,tF ⟨gO a.pages,1,d⟩ a.pages⟩,gO a.pages,0)
def gl (l:List Pg) (i:Int) (r:Int):List Pg:=l.set i.toNat ⟨(fh l i).num,r,(fh l i).data⟩
def dZ (a:Ar) (n:Int):Ar×Int:=if eP n a.pages 0<0 then (a,8) else (⟨a.cap,gl a.pages (eP n a.pages 0) (wr ((fh a.pages (eP n a.pages 0)).refs+1))⟩,0)
def ic {α:Type} (l:List α) (i:Int):List α:=l.take i.toNat++l.drop (i.toNat+1)
def bZ (a:Ar) (n:Int):Ar×Bool×Int:=
 if eP n a.pages 0<0 then (a,false,8) else
 if 0<wr ((fh a.pages (eP n a.pages 0)).refs-1) then (⟨a.cap,gl a.pages (eP n a.pages 0) (wr ((fh a.pages (eP n a.pages 0)).refs-1))⟩,false,0) else (⟨a.cap,ic a.pages (eP n a.pages 0)⟩,true,0)
def eH (a:Ar) (n:Int):List Int×Int:=if eP n a.pages 0<0 then ([],8) else ((fh a.pages (eP n a.pages 0)).data,0)
def chunks (sz:Nat):Nat->List Int->List (List Int)
 | 0,_=>[]
 | k+1,l=>if l.length=0 then [] else l.take sz::chunks sz k (l.drop sz)
def aR (b:List Int) (sz:Int):List (List Int)×Int:=if sz<1\/1024<sz then ([],5) else (chunks sz.toNat b.length b,0)
def bB:List (List Int)->List (List Int)->List Bool
 | _,[]=>[]
 | [],_::l=>false::bB [] l
 | o::os,x::l=>decide (o=x)::bB os l
def newR (c:Cf):Sr×Int:=if qO c=false then (⟨⟨0,0,0,0,0,0,0⟩,0,0,[],[],[],⟨0,[]⟩⟩,5) else (⟨c,0,0,[],[],[],⟨c.nu,[]⟩⟩,0)
def fz (l:List Pn) (c:Int):Bool:=l.any fun p=>p.commit==c
def eG (s:Sr) (c:Int):Int:=if mO c 0 s.commit=false then 5 else if c≠s.commit/\fz s.pins c=false then 17 else 0
def dm (l:List Ob) (i:Int):Ob:=(l[i.toNat]?).getD ⟨0,[]⟩
def yg (l:List fE) (i:Int):fE:=(l[i.toNat]?).getD zeroV
def fO (s:Sr) (n:ByteArray) (c:Int):Int×fE×Bool:=
 if (b9 n c s.binds).2=false\/cU (b9 n c s.binds).1 s.objs 0<0 then (0,zeroV,false) else
 if (gf c (dm s.objs (cU (b9 n c s.binds).1 s.objs 0)).bu 0).2=false then (0,zeroV,false) else
 (cU (b9 n c s.binds).1 s.objs 0,yg (dm s.objs (cU (b9 n c s.binds).1 s.objs 0)).bu (gf c (dm s.objs (cU (b9 n c s.binds).1 s.objs 0)).bu 0).1,true)
def bg (a:Ar) (l:List Int):List (List Int):=l.map fun n=>(eH a n).1
def fM (s:Sr) (n:ByteArray):Bool:=(b9 n s.commit s.binds).2
def eZ:Ar->List (List Int)->Ar×List Int
 | a,[]=>(a,[])
 | a,d::l=>((eZ (dG a d).1 l).1,(dG a d).2.1::(eZ (dG a d).1 l).2)
def dz (l:List Ob) (i:Int) (v:List fE):List Ob:=l.set i.toNat ⟨(dm l i).id,v⟩
def gj:List Bool->Int
 | []=>0
 | b::l=>if b=true then gj l else gj l+1
def iR:Ar->List (List Int)->List Bool->List Int->Ar×List Int
 | a,d::l,b::bs,o=>if b=true then ((iR (dZ a (o.headD 0)).1 l bs o.tail).1,o.headD 0::(iR (dZ a (o.headD 0)).1 l bs o.tail).2) else ((iR (dG a d).1 l bs o.tail).1,(dG a d).2.1::(iR (dG a d).1 l bs o.tail).2)
 | a,_,_,_=>(a,[])
def gq (s:Sr) (n:ByteArray):Sr×Int×Int:=
 if (fO s n s.commit).2.2=false then (s,0,8) else if s.c.com<=s.commit then (s,0,14) else
 ({ s with commit:=s.commit+1,objs:=dz s.objs (fO s n s.commit).1 (dY (dm s.objs (fO s n s.commit).1).bu (s.commit+1)).1,binds:=(bI s.binds n (s.commit+1)).1 },s.commit+1,0)
def ja (s:Sr) (c:Int):Sr×Int:=if eG s c≠0 then (s,eG s c) else if s.c.kf<=iL s.pins 0 then (s,14) else ({ s with pins:=(kJ s.pins c).1 },0)
def gW (s:Sr) (c:Int):Sr×Int:=if fz s.pins c=false then (s,8) else ({ s with pins:=(jh s.pins c).1 },0)
def bY (s:Sr) (n m:ByteArray):Sr×Int×Int:=
 if bM m=false then (s,0,6) else if fM s n=false then (s,0,8) else if fM s m=true then (s,0,9) else if s.c.com<=s.commit then (s,0,14) else
 ({ s with commit:=s.commit+1,binds:=(bH s.binds n m (s.commit+1)).1 },s.commit+1,0)
def cR (s:Sr) (n:ByteArray) (d:List Int):Sr×Int×Int:=
 if bM n=false then (s,0,6) else if 65536<(d.length:Int) then (s,0,11) else if fM s n=true then (s,0,9) else
 if s.c.qI<=((iV s.commit s.binds []).length:Int)\/s.c.com<=s.commit\/s.c.nu<(s.ar.pages.length:Int)+((aR d s.c.fF).1.length:Int) then (s,0,14) else
 ({ s with commit:=s.commit+1,last:=s.last+1,objs:=s.objs++[⟨s.last+1,[⟨s.commit+1,0,d.length,(eZ s.ar (aR d s.c.fF).1).2⟩]⟩],binds:=(dw s.binds n (s.last+1) (s.commit+1)).1,ar:=(eZ s.ar (aR d s.c.fF).1).1 },s.commit+1,0)
def ji (s:Sr) (n:ByteArray) (d:List Int):Sr×Int×Int:=
 if 65536<(d.length:Int) then (s,0,11) else if (fO s n s.commit).2.2=false then (s,0,8) else
 if s.c.com<=s.commit\/s.c.nu<(s.ar.pages.length:Int)+gj (bB (bg s.ar (fO s n s.commit).2.1.pages) (aR d s.c.fF).1) then (s,0,14) else
 ({ s with commit:=s.commit+1,objs:=dz s.objs (fO s n s.commit).1 (cQ (dm s.objs (fO s n s.commit).1).bu ⟨s.commit+1,0,d.length,(iR s.ar (aR d s.c.fF).1 (bB (bg s.ar (fO s n s.commit).2.1.pages) (aR d s.c.fF).1) (fO s n s.commit).2.1.pages).2⟩).1,ar:=(iR s.ar (aR d s.c.fF).1 (bB (bg s.ar (fO s n s.commit).2.1.pages) (aR d s.c.fF).1) (fO s n s.commit).2.1.pages).1 },s.commit+1,0)
def pN:Ar->List Int->Ar
 | a,[]=>a
 | a,n::l=>pN (bZ a n).1 l
def dA (s:Sr) (id eo:Int):Sr×Int:=
 if cU id s.objs 0<0 then (s,8) else if (aS (dm s.objs (cU id s.objs 0)).bu eo).2.2≠0 then (s,(aS (dm s.objs (cU id s.objs 0)).bu eo).2.2) else
 if (aS (dm s.objs (cU id s.objs 0)).bu eo).2.1.to=0\/dW (aS (dm s.objs (cU id s.objs 0)).bu eo).2.1.from_ (aS (dm s.objs (cU id s.objs 0)).bu eo).2.1.to s.pins=true then (s,17) else
 ({ s with objs:=if (aS (dm s.objs (cU id s.objs 0)).bu eo).1.length=0 then ic s.objs (cU id s.objs 0) else dz s.objs (cU id s.objs 0) (aS (dm s.objs (cU id s.objs 0)).bu eo).1,ar:=pN s.ar (aS (dm s.objs (cU id s.objs 0)).bu eo).2.1.pages },0)
def yU (l:List Int) (i:Nat):Int:=if l.length=0 then (i:Int)%65536 else ((l[i%l.length]?).getD 0)%65536+((i/l.length:Nat):Int)
def ld (n:Int) (i:Nat):Int:=if ((i%16:Nat):Int)=n/512%16 then n%256 else (i:Int)
def aO (n:Int):List Int:=(List.range (n/8%64%61).toNat).map (ld n)
def OP (s:Sr) (n:Int):Sr:=
 if n%8=0\/n%8=1 then (cR s (kq (n/8)) (aO n)).1 else if n%8=2\/n%8=3 then (ji s (kq (n/8)) (aO n)).1 else if n%8=4 then (gq s (kq (n/8))).1 else
 if n%8=5 then (bY s (kq (n/8)) (kq (n/32))).1 else if n%8=6 then (ja s s.commit).1 else
 if s.pins.length=0 then s else (gW s (((s.pins[(n/8%(s.pins.length:Int)).toNat]?).map (·.commit)).getD 0)).1
def HM (l:List Int):Nat->Nat->Sr->Sr
 | 0,_,s=>s
 | k+1,i,s=>if i<=12/\i<l.length then HM l k (i+1) (OP s (yU l i)) else s
def X2 (l:List Int):Sr:=HM l 12 1 (newR (tw (yU l 0))).1
def vA (s:Sr):Dm:=⟨s.commit,s.objs,s.binds,s.pins,s.ar.pages⟩
end Go.Proofs.YteemiclhnfkekaaGreat
