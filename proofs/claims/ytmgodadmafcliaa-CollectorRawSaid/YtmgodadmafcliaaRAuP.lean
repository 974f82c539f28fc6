/- Audit: the data of a dump; what the checks of the program and of the reference compute (plain). -/
import Derived.Test.YtmgodadmafcliaaRChC
import Derived.Test.YtmgodadmafcliaaRPiB
import Derived.Test.YtmgodadmafcliaaRDiC
import Derived.Test.YtmgodadmafcliaaRAvmV
set_option linter.unusedSimpArgs false
set_option linter.unusedVariables false
namespace Go.Proofs.Ytmgodadmafcliaa
open Go.RowKit Go.Avm
structure Cf where
 ses:Int
 nam:Int
 pag:Int
 psz:Int
 pin:Int
 com:Int
 chk:Int
 deriving DecidableEq
def dCf (c:Cf):List D:=[.sc (.int .i64 c.ses), .sc (.int .i64 c.nam), .sc (.int .i64 c.pag), .sc (.int .i64 c.psz), .sc (.int .i64 c.pin), .sc (.int .i64 c.com), .sc (.int .i64 c.chk)]
structure Pg where
 num:Int
 refs:Int
 data:List Int
 deriving DecidableEq
def rowW (z:Int):List D:=[.sc (.int .u8 z)]
def rowPg (p:Pg):List D:=[.sc (.int .i64 p.num), .sc (.int .i64 p.refs), .sl 1 (p.data.map rowW)]
structure Ob where
 id:Int
 vers:List Ver
 deriving DecidableEq
def rowOb (o:Ob):List D:=[.sc (.int .i64 o.id), .sl 4 (o.vers.map rowV)]
structure Dm where
 commit:Int
 objs:List Ob
 binds:List Bd
 pins:List Pn
 pages:List Pg
def dDm (d:Dm):List D:=[.sc (.int .i64 d.commit), .sl 2 (d.objs.map rowOb), .sl 4 (d.binds.map rowBd), .sl 2 (d.pins.map rowP), .sl 3 (d.pages.map rowPg)]
def inR (n lo hi:Int):Bool:=decide (lo≤n)&&decide (n≤hi)
def cfOk (c:Cf):Bool:=inR c.ses 1 64&&inR c.nam 1 64&&inR c.pag 1 16384&&inR c.psz 8 1024&&inR c.pin 1 1024&&inR c.com 1 1048576&&inR c.chk 1 64
def cntE (n sz:Int):Int:=if n%sz>0 then n/sz+1 else n/sz
def pinsE (c:Cf) (com:Int) (l:List Pn):Int:=if validP none l≠0 then validP none l else if l.any (fun p=>decide (com<p.commit))=true then 5 else if c.pin<totalP l 0 then 14 else 0
def openN:List Bd→Int
 | []=>0
 | b::l=>if b.to=0 then openN l+1 else openN l
def bindsE (c:Cf) (com:Int) (l:List Bd):Int:=if validB l≠0 then validB l else if lateB com l=true then 5 else if c.nam<openN l then 14 else 0
def lateV (com:Int) (l:List Ver):Bool:=l.any fun v=>decide (com<v.from_)||decide (com<v.to)
def fitV (psz:Int) (l:List Ver):Bool:=l.all fun v=>cntE v.size psz==(v.pages.length:Int)
def obE (psz com:Int) (prev:Option Int) (o:Ob):Int:=
 if o.id<1 then 5 else if prev.any (fun p=>decide (o.id≤p))=true then 19 else if (o.vers.length:Int)=0 then 18 else if validV none o.vers≠0 then validV none o.vers else
 if lateV com o.vers=true then 5 else if fitV psz o.vers=false then 18 else 0
def objsE (psz com:Int):Option Int→List Ob→Int
 | _,[]=>0
 | prev,o::l=>if obE psz com prev o≠0 then obE psz com prev o else objsE psz com (some o.id) l
def pgE (psz:Int) (prev:Option Int) (p:Pg):Int:=if p.num<1 then 5 else if prev.any (fun q=>decide (p.num≤q))=true then 19 else if psz<(p.data.length:Int) then 18 else 0
def pgsE (psz:Int):Option Int→List Pg→Int
 | _,[]=>0
 | prev,p::l=>if pgE psz prev p≠0 then pgE psz prev p else pgsE psz (some p.num) l
def pagesE (c:Cf) (l:List Pg):Int:=if pgsE c.psz none l≠0 then pgsE c.psz none l else if c.pag<(l.length:Int) then 14 else 0
def pgAt (n:Int):List Pg→Nat→Int
 | [],_=> -1
 | p::l,k=>if p.num=n then (k:Int) else pgAt n l (k+1)
def pgLen (ps:List Pg) (n:Int):Option Int:=if pgAt n ps 0<0 then none else some ((((ps[(pgAt n ps 0).toNat]?).map (·.data)).getD []).length:Int)
def wr (n:Int):Int:=IntKind.i64.wrap n
def sumE (ps:List Pg) (size:Int):List Int→Int→Int
 | [],s=>if s≠size then 18 else 0
 | n::l,s=>match pgLen ps n with
   | none=>8
   | some k=>sumE ps size l (wr (s+k))
def versD (ps:List Pg):List Ver→Int
 | []=>0
 | v::l=>if sumE ps v.size v.pages 0≠0 then sumE ps v.size v.pages 0 else versD ps l
def dataE (ps:List Pg):List Ob→Int
 | []=>0
 | o::l=>if versD ps o.vers≠0 then versD ps o.vers else dataE ps l
/-- How often a number stands in a list, reckoned as the machine does. -/
def cntW (n:Int):List Int→Int→Int
 | [],s=>s
 | x::l,s=>if x=n then cntW n l (wr (s+1)) else cntW n l s
def pgsV (l:List Ver):List Int:=l.flatMap (·.pages)
def pgsO (l:List Ob):List Int:=l.flatMap fun o=>pgsV o.vers
def refsOk (d:Dm):Bool:=d.pages.all fun p=>p.refs==cntW p.num (pgsO d.objs) 0
def curO (o:Ob):Bool:=((o.vers[o.vers.length-1]?).map (·.to)).getD 0==0
def openO (id:Int):List Bd→Int
 | []=>0
 | b::l=>if b.obj=id∧b.to=0 then openO id l+1 else openO id l
def objAt (id:Int):List Ob→Nat→Int
 | [],_=> -1
 | o::l,k=>if o.id=id then (k:Int) else objAt id l (k+1)
def versAt (id:Int) (l:List Ob):List Ver:=if objAt id l 0<0 then [] else ((l[(objAt id l 0).toNat]?).map (·.vers)).getD []
def nameOne (d:Dm):Bool:=d.objs.all fun o=> !curO o||openO o.id d.binds==1
def nameCur (d:Dm):Bool:=d.binds.all fun b=> !(b.to==0)||(!decide (objAt b.obj d.objs 0<0)&&((d.objs[(objAt b.obj d.objs 0).toNat]?).map curO).getD false)
def keptB (d:Dm) (b:Bd):Bool:=d.pins.all fun p=> !holdsB b.frm b.to p.commit||(findN p.commit (versAt b.obj d.objs) 0).2
def keptOk (d:Dm):Bool:=d.binds.all (keptB d)
def checkE (c:Cf) (d:Dm):Int:=
 if cfOk c=false then 5 else if inR d.commit 0 c.com=false then 5 else if pinsE c d.commit d.pins≠0 then pinsE c d.commit d.pins else if bindsE c d.commit d.binds≠0 then bindsE c d.commit d.binds else
 if objsE c.psz d.commit none d.objs≠0 then objsE c.psz d.commit none d.objs else if pagesE c d.pages≠0 then pagesE c d.pages else if dataE d.pages d.objs≠0 then dataE d.pages d.objs else
 if (refsOk d&&nameOne d&&nameCur d&&keptOk d)=true then 0 else 20
end Go.Proofs.Ytmgodadmafcliaa
