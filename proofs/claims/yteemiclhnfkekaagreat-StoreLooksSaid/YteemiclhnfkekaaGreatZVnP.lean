/- An element that comes into a list from the end; the versions of a dump in their order (plain). -/
import Derived.Test.YteemiclhnfkekaaGreatZDiC
import Derived.Test.YteemiclhnfkekaaGreatZDiF
import Derived.Lib.RowBridge
import Derived.Shelf.Sort.Plain
import Derived.Shelf.Slices.CompactS
import Derived.Shelf.Slices.In.SortNone
import Derived.Sort.Walk0
import Derived.Test.YteemiclhnfkekaaGreatZDiL
set_option linter.unusedSimpArgs false
set_option linter.unusedVariables false
namespace Go.Proofs.YteemiclhnfkekaaGreat
open Go.RowKit Go.eB
def gx (p:Nat->Bool):Nat->Nat
 | 0=>0
 | k+1=>if p k=true then gx p k else k+1
theorem qH (p:Nat->Bool):∀ n,gx p n<=n
 | 0=>iU _
 | k+1=>by
   have:=qH p k;unfold gx;split<;>omega
def fH {α:Type} (l:List α) (j:Nat) (x:α):List α:=l.take j++[x]++l.drop j
theorem qs {α:Type} {l:List α} {j:Nat} {x:α} (h:j<=l.length):(fH l j x).length=l.length+1:=by
 simp only[fH,bW,cw,bQ,List.length_cons,List.length_nil];omega
theorem CD {α:Type} {l:List α} {j:Nat} {x:α} (h:j<=l.length):(fH l j x)[j]? = some x:=by
 have hl:(l.take j).length=j:=by rw[cw];omega
 rw[fH,lR,EJ (by omega),hl];simp
theorem zP {α:Type} {l:List α} {j:Nat} {x:α} (h:j+1<=l.length):(fH l (j+1) x)[j]? = l[j]? :=by
 have hl:(l.take (j+1)).length=j+1:=by rw[cw];omega
 rw[fH,lR,Cl (by omega),EK (by omega)]
theorem tZ {α:Type} {l:List α} {x:α}:fH l l.length x=l++[x]:=by simp[fH]
theorem wT {α:Type} {l:List α} {j:Nat} {x y:α} (hy:l[j]? = some y):((fH l (j+1) x).set (j+1) y).set j x=fH l j x:=by
 have h:=(jM.1 hy).1;have hl:(l.take j).length=j:=by rw[cw];omega
 have e:fH l (j+1) x=l.take j++(y::x::l.drop (j+1)):=by rw[fH,C5 hy];simp
 rw[e,Pk _ _ (by omega),Pk _ _ (by omega),hl,Sy,JI];rw[fH,aH hy];simp
theorem rE {α:Type} (l:List α) (j:Nat) (x:α):(fH l j x).Perm (x::l):=by
 unfold fH;have h1:(l.take j++[x]++l.drop j).Perm ([x]++l.take j++l.drop j):=List.Perm.append_right _ Sv;refine h1.trans ?_;rw[lR,JS];exact List.Perm.refl _
structure Vn where
 id:Int
 v:fE
 deriving DecidableEq
def dU (x:Vn):List D:=[.sc (.int .i64 x.id), .sc (.int .i64 x.v.from_), .sc (.int .i64 x.v.to), .sc (.int .i64 x.v.size), .sl 1 (x.v.pages.map cO)]
def uZ (l:List Vn) (i:Nat):Vn:=(l[i]?).getD ⟨0,⟨0,0,0,[]⟩⟩
def Ib (a b c d:Int):Bool:=decide (a<c)||(decide (a=c)&&decide (b<d))
def yW (x y:Vn):Bool:=Ib x.id x.v.from_ y.id y.v.from_
def E6 (x:Vn) (l:List Vn):List Vn:=fH l (gx (fun k=>yW x (uZ l k)) l.length) x
def qW (id:Int):List fE->List Vn->List Vn
 | [],a=>a
 | v::l,a=>qW id l (E6 ⟨id,v⟩ a)
def iX:List Ob->List Vn->List Vn
 | [],a=>a
 | o::l,a=>iX l (qW o.id o.bu a)
theorem Mv (x:Vn) (l:List Vn):(E6 x l).length=l.length+1:=qs (qH _ _)
def jo (o:Ob):List Vn:=o.bu.map fun v=>⟨o.id,v⟩
def LN (l:List Vn):List Int:=l.flatMap fun x=>x.v.pages
theorem LO (l:List Ob):LN (l.flatMap jo)=gp l:=by
 unfold LN gp;rw[List.flatMap_assoc]
 congr 1
 funext o
 simp[jo,ia,List.flatMap_map]
def aaj (d:Dm):Bool:=(d.pages.all fun p=>OB p.num (LN (iX d.objs [])) 0==p.refs)&&HG d&&d.binds.all fun b=>(!(b.to==0)||(!decide (cU b.obj d.objs 0<0)&&((d.objs[(cU b.obj d.objs 0).toNat]?).map OC).getD false))&&Qe d b
set_option maxRecDepth 100000
set_option maxHeartbeats 3200000
theorem B7 {l:List Bd} {n:ByteArray} {o c:Int} (hl:l.length<=100000):ak Tryz.prog 115 [.sl 4 (l.map ag), .sc (.string n),i6 o,i6 c] (.cT [.sl 4 ((dw l n o c).1.map ag),i6 (dw l n o c).2]) []:=D3 hl (nt hl)
theorem xV {l:List Bd} {n:ByteArray} {c:Int} (hl:l.length<=100000):ak Tryz.prog 120 [.sl 4 (l.map ag), .sc (.string n),i6 c] (.cT [.sl 4 ((bI l n c).1.map ag),i6 (bI l n c).2]) []:=zw hl (nt hl)
theorem yh {l:List Bd} {n m:ByteArray} {c:Int} (hl:l.length<=100000):ak Tryz.prog 121 [.sl 4 (l.map ag), .sc (.string n), .sc (.string m),i6 c] (.cT [.sl 4 ((bH l n m c).1.map ag),i6 (bH l n m c).2]) []:=zx hl (nt hl)
theorem EA (b:Bd) (l:List Bd):(lB b l).length=l.length+1:=by
 have:=kM b l;simp only[lB,bW,cw,bQ,List.length_cons,List.length_nil];omega
theorem Ji (l:List Bd) (n:ByteArray) (o c:Int):(dw l n o c).1.length<=l.length+1:=by
 unfold dw
 repeat (split;simp)
 simp only[EA];omega
theorem Ef (l:List Bd) (n:ByteArray) (c:Int):(bI l n c).1.length<=l.length+1:=by
 unfold bI
 repeat (split;simp)
 simp only[vZ,GV];omega
theorem Eg (l:List Bd) (n m:ByteArray) (c:Int):(bH l n m c).1.length<=l.length+1:=by
 unfold bH
 repeat (split;simp)
 simp only[vZ,EA,GV];omega
def kq (n:Int):ByteArray:=if n%16777216%3=0 then ⟨#[97]⟩ else if n%16777216%3=1 then ⟨#[98]⟩ else ⟨#[99]⟩
theorem JA (n:Int):([[.sc (.string ⟨#[97]⟩)],[.sc (.string ⟨#[98]⟩)],[.sc (.string ⟨#[99]⟩)]]:List (List D))[(n%16777216%3).toNat]? = some [.sc (.string (kq n))]:=by
 have:n%16777216%3=0\/n%16777216%3=1\/n%16777216%3=2:=by omega
 unfold kq;rcases this with h|h|h<;>rw[h]<;>rfl
theorem gJ {n:Int}:ak Tryz.prog 9 [i6 n] (.sc (.string (kq n))) []:=by
 have h:=JA n;refine bR [] [3] [.tmp 2] Tryz.func9 (by kernel_rfl) Tryz.ntmps9 rfl rfl rfl ⟨rfl,rfl⟩ (by simp(disch:=omega)only[seval,go_sem,cI,List.replicate,l_2,l_1];rfl) ?_;((repeat'(first|simp only[seval,go_sem,h]|(with_reducible refine aV (st:=[]) ?_)|(with_reducible refine ai (by simp(disch:=omega)only[seval,go_sem,cI,h];rfl) ?_))))
def aak (z:Int):List D:=[.sc (.int .i64 z)]
def HQ (k:Int) (d:List Bd) (c o:Int):(List Bd×Int)×Int:=
 if k%4=0\/k%4=1 then (dw d (kq (k/4%16)) o c,o+1) else if k%4=2 then (bI d (kq (k/4%16)) c,o) else (bH d (kq (k/4%16)) (kq (k/64%16)) c,o)
def Qj:List Int->Nat->List Bd->Int->Int->List Bd×Int
 | [],_,d,c,_=>(d,c)
 | k::l,i,d,c,o=>if 10<=i then (d,c) else if (HQ k d c o).1.2=0 then Qj l (i+1) (HQ k d c o).1.1 (c+1) (HQ k d c o).2 else Qj l (i+1) d c (HQ k d c o).2
def RK (a b:Int):Int:=if a<b then -1 else if b<a then 1 else 0
def aal (x y:Vn):Int:=if RK x.id y.id≠0 then RK x.id y.id else RK x.v.from_ y.v.from_
def mY:List Vn->List Vn->List Vn
 | a,[]=>a
 | a,x::l=>mY (E6 x a) l
theorem AH:∀ (l a:List Vn),(mY a l).length=a.length+l.length
 | [],_=>rfl
 | x::l,a=>by rw[mY,AH l,Mv,List.length_cons];omega
theorem Bh:∀ (l m a:List Vn),mY a (l++m)=mY (mY a l) m
 | [],_,_=>rfl
 | x::l,m,a=>by rw[List.cons_append,mY,Bh l m,mY]
theorem vH (id:Int):∀ (l:List fE) (a:List Vn),qW id l a=mY a (l.map fun v=>⟨id,v⟩)
 | [],_=>rfl
 | v::l,a=>by rw[qW,vH id l,fk,mY]
theorem qh:∀ (l:List Ob) (a:List Vn),iX l a=mY a (l.flatMap jo)
 | [],_=>rfl
 | o::l,a=>by rw[iX,qh l,vH,RW,Bh];rfl
def aam (l:List Vn):Prop:=l.Pairwise fun x y=>yW y x=false
theorem Pb (x y:Vn):yW x y=true↔(x.id<y.id\/(x.id=y.id/\x.v.from_<y.v.from_)):=by
 simp[yW,Ib]
theorem Oz (x y:Vn):yW x y=false↔¬ (x.id<y.id\/(x.id=y.id/\x.v.from_<y.v.from_)):=by
 rw[<- Pb];simp
theorem Hy (p:Nat->Bool):∀ (n k:Nat),gx p n<=k->k<n->p k=true
 | 0,_,_,h=>by omega
 | n+1,k,h1,h2=>by
   unfold gx at h1
   split at h1
   ·rename_i hp;by_cases hk:k=n
    ·rw[hk];exact hp
    ·exact Hy p n k h1 (by omega)
   ·omega
theorem Hz (p:Nat->Bool):∀ (n j:Nat),gx p n=j+1->p j=false
 | 0,_,h=>by simp[gx] at h
 | n+1,j,h=>by
   unfold gx at h
   split at h
   ·exact Hz p n j h
   ·rename_i hp;rw[show j=n by omega];simpa using hp
structure Vc where
 obj:Int
 eo:Int
 deriving DecidableEq
def gU (x:Vc):List D:=[.sc (.int .i64 x.obj), .sc (.int .i64 x.eo)]
def qi (p:List Pn) (v:fE):Bool:= !(v.to==0) && !dW v.from_ v.to p
def I3 (x:Vn):Vc:=⟨x.id,x.v.from_⟩
def kn (p:List Pn):List Vn->List Vc
 | []=>[]
 | x::l=>if qi p x.v=true then I3 x::kn p l else kn p l
def Ci (p:List Pn):List Vn->List Int
 | []=>[]
 | x::l=>if qi p x.v=true then Ci p l else x.v.pages++Ci p l
def Ve (n:Int):List Int->List Int
 | []=>[n]
 | y::l=>if y<n then y::Ve n l else if y=n then y::l else n::y::l
def Mw:List Int->List Int->List Int
 | a,[]=>a
 | a,n::l=>Mw (Ve n a) l
def Ya (p:List Pn) (l:List Vn):List Int:=Mw [] (Ci p l)
def Qk (x:Vn):Vc:=⟨x.id,if x.v.from_<9223372036854775807 then x.v.from_+1 else x.v.from_⟩
def Vf (x:Vn) (a:Vc):Bool:=Ib x.id x.v.from_ a.obj a.eo
def Ql (p:List Pn) (a:Vc):List Vn->Int->List Vc->Vc->List Vc×Vc×Bool
 | [],_,vs,nx=>(vs,nx,true)
 | x::l,c,vs,nx=>if Vf x a=true then Ql p a l c vs nx else if c<=0 then (vs,nx,false) else Ql p a l (c-1) (if qi p x.v=true then vs++[I3 x] else vs) (Qk x)
def Vg (a:Vc):List Vn->List Vn
 | []=>[]
 | x::l=>if Vf x a=true then Vg a l else x::l
def Vh (p:List Pn):List Vn->Int->List Vc->Vc->List Vc×Vc×Bool
 | [],_,vs,nx=>(vs,nx,true)
 | x::l,c,vs,nx=>if 0<c then Vh p l (c-1) (if qi p x.v=true then vs++[I3 x] else vs) (Qk x) else (vs,nx,false)
def Vi (l:List Int):List Int:=l.mergeSort fun x y=>decide (x<=y)
def YH (l:List Int):List Int:=Lib.compact (Vi l)
end Go.Proofs.YteemiclhnfkekaaGreat
namespace Go.Proofs.YteemiclhnfkekaaGreat
open Go.Shelf
def Qm:Go.Shelf.Ren:=⟨fun|189=>75|125=>146|257=>145|128=>194|129=>195|294=>185|295=>186|296=>187|297=>188|298=>189|299=>190|216=>191|300=>192|301=>193|328=>215|329=>216|330=>217|331=>218|332=>219|215=>220|343=>228|n=>n,fun|28=>22|3=>3|46=>38|0=>0|51=>232|53=>234|4=>4|183=>227|182=>226|131=>117|5=>5|9=>9|218=>246|222=>250|228=>256|229=>257|n=>n,fun|n=>n⟩
def EB:Go.Shelf.Ren:=⟨fun|190=>136|125=>146|258=>184|128=>194|129=>195|302=>206|303=>207|304=>208|305=>209|306=>210|307=>211|308=>212|309=>213|310=>214|333=>224|329=>216|330=>217|334=>225|335=>226|336=>227|344=>230|n=>n,fun|31=>47|9=>9|3=>3|46=>38|0=>0|51=>232|53=>234|4=>4|183=>227|182=>226|131=>117|5=>5|218=>246|222=>250|228=>256|229=>257|n=>n,fun|n=>n⟩
theorem HR:Go.Proofs.Lays.n190 Tryz.prog EB:={
 mixed:=by kernel_rfl
 f125:=Tryz.func146.trans (congrArg some (by kernel_rfl))
 f128:=Tryz.func194.trans (congrArg some (by kernel_rfl))
 f129:=Tryz.func195.trans (congrArg some (by kernel_rfl))
 f190:=Tryz.func136.trans (congrArg some (by kernel_rfl))
 f258:=Tryz.func184.trans (congrArg some (by kernel_rfl))
 f302:=Tryz.func206.trans (congrArg some (by kernel_rfl))
 f303:=Tryz.func207.trans (congrArg some (by kernel_rfl))
 f304:=Tryz.func208.trans (congrArg some (by kernel_rfl))
 f305:=Tryz.func209.trans (congrArg some (by kernel_rfl))
 f306:=Tryz.func210.trans (congrArg some (by kernel_rfl))
 f307:=Tryz.func211.trans (congrArg some (by kernel_rfl))
 f308:=Tryz.func212.trans (congrArg some (by kernel_rfl))
 f309:=Tryz.func213.trans (congrArg some (by kernel_rfl))
 f310:=Tryz.func214.trans (congrArg some (by kernel_rfl))
 f329:=Tryz.func216.trans (congrArg some (by kernel_rfl))
 f330:=Tryz.func217.trans (congrArg some (by kernel_rfl))
 f333:=Tryz.func224.trans (congrArg some (by kernel_rfl))
 f334:=Tryz.func225.trans (congrArg some (by kernel_rfl))
 f335:=Tryz.func226.trans (congrArg some (by kernel_rfl))
 f336:=Tryz.func227.trans (congrArg some (by kernel_rfl))
 f344:=Tryz.func230.trans (congrArg some (by kernel_rfl))
 t0:=Tryz.underlying0
 a0:=Tryz.isAgg0
 z0:=Tryz.sizeOf0
 v0:=Tryz.zeroValue0
 t3:=Tryz.underlying3
 a3:=Tryz.isAgg3
 z3:=Tryz.sizeOf3
 v3:=Tryz.zeroValue3
 t4:=Tryz.underlying4
 a4:=Tryz.isAgg4
 z4:=Tryz.sizeOf4
 v4:=Tryz.zeroValue4
 t5:=Tryz.underlying5
 a5:=Tryz.isAgg5
 z5:=Tryz.sizeOf5
 v5:=Tryz.zeroValue5
 t9:=Tryz.underlying9
 a9:=Tryz.isAgg9
 z9:=Tryz.sizeOf9
 v9:=Tryz.zeroValue9
 t31:=Tryz.underlying47
 a31:=Tryz.isAgg47
 z31:=Tryz.sizeOf47
 v31:=Tryz.zeroValue47
 t46:=Tryz.underlying38
 a46:=Tryz.isAgg38
 z46:=Tryz.sizeOf38
 v46:=Tryz.zeroValue38
 t51:=Tryz.underlying232
 a51:=Tryz.isAgg232
 z51:=Tryz.sizeOf232
 v51:=Tryz.zeroValue232
 t53:=Tryz.underlying234
 a53:=Tryz.isAgg234
 z53:=Tryz.sizeOf234
 v53:=Tryz.zeroValue234
 t131:=Tryz.underlying117
 a131:=Tryz.isAgg117
 z131:=Tryz.sizeOf117
 v131:=Tryz.zeroValue117
 t182:=Tryz.underlying226
 a182:=Tryz.isAgg226
 z182:=Tryz.sizeOf226
 v182:=Tryz.zeroValue226
 t183:=Tryz.underlying227
 a183:=Tryz.isAgg227
 z183:=Tryz.sizeOf227
 v183:=Tryz.zeroValue227
 t218:=Tryz.underlying246
 a218:=Tryz.isAgg246
 z218:=Tryz.sizeOf246
 v218:=Tryz.zeroValue246
 t222:=Tryz.underlying250
 a222:=Tryz.isAgg250
 z222:=Tryz.sizeOf250
 v222:=Tryz.zeroValue250
 t228:=Tryz.underlying256
 a228:=Tryz.isAgg256
 z228:=Tryz.sizeOf256
 v228:=Tryz.zeroValue256
 t229:=Tryz.underlying257
 a229:=Tryz.isAgg257
 z229:=Tryz.sizeOf257
 v229:=Tryz.zeroValue257 }
open Go.Sort Go.RowKit in
theorem slices_Sort_string (blk off cap:Nat) (ss:List (List UInt8)) (w:World) (hH:Holds encStr w blk off ss.toArray) (hblk:blk<w.heap.size) (hsz:ss.length<4611686018427387904):
  Calls Tryz.prog 136 #[.slice (some ⟨blk,off,none⟩) ss.length cap] w fun e w'=>
   e = .returned (.tuple #[])/\∃ n os,w'=grow (putRow encStr (Sort.ahead w n) blk off (ss.mergeSort fun x y=>decide (x<=y)).toArray) os:=Any.slices_Sort_string HR blk off cap ss w hH hblk hsz
def EC:Go.Shelf.Ren:=⟨fun|194=>137|n=>n,fun|31=>47|9=>9|3=>3|4=>4|0=>0|n=>n,fun|n=>n⟩
theorem HS:Go.Proofs.Lays.n194 Tryz.prog EC:={
 mixed:=by kernel_rfl
 f194:=Tryz.func137.trans (congrArg some (by kernel_rfl))
 t0:=Tryz.underlying0
 a0:=Tryz.isAgg0
 z0:=Tryz.sizeOf0
 v0:=Tryz.zeroValue0
 t3:=Tryz.underlying3
 a3:=Tryz.isAgg3
 z3:=Tryz.sizeOf3
 v3:=Tryz.zeroValue3
 t4:=Tryz.underlying4
 a4:=Tryz.isAgg4
 z4:=Tryz.sizeOf4
 v4:=Tryz.zeroValue4
 t9:=Tryz.underlying9
 a9:=Tryz.isAgg9
 z9:=Tryz.sizeOf9
 v9:=Tryz.zeroValue9
 t31:=Tryz.underlying47
 a31:=Tryz.isAgg47
 z31:=Tryz.sizeOf47
 v31:=Tryz.zeroValue47 }
open Go.RowKit Go.Lib Go.Sort in
theorem slices_Compact_string (blk off cap:Nat) (zs:List (List UInt8)) (w:World) (hH:Holds encStr w blk off zs.toArray) (hsz:zs.length<=9223372036854775807) (hcap:zs.length<=cap):
  Calls Tryz.prog 137 #[.slice (some ⟨blk,off,none⟩) zs.length cap] w fun e w'=>e = .returned (.slice (some ⟨blk,off,none⟩) (Lib.compact zs).length cap)/\∃ q,w'=putRow encStr (Sort.ahead w q) blk off (Lib.compact zs++List.replicate (zs.length-(Lib.compact zs).length) []).toArray:=Any.slices_Compact_string HS blk off cap zs w hH hsz hcap
open Go.RowKit Go.Lib Go.Sort in
theorem slices_Compact_string_empty (a:Option Addr) (cap:Nat) (w:World):
  Calls Tryz.prog 137 #[.slice a 0 cap] w fun e w'=>e = .returned (.slice a 0 cap)/\w'=w:=Any.slices_Compact_string_empty HS a cap w
open Go.RowKit Go.Sort in
theorem slices_Sort_string_none (p:Option Addr) (cap:Nat) (w:World):
  Calls Tryz.prog 136 #[.slice p 0 cap] w fun e w'=>e = .returned (.tuple #[])/\w'=w:=Any.slices_Sort_string_none HR p cap w
open Go.RowKit Go.eB
end Go.Proofs.YteemiclhnfkekaaGreat
namespace Go.Proofs.YteemiclhnfkekaaGreat
end Go.Proofs.YteemiclhnfkekaaGreat
set_option maxHeartbeats 6400000
namespace Go.Proofs.YteemiclhnfkekaaGreat
open Go.RowKit Go.eB Go.Sort
def MZ (z:List UInt8):ByteArray:=⟨z.toArray⟩
def wk (s:ByteArray):List UInt8:=s.data.toList
theorem tQ (s:ByteArray):MZ (wk s)=s:=by cases s;simp[MZ,wk]
theorem Cj (z:List UInt8):wk (MZ z)=z:=by simp[MZ,wk]
theorem ED (ns:List ByteArray):ns.map eE=(ns.map wk).map fun z=>[D.sc (encStr z)]:=by
 rw[H7];apply Pe;intro s _;have:=tQ s;simp only[MZ] at this;simp only[eE,Function.comp,encStr,this]
theorem EE (zs:List (List UInt8)):(zs.map fun z=>[D.sc (encStr z)])=(zs.map MZ).map eE:=by
 rw[H7];rfl
def pz (ns:List ByteArray):List ByteArray:=((ns.map wk).mergeSort fun x y=>decide (x<=y)).map MZ
def EF (zs:List (List UInt8)):List (List UInt8):=Lib.compact zs++List.replicate (zs.length-(Lib.compact zs).length) []
def pE (ns:List ByteArray):List ByteArray:=(Lib.compact (ns.map wk)).map MZ
def Bi (ns:List ByteArray):List ByteArray:=(EF (ns.map wk)).map MZ
theorem Bj (zs:List (List UInt8)):(EF zs).length=zs.length:=by
 have:=Lib.compact_length_le zs;simp only[EF,bW,dx];omega
theorem EG {ns:List ByteArray} {n:Nat} (hn:ns.length=n) (h0:0<n) (hl:n<=1000000):aF Tryz.prog 136 [.row 1 (ns.map eE)] [.cW 0 1 0 n] (.cT []) [.row 1 ((pz ns).map eE)]:=by
 subst hn;have h:=FF (enc:=encStr) (P:=Tryz.prog) (fun l=>l.mergeSort fun x y=>decide (x<=y)) (fun l=>by simp) (fun _=>rfl) call136 (fun blk cap zs w hH hb hs=>slices_Sort_string blk 0 cap zs w hH hb hs) (zs:=ns.map wk) (fun e=>by simp at e;subst e;simp at h0) (by simpa using hl);rw[<- ED,EE,dD] at h;exact h
theorem GK:aF Tryz.prog 136 [.row 1 []] [.cW 0 1 0 0] (.cT []) [.row 1 []]:=FH call136 slices_Sort_string_none
theorem EH {ns:List ByteArray} {n:Nat} (hn:ns.length=n) (h0:0<n) (hl:n<=1000000):aF Tryz.prog 137 [.row 1 (ns.map eE)] [.cW 0 1 0 n] (.cW 0 1 0 (pE ns).length) [.row 1 ((Bi ns).map eE)]:=by
 subst hn;have h:=FG (enc:=encStr) (P:=Tryz.prog) EF (fun l=>(Lib.compact l).length) (fun l=>Lib.compact_length_le l) Bj (fun _=>rfl) call137 (fun blk cap zs w hH hb hs hc=>slices_Compact_string blk 0 cap zs w hH (by omega) hc) (zs:=ns.map wk) (fun e=>by simp at e;subst e;simp at h0) (by simpa using hl);rw[<- ED,EE,dD] at h;rw[pE,dD];exact h
theorem GL:aF Tryz.prog 137 [.row 1 []] [.cW 0 1 0 0] (.cW 0 1 0 0) [.row 1 []]:=IB call137 slices_Compact_string_empty
theorem GM (ns:List ByteArray):(Bi ns).take (pE ns).length=pE ns:=by
 simp only[Bi,pE,EF,vN,dD];rw[RX (by simp)]
theorem JB (ns:List ByteArray):(Bi ns).length=ns.length:=by simp[Bi,Bj]
theorem qM (ns:List ByteArray):(pz ns).length=ns.length:=by simp[pz]
def fe (c:Int) (l:List Bd):List ByteArray:=(l.filter fun b=>eX b.eo b.to c).map (·.name)
def jr (c:Int) (l:List Bd):List ByteArray:=pE (pz (fe c l))
theorem vI (c:Int) (b:Bd) (l:List Bd):fe c (b::l)=if eX b.eo b.to c=true then b.name::fe c l else fe c l:=by
 unfold fe;rw[List.filter_cons]
 split<;>rfl
theorem GN (c:Int) (l:List Bd):(fe c l).length<=l.length:=by
 unfold fe;rw[dD];exact Vk _ _
theorem mF {l:List Bd} {c:Int} (hl:l.length<=100000):ak Tryz.prog 58 [.sl 4 (l.map ag),i6 c] (.sl 1 ((jr c l).map eE)) []:=by
 refine dL [] [7,16,20,21,24,26] Tryz.func58 (by kernel_rfl) Tryz.ntmps58 rfl rfl ⟨rfl,rfl⟩ (by simp(disch:=omega)only[seval,go_sem,cI,List.replicate,l_2,l_1];rfl) ?_;((repeat'(first|simp only[seval,go_sem]|(with_reducible refine aV (st:=[]) ?_))));(refine ay.fT 5 21 1 (by first|(simp only[seval,go_sem])) (by first|(simp only[seval,go_sem])) (by simp only[seval,go_sem];rfl) ?_)
 (with_reducible refine ay.cX (fun (t:Nat×List ByteArray)=>[(10,i6 t.1),(5,.cW 21 1 0 t.2.length),(7,.any)]++aN 11 12) (fun (t:Nat×List ByteArray)=>[(21,.row 1 (t.2.map eE)),(7,.dead),(16,.dead),(20,.dead)]) (fun (t:Nat×List ByteArray)=>t.1<=l.length/\t.2.length<=t.1/\t.2++fe c (l.drop t.1)=fe c l) (fun (t:Nat×List ByteArray)=>l.length-t.1) ((0,[])) (⟨ek _,by simp,rfl⟩) (by intro _;simp(disch:=omega)only[seval,go_sem,cI];rfl) (by simp only[seval,go_sem]) (fun t hI=>?_))
 obtain ⟨k,ns⟩:=t;obtain ⟨hk,hnl,hf⟩:=hI;simp only at hk hnl hf;by_cases hlt:k<l.length
 ·obtain ⟨b,hb⟩:=aZ hlt;have hb':=get_map ag hb;rw[aH hb,vI] at hf;cases hh:eX b.eo b.to c with
  | true=>
    rw[bC hh] at hf;((repeat'(first|simp only[seval,go_sem,ag,hb',hh]|((with_reducible refine bJ ?_);refine aq.c (mU) ?_)|(with_reducible first|refine aD (st:=[]) ?_|refine aV (st:=[]) ?_|refine ai (by simp(disch:=omega)only[seval,go_sem,cI,ag,hb',hh];rfl) ?_))));all_goals(try(refine aP ((k+1,ns++[b.name])) (by simp only[seval,go_sem,eE];first|((repeat'(with_reducible apply And.intro))<;>first|rfl|(simp[eE];done))) ?_ ?_<;>(try(omega))))
    all_goals(try(exact ⟨by simp only;omega,by simp only[bW,List.length_cons,List.length_nil];omega,by simp only[lR,List.cons_append,List.nil_append];exact hf⟩))
  | false=>
    rw[aE (by simp[hh])] at hf;((repeat'(first|simp only[seval,go_sem,ag,hb',hh]|((with_reducible refine bJ ?_);refine aq.c (mU) ?_)|(with_reducible first|refine aD (st:=[]) ?_|refine aV (st:=[]) ?_|refine ai (by simp(disch:=omega)only[seval,go_sem,cI,ag,hb',hh];rfl) ?_))));all_goals(try(refine aP ((k+1,ns)) (by simp only[seval,go_sem];first|((repeat'(with_reducible apply And.intro))<;>first|rfl)) ?_ ?_<;>(try(omega))))
    all_goals(try(exact ⟨by simp only;omega,by simp only;omega,hf⟩))
 ·rw[j9 (by omega),show fe c []=[] from rfl,yM] at hf;subst hf;unfold jr;by_cases hz:(fe c l).length=0
  ·have e:fe c l=[]:=uc hz;have e2:pE (pz [])=[]:=by simp[pE,pz,Lib.compact,Lib.compactUpTo]
   rw[e] at hnl ⊢;rw[e2]
   ((repeat'(first|simp only[seval,go_sem,List.length_nil,eN]|((with_reducible refine au ?_);((with_reducible refine cq (st:=[]) 0 ?_);simp only[seval,go_sem,List.length_nil,eN];first|refine b8.c (GK) ?_|refine b8.c (GL) ?_))|(with_reducible refine aB ?_;(refine aC.gu 21 (by simp only[seval,go_sem];rfl) (by simp only[seval,go_sem,List.length_nil,eN];rfl) ?_);(with_reducible refine aB ?_;refine aC.q rfl rfl (by simp only[seval,go_sem];rfl) (by decide) (by simp only[seval,go_sem];rfl) (by simp only[seval,go_sem];rfl) rfl ?_<;>(try simp only[seval,go_sem,List.length_nil,eN])<;>(repeat'(with_reducible apply And.intro))<;>(try rfl)))|(with_reducible first|refine aV (st:=[]) ?_|refine ai (by simp(disch:=omega)only[seval,go_sem,cI,List.length_nil,eN];rfl) ?_))))
   all_goals trace_state
  ·have hs:=qM (fe c l);have hr:=GM (pz (fe c l));have MK:=congrArg (List.map eE) hr;rw[Qt] at MK;have w6:((Bi (pz (fe c l))).map eE).length=(fe c l).length:=by rw[dD,JB,qM]
   have lE:(pE (pz (fe c l))).length<=(fe c l).length:=by
    have:=Lib.compact_length_le ((pz (fe c l)).map wk);rw[dD,qM] at this;simp only[pE,dD];exact this
   ((repeat'(first|simp only[seval,go_sem,MK,w6,hs,lE]|((with_reducible refine au ?_);((with_reducible refine cq (st:=[]) 0 ?_);simp only[seval,go_sem,MK,w6,hs,lE];first|refine b8.c (EG ?_ ?_ ?_) ?_|refine b8.c (EH ?_ ?_ ?_) ?_))|(with_reducible refine aB ?_;(refine aC.gu 21 (by simp only[seval,go_sem];rfl) (by simp only[seval,go_sem,MK,w6,hs,lE];rfl) ?_);(with_reducible refine aB ?_;refine aC.q rfl rfl (by simp only[seval,go_sem];rfl) (by decide) (by simp only[seval,go_sem];rfl) (by simp only[seval,go_sem];rfl) rfl ?_<;>(try simp only[seval,go_sem,MK,w6,hs,lE])<;>(repeat'(with_reducible apply And.intro))<;>(try rfl)))|(with_reducible first|refine aV (st:=[]) ?_|refine ai (by simp(disch:=omega)only[seval,go_sem,cI,MK,w6,hs,lE];rfl) ?_)))<;>(try(((with_reducible show (_:Nat)<=_);omega))))
   all_goals(try omega)
def Qn (l:List ByteArray):Prop:=l.Pairwise (fun x y=>ri x y=true)
theorem jK (s:ByteArray):s.toList=wk s:=SA s
theorem RM (x y:ByteArray):ri x y=Op.bytesLess (wk x) (wk y):=by rw[ri,jK,jK]
theorem Ck {x y:ByteArray} (h:wk x=wk y):x=y:=by rw[<- tQ x,h,tQ]
theorem lP {x y:ByteArray}:lq x y=true↔x=y:=by
 rw[lq,jK,jK,nX];exact ⟨Ck,fun h=>by rw[h]⟩
theorem iE (x:ByteArray):ri x x=false:=nP _
theorem uT {x y z:ByteArray} (h:ri x y=true) (g:ri y z=true):ri x z=true:=qg h g
theorem JC (x y:ByteArray):ri x y=true\/x=y\/ri y x=true:=by
 rcases mc x.toList y.toList with h|h|h
 ·exact .inl h
 ·rw[jK,jK] at h;exact .inr (.inl (Ck h))
 ·exact .inr (.inr h)
theorem HT:∀ {a b:List ByteArray},Qn a->Qn b->(∀ x,x∈a↔x∈b)->a=b
 | [],[],_,_,_=>rfl
 | [],y::b,_,_,h=>by have:=(h y).2 (RU ..);cases this
 | x::a,[],_,_,h=>by have:=(h x).1 (RU ..);cases this
 | x::a,y::b,ha,hb,h=>by
   have gN:=M9.1 ha;have hb':=M9.1 hb
   have e:x=y:=by
    rcases lp.1 ((h x).1 (RU ..)) with e|e
    ·exact e
    ·rcases lp.1 ((h y).2 (RU ..)) with e2|e2
     ·exact e2.symm
     ·have h1:=hb'.1 x e;have h2:=gN.1 y e2;have:=uT h1 h2;rw[iE] at this;cases this
   subst e;rw[HT gN.2 hb'.2 fun z=>?_];constructor
   ·intro hz;rcases lp.1 ((h z).1 (Ic _ hz)) with e|e
    ·subst e;have:=gN.1 z hz;rw[iE] at this;cases this
    ·exact e
   ·intro hz;rcases lp.1 ((h z).2 (Ic _ hz)) with e|e
    ·subst e;have:=hb'.1 z hz;rw[iE] at this;cases this
    ·exact e
theorem yJ (n:ByteArray):∀ (l:List ByteArray) (x:ByteArray),x∈tC n l↔x=n\/x∈l
 | [],x=>by simp[tC]
 | y::l,x=>by
   unfold tC
   split
   ·rw[lp,yJ n l x,lp];constructor
    ·rintro (h|h|h)<;>simp_all
    ·rintro (h|h|h)<;>simp_all
   ·split
    ·rename_i h;have:=lP.1 h;subst this;simp
    ·simp
theorem EI (n:ByteArray):∀ {l:List ByteArray},Qn l->Qn (tC n l)
 | [],_=>Vo _ _
 | y::l,h=>by
   have h':=M9.1 h;unfold tC
   split
   ·rename_i h1;refine List.Pairwise.cons (fun x hx=>?_) (EI n h'.2);rcases (yJ n l x).1 hx with rfl|hx
    ·exact h1
    ·exact h'.1 x hx
   ·rename_i h1
    split
    ·exact h
    ·rename_i h2
     have h3:ri n y=true:=by
      rcases JC n y with g|g|g
      ·exact g
      ·exact absurd (lP.2 g.symm) h2
      ·exact absurd g h1
     refine List.Pairwise.cons (fun x hx=>?_) h;rcases lp.1 hx with rfl|hx
     ·exact h3
     ·exact uT h3 (h'.1 x hx)
theorem sD (c:Int):∀ (l:List Bd) (a:List ByteArray),Qn a->Qn (iV c l a)/\∀ x,x∈iV c l a↔x∈a\/x∈fe c l
 | [],a,h=>⟨h,fun x=>by simp[iV,fe]⟩
 | b::l,a,h=>by
   rw[iV,vI]
   split
   ·obtain ⟨h1,h2⟩:=sD c l _ (EI b.name h);refine ⟨h1,fun x=>?_⟩;rw[h2,yJ,lp];constructor
    ·rintro ((h|h)|h)<;>simp_all
    ·rintro (h|h|h)<;>simp_all
   ·exact sD c l a h
theorem vJ (d:Array (List UInt8)) (hs:∀ i j,i<j->j<d.size->d[i]! <=d[j]!):∀ m,m<=d.size->
  (Lib.compactUpTo d m).Pairwise (fun x y=>Op.bytesLess x y=true)/\(∀ x,x∈Lib.compactUpTo d m↔∃ i,i<m/\d[i]! = x)
 | 0,_=>by simp[Lib.compactUpTo]
 | m+1,hm=>by
   obtain ⟨h1,h2⟩:=vJ d hs m (by omega);rw[Lib.compactUpTo_succ];by_cases hk:Lib.keeps d m=true
   ·rw[bC hk];refine ⟨JF.2 ⟨h1,Vo _ _,fun x hx y hy=>?_⟩,fun x=>?_⟩
    ·obtain ⟨i,hi,rfl⟩:=(h2 x).1 hx;rw[rG] at hy;subst hy
     have hk':m≠0/\d[m]! ≠d[m-1]! \/m=0:=by
      unfold Lib.keeps at hk;rcases of_decide_eq_true hk with g|g
      ·exact .inr g
      ·by_cases h0:m=0
       ·exact .inr h0
       ·exact .inl ⟨h0,g⟩
     rcases hk' with ⟨h0,hne⟩|h0
     ·have a1:d[i]! <=d[m-1]! :=by
       rcases Pt i (m-1) with g|g
       ·exact hs i (m-1) g (by omega)
       ·have:i=m-1:=by omega
        subst this;exact List.le_refl _
      have a2:d[m-1]! <=d[m]! :=hs (m-1) m (by omega) (by omega);have b1:Op.bytesLess (d[m-1]!) (d[i]!)=false:=by rw[bytesLess_eq];exact Ii a1
      have b2:Op.bytesLess (d[m]!) (d[m-1]!)=false:=by rw[bytesLess_eq];exact Ii a2
      have c2:=uH b2 (fun e=>hne e.symm);rcases mc (d[i]!) (d[m-1]!) with g|g|g
      ·exact qg g c2
      ·rw[g];exact c2
      ·rw[b1] at g;cases g
     ·omega
    ·rw[lS,h2,rG];constructor
     ·rintro (⟨i,hi,e⟩|e)
      ·exact ⟨i,by omega,e⟩
      ·exact ⟨m,by omega,e.symm⟩
     ·rintro ⟨i,hi,e⟩;rcases Pt i m with g|g
      ·exact .inl ⟨i,g,e⟩
      ·have:i=m:=by omega
       subst this;exact .inr e.symm
   ·rw[aE hk,yM];refine ⟨h1,fun x=>?_⟩;rw[h2]
    have hk':m≠0/\d[m]! = d[m-1]! :=by
     unfold Lib.keeps at hk;simp only[pQ,vQ,ne_eq,Decidable.not_not] at hk;exact hk
    constructor
    ·rintro ⟨i,hi,e⟩;exact ⟨i,by omega,e⟩
    ·rintro ⟨i,hi,e⟩;rcases Pt i m with g|g
     ·exact ⟨i,g,e⟩
     ·have:i=m:=by omega
      subst this;exact ⟨i-1,by omega,by rw[<- hk'.2];exact e⟩
theorem GO (c:Int) (l:List Bd):Qn (jr c l)/\∀ x,x∈jr c l↔x∈fe c l:=by
 have Vj:((fe c l).map wk).mergeSort (fun x y=>decide (x<=y)) |>.Pairwise (fun x y=>x<=y):=by
  have:=List.pairwise_mergeSort (le:=fun x y:List UInt8=>decide (x<=y)) (fun a b c h1 h2=>by simp only[pQ] at *;exact List.le_trans h1 h2) (fun a b=>by simp only[vP,pQ];exact List.le_total a b) ((fe c l).map wk);exact this.imp (fun h=>by simpa using h)
 have hmem:∀ z,z∈((fe c l).map wk).mergeSort (fun x y=>decide (x<=y))↔z∈(fe c l).map wk:=fun z=>List.mem_mergeSort;unfold jr pE pz;generalize ((fe c l).map wk).mergeSort (fun x y=>decide (x<=y))=Z at Vj hmem
 have hz:(Z.map MZ).map wk=Z:=by
  rw[H7]
  conv=>rhs;rw[<- List.map_id Z]
  exact Pe (fun z _=>Cj z)
 rw[hz]
 have hsp:=vJ Z.toArray (fun i j hij hj=>by
  have hj':j<Z.length:=by simpa using hj
  have:=JR.1 Vj i j (by omega) hj' hij;rw[Nb Z.toArray i (by simp;omega),Nb Z.toArray j hj]
  simpa using this) Z.length (by simp)
 obtain ⟨h1,h2⟩:=hsp;change (Lib.compact Z).Pairwise _ at h1;change ∀ x,x∈Lib.compact Z↔_ at h2;refine ⟨?_,fun x=>?_⟩
 ·unfold Qn;rw[List.pairwise_map];exact h1.imp (fun {a b} h=>by rw[RM,Cj,Cj];exact h)
 ·rw[qq];constructor
  ·rintro ⟨z,qZ,rfl⟩;obtain ⟨i,hi,e⟩:=(h2 z).1 qZ
   have:z∈Z:=by
    rw[Nb Z.toArray i (by simpa using hi)] at e;rw[<- e];simp
   obtain ⟨y,hy,e2⟩:=qq.1 ((hmem z).1 this);rw[<- e2,tQ];exact hy
  ·intro hx;have:wk x∈Z:=(hmem _).2 (qq.2 ⟨x,hx,rfl⟩);obtain ⟨i,hi,e⟩:=RT.1 this;refine ⟨wk x,(h2 _).2 ⟨i,hi,?_⟩,tQ x⟩;rw[Nb Z.toArray i (by simpa using hi)];simpa using e
theorem sJ (c:Int) (l:List Bd):jr c l=iV c l []:=by
 obtain ⟨h1,h2⟩:=GO c l;obtain ⟨g1,g2⟩:=sD c l [] List.Pairwise.nil;exact HT h1 g1 fun x=>by rw[h2,g2];simp
end Go.Proofs.YteemiclhnfkekaaGreat
namespace Go.Proofs.YteemiclhnfkekaaGreat
open Go.RowKit Go.eB
def HU (p:List Pn) (b:Bd):Bool:=b.to==0||dW b.eo b.to p
def ga (p:List Pn) (l:List Bd):List Bd:=l.filter (HU p)
theorem vK (p:List Pn) (b:Bd) (l:List Bd):ga p (b::l)=if HU p b=true then b::ga p l else ga p l:=by
 unfold ga;rw[List.filter_cons]
theorem Ej {l:List Bd} {p:List Pn} (hl:l.length<=100000) (hp:p.length<=100000):ak Tryz.prog 124 [.sl 4 (l.map ag), .sl 2 (p.map aW)] (.sl 4 ((ga p l).map ag)) []:=by
 refine dL [] [7,23,27,28] Tryz.func124 (by kernel_rfl) Tryz.ntmps124 rfl rfl ⟨rfl,rfl⟩ (by simp(disch:=omega)only[seval,go_sem,cI,List.replicate,l_2,l_1];rfl) ?_;((repeat'(first|simp only[seval,go_sem]|(with_reducible refine aV (st:=[]) ?_))));(refine ay.fT 5 28 4 (by first|(simp only[seval,go_sem])) (by first|(simp only[seval,go_sem])) (by simp only[seval,go_sem];rfl) ?_)
 (with_reducible refine ay.cX (fun (t:Nat×List Bd)=>[(10,i6 t.1),(5,.cW 28 4 0 t.2.length),(7,.any)]++aN 11 19) (fun (t:Nat×List Bd)=>[(28,.row 4 (t.2.map ag)),(7,.dead),(23,.dead),(27,.dead)]) (fun (t:Nat×List Bd)=>t.1<=l.length/\t.2.length<=t.1/\t.2++ga p (l.drop t.1)=ga p l) (fun (t:Nat×List Bd)=>l.length-t.1) ((0,[])) (⟨ek _,by simp,rfl⟩) (by intro _;simp(disch:=omega)only[seval,go_sem,cI];rfl) (by simp only[seval,go_sem]) (fun t hI=>?_))
 obtain ⟨k,o⟩:=t;obtain ⟨hk,hnl,hf⟩:=hI;simp only at hk hnl hf;by_cases hlt:k<l.length
 ·obtain ⟨b,hb⟩:=aZ hlt;have hb':=get_map ag hb;rw[aH hb,vK,HU] at hf;by_cases h1:b.to=0
  ·rw[nX.2 h1,Cm,bC rfl] at hf;((repeat'(first|simp only[seval,go_sem,hb',ag]|(with_reducible refine aV (st:=[]) ?_)|(with_reducible refine ai (by simp(disch:=omega)only[seval,go_sem,cI,hb',ag];rfl) ?_))));all_goals(try(refine aP ((k+1,o++[b])) (by simp only[seval,go_sem,ag];first|((repeat'(with_reducible apply And.intro))<;>first|rfl|(simp[ag];done))) ?_ ?_<;>(try(omega))))
   all_goals(try(exact ⟨by simp only;omega,by simp only[bW,List.length_cons,List.length_nil];omega,by simp only[lR,List.cons_append,List.nil_append];exact hf⟩))
  ·rw[yX.2 h1,wo] at hf;cases h2:dW b.eo b.to p with
   | true=>
     rw[bC h2] at hf;((repeat'(first|simp only[seval,go_sem,ag,hb',h2]|((with_reducible refine bJ ?_);refine aq.c (lN ?_) ?_)|(with_reducible first|refine aD (st:=[]) ?_|refine aV (st:=[]) ?_|refine ai (by simp(disch:=omega)only[seval,go_sem,cI,ag,hb',h2];rfl) ?_)))<;>(try((with_reducible assumption))));all_goals(try(refine aP ((k+1,o++[b])) (by simp only[seval,go_sem,ag];first|((repeat'(with_reducible apply And.intro))<;>first|rfl|(simp[ag];done))) ?_ ?_<;>(try(omega))))
     all_goals(try(exact ⟨by simp only;omega,by simp only[bW,List.length_cons,List.length_nil];omega,by simp only[lR,List.cons_append,List.nil_append];exact hf⟩))
   | false=>
     rw[aE (by simp[h2])] at hf;((repeat'(first|simp only[seval,go_sem,ag,hb',h2]|((with_reducible refine bJ ?_);refine aq.c (lN ?_) ?_)|(with_reducible first|refine aD (st:=[]) ?_|refine aV (st:=[]) ?_|refine ai (by simp(disch:=omega)only[seval,go_sem,cI,ag,hb',h2];rfl) ?_)))<;>(try((with_reducible assumption))));all_goals(try(refine aP ((k+1,o)) (by simp only[seval,go_sem];first|((repeat'(with_reducible apply And.intro))<;>first|rfl)) ?_ ?_<;>(try(omega))))
     all_goals(try(exact ⟨by simp only;omega,by simp only;omega,hf⟩))
 ·rw[j9 (by omega),show ga p []=[] from rfl,yM] at hf;rw[<- hf]
  ((repeat'(first|simp only[seval,go_sem]|(with_reducible refine aB ?_;(refine aC.gu 28 (by simp only[seval,go_sem];rfl) (by simp only[seval,go_sem];rfl) ?_);(with_reducible refine aB ?_;refine aC.q rfl rfl (by simp only[seval,go_sem];rfl) (by decide) (by simp only[seval,go_sem];rfl) (by simp only[seval,go_sem];rfl) rfl ?_<;>(try simp only[seval,go_sem])<;>(repeat'(with_reducible apply And.intro))<;>(try rfl)))|(with_reducible first|refine aV (st:=[]) ?_|refine ai (by simp(disch:=omega)only[seval,go_sem,cI];rfl) ?_))))
theorem Bo {l:List Bd} {p:List Pn} (hl:l.length<=100000) (hp:p.length<=100000):ak Tryz.prog 125 [.sl 4 (l.map ag), .sl 2 (p.map aW)] (.sl 4 ((ga p l).map ag)) []:=by
 refine dL [] [31,38,39] Tryz.func125 (by kernel_rfl) Tryz.ntmps125 rfl rfl ⟨rfl,rfl⟩ (by simp(disch:=omega)only[seval,go_sem,cI,List.replicate,l_2,l_1];rfl) ?_;((repeat'(first|simp only[seval,go_sem]|(with_reducible refine aV (st:=[]) ?_))));(refine ay.fT 5 39 4 (by first|(simp only[seval,go_sem])) (by first|(simp only[seval,go_sem])) (by simp only[seval,go_sem];rfl) ?_)
 (with_reducible refine ay.cX (fun (t:Nat×List Bd)=>[(6,i6 t.1),(5,.cW 39 4 0 t.2.length)]++aN 7 33) (fun (t:Nat×List Bd)=>[(39,.row 4 (t.2.map ag)),(31,.dead),(38,.dead)]) (fun (t:Nat×List Bd)=>t.1<=l.length/\t.2.length<=t.1/\t.2++ga p (l.drop t.1)=ga p l) (fun (t:Nat×List Bd)=>l.length-t.1) ((0,[])) (⟨ek _,by simp,rfl⟩) (by intro _;simp(disch:=omega)only[seval,go_sem,cI];rfl) (by simp only[seval,go_sem]) (fun t hI=>?_))
 obtain ⟨k,o⟩:=t;obtain ⟨hk,hnl,hf⟩:=hI;simp only at hk hnl hf;by_cases hlt:k<l.length
 ·obtain ⟨b,hb⟩:=aZ hlt;have hb':=get_map ag hb;rw[aH hb,vK,HU] at hf;by_cases h1:b.to=0
  ·rw[nX.2 h1,Cm,bC rfl] at hf;((repeat'(first|simp only[seval,go_sem,hb',ag]|(with_reducible refine br ?_;refine dX mix (by kernel_rfl) ?_)|(with_reducible first|refine aV (st:=[]) ?_|refine dO (by simp(disch:=omega)only[seval,go_sem,cI,hb',ag];rfl) ?_|refine ai (by simp(disch:=omega)only[seval,go_sem,cI,hb',ag];rfl) ?_))));all_goals(try(refine aP ((k+1,o++[b])) (by simp only[seval,go_sem,ag];first|((repeat'(with_reducible apply And.intro))<;>first|rfl|(simp[ag];done))) ?_ ?_<;>(try(omega))))
   all_goals(try(exact ⟨by simp only;omega,by simp only[bW,List.length_cons,List.length_nil];omega,by simp only[lR,List.cons_append,List.nil_append];exact hf⟩))
  ·rw[yX.2 h1,wo] at hf;cases h2:dW b.eo b.to p with
   | true=>
     rw[bC h2] at hf
     ((repeat'(first|simp only[seval,go_sem,ag,hb',h2]|(with_reducible refine br ?_;refine dX mix (by kernel_rfl) ?_)|(with_reducible refine gQ ?_)|((with_reducible refine nB ?_);refine fP.c (kR ?_) ?_)|(with_reducible first|refine aV (st:=[]) ?_|refine dO (by simp(disch:=omega)only[seval,go_sem,cI,ag,hb',h2];rfl) ?_|refine ai (by simp(disch:=omega)only[seval,go_sem,cI,ag,hb',h2];rfl) ?_)))<;>(try((with_reducible assumption))))
     all_goals(try(refine aP ((k+1,o++[b])) (by simp only[seval,go_sem,ag];first|((repeat'(with_reducible apply And.intro))<;>first|rfl|(simp[ag];done))) ?_ ?_<;>(try(omega))))
     all_goals(try(exact ⟨by simp only;omega,by simp only[bW,List.length_cons,List.length_nil];omega,by simp only[lR,List.cons_append,List.nil_append];exact hf⟩))
   | false=>
     rw[aE (by simp[h2])] at hf
     ((repeat'(first|simp only[seval,go_sem,ag,hb',h2]|(with_reducible refine br ?_;refine dX mix (by kernel_rfl) ?_)|(with_reducible refine gQ ?_)|((with_reducible refine nB ?_);refine fP.c (kR ?_) ?_)|(with_reducible first|refine aV (st:=[]) ?_|refine dO (by simp(disch:=omega)only[seval,go_sem,cI,ag,hb',h2];rfl) ?_|refine ai (by simp(disch:=omega)only[seval,go_sem,cI,ag,hb',h2];rfl) ?_)))<;>(try((with_reducible assumption))))
     all_goals(try(refine aP ((k+1,o)) (by simp only[seval,go_sem];first|((repeat'(with_reducible apply And.intro))<;>first|rfl)) ?_ ?_<;>(try(omega))))
     all_goals(try(exact ⟨by simp only;omega,by simp only;omega,hf⟩))
 ·rw[j9 (by omega),show ga p []=[] from rfl,yM] at hf;rw[<- hf]
  ((repeat'(first|simp only[seval,go_sem]|(with_reducible refine aB ?_;(refine aC.gu 39 (by simp only[seval,go_sem];rfl) (by simp only[seval,go_sem];rfl) ?_);(with_reducible refine aB ?_;refine aC.q rfl rfl (by simp only[seval,go_sem];rfl) (by decide) (by simp only[seval,go_sem];rfl) (by simp only[seval,go_sem];rfl) rfl ?_<;>(try simp only[seval,go_sem])<;>(repeat'(with_reducible apply And.intro))<;>(try rfl)))|(with_reducible first|refine aV (st:=[]) ?_|refine ai (by simp(disch:=omega)only[seval,go_sem,cI];rfl) ?_))))
def PB (a b:Bd):Prop:=ri a.name b.name=true\/(a.name=b.name/\a.to≠0/\a.to<=b.eo)
def NB (a b:Bd):Prop:= ¬ (a.obj=b.obj/\xN a b=true)
structure VB (l:List Bd):Prop where
 ok:∀ b∈l,jZ b=0
 pG:l.Pairwise PB
 dup:l.Pairwise NB
theorem Pc {x y:ByteArray}:lq x y=lq y x:=by
 rw[Bool.eq_iff_iff,lP,lP];exact ⟨Eq.symm,Eq.symm⟩
theorem HV {a b:Bd}:vY a b=false↔PB a b/\(a.name=b.name->a.eo<b.eo):=by
 constructor
 ·intro h;obtain ⟨h1,h2⟩:=HK h;simp only[pq,vP,jj,pQ] at h1;rcases h1 with h1|⟨h1,h3⟩
  ·refine ⟨.inl h1,fun e=>?_⟩;rw[e,iE] at h1;cases h1
  ·have e:=lP.1 h1;have:=h2 (by rw[Pc];exact h1);exact ⟨.inr ⟨e,this.1,this.2⟩,fun _=>h3⟩
 ·rintro ⟨h,hf⟩;unfold vY;rcases h with h|⟨e,h1,h2⟩
  ·have h3:ri b.name a.name=false:=tr h
   have h4:lq b.name a.name=false:=by
    rw[Bool.eq_false_iff];intro g;rw[lP] at g;rw[g,iE] at h;cases h
   rw[h3,h4];rfl
  ·have:=hf e;rw[e,iE,wo,Ii (by omega),yX.2 h1,Ii (by omega)];simp
theorem Mx {a b c:Bd} (hb:jZ b=0) (h:PB a b) (g:PB b c):PB a c:=by
 have:=(mZ hb).2.2.2.2;rcases h with h|⟨e,h1,h2⟩<;>rcases g with g|⟨e2,g1,g2⟩
 ·exact .inl (uT h g)
 ·rw[e2] at h;exact .inl h
 ·rw[<- e] at g;exact .inl g
 ·exact .inr ⟨e.trans e2,h1,by omega⟩
theorem RN {a b:Bd} (ha:jZ a=0) (h:PB a b) (e:a.name=b.name):a.eo<b.eo:=by
 have:=(mZ ha).2.2.2.2;rcases h with h|⟨_,h1,h2⟩
 ·rw[e,iE] at h;cases h
 ·omega
theorem sE:∀ (l:List Bd) (p:Option Bd),(∀ a,p=some a->jZ a=0)->(gT p l=0↔(∀ b∈l,jZ b=0)/\l.Pairwise PB/\∀ a,p=some a->∀ b∈l,PB a b)
 | [],p,_=>by simp[gT]
 | b::l,p,hp=>by
   rw[gT];by_cases h1:jZ b=0
   ·rw[aE (by simp[h1])];have ih:=sE l (some b) (fun a e=>by cases e;exact h1);by_cases h2:p.any (fun a=>vY a b)=true
    ·rw[bC h2];simp only[show ¬ ((19:Int)=0) by decide,false_iff];rintro ⟨_,_,h5⟩;cases p with
     | none=>simp at h2
     | some a=>
       have h6:=h5 a rfl b (RU ..);have:=HV.2 ⟨h6,RN (hp a rfl) h6⟩;simp[this] at h2
    ·rw[aE h2,ih]
     have h3:∀ a,p=some a->PB a b:=by
      intro a e;subst e;simp only[Option.any_some,Bool.not_eq_true] at h2;exact (HV.1 h2).1
     constructor
     ·rintro ⟨g1,g2,g3⟩;refine ⟨fun x hx=>?_,List.Pairwise.cons (g3 b rfl) g2,fun a e x hx=>?_⟩
      ·rcases lp.1 hx with rfl|hx
       ·exact h1
       ·exact g1 x hx
      ·rcases lp.1 hx with rfl|hx
       ·exact h3 a e
       ·exact Mx h1 (h3 a e) (g3 b rfl x hx)
     ·rintro ⟨g1,g2,g3⟩;have vu:=M9.1 g2;exact ⟨fun x hx=>g1 x (Ic _ hx),vu.2,fun a e x hx=>by cases e;exact vu.1 x hx⟩
   ·rw[bC h1];constructor
    ·intro h;exact absurd h h1
    ·rintro ⟨h,_⟩;exact absurd (h b (RU ..)) h1
theorem yK:∀ (m:List Bd) (l:List Bd) (i:Nat),l.drop i=m->(rX l m i=false↔∀ j b,i<=j->l[j]? = some b->∀ a∈l.take j,NB a b)
 | [],l,i,h=>by
   simp only[rX,true_iff];intro j b hj hb;have:=(jM.1 hb).1;have:=congrArg List.length h;simp at this;omega
 | b::m,l,i,h=>by
   have hi:l[i]? = some b:=by
    have:=congrArg (fun z=>z[0]?) h;simpa using this
   have hd:l.drop (i+1)=m:=by
    have:=aH hi;rw[h] at this;simpa using this.symm
   rw[rX,MF,yK m l (i+1) hd,List.any_eq_false];constructor
   ·rintro ⟨h1,h2⟩ j x hj hx a ha;by_cases e:j=i
    ·subst e;rw[hi] at hx;cases hx;intro g;exact h1 a ha (by simp[g.1,g.2])
    ·exact h2 j x (by omega) hx a ha
   ·intro h1;refine ⟨fun a ha g=>?_,fun j x hj hx a ha=>h1 j x (by omega) hx a ha⟩;simp only[jj,nX] at g;exact h1 i b (iU _) hi a ha g
theorem Bk {R:Bd->Bd->Prop} {l:List Bd}:(∀ j b,l[j]? = some b->∀ a∈l.take j,R a b)↔l.Pairwise R:=by
 rw[JR];constructor
 ·intro h i j hi hj hij;exact h j l[j] (rF hj) l[i] (List.mem_take_iff_getElem.2 ⟨i,by omega,rfl⟩)
 ·intro h j b hb a ha;obtain ⟨hj,e⟩:=jM.1 hb;obtain ⟨i,hi,e2⟩:=List.mem_take_iff_getElem.1 ha;subst e e2;exact h i j (by omega) hj (by omega)
theorem oU {l:List Bd}:dh l=0↔VB l:=by
 unfold dh;constructor
 ·intro h
  split at h
  ·rename_i h1;exact absurd h h1
  ·rename_i h1;have h1:gT none l=0:=by omega
   split at h
   ·cases h
   ·rename_i h2;obtain ⟨g1,g2,_⟩:=(sE l none (fun _ e=>by cases e)).1 h1;have h3:=(yK l l 0 rfl).1 (by simpa using h2);exact ⟨g1,g2,Bk.1 fun j b hb=>h3 j b (ek _) hb⟩
 ·rintro ⟨g1,g2,g3⟩;have h1:=(sE l none (fun _ e=>by cases e)).2 ⟨g1,g2,fun _ e=>by cases e⟩;have h2:=(yK l l 0 rfl).2 (fun j b _ hb=>Bk.2 g3 j b hb);rw[aE (by omega),aE (by simp[h2])]
theorem HW {a b:Bd} (h:xN a b=true):xN b a=true:=by
 unfold xN at h ⊢;rw[Bool.and_comm];exact h
theorem RP {a b:Bd} (h:NB a b):NB b a:=fun g=>h ⟨g.1.symm,HW g.2⟩
theorem yL (b:Bd):∀ (l:List Bd) (y:Bd),l[eY b l]? = some y->pq y b=false
 | [],y,h=>by simp at h
 | x::l,y,h=>by
   rw[eY] at h
   split at h
   ·rw[eg] at h;exact yL b l y h
   ·rename_i hx;rw[dJ,fD] at h;subst h;simpa using hx
theorem My {l:List Bd} {n:ByteArray} {o c:Int} (hv:VB l) (hn:bM n=true) (ho:1<=o) (hc:1<=c) (hl:∀ b∈l,b.eo<=c/\b.to<=c) (h1:∀ b∈l,b.name=n->b.to≠0) (h2:∀ b∈l,b.obj=o->b.to≠0):VB (lB ⟨n,o,c,0⟩ l):=by
 have Qo:=x9 (o:=o) hv.ok hl (fun b hb e=>h1 b hb (by rw[jK,jK] at e;exact Ck e));have hs:Qg l:=(qJ l none (nV (oU.2 hv))).1;have hk:=kM ⟨n,o,c,0⟩ l
 have htl:∀ x∈l.take (eY ⟨n,o,c,0⟩ l),pq x ⟨n,o,c,0⟩=true:=by
  generalize (⟨n,o,c,0⟩:Bd)=bb;clear Qo hs hk;clear hv hl h1 h2
  induction l with
  | nil=>intro x hx;simp at hx
  | cons y l ih=>
    intro x hx;rw[eY] at hx
    split at hx
    ·rename_i hy;rw[List.take_succ_cons] at hx;rcases lp.1 hx with rfl|hx
     ·exact hy
     ·exact ih x hx
    ·simp at hx
 have hdr:∀ x∈l.drop (eY ⟨n,o,c,0⟩ l),pq ⟨n,o,c,0⟩ x=true:=by
  intro x hx;have pP:=E8 hx;rcases Qo x pP with g|g
  · -- the first one behind the place is not less; all others are greater than it
    obtain ⟨j,hj,e⟩:=List.mem_drop_iff_getElem.1 hx;obtain ⟨y,hy⟩:=aZ (show eY ⟨n,o,c,0⟩ l<l.length by omega);have YI:pq y ⟨n,o,c,0⟩=false:=yL _ l y hy;have hx':l[eY ⟨n,o,c,0⟩ l+j]? = some x:=by rw[<- e];exact rF _
    by_cases h0:j=0
    ·subst h0;rw[Nat.add_zero,hy] at hx';cases hx';rw[YI] at g;cases g
    ·have:=uN (HI hs hy hx' (by omega)) g;rw[YI] at this;cases this
  ·exact g
 have hPt:∀ x∈l.take (eY ⟨n,o,c,0⟩ l),PB x ⟨n,o,c,0⟩:=by
  intro x hx;have pP:=zR hx;have:=htl x hx;simp only[pq,vP,jj,pQ] at this;rcases this with g|⟨g,_⟩
  ·exact .inl g
  ·have e:=lP.1 g;exact .inr ⟨e,h1 x pP e,(hl x pP).2⟩
 have hPd:∀ x∈l.drop (eY ⟨n,o,c,0⟩ l),PB ⟨n,o,c,0⟩ x:=by
  intro x hx;have pP:=E8 hx;have:=hdr x hx;simp only[pq,vP,jj,pQ] at this;rcases this with g|⟨_,g⟩
  ·exact .inl g
  ·have:=(hl x pP).1;omega
 have hN:∀ x∈l,NB x ⟨n,o,c,0⟩:=by
  rintro x hx ⟨e,g⟩;have h3:=h2 x hx e;have h4:=(hl x hx).2;simp only[xN,jj,vP,nX,pQ] at g;omega
 have key:∀ {R:Bd->Bd->Prop},l.Pairwise R->(∀ x∈l.take (eY ⟨n,o,c,0⟩ l),R x ⟨n,o,c,0⟩)->(∀ x∈l.drop (eY ⟨n,o,c,0⟩ l),R ⟨n,o,c,0⟩ x)->(lB ⟨n,o,c,0⟩ l).Pairwise R:=by
  intro R hp ht hd;have AE:=hp;rw[<- JS (eY ⟨n,o,c,0⟩ l) l,JF] at AE;rw[lB,lR,JF];refine ⟨AE.1,List.Pairwise.cons hd AE.2.1,fun x hx y hy=>?_⟩;rcases lp.1 hy with rfl|hy
  ·exact ht x hx
  ·exact AE.2.2 x hx y hy
 refine ⟨fun b hb=>?_,key hv.pG hPt hPd,key hv.dup (fun x hx=>hN x (zR hx)) (fun x hx=>RP (hN x (E8 hx)))⟩;rw[lB,lR,lS,lS,rG] at hb;rcases hb with hb|rfl|hb
 ·exact hv.ok b (zR hb)
 ·unfold jZ;rw[aE (by simp[hn]),aE (by simp only;omega),aE (by simp)]
 ·exact hv.ok b (E8 hb)
theorem Mz {l:List Bd} {i:Nat} {b:Bd} {c:Int} (hv:VB l) (hb:l[i]? = some b) (h0:b.to=0) (hc:b.eo<c):VB (l.set i ⟨b.name,b.obj,b.eo,c⟩):=by
 have rW:=fS hb;have hok:=mZ (hv.ok b rW)
 have key:∀ {R:Bd->Bd->Prop},l.Pairwise R->(∀ x,R x b->R x ⟨b.name,b.obj,b.eo,c⟩)->(∀ x,R b x->R ⟨b.name,b.obj,b.eo,c⟩ x)->(l.set i ⟨b.name,b.obj,b.eo,c⟩).Pairwise R:=by
  intro R hp h1 h2;rw[JR] at hp ⊢;intro j k hj hk hjk;simp only[GV] at hj hk;have h3:=hp j k hj hk hjk;obtain ⟨hi,e⟩:=jM.1 hb;simp only[List.getElem_set]
  split
  ·rename_i e1;subst e1;rw[aE (by omega)];exact h2 _ (e▸h3)
  ·split
   ·rename_i e2;subst e2;exact h1 _ (e▸h3)
   ·exact h3
 refine ⟨fun x hx=>?_,key hv.pG (fun x h=>h) (fun x h=>?_),key hv.dup (fun x h g=>?_) (fun x h g=>?_)⟩
 ·rcases iB hx with hx|rfl
  ·exact hv.ok x hx
  ·unfold jZ;rw[aE (by simp[hok.1]),aE (by simp only;omega),aE (by simp only;omega)]
 ·rcases h with h|⟨_,h,_⟩
  ·exact .inl h
  ·exact absurd h0 h
 ·refine h ⟨g.1,?_⟩;have:=g.2;simp only[xN,jj,vP,nX,pQ] at this ⊢;omega
 ·refine h ⟨g.1,?_⟩;have:=g.2;simp only[xN,jj,vP,nX,pQ] at this ⊢;omega
theorem GJ (c:Int) (l:List Bd):(jr c l).length<=l.length:=by
 have h1:=Lib.compact_length_le ((pz (fe c l)).map wk);rw[dD,qM] at h1;have h2:=GN c l;simp only[jr,pE,dD];omega
theorem Ew (p:List Pn) (l:List Bd):(ga p l).length<=l.length:=Vk _ _
structure MI (l:List Bd) (c o:Int):Prop where
 vb:VB l
 lt:∀ b∈l,b.eo<c/\b.to<c
 ob:∀ b∈l,b.obj<o
 c1:1<=c
 o1:1<=o
theorem lg {b:Bd} {l:List Bd} {x:Bd}:x∈lB b l↔x=b\/x∈l:=by
 rw[lB]
 conv=>rhs;rw[<- JS (eY b l) l]
 simp only[lS,rG];constructor
 ·rintro ((h|h)|h)<;>simp_all
 ·rintro (h|h|h)<;>simp_all
structure Sm (l x:List Bd) (c:Int):Prop where
 fw:∀ b∈l,∀ d,d<c->eX b.eo b.to d=true->∃ y∈x,y.name=b.name/\y.obj=b.obj/\eX y.eo y.to d=true
 bw:∀ y∈x,∀ d,d<c->eX y.eo y.to d=true->∃ b∈l,b.name=y.name/\b.obj=y.obj/\eX b.eo b.to d=true
theorem MA {l:List Bd} {n:ByteArray} {o c:Int}:Sm l (lB ⟨n,o,c,0⟩ l) c:=by
 refine ⟨fun b hb d hd h=>⟨b,lg.2 (.inr hb),rfl,rfl,h⟩,fun y hy d hd h=>?_⟩;rcases lg.1 hy with rfl|hy
 ·simp only[eX,jj,pQ] at h;omega
 ·exact ⟨y,hy,rfl,rfl,h⟩
theorem MC {l:List Bd} {i:Nat} {b:Bd} {c:Int} (hb:l[i]? = some b) (h0:b.to=0):Sm l (l.set i ⟨b.name,b.obj,b.eo,c⟩) c:=by
 have key:∀ d,d<c->eX b.eo c d=eX b.eo b.to d:=by
  intro d hd;unfold eX;rw[h0,GX hd,show ((0:Int)==0)=true from rfl,Cm,Bool.or_true]
 obtain ⟨hi,e⟩:=jM.1 hb;constructor
 ·intro a ha d hd h;obtain ⟨j,hj,rfl⟩:=RT.1 ha;by_cases hij:i=j
  ·subst hij;refine ⟨⟨b.name,b.obj,b.eo,c⟩,List.mem_set hi _,?_,?_,?_⟩
   ·rw[e]
   ·rw[e]
   ·rw[e] at h;rw[key d hd];exact h
  ·exact ⟨l[j],by rw[RT];exact ⟨j,by simpa using hj,by rw[List.getElem_set_ne hij]⟩,rfl,rfl,h⟩
 ·intro y hy d hd h;rcases iB hy with hy|rfl
  ·exact ⟨y,hy,rfl,rfl,h⟩
  ·exact ⟨b,fS hb,rfl,rfl,by rw[<- key d hd];exact h⟩
theorem Sm.trans {l x z:List Bd} {c:Int} (h:Sm l x c) (g:Sm x z c):Sm l z c:=by
 constructor
 ·intro b hb d hd h1;obtain ⟨y,hy,e1,e2,h2⟩:=h.fw b hb d hd h1;obtain ⟨w,hw,e3,e4,h3⟩:=g.fw y hy d hd h2;exact ⟨w,hw,e3.trans e1,e4.trans e2,h3⟩
 ·intro b hb d hd h1;obtain ⟨y,hy,e1,e2,h2⟩:=g.bw b hb d hd h1;obtain ⟨w,hw,e3,e4,h3⟩:=h.bw y hy d hd h2;exact ⟨w,hw,e3.trans e1,e4.trans e2,h3⟩
theorem OX {l:List Bd} {n:ByteArray} {o c o':Int} (h:MI l c o') (ho:1<=o) (h2:∀ b∈l,b.obj=o->b.to≠0) (he:(dw l n o c).2=0):
  VB (dw l n o c).1/\(∀ b∈(dw l n o c).1,b.eo<c+1/\b.to<c+1)/\(∀ b∈(dw l n o c).1,b.obj<o'\/b.obj=o)/\Sm l (dw l n o c).1 c:=by
 have hv:=oU.2 h.vb;unfold dw at he ⊢;rw[aE (by simp[hv])] at he ⊢;by_cases h3:bM n=false
 ·rw[bC h3] at he;cases he
 rw[aE h3] at he ⊢;by_cases h4:o<1\/c<1
 ·rw[bC h4] at he;cases he
 rw[aE h4] at he ⊢;by_cases h5:jm c l=true
 ·rw[bC h5] at he;cases he
 rw[aE h5] at he ⊢;by_cases h6:l.any (fun b=>b.to==0&&(lq b.name n||b.obj==o))=true
 ·rw[bC h6] at he;cases he
 rw[aE h6] at he ⊢;have h1:∀ b∈l,b.name=n->b.to≠0:=fun b hb e=>xZ (by simpa using h6) b hb (by rw[e]);simp only;refine ⟨My h.vb (by simpa using h3) ho (by omega) (fun b hb=>by have:=h.lt b hb;omega) h1 h2,fun b hb=>?_,fun b hb=>?_,MA⟩
 ·rcases lg.1 hb with rfl|hb
  ·simp only;omega
  ·have:=h.lt b hb;omega
 ·rcases lg.1 hb with rfl|hb
  ·exact .inr rfl
  ·exact .inl (h.ob b hb)
theorem Jm {l:List Bd} {n:ByteArray} {o c:Int} (he:(dw l n o c).2≠0):(dw l n o c).1=[]:=by
 unfold dw at he ⊢
 repeat'(split at he<;>rename_i hq<;>first|rw[bC hq]|rw[aE hq])
 exact absurd rfl he
theorem Et {l:List Bd} {n:ByteArray} {c:Int} (he:(bI l n c).2≠0):(bI l n c).1=[]:=by
 unfold bI at he ⊢
 repeat'(split at he<;>rename_i hq<;>first|rw[bC hq]|rw[aE hq])
 exact absurd rfl he
theorem Eu {l:List Bd} {n m:ByteArray} {c:Int} (he:(bH l n m c).2≠0):(bH l n m c).1=[]:=by
 unfold bH at he ⊢
 repeat'(split at he<;>rename_i hq<;>first|rw[bC hq]|rw[aE hq])
 exact absurd rfl he
theorem Jo {l:List Bd} {n:ByteArray} {c o:Int} (h:MI l c o) (he:(bI l n c).2=0):
  VB (bI l n c).1/\(∀ b∈(bI l n c).1,b.eo<c+1/\b.to<c+1)/\(∀ b∈(bI l n c).1,b.obj<o)/\Sm l (bI l n c).1 c:=by
 have hv:=oU.2 h.vb;unfold bI at he ⊢;rw[aE (by simp[hv])] at he ⊢;by_cases h3:bM n=false
 ·rw[bC h3] at he;cases he
 rw[aE h3] at he ⊢;by_cases h4:c<1
 ·rw[bC h4] at he;cases he
 rw[aE h4] at he ⊢;by_cases h5:jm c l=true
 ·rw[bC h5] at he;cases he
 rw[aE h5] at he ⊢;by_cases h6:ew n l<0
 ·rw[bC h6] at he;cases he
 rw[aE h6] at he ⊢;obtain ⟨b,hb,hp⟩:=k9 h6;have hbd:=fR hb;by_cases h7:c<=(zl l (ew n l)).eo
 ·rw[bC h7] at he;cases he
 rw[aE h7];rw[hbd] at h7;simp only[gP,jj,nX] at hp;have rW:=fS hb;simp only[vZ,hbd];refine ⟨Mz h.vb hb hp.2 (by omega),fun x hx=>?_,fun x hx=>?_,MC hb hp.2⟩
 ·rcases iB hx with hx|rfl
  ·have:=h.lt x hx;omega
  ·have:=h.lt b rW;simp only;omega
 ·rcases iB hx with hx|rfl
  ·exact h.ob x hx
  ·exact h.ob b rW
theorem Jp {l:List Bd} {n m:ByteArray} {c o:Int} (h:MI l c o) (he:(bH l n m c).2=0):
  VB (bH l n m c).1/\(∀ b∈(bH l n m c).1,b.eo<c+1/\b.to<c+1)/\(∀ b∈(bH l n m c).1,b.obj<o)/\Sm l (bH l n m c).1 c:=by
 have hv:=oU.2 h.vb;unfold bH at he ⊢;rw[aE (by simp[hv])] at he ⊢;by_cases h3:bM n=false\/bM m=false
 ·rw[bC h3] at he;cases he
 rw[aE h3] at he ⊢;by_cases h4:c<1
 ·rw[bC h4] at he;cases he
 rw[aE h4] at he ⊢;by_cases h5:jm c l=true
 ·rw[bC h5] at he;cases he
 rw[aE h5] at he ⊢;by_cases h6:ew n l<0
 ·rw[bC h6] at he;cases he
 rw[aE h6] at he ⊢;obtain ⟨b,hb,hp⟩:=k9 h6;have hbd:=fR hb;by_cases h8:0<=ew m l
 ·rw[bC h8] at he;cases he
 rw[aE h8] at he ⊢;by_cases h7:c<=(zl l (ew n l)).eo
 ·rw[bC h7] at he;cases he
 rw[aE h7];rw[hbd] at h7;simp only[gP,jj,nX] at hp;have rW:=fS hb;simp only[vZ,hbd];have GR:=Mz h.vb hb hp.2 (show b.eo<c by omega);have hok:=mZ (h.vb.ok b rW)
 have hlt:∀ x∈l.set (ew n l).toNat ⟨b.name,b.obj,b.eo,c⟩,x.eo<=c/\x.to<=c:=by
  intro x hx;rcases iB hx with hx|rfl
  ·have:=h.lt x hx;omega
  ·have:=h.lt b rW;simp only;omega
 have hnm:∀ x∈l.set (ew n l).toNat ⟨b.name,b.obj,b.eo,c⟩,x.name=m->x.to≠0:=by
  intro x hx e;rcases iB hx with hx|rfl
  ·exact AQ h8 x hx (by rw[e])
  ·simp only;omega
 have Cn:∀ x∈l.set (ew n l).toNat ⟨b.name,b.obj,b.eo,c⟩,x.obj=b.obj->x.to≠0:=by
  intro x hx e h0;obtain ⟨j,hj,rfl⟩:=RT.1 hx;obtain ⟨hi,e1⟩:=jM.1 hb;by_cases hij:(ew n l).toNat=j
  ·subst hij;simp only[List.getElem_set_self] at h0;omega
  ·rw[List.getElem_set_ne hij] at e h0;simp only[GV] at hj;have hd:=JR.1 h.vb.dup
   have EO:xN l[j] b=true:=by
    unfold xN;rw[h0,hp.2];rfl
   rcases Pt (ew n l).toNat j with g|g
   ·exact hd _ j hi hj g ⟨by rw[e1];exact e.symm,by rw[e1];exact HW EO⟩
   ·exact hd j _ hj hi (by omega) ⟨by rw[e1];exact e,by rw[e1];exact EO⟩
 refine ⟨My GR (by cases hh:bM m<;>simp_all) hok.2.1 (by omega) hlt hnm Cn,fun x hx=>?_,fun x hx=>?_,(MC hb hp.2).trans MA⟩
 ·rcases lg.1 hx with rfl|hx
  ·simp only;omega
  ·have:=hlt x hx;omega
 ·rcases lg.1 hx with rfl|hx
  ·exact h.ob b rW
  ·rcases iB hx with hx|rfl
   ·exact h.ob x hx
   ·exact h.ob b rW
theorem Mh {l:List Bd} {p:List Pn} (h:VB l):VB (ga p l):=
 ⟨fun b hb=>h.ok b (List.mem_filter.1 hb).1,h.pG.sublist List.filter_sublist,h.dup.sublist List.filter_sublist⟩
end Go.Proofs.YteemiclhnfkekaaGreat
