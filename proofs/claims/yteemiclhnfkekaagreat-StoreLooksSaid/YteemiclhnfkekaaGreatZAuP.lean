/- Audit: the data of a dump; what the checks of the program and of the reference compute (plain). -/
import Derived.Test.YteemiclhnfkekaaGreatZDiC
set_option linter.unusedSimpArgs false
set_option linter.unusedVariables false
namespace Go.Proofs.YteemiclhnfkekaaGreat
open Go.RowKit Go.fe Tryz
structure Cf where
 tT:Int
 qq:Int
 nu:Int
 fD:Int
 kf:Int
 com:Int
 tU:Int
 deriving DecidableEq
def Ss (c:Cf):List D:=[.sc (.int .i64 c.tT), .sc (.int .i64 c.qq), .sc (.int .i64 c.nu), .sc (.int .i64 c.fD), .sc (.int .i64 c.kf), .sc (.int .i64 c.com), .sc (.int .i64 c.tU)]
structure Pg where
 num:Int
 refs:Int
 data:List Int
 deriving DecidableEq
def cF (z:Int):List D:=[.sc (.int .u8 z)]
def bt (p:Pg):List D:=[.sc (.int .i64 p.num), .sc (.int .i64 p.refs), .sl 1 (p.data.map cF)]
structure Ob where
 id:Int
 bu:List fE
 deriving DecidableEq
def aK (o:Ob):List D:=[.sc (.int .i64 o.id), .sl 4 (o.bu.map aL)]
structure Dm where
 commit:Int
 objs:List Ob
 binds:List Bd
 pins:List Pn
 pages:List Pg
def Pc (d:Dm):List D:=[.sc (.int .i64 d.commit), .sl 2 (d.objs.map aK), .sl 4 (d.binds.map ag), .sl 2 (d.pins.map aW), .sl 3 (d.pages.map bt)]
def mO (n lo hi:Int):Bool:=decide (lo<=n)&&decide (n<=hi)
def qN (c:Cf):Bool:=mO c.tT 1 64&&mO c.qq 1 64&&mO c.nu 1 16384&&mO c.fD 8 1024&&mO c.kf 1 1024&&mO c.com 1 1048576&&mO c.tU 1 64
def yY (n sz:Int):Int:=if n%sz>0 then n/sz+1 else n/sz
def Pd (c:Cf) (com:Int) (l:List Pn):Int:=if dK none l≠0 then dK none l else if l.any (fun p=>decide (com<p.commit))=true then 5 else if c.kf<iJ l 0 then 14 else 0
def JP:List Bd->Int
 | []=>0
 | b::l=>if b.to=0 then JP l+1 else JP l
def JQ (c:Cf) (com:Int) (l:List Bd):Int:=if dg l≠0 then dg l else if jj com l=true then 5 else if c.qq<JP l then 14 else 0
def Sv (com:Int) (l:List fE):Bool:=l.any fun v=>decide (com<v.from_)||decide (com<v.to)
def VJ (fD:Int) (l:List fE):Bool:=l.all fun v=>yY v.size fD==(v.pages.length:Int)
def Ya (fD com:Int) (prev:Option Int) (o:Ob):Int:=
 if o.id<1 then 5 else if prev.any (fun p=>decide (o.id<=p))=true then 19 else if (o.bu.length:Int)=0 then 18 else if er none o.bu≠0 then er none o.bu else
 if Sv com o.bu=true then 5 else if VJ fD o.bu=false then 18 else 0
def JR (fD com:Int):Option Int->List Ob->Int
 | _,[]=>0
 | prev,o::l=>if Ya fD com prev o≠0 then Ya fD com prev o else JR fD com (some o.id) l
def Yb (fD:Int) (prev:Option Int) (p:Pg):Int:=if p.num<1 then 5 else if prev.any (fun q=>decide (p.num<=q))=true then 19 else if fD<(p.data.length:Int) then 18 else 0
def Qo (fD:Int):Option Int->List Pg->Int
 | _,[]=>0
 | prev,p::l=>if Yb fD prev p≠0 then Yb fD prev p else Qo fD (some p.num) l
def JS (c:Cf) (l:List Pg):Int:=if Qo c.fD none l≠0 then Qo c.fD none l else if c.nu<(l.length:Int) then 14 else 0
def eO (n:Int):List Pg->Nat->Int
 | [],_=> -1
 | p::l,k=>if p.num=n then (k:Int) else eO n l (k+1)
def Sw (ps:List Pg) (n:Int):Option Int:=if eO n ps 0<0 then none else some ((((ps[(eO n ps 0).toNat]?).map (·.data)).getD []).length:Int)
def wr (n:Int):Int:=IntKind.i64.wrap n
def Qp (ps:List Pg) (size:Int):List Int->Int->Int
 | [],s=>if s≠size then 18 else 0
 | n::l,s=>match Sw ps n with
   | none=>8
   | some k=>Qp ps size l (wr (s+k))
def JT (ps:List Pg):List fE->Int
 | []=>0
 | v::l=>if Qp ps v.size v.pages 0≠0 then Qp ps v.size v.pages 0 else JT ps l
def JU (ps:List Pg):List Ob->Int
 | []=>0
 | o::l=>if JT ps o.bu≠0 then JT ps o.bu else JU ps l
def M3 (n:Int):List Int->Int->Int
 | [],s=>s
 | x::l,s=>if x=n then M3 n l (wr (s+1)) else M3 n l s
def ia (l:List fE):List Int:=l.flatMap (·.pages)
def gp (l:List Ob):List Int:=l.flatMap fun o=>ia o.bu
def Qq (d:Dm):Bool:=d.pages.all fun p=>p.refs==M3 p.num (gp d.objs) 0
def M4 (o:Ob):Bool:=((o.bu[o.bu.length-1]?).map (·.to)).getD 0==0
def JV (id:Int):List Bd->Int
 | []=>0
 | b::l=>if b.obj=id/\b.to=0 then JV id l+1 else JV id l
def cU (id:Int):List Ob->Nat->Int
 | [],_=> -1
 | o::l,k=>if o.id=id then (k:Int) else cU id l (k+1)
def Qr (id:Int) (l:List Ob):List fE:=if cU id l 0<0 then [] else ((l[(cU id l 0).toNat]?).map (·.bu)).getD []
def GR (d:Dm):Bool:=d.objs.all fun o=> !M4 o||JV o.id d.binds==1
def M5 (d:Dm):Bool:=d.binds.all fun b=> !(b.to==0)||(!decide (cU b.obj d.objs 0<0)&&((d.objs[(cU b.obj d.objs 0).toNat]?).map M4).getD false)
def Pe (d:Dm) (b:Bd):Bool:=d.pins.all fun p=> !eW b.eo b.to p.commit||(ga p.commit (Qr b.obj d.objs) 0).2
def Qs (d:Dm):Bool:=d.binds.all (Pe d)
def VK (c:Cf) (d:Dm):Int:=
 if qN c=false then 5 else if mO d.commit 0 c.com=false then 5 else if Pd c d.commit d.pins≠0 then Pd c d.commit d.pins else if JQ c d.commit d.binds≠0 then JQ c d.commit d.binds else
 if JR c.fD d.commit none d.objs≠0 then JR c.fD d.commit none d.objs else if JS c d.pages≠0 then JS c d.pages else if JU d.pages d.objs≠0 then JU d.pages d.objs else
 if (Qq d&&GR d&&M5 d&&Qs d)=true then 0 else 20
def YK (l:List (Int×Int)):List (Value×D):=l.map fun x=>(.int .i64 x.1, .sc (.int .i64 x.2))
def Pf (n:Int):List (Int×Int)->Option Int
 | []=>none
 | x::l=>if x.1=n then some x.2 else Pf n l
def E2 (n v:Int):List (Int×Int)->List (Int×Int)
 | []=>[(n,v)]
 | x::l=>if x.1=n then (n,v)::l else x::E2 n v l
def Sy (n:Int):List (Int×Int)->List (Int×Int)
 | []=>[]
 | x::l=>if x.1=n then l else x::Sy n l
def Sz (n:Int) (l:List (Int×Int)):Int:=(Pf n l).getD 0
def bump (l:List (Int×Int)) (n:Int):List (Int×Int):=E2 n (wr (Sz n l+1)) l
def vL (l:List Int):Prop:=l.Pairwise (· < ·)
theorem pS {l:List Int} (h:vL l) {i j:Nat} {x y:Int} (hx:l[i]? = some x) (hy:l[j]? = some y) (hij:i<j):x<y:=by
 obtain ⟨h1,rfl⟩:=jL.1 hx;obtain ⟨h2,rfl⟩:=jL.1 hy;exact JW.1 h i j h1 h2 hij
def szM (ps:List Pg):List (Int×Int):=ps.map fun p=>(p.num,(p.data.length:Int))
theorem gb (n:Int):∀ (l:List Pg) (k:Nat),(eO n l k = -1/\∀ p∈l,p.num≠n)\/∃ j p,l[j]? = some p/\p.num=n/\eO n l k=((k+j:Nat):Int)/\∀ i q,i<j->l[i]? = some q->q.num≠n
 | [],k=> .inl ⟨rfl,by simp⟩
 | p::l,k=>by
   unfold eO;by_cases h:p.num=n
   ·exact .inr ⟨0,p,rfl,h,by rw[bC h];simp,by omega⟩
   ·rw[aE h];rcases gb n l (k+1) with ⟨h1,pG⟩|⟨j,u,h1,h2,h3,h4⟩
    ·exact .inl ⟨h1,fun q hq=>by rcases lp.1 hq with rfl|hq;exact h;exact pG q hq⟩
    ·refine .inr ⟨j+1,u,by simpa using h1,h2,by rw[h3];congr 1;omega,fun i q hi hq=>?_⟩;cases i with
     | zero=>simp only[dJ,fF] at hq;subst hq;exact h
     | succ i=>exact h4 i q (by omega) (by simpa using hq)
def YL (left:Int):List Pn->Bool
 | []=>false
 | p::l=>decide (left<p.count)||YL (left-p.count) l
def SA:List Ob->List (Int×Int)->Bool
 | [],l=>decide ((l.length:Int)=0)
 | o::os,l=>if M4 o=true then (if Sz o.id l=1 then SA os (Sy o.id l) else false) else SA os l
def opens (l:List Bd):List Int:=(l.filter fun b=>b.to==0).map (·.obj)
def KN (l:List (Int×Int)):Prop:=(l.map (·.1)).Nodup
theorem zM (n v:Int):∀ l,((E2 n v l).map (·.1))=if n∈l.map (·.1) then l.map (·.1) else l.map (·.1)++[n]
 | []=>by simp[E2]
 | x::l=>by
   have ih:=zM n v l;by_cases h:x.1=n
   ·rw[E2,bC h];simp[h]
   ·rw[E2,aE h,fk,ih];by_cases h2:n∈l.map (·.1)
    ·rw[bC h2,bC (by simp only[fk,lp];exact .inr h2)];rfl
    ·rw[aE h2,aE (by simp only[fk,lp,vM];exact ⟨sF h,h2⟩)];rfl
theorem KN.set {n v:Int} {l:List (Int×Int)} (h:KN l):KN (E2 n v l):=by
 unfold KN;rw[zM]
 split
 ·exact h
 ·rename_i hn;rw[List.nodup_append];exact ⟨h,by simp,fun a ha b hb=>by rw[rG] at hb;subst hb;exact fun e=>hn (e▸ha)⟩
theorem jA (n:Int):∀ (l:List Ob) (k:Nat),(cU n l k = -1/\∀ p∈l,p.id≠n)\/∃ j p,l[j]? = some p/\p.id=n/\cU n l k=((k+j:Nat):Int)/\∀ i q,i<j->l[i]? = some q->q.id≠n
 | [],k=> .inl ⟨rfl,by simp⟩
 | p::l,k=>by
   unfold cU;by_cases h:p.id=n
   ·exact .inr ⟨0,p,rfl,h,by rw[bC h];simp,by omega⟩
   ·rw[aE h];rcases jA n l (k+1) with ⟨h1,pG⟩|⟨j,u,h1,h2,h3,h4⟩
    ·exact .inl ⟨h1,fun q hq=>by rcases lp.1 hq with rfl|hq;exact h;exact pG q hq⟩
    ·refine .inr ⟨j+1,u,by simpa using h1,h2,by rw[h3];congr 1;omega,fun i q hi hq=>?_⟩;cases i with
     | zero=>simp only[dJ,fF] at hq;subst hq;exact h
     | succ i=>exact h4 i q (by omega) (by simpa using hq)
theorem M6 {l:List Ob} (h:vL (l.map (·.id))) {i j:Nat} {x y:Ob} (hx:l[i]? = some x) (hy:l[j]? = some y) (e:x.id=y.id):i=j:=by
 rcases SB i j with hlt|rfl|hlt
 ·have:=pS h (x:=x.id) (y:=y.id) (by rw[wH,hx];rfl) (by rw[wH,hy];rfl) hlt;omega
 ·rfl
 ·have:=pS h (x:=y.id) (y:=x.id) (by rw[wH,hy];rfl) (by rw[wH,hx];rfl) hlt;omega
def obM (os:List Ob):List (Value×D):=os.map fun o=>(.int .i64 o.id, .sl 4 (o.bu.map aL))
def gx (p:Nat->Bool):Nat->Nat
 | 0=>0
 | k+1=>if p k=true then gx p k else k+1
theorem qs (p:Nat->Bool):∀ n,gx p n<=n
 | 0=>iU _
 | k+1=>by
   have:=qs p k;unfold gx;split<;>omega
def fG {α:Type} (l:List α) (j:Nat) (x:α):List α:=l.take j++[x]++l.drop j
theorem qt {α:Type} {l:List α} {j:Nat} {x:α} (h:j<=l.length):(fG l j x).length=l.length+1:=by
 simp only[fG,bW,cw,bQ,List.length_cons,List.length_nil];omega
theorem Ct {α:Type} {l:List α} {j:Nat} {x:α} (h:j<=l.length):(fG l j x)[j]? = some x:=by
 have hl:(l.take j).length=j:=by rw[cw];omega
 rw[fG,lS,EI (by omega),hl];simp
theorem zN {α:Type} {l:List α} {j:Nat} {x:α} (h:j+1<=l.length):(fG l (j+1) x)[j]? = l[j]? :=by
 have hl:(l.take (j+1)).length=j+1:=by rw[cw];omega
 rw[fG,lS,Ck (by omega),EJ (by omega)]
theorem tX {α:Type} {l:List α} {x:α}:fG l l.length x=l++[x]:=by simp[fG]
theorem wI {α:Type} {l:List α} {j:Nat} {x y:α} (hy:l[j]? = some y):((fG l (j+1) x).set (j+1) y).set j x=fG l j x:=by
 have h:=(jL.1 hy).1;have hl:(l.take j).length=j:=by rw[cw];omega
 have e:fG l (j+1) x=l.take j++(y::x::l.drop (j+1)):=by rw[fG,Cu hy];simp
 rw[e,Ph _ _ (by omega),Ph _ _ (by omega),hl,SC,JC];rw[fG,aH hy];simp
theorem rH {α:Type} (l:List α) (j:Nat) (x:α):(fG l j x).Perm (x::l):=by
 unfold fG;have h1:(l.take j++[x]++l.drop j).Perm ([x]++l.take j++l.drop j):=List.Perm.append_right _ SF;refine h1.trans ?_;rw[lS,JX];exact List.Perm.refl _
structure Vn where
 id:Int
 v:fE
 deriving DecidableEq
def dU (x:Vn):List D:=[.sc (.int .i64 x.id), .sc (.int .i64 x.v.from_), .sc (.int .i64 x.v.to), .sc (.int .i64 x.v.size), .sl 1 (x.v.pages.map cN)]
def uX (l:List Vn) (i:Nat):Vn:=(l[i]?).getD ⟨0,⟨0,0,0,[]⟩⟩
def HX (a b c d:Int):Bool:=decide (a<c)||(decide (a=c)&&decide (b<d))
def yZ (x y:Vn):Bool:=HX x.id x.v.from_ y.id y.v.from_
def E3 (x:Vn) (l:List Vn):List Vn:=fG l (gx (fun k=>yZ x (uX l k)) l.length) x
def qT (id:Int):List fE->List Vn->List Vn
 | [],a=>a
 | v::l,a=>qT id l (E3 ⟨id,v⟩ a)
def iV:List Ob->List Vn->List Vn
 | [],a=>a
 | o::l,a=>iV l (qT o.id o.bu a)
theorem JY (x:Vn) (l:List Vn):(E3 x l).length=l.length+1:=qt (qs _ _)
def jk (o:Ob):List Vn:=o.bu.map fun v=>⟨o.id,v⟩
def JZ (l:List Vn):List Int:=l.flatMap fun x=>x.v.pages
theorem J0 (l:List Ob):JZ (l.flatMap jk)=gp l:=by
 unfold JZ gp;rw[List.flatMap_assoc]
 congr 1
 funext o
 simp[jk,ia,List.flatMap_map]
def YM (d:Dm):Bool:=(d.pages.all fun p=>M3 p.num (JZ (iV d.objs [])) 0==p.refs)&&GR d&&d.binds.all fun b=>(!(b.to==0)||(!decide (cU b.obj d.objs 0<0)&&((d.objs[(cU b.obj d.objs 0).toNat]?).map M4).getD false))&&Pe d b
set_option maxRecDepth 100000
set_option maxHeartbeats 6400000
theorem nB {P:Program} {ops:Array Oper} {K:St->Prop} {pl:Pl} {fuel:Nat} {listed:Array Bool} {σ σ':St} (o:Nat) {k:Nat} {rows:List (List D)} (hg:az σ.heap o = .row k rows) (he:σ.gu o k rows=σ') (hn:aJ P ops K pl fuel listed σ'):aJ P ops K pl fuel listed σ:=by
 subst he;unfold aJ at hn ⊢;exact fun hk=>fA.imp (cZ.freeze σ o k rows hg) (hn hk)
def sJ (n:Int):Cf:=⟨2+n%2,2+n/2%2,if n/4%4=0 then 60 else if n/4%4=1 then 12 else if n/4%4=2 then 6 else 30,if n/16%4=0 then 8 else if n/16%4=1 then 16 else if n/16%4=2 then 40 else 200,if n/64%4=0 then 8 else if n/64%4=1 then 3 else if n/64%4=2 then 2 else 5,if n/256%4=0 then 100 else if n/256%4=1 then 6 else if n/256%4=2 then 30 else 12,1+n/1024%4⟩
theorem GU (m a b c d:Int):([[i6 a],[i6 b],[i6 c],[i6 d]]:List (List D))[(m%4).toNat]? = some [i6 (if m%4=0 then a else if m%4=1 then b else if m%4=2 then c else d)]:=by
 have:m%4=0\/m%4=1\/m%4=2\/m%4=3:=by omega
 rcases this with h|h|h|h<;>rw[h]<;>rfl
theorem E4 {n:Int} (h0:0<=n) (h1:n<=1000000):ak prog 39 [i6 n] (.agg (Ss (sJ n))) []:=by
 have p1:=GU (n/4) 60 12 6 30;have p2:=GU (n/16) 8 16 40 200;have p3:=GU (n/64) 8 3 2 5;have p4:=GU (n/256) 100 6 30 12;simp only[sJ,Ss];generalize (if n/4%4=0 then (60:Int) else if n/4%4=1 then 12 else if n/4%4=2 then 6 else 30)=a1 at *;generalize (if n/16%4=0 then (8:Int) else if n/16%4=1 then 16 else if n/16%4=2 then 40 else 200)=a2 at *;generalize (if n/64%4=0 then (8:Int) else if n/64%4=1 then 3 else if n/64%4=2 then 2 else 5)=a3 at *;generalize (if n/256%4=0 then (100:Int) else if n/256%4=1 then 6 else if n/256%4=2 then 30 else 12)=a4 at *;refine bR [] [2,10,16,22,28] [.cell 2 25] func39 (by kernel_rfl) ntmps39 rfl rfl rfl ⟨rfl,rfl⟩ (by simp(disch:=omega)only[seval,go_sem,cI,List.replicate,l_2,l_1];rfl) ?_
 ((repeat'(first|(with_reducible refine aY 1 ?_;refine ay.bU 1 mix 37 rfl (.f 0 <| .f 1 <| .f 2 <| .f 3 <| .f 4 <| .f 5 <| .f 6 <| .f 8 <| .f 9 <| .f 10 <| .f 14 <| .f 15 <| .f 16 <| .f 20 <| .f 21 <| .f 22 <| .f 26 <| .f 27 <| .f 28 <| .f 31 <| .f 32 <| .f 33 <| .f 34 <| .a <| .b 7 (.f 11 <| .r 12 <| .a <| .b 13 (.f 17 <| .r 18 <| .a <| .b 19 (.f 23 <| .r 24 <| .a <| .b 25 (.f 29 <| .r 30 <| .a <| .b 35 (.a <| .b 36 (.d) .e) .e) .e) <| .b 25 (.f 29 <| .r 30 <| .a <| .b 19 (.f 23 <| .r 24 <| .a <| .b 35 (.a <| .b 36 (.d) .e) .e) .e) .e) <| .b 19 (.f 23 <| .r 24 <| .a <| .b 13 (.f 17 <| .r 18 <| .a <| .b 25 (.f 29 <| .r 30 <| .a <| .b 35 (.a <| .b 36 (.d) .e) .e) .e) <| .b 25 (.f 29 <| .r 30 <| .a <| .b 13 (.f 17 <| .r 18 <| .a <| .b 35 (.a <| .b 36 (.d) .e) .e) .e) .e) <| .b 25 (.f 29 <| .r 30 <| .a <| .b 13 (.f 17 <| .r 18 <| .a <| .b 19 (.f 23 <| .r 24 <| .a <| .b 35 (.a <| .b 36 (.d) .e) .e) .e) <| .b 19 (.f 23 <| .r 24 <| .a <| .b 13 (.f 17 <| .r 18 <| .a <| .b 35 (.a <| .b 36 (.d) .e) .e) .e) .e) .e) <| .b 13 (.f 17 <| .r 18 <| .a <| .b 7 (.f 11 <| .r 12 <| .a <| .b 19 (.f 23 <| .r 24 <| .a <| .b 25 (.f 29 <| .r 30 <| .a <| .b 35 (.a <| .b 36 (.d) .e) .e) .e) <| .b 25 (.f 29 <| .r 30 <| .a <| .b 19 (.f 23 <| .r 24 <| .a <| .b 35 (.a <| .b 36 (.d) .e) .e) .e) .e) <| .b 19 (.f 23 <| .r 24 <| .a <| .b 7 (.f 11 <| .r 12 <| .a <| .b 25 (.f 29 <| .r 30 <| .a <| .b 35 (.a <| .b 36 (.d) .e) .e) .e) <| .b 25 (.f 29 <| .r 30 <| .a <| .b 7 (.f 11 <| .r 12 <| .a <| .b 35 (.a <| .b 36 (.d) .e) .e) .e) .e) <| .b 25 (.f 29 <| .r 30 <| .a <| .b 7 (.f 11 <| .r 12 <| .a <| .b 19 (.f 23 <| .r 24 <| .a <| .b 35 (.a <| .b 36 (.d) .e) .e) .e) <| .b 19 (.f 23 <| .r 24 <| .a <| .b 7 (.f 11 <| .r 12 <| .a <| .b 35 (.a <| .b 36 (.d) .e) .e) .e) .e) .e) <| .b 19 (.f 23 <| .r 24 <| .a <| .b 7 (.f 11 <| .r 12 <| .a <| .b 13 (.f 17 <| .r 18 <| .a <| .b 25 (.f 29 <| .r 30 <| .a <| .b 35 (.a <| .b 36 (.d) .e) .e) .e) <| .b 25 (.f 29 <| .r 30 <| .a <| .b 13 (.f 17 <| .r 18 <| .a <| .b 35 (.a <| .b 36 (.d) .e) .e) .e) .e) <| .b 13 (.f 17 <| .r 18 <| .a <| .b 7 (.f 11 <| .r 12 <| .a <| .b 25 (.f 29 <| .r 30 <| .a <| .b 35 (.a <| .b 36 (.d) .e) .e) .e) <| .b 25 (.f 29 <| .r 30 <| .a <| .b 7 (.f 11 <| .r 12 <| .a <| .b 35 (.a <| .b 36 (.d) .e) .e) .e) .e) <| .b 25 (.f 29 <| .r 30 <| .a <| .b 7 (.f 11 <| .r 12 <| .a <| .b 13 (.f 17 <| .r 18 <| .a <| .b 35 (.a <| .b 36 (.d) .e) .e) .e) <| .b 13 (.f 17 <| .r 18 <| .a <| .b 7 (.f 11 <| .r 12 <| .a <| .b 35 (.a <| .b 36 (.d) .e) .e) .e) .e) .e) <| .b 25 (.f 29 <| .r 30 <| .a <| .b 7 (.f 11 <| .r 12 <| .a <| .b 13 (.f 17 <| .r 18 <| .a <| .b 19 (.f 23 <| .r 24 <| .a <| .b 35 (.a <| .b 36 (.d) .e) .e) .e) <| .b 19 (.f 23 <| .r 24 <| .a <| .b 13 (.f 17 <| .r 18 <| .a <| .b 35 (.a <| .b 36 (.d) .e) .e) .e) .e) <| .b 13 (.f 17 <| .r 18 <| .a <| .b 7 (.f 11 <| .r 12 <| .a <| .b 19 (.f 23 <| .r 24 <| .a <| .b 35 (.a <| .b 36 (.d) .e) .e) .e) <| .b 19 (.f 23 <| .r 24 <| .a <| .b 7 (.f 11 <| .r 12 <| .a <| .b 35 (.a <| .b 36 (.d) .e) .e) .e) .e) <| .b 19 (.f 23 <| .r 24 <| .a <| .b 7 (.f 11 <| .r 12 <| .a <| .b 13 (.f 17 <| .r 18 <| .a <| .b 35 (.a <| .b 36 (.d) .e) .e) .e) <| .b 13 (.f 17 <| .r 18 <| .a <| .b 7 (.f 11 <| .r 12 <| .a <| .b 35 (.a <| .b 36 (.d) .e) .e) .e) .e) .e) .e) (by kernel_rfl) ?_)|(with_reducible refine cA ?_;first|refine nB 10 (by simp only[seval,go_sem,p1,p2,p3,p4];with_reducible rfl) (by simp only[seval,go_sem,p1,p2,p3,p4];with_reducible rfl) ?_|refine nB 16 (by simp only[seval,go_sem,p1,p2,p3,p4];with_reducible rfl) (by simp only[seval,go_sem,p1,p2,p3,p4];with_reducible rfl) ?_|refine nB 22 (by simp only[seval,go_sem,p1,p2,p3,p4];with_reducible rfl) (by simp only[seval,go_sem,p1,p2,p3,p4];with_reducible rfl) ?_|refine nB 28 (by simp only[seval,go_sem,p1,p2,p3,p4];with_reducible rfl) (by simp only[seval,go_sem,p1,p2,p3,p4];with_reducible rfl) ?_|refine aJ.D ?_|refine aJ.F (by simp only[seval,go_sem,eg,dJ];rfl) (by first|(simp only[seval,go_sem,p1,p2,p3,p4])) (by first|(simp only[seval,go_sem,p1,p2,p3,p4];with_reducible rfl)|(simp(disch:=omega)only[seval,go_sem,cI,p1,p2,p3,p4];with_reducible rfl)) ?_|refine aJ.R (by simp only[seval,go_sem,eg,dJ];rfl) (by first|(refine .inl ?_;simp only[seval,go_sem,p1,p2,p3,p4];done)) (by first|(simp only[seval,go_sem,p1,p2,p3,p4];with_reducible rfl)) ?_|refine aJ.A ?_)|(with_reducible first|exact aI.E|refine aI.B (by simp only[seval,go_sem,eg,dJ];rfl) ?_ ?_)|simp only[seval,go_sem,p1,p2,p3,p4]|((with_reducible refine au ?_);((with_reducible first|refine ah.step (by simp only[seval,go_sem,p1,p2,p3,p4];rfl) ?_);refine dI (st:=[]) ?_))|(with_reducible refine aV (st:=[]) ?_))))
 all_goals trace_state
set_option maxHeartbeats 3200000
def cQ (vs:List fE) (v:fE):List fE×Int:=
 if er none vs≠0 then ([],er none vs) else if v.from_<1\/v.size<0\/v.to≠0 then ([],5) else
  match vs[vs.length-1]? with
  | none=>([v],0)
  | some u=>if v.from_<=u.from_\/v.from_<u.to then ([],19) else if u.to=0 then (vs.set (vs.length-1) { u with to:=v.from_ }++[v],0) else (vs++[v],0)
theorem Bn {vs:List fE} {f t s:Int} {p:List Int} (hl:vs.length<=100000) (hp:∀ v∈vs,v.pages.length<=1000000) (hq:p.length<=1000000):ak prog 89 [.sl 4 (vs.map aL), .agg [i6 f,i6 t,i6 s, .sl 1 (p.map cN)]]
  (.cT [.cW 0 4 0 (cQ vs ⟨f,t,s,p⟩).1.length,i6 (cQ vs ⟨f,t,s,p⟩).2]) [.row 4 ((cQ vs ⟨f,t,s,p⟩).1.map aL)]:=by
 refine dL [] [3,11,29,66,70,71] func89 (by kernel_rfl) ntmps89 rfl rfl ⟨rfl,rfl⟩ (by simp(disch:=omega)only[seval,go_sem,cI,List.replicate,l_2,l_1];rfl) ?_;by_cases h0:vs.length=0
 ·have e:vs=[]:=tY h0;have hu:vs[vs.length-1]? = none:=by rw[e];rfl
  have hz:er none vs=0:=by rw[e];rfl
  ((repeat'(first|(with_reducible refine cB ?_;intro hc;(try simp only[fH,reduceCtorEq] at hc);(try(exfalso;omega)))|simp only[seval,go_sem,hz]|((with_reducible refine bJ ?_);first|refine aq.c (mP ?_) ?_|refine aq.n (jM ?_ ?_) ?_|refine aq.n (rI ?_) ?_)|((with_reducible refine au ?_);first|(with_reducible refine aD (st:=[]) ?_)|(with_reducible refine ah.gu 66 (by simp only[seval,go_sem,hz];rfl) (by simp only[seval,go_sem,hz];rfl) ?_;refine dI (st:=[]) ?_))|(with_reducible refine aB ?_;refine fl (rs:=[.tmp 4,.tmp 5]) (by with_unfolding_all rfl) rfl ?_<;>simp only[seval,go_sem]<;>(repeat'(with_reducible apply And.intro))<;>(try rfl)<;>(fail_if_success (with_reducible show False)))|(with_reducible refine aB ?_;(refine aC.fT 4 71 4 (by first|(simp only[seval,go_sem])) (by first|(simp only[seval,go_sem])) (by simp only[seval,go_sem];rfl) ?_);(with_reducible refine aB ?_;refine aC.q rfl rfl (by simp only[seval,go_sem];rfl) (by decide) (by simp only[seval,go_sem];rfl) (by simp only[seval,go_sem];rfl) rfl ?_<;>(try simp only[seval,go_sem,hz])<;>(repeat'(with_reducible apply And.intro))<;>(try rfl)))|(with_reducible first|refine aV (st:=[]) ?_|refine ai (by simp(disch:=omega)only[seval,go_sem,cI,hz];rfl) ?_|refine dV ?_|refine cO (cL ?_) (cL ?_)|refine And.intro ?_ ?_)))<;>(try((with_reducible assumption))))
  all_goals((try simp(disch:=omega)only[cQ,hu,aL,bC,aE])<;>(try(first|omega|(simp[cQ,hu,aL];done)|(simp[cQ,hu,aL];omega))))
  all_goals(subst e;try simp)
 ·obtain ⟨u,hu⟩:=aZ (show vs.length-1<vs.length by omega);have pH:=get_map aL hu
  ((repeat'(first|(with_reducible refine cB ?_;intro hc;(try simp only[fH,reduceCtorEq] at hc);(try(exfalso;omega)))|simp only[seval,go_sem,pH,aL]|((with_reducible refine bJ ?_);first|refine aq.c (mP ?_) ?_|refine aq.n (jM ?_ ?_) ?_|refine aq.n (rI ?_) ?_)|((with_reducible refine au ?_);first|(with_reducible refine aD (st:=[]) ?_)|(with_reducible refine ah.gu 66 (by simp only[seval,go_sem,pH,aL];rfl) (by simp only[seval,go_sem,pH,aL];rfl) ?_;refine dI (st:=[]) ?_))|(with_reducible refine br ?_;refine dX mix (by kernel_rfl) ?_)|(with_reducible refine aB ?_;refine fl (rs:=[.tmp 4,.tmp 5]) (by with_unfolding_all rfl) rfl ?_<;>simp only[seval,go_sem]<;>(repeat'(with_reducible apply And.intro))<;>(try rfl)<;>(fail_if_success (with_reducible show False)))|(with_reducible refine aB ?_;(refine aC.fT 4 71 4 (by first|(simp only[seval,go_sem])) (by first|(simp only[seval,go_sem])) (by simp only[seval,go_sem];rfl) ?_);(with_reducible refine aB ?_;refine aC.q rfl rfl (by simp only[seval,go_sem];rfl) (by decide) (by simp only[seval,go_sem];rfl) (by simp only[seval,go_sem];rfl) rfl ?_<;>(try simp only[seval,go_sem,pH,aL])<;>(repeat'(with_reducible apply And.intro))<;>(try rfl)))|(with_reducible first|refine aV (st:=[]) ?_|refine dO (by simp(disch:=omega)only[seval,go_sem,cI,pH,aL];rfl) ?_|refine Bo ?_|refine ai (by simp(disch:=omega)only[seval,go_sem,cI,pH,aL];rfl) ?_|refine dV ?_|refine cO (cL ?_) (cL ?_)|refine And.intro ?_ ?_)))<;>(try((with_reducible assumption))))
  all_goals((try simp(disch:=omega)only[cQ,hu,aL,qO,bC,aE])<;>(try((simp[cQ,hu,aL,qO];done))))
theorem y6 {vs:List fE} {f t s:Int} {p:List Int} (hl:vs.length<=100000) (hp:∀ v∈vs,v.pages.length<=1000000) (hq:p.length<=1000000):ak prog 118 [.sl 4 (vs.map aL), .agg [i6 f,i6 t,i6 s, .sl 1 (p.map cN)]]
  (.cT [.cW 0 4 0 (cQ vs ⟨f,t,s,p⟩).1.length,i6 (cQ vs ⟨f,t,s,p⟩).2]) [.row 4 ((cQ vs ⟨f,t,s,p⟩).1.map aL)]:=by
 refine dL [] [3,10,28,69,70] func118 (by kernel_rfl) ntmps118 rfl rfl ⟨rfl,rfl⟩ (by simp(disch:=omega)only[seval,go_sem,cI,List.replicate,l_2,l_1];rfl) ?_;by_cases h0:vs.length=0
 ·have e:vs=[]:=tY h0;have hu:vs[vs.length-1]? = none:=by rw[e];rfl
  have hz:er none vs=0:=by rw[e];rfl
  ((repeat'(first|(with_reducible refine cB ?_;intro hc;(try simp only[fH,reduceCtorEq] at hc);(try(exfalso;omega)))|simp only[seval,go_sem,hz]|((with_reducible refine bJ ?_);refine aq.c (lI ?_) ?_)|(with_reducible refine aD (st:=[]) ?_)|(with_reducible refine aB ?_;refine fl (rs:=[.tmp 4,.tmp 5]) (by with_unfolding_all rfl) rfl ?_<;>simp only[seval,go_sem]<;>(repeat'(with_reducible apply And.intro))<;>(try rfl)<;>(fail_if_success (with_reducible show False)))|(with_reducible refine aB ?_;(refine aC.fT 4 70 4 (by first|(simp only[seval,go_sem])) (by first|(simp only[seval,go_sem])) (by simp only[seval,go_sem];rfl) ?_);(with_reducible refine aB ?_;refine aC.q rfl rfl (by simp only[seval,go_sem];rfl) (by decide) (by simp only[seval,go_sem];rfl) (by simp only[seval,go_sem];rfl) rfl ?_<;>(try simp only[seval,go_sem,hz])<;>(repeat'(with_reducible apply And.intro))<;>(try rfl)))|(with_reducible first|refine aV (st:=[]) ?_|refine ai (by simp(disch:=omega)only[seval,go_sem,cI,hz];rfl) ?_|refine dV ?_|refine cO (cL ?_) (cL ?_)|refine And.intro ?_ ?_)))<;>(try((with_reducible assumption))))
  all_goals((try simp(disch:=omega)only[cQ,hu,aL,bC,aE])<;>(try(first|omega|(simp[cQ,hu,aL];done)|(simp[cQ,hu,aL];omega))))
  all_goals(subst e;try simp)
 ·obtain ⟨u,hu⟩:=aZ (show vs.length-1<vs.length by omega);have pH:=get_map aL hu
  ((repeat'(first|(with_reducible refine cB ?_;intro hc;(try simp only[fH,reduceCtorEq] at hc);(try(exfalso;omega)))|simp only[seval,go_sem,pH,aL]|((with_reducible refine bJ ?_);refine aq.c (lI ?_) ?_)|(with_reducible refine aD (st:=[]) ?_)|(with_reducible refine br ?_;refine dX mix (by kernel_rfl) ?_)|(with_reducible refine aB ?_;refine fl (rs:=[.tmp 4,.tmp 5]) (by with_unfolding_all rfl) rfl ?_<;>simp only[seval,go_sem]<;>(repeat'(with_reducible apply And.intro))<;>(try rfl)<;>(fail_if_success (with_reducible show False)))|(with_reducible refine aB ?_;(refine aC.fT 4 70 4 (by first|(simp only[seval,go_sem])) (by first|(simp only[seval,go_sem])) (by simp only[seval,go_sem];rfl) ?_);(with_reducible refine aB ?_;refine aC.q rfl rfl (by simp only[seval,go_sem];rfl) (by decide) (by simp only[seval,go_sem];rfl) (by simp only[seval,go_sem];rfl) rfl ?_<;>(try simp only[seval,go_sem,pH,aL])<;>(repeat'(with_reducible apply And.intro))<;>(try rfl)))|(with_reducible first|refine aV (st:=[]) ?_|refine dO (by simp(disch:=omega)only[seval,go_sem,cI,pH,aL];rfl) ?_|refine Bo ?_|refine ai (by simp(disch:=omega)only[seval,go_sem,cI,pH,aL];rfl) ?_|refine dV ?_|refine cO (cL ?_) (cL ?_)|refine And.intro ?_ ?_)))<;>(try((with_reducible assumption))))
  all_goals((try simp(disch:=omega)only[cQ,hu,aL,qO,bC,aE])<;>(try((simp[cQ,hu,aL,qO];done))))
theorem E5 {vs:List fE} {f t s:Int} {p:List Int} (hl:vs.length<=100000) (hp:∀ v∈vs,v.pages.length<=1000000) (hq:p.length<=1000000):ak prog 89 [.sl 4 (vs.map aL), .agg [i6 f,i6 t,i6 s, .sl 1 (p.map cN)]]
  (.cT [.sl 4 ((cQ vs ⟨f,t,s,p⟩).1.map aL),i6 (cQ vs ⟨f,t,s,p⟩).2]) []:=by
 have h:=ak.freeze (Bn (f:=f) (t:=t) (s:=s) hl hp hq);simpa[j5,nh,fB] using h
theorem Cw {vs:List fE} {f t s:Int} {p:List Int} (hl:vs.length<=100000) (hp:∀ v∈vs,v.pages.length<=1000000) (hq:p.length<=1000000):ak prog 118 [.sl 4 (vs.map aL), .agg [i6 f,i6 t,i6 s, .sl 1 (p.map cN)]]
  (.cT [.sl 4 ((cQ vs ⟨f,t,s,p⟩).1.map aL),i6 (cQ vs ⟨f,t,s,p⟩).2]) []:=by
 have h:=ak.freeze (y6 (f:=f) (t:=t) (s:=s) hl hp hq);simpa[j5,nh,fB] using h
def dW (vs:List fE) (c:Int):List fE×Int:=
 if er none vs≠0 then ([],er none vs) else
  match vs[vs.length-1]? with
  | none=>([],17)
  | some u=>if u.to≠0 then ([],17) else if c<=u.from_ then ([],19) else (vs.set (vs.length-1) { u with to:=c },0)
theorem Cx {vs:List fE} {c:Int} (hl:vs.length<=100000) (hp:∀ v∈vs,v.pages.length<=1000000):ak prog 91 [.sl 4 (vs.map aL),i6 c]
  (.cT [.cW 0 4 0 (dW vs c).1.length,i6 (dW vs c).2]) [.row 4 ((dW vs c).1.map aL)]:=by
 refine dL [] [10,36] func91 (by kernel_rfl) ntmps91 rfl rfl ⟨rfl,rfl⟩ (by simp(disch:=omega)only[seval,go_sem,cI,List.replicate,l_2,l_1];rfl) ?_;by_cases h0:vs.length=0
 ·have e:vs=[]:=tY h0;have hu:vs[vs.length-1]? = none:=by rw[e];rfl
  have hz:er none vs=0:=by rw[e];rfl
  ((repeat'(first|simp only[seval,go_sem,hz]|((with_reducible refine bJ ?_);refine aq.c (mP ?_) ?_)|(with_reducible refine aD (st:=[]) ?_)|(with_reducible refine aB ?_;(refine aC.fT 4 36 4 (by first|(simp only[seval,go_sem])) (by first|(simp only[seval,go_sem])) (by simp only[seval,go_sem];rfl) ?_);(with_reducible refine aB ?_;refine aC.q rfl rfl (by simp only[seval,go_sem];rfl) (by decide) (by simp only[seval,go_sem];rfl) (by simp only[seval,go_sem];rfl) rfl ?_<;>(try simp only[seval,go_sem,hz])<;>(repeat'(with_reducible apply And.intro))<;>(try rfl)))|(with_reducible first|refine aV (st:=[]) ?_|refine ai (by simp(disch:=omega)only[seval,go_sem,cI,hz];rfl) ?_)))<;>(try((with_reducible assumption))))
  all_goals((try simp(disch:=omega)only[dW,hu,aL,bC,aE])<;>(try(first|omega|(simp[dW,hu,aL];done)|(simp[dW,hu,aL];omega))))
  all_goals(subst e;try simp)
 ·obtain ⟨u,hu⟩:=aZ (show vs.length-1<vs.length by omega);have pH:=get_map aL hu
  ((repeat'(first|(with_reducible refine cB ?_;intro hc;(try simp only[fH,reduceCtorEq] at hc);(try(exfalso;omega)))|simp only[seval,go_sem,pH,aL]|((with_reducible refine bJ ?_);first|refine aq.c (mP ?_) ?_|refine aq.n (jM ?_ ?_) ?_)|(with_reducible refine aD (st:=[]) ?_)|(with_reducible refine aB ?_;refine fl (rs:=[.tmp 4,.tmp 5]) (by with_unfolding_all rfl) rfl ?_<;>simp only[seval,go_sem]<;>(repeat'(with_reducible apply And.intro))<;>(try rfl)<;>(fail_if_success (with_reducible show False)))|(with_reducible refine aB ?_;(refine aC.fT 4 36 4 (by first|(simp only[seval,go_sem])) (by first|(simp only[seval,go_sem])) (by simp only[seval,go_sem];rfl) ?_);(with_reducible refine aB ?_;refine aC.q rfl rfl (by simp only[seval,go_sem];rfl) (by decide) (by simp only[seval,go_sem];rfl) (by simp only[seval,go_sem];rfl) rfl ?_<;>(try simp only[seval,go_sem,pH,aL])<;>(repeat'(with_reducible apply And.intro))<;>(try rfl)))|(with_reducible first|refine aV (st:=[]) ?_|refine ai (by simp(disch:=omega)only[seval,go_sem,cI,pH,aL];rfl) ?_|refine cO (cL ?_) (cL ?_))))<;>(try((with_reducible assumption))))
  all_goals((try simp(disch:=omega)only[dW,hu,aL,qO,bC,aE])<;>(try((simp[dW,hu,aL,qO];done))))
theorem Bp {vs:List fE} {c:Int} (hl:vs.length<=100000) (hp:∀ v∈vs,v.pages.length<=1000000):ak prog 119 [.sl 4 (vs.map aL),i6 c]
  (.cT [.cW 0 4 0 (dW vs c).1.length,i6 (dW vs c).2]) [.row 4 ((dW vs c).1.map aL)]:=by
 refine dL [] [10,36] func119 (by kernel_rfl) ntmps119 rfl rfl ⟨rfl,rfl⟩ (by simp(disch:=omega)only[seval,go_sem,cI,List.replicate,l_2,l_1];rfl) ?_;by_cases h0:vs.length=0
 ·have e:vs=[]:=tY h0;have hu:vs[vs.length-1]? = none:=by rw[e];rfl
  have hz:er none vs=0:=by rw[e];rfl
  ((repeat'(first|simp only[seval,go_sem,hz]|((with_reducible refine bJ ?_);refine aq.c (lI ?_) ?_)|(with_reducible refine aD (st:=[]) ?_)|(with_reducible refine aB ?_;(refine aC.fT 4 36 4 (by first|(simp only[seval,go_sem])) (by first|(simp only[seval,go_sem])) (by simp only[seval,go_sem];rfl) ?_);(with_reducible refine aB ?_;refine aC.q rfl rfl (by simp only[seval,go_sem];rfl) (by decide) (by simp only[seval,go_sem];rfl) (by simp only[seval,go_sem];rfl) rfl ?_<;>(try simp only[seval,go_sem,hz])<;>(repeat'(with_reducible apply And.intro))<;>(try rfl)))|(with_reducible first|refine aV (st:=[]) ?_|refine ai (by simp(disch:=omega)only[seval,go_sem,cI,hz];rfl) ?_)))<;>(try((with_reducible assumption))))
  all_goals((try simp(disch:=omega)only[dW,hu,aL,bC,aE])<;>(try(first|omega|(simp[dW,hu,aL];done)|(simp[dW,hu,aL];omega))))
  all_goals(subst e;try simp)
 ·obtain ⟨u,hu⟩:=aZ (show vs.length-1<vs.length by omega);have pH:=get_map aL hu
  ((repeat'(first|(with_reducible refine cB ?_;intro hc;(try simp only[fH,reduceCtorEq] at hc);(try(exfalso;omega)))|simp only[seval,go_sem,pH,aL]|((with_reducible refine bJ ?_);refine aq.c (lI ?_) ?_)|(with_reducible refine aD (st:=[]) ?_)|(with_reducible refine aB ?_;refine fl (rs:=[.tmp 4,.tmp 5]) (by with_unfolding_all rfl) rfl ?_<;>simp only[seval,go_sem]<;>(repeat'(with_reducible apply And.intro))<;>(try rfl)<;>(fail_if_success (with_reducible show False)))|(with_reducible refine aB ?_;(refine aC.fT 4 36 4 (by first|(simp only[seval,go_sem])) (by first|(simp only[seval,go_sem])) (by simp only[seval,go_sem];rfl) ?_);(with_reducible refine aB ?_;refine aC.q rfl rfl (by simp only[seval,go_sem];rfl) (by decide) (by simp only[seval,go_sem];rfl) (by simp only[seval,go_sem];rfl) rfl ?_<;>(try simp only[seval,go_sem,pH,aL])<;>(repeat'(with_reducible apply And.intro))<;>(try rfl)))|(with_reducible first|refine aV (st:=[]) ?_|refine ai (by simp(disch:=omega)only[seval,go_sem,cI,pH,aL];rfl) ?_|refine cO (cL ?_) (cL ?_))))<;>(try((with_reducible assumption))))
  all_goals((try simp(disch:=omega)only[dW,hu,aL,qO,bC,aE])<;>(try((simp[dW,hu,aL,qO];done))))
theorem HY {vs:List fE} {c:Int} (hl:vs.length<=100000) (hp:∀ v∈vs,v.pages.length<=1000000):ak prog 91 [.sl 4 (vs.map aL),i6 c]
  (.cT [.sl 4 ((dW vs c).1.map aL),i6 (dW vs c).2]) []:=by
 have h:=ak.freeze (Cx (c:=c) hl hp);simpa[j5,nh,fB] using h
theorem E6 {vs:List fE} {c:Int} (hl:vs.length<=100000) (hp:∀ v∈vs,v.pages.length<=1000000):ak prog 119 [.sl 4 (vs.map aL),i6 c]
  (.cT [.sl 4 ((dW vs c).1.map aL),i6 (dW vs c).2]) []:=by
 have h:=ak.freeze (Bp (c:=c) hl hp);simpa[j5,nh,fB] using h
def lu (c:Int):List fE->Nat->Int
 | [],_=> -1
 | v::vs,k=>if v.from_=c then k else lu c vs (k+1)
theorem lT (c:Int):∀ (vs:List fE) (k:Nat),lu c vs k = -1\/∃ j v,vs[j]? = some v/\v.from_=c/\lu c vs k=((k+j:Nat):Int)
 | [],k=> .inl rfl
 | v::vs,k=>by
   unfold lu;by_cases h:v.from_=c
   ·exact .inr ⟨0,v,rfl,h,by rw[bC h];simp⟩
   ·rw[aE h];rcases lT c vs (k+1) with h1|⟨j,u,h1,h2,h3⟩
    ·exact .inl h1
    ·exact .inr ⟨j+1,u,by simpa using h1,h2,by rw[h3];congr 1;omega⟩
def zeroV:fE:=⟨0,0,0,[]⟩
def aS (vs:List fE) (c:Int):List fE×fE×Int:=
 if lu c vs 0<0 then ([],zeroV,8) else (vs.take (lu c vs 0).toNat++vs.drop ((lu c vs 0).toNat+1),(vs[(lu c vs 0).toNat]?).getD zeroV,0)
theorem y7 {vs:List fE} {c:Int} (hl:vs.length<=100000):ak prog 132 [.sl 4 (vs.map aL),i6 c]
  (.cT [.cW 0 4 0 (aS vs c).1.length, .agg (aL (aS vs c).2.1),i6 (aS vs c).2.2]) [.row 4 ((aS vs c).1.map aL)]:=by
 refine dL [] [5,25,31] func132 (by kernel_rfl) ntmps132 rfl rfl ⟨rfl,rfl⟩ (by simp(disch:=omega)only[seval,go_sem,cI,List.replicate,l_2,l_1];rfl) ?_;((repeat'(first|simp only[seval,go_sem]|(with_reducible refine aV (st:=[]) ?_))))
 (with_reducible refine ay.cX (fun (k:Nat)=>[(7,i6 k),(4,.any),(6,.any)]++aN 8 28) (fun (k:Nat)=>[(5,.box [i6 0,i6 0,i6 0,.sc (.slice none 0 0)]),(25,.dead),(31,.dead)]) (fun (k:Nat)=>k<=vs.length/\lu c (vs.drop k) k=lu c vs 0) (fun (k:Nat)=>vs.length-k) (0) (⟨ek _,rfl⟩) (by intro _;simp(disch:=omega)only[seval,go_sem,cI];rfl) (by simp only[seval,go_sem]) (fun k hI=>?_))
 obtain ⟨hk,hf⟩:=hI;by_cases hlt:k<vs.length
 ·obtain ⟨v,hv⟩:=aZ hlt;have fL:=get_map aL hv
  ((repeat'(first|(with_reducible refine cB ?_;intro hc;(try simp only[fH,reduceCtorEq] at hc);(try(exfalso;omega)))|(with_reducible refine aY 6 ?_;refine ay.bU 6 mix 13 rfl (.f 0 <| .f 1 <| .f 2 <| .f 3 <| .f 4 <| .f 6 <| .f 7 <| .f 8 <| .r 9 <| .a <| .b 5 (.f 10 <| .a <| .b 11 (.f 12 <| .d) .e) .e) (by kernel_rfl) ?_)|(with_reducible refine cA ?_;first|refine aJ.D ?_|refine aJ.F (by simp only[seval,go_sem,eg,dJ];rfl) (by first|(simp only[seval,go_sem,fL,aL,cw,bQ,bW])) (by first|(simp only[seval,go_sem,fL,aL,cw,bQ,bW];with_reducible rfl)|(simp(disch:=omega)only[seval,go_sem,cI,fL,aL,cw,bQ,bW];with_reducible rfl)) ?_|refine aJ.R (by simp only[seval,go_sem,eg,dJ];rfl) (by first|(refine .inl ?_;simp only[seval,go_sem,fL,aL,cw,bQ,bW];done)) (by first|(simp only[seval,go_sem,fL,aL,cw,bQ,bW];with_reducible rfl)) ?_|refine aJ.A ?_)|(with_reducible first|exact aI.E|refine aI.B (by simp only[seval,go_sem,eg,dJ];rfl) ?_ ?_)|simp only[seval,go_sem,fL,aL,cw,bQ,bW]|((with_reducible refine au ?_);((with_reducible first|refine ah.step (by simp only[seval,go_sem,fL,aL,cw,bQ,bW];rfl) ?_|refine ah.step (by simp(disch:=omega)only[seval,go_sem,cI,fL,aL,cw,bQ,bW];rfl) ?_);refine dI (st:=[]) ?_))|(with_reducible refine aB ?_;refine fl (rs:=[.tmp 4,.cell 5 105,.tmp 6]) (by with_unfolding_all rfl) rfl ?_<;>simp only[seval,go_sem]<;>(repeat'(with_reducible apply And.intro))<;>(try rfl))|(with_reducible first|refine aV (st:=[]) ?_|refine ai (by simp(disch:=omega)only[seval,go_sem,cI,fL,aL,cw,bQ,bW];rfl) ?_|refine cO (cL ?_) (cL ?_)))))
  all_goals(try(refine aP (k+1) ?_ ?_ ?_<;>(first|(with_reducible refine lD ?_<;>simp only[seval,go_sem]<;>(repeat'(with_reducible apply And.intro))<;>(try rfl))|skip)<;>(try(omega))))
  all_goals(have yM:¬ ((k:Int)<0):=by omega)
  all_goals(have hz:v.from_=c->lu c vs 0=(k:Int):=fun e=>by rw[<- hf,aH hv];simp[lu,e])
  all_goals(first
   | (refine ⟨by omega,?_⟩;rw[<- hf,aH hv];simp[lu, *];done)
   | (have yN:=hz ‹_›;first|(simp[aS,yN,hv,aL,yM];done)|(simp[aS,yN,hv,aL,yM];omega)))
 ·((repeat'(first|simp only[seval,go_sem]|(with_reducible refine aB ?_;(refine aC.fT 4 31 4 (by first|(simp only[seval,go_sem])) (by first|(simp only[seval,go_sem])) (by simp only[seval,go_sem];rfl) ?_);(with_reducible refine aB ?_;refine aC.q rfl (by with_unfolding_all (show iq _ _ [.tmp 4,.cell 5 105,.tmp 6]=_);simp only[seval,go_sem];rfl) (by simp only[seval,go_sem];rfl) (by decide) (by simp only[seval,go_sem];rfl) (by simp only[seval,go_sem];rfl) rfl ?_<;>(try simp only[seval,go_sem])<;>(repeat'(with_reducible apply And.intro))<;>(try rfl)))|(with_reducible first|refine aV (st:=[]) ?_|refine ai (by simp(disch:=omega)only[seval,go_sem,cI];rfl) ?_))))
  all_goals(have hz:lu c vs 0 = -1:=by rw[<- hf,j9 (by omega)];rfl)
  all_goals simp[aS,hz,zeroV,aL]
  all_goals(first|exact j3.cons (nW.refl _) (j3.cons (nW.refl _) (j3.cons (nW.refl _) (j3.cons (nW.nil _) j3.nil)))|(simp[qP,zO];done))
theorem zP (v:fE) (rows:List (List D)):nh 0 4 rows (aL v)=aL v:=rfl
theorem Cy {vs:List fE} {c:Int} (hl:vs.length<=100000):ak prog 132 [.sl 4 (vs.map aL),i6 c]
  (.cT [.sl 4 ((aS vs c).1.map aL), .agg (aL (aS vs c).2.1),i6 (aS vs c).2.2]) []:=by
 have h:=ak.freeze (y7 (c:=c) hl);simpa[j5,nh,fB,zP] using h
end Go.Proofs.YteemiclhnfkekaaGreat
