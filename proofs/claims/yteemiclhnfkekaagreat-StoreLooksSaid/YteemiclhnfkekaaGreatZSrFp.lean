/- The reference's store: lengths (plain). -/
import Derived.Test.YteemiclhnfkekaaGreatZSrC
import Derived.Lib.RowBridge
set_option linter.unusedSimpArgs false
set_option linter.unusedVariables false
namespace Go.Proofs.YteemiclhnfkekaaGreat
open Go.RowKit Go.fe
theorem A6 (sz:Nat):∀ (k:Nat) (l:List Int),(chunks sz k l).length<=k
 | 0,_=>iU _
 | k+1,l=>by
   rw[chunks]
   split
   ·exact ek _
   ·have:=A6 sz k (l.drop sz);simp only[List.length_cons];omega
theorem A7 (sz:Nat):∀ (k:Nat) (l:List Int),∀ x∈chunks sz k l,x.length<=sz/\∀ z∈x,z∈l
 | 0,_=>fun x hx=>by simp[chunks] at hx
 | k+1,l=>fun x hx=>by
   rw[chunks] at hx
   split at hx
   ·simp at hx
   ·rcases lp.1 hx with rfl|h
    ·exact ⟨by rw[cw];omega,fun z hz=>zR hz⟩
    ·have:=A7 sz k (l.drop sz) x h;exact ⟨this.1,fun z hz=>E7 (this.2 z hz)⟩
theorem uP {d:List Int} {sz:Int}:(aR d sz).1.length<=d.length:=by
 unfold aR;split
 ·exact ek _
 ·exact A6 _ _ _
theorem oP {d:List Int} {sz:Int}:∀ x∈(aR d sz).1,x.length<=1024/\∀ z∈x,z∈d:=by
 unfold aR;split
 ·intro x hx;simp at hx
 ·intro x hx;have:=A7 _ _ _ x hx;exact ⟨by have:=this.1;omega,this.2⟩
theorem oO (a:Ar) (d:List Int):(dH a d).1.pages.length<=a.pages.length+1:=by
 unfold dH;split
 ·exact Nat.le_succ _
 ·split
  ·exact Nat.le_succ _
  ·exact Nat.le_of_eq (qt (qs _ _))
theorem uR (c:Int):∀ (l:List Bd) (a:List ByteArray),(i7 c l a).length<=a.length+l.length
 | [],_=>iU _
 | b::l,a=>by
   rw[i7]
   split
   ·have h1:=uR c l (tw b.name a);have h2:=Ei b.name a;simp only[List.length_cons];omega
   ·have h1:=uR c l a;simp only[List.length_cons];omega
def yj (d:List Int):Prop:=d.length<=1024/\∀ z∈d,0<=z/\z<=255
def tu (l:List Pg):Prop:= ∀ p∈l,yj p.data
theorem Jc:yj []:=⟨ek _,fun z hz=>by simp at hz⟩
theorem A8 {a:Ar} {d:List Int} (ha:tu a.pages) (hd:yj d):tu (dH a d).1.pages:=by
 unfold dH;split
 ·exact ha
 ·split
  ·exact ha
  ·intro p hp;rcases lp.1 ((rH _ _ _).mem_iff.1 hp) with rfl|h
   ·exact hd
   ·exact ha p h
theorem DH {l:List Pg} {i:Int} (h:tu l):yj (fh l i).data:=by
 unfold fh;cases e:l[i.toNat]? with
 | none=>exact Jc
 | some p=>exact h p (fS e)
theorem L7 {a:Ar} {n:Int} (ha:tu a.pages):tu (dZ a n).1.pages:=by
 unfold dZ;split
 ·exact ha
 ·intro p hp;rcases RQ hp with h|rfl
  ·exact ha p h
  ·exact DH ha
theorem Er (a:Ar) (n:Int):(dZ a n).1.pages.length=a.pages.length:=by
 unfold dZ;split
 ·rfl
 ·simp[gl]
theorem Jd (l:List (List Int)):∀ a:Ar,(∀ x∈l,yj x)->tu a.pages->tu (eZ a l).1.pages/\(eZ a l).1.pages.length<=a.pages.length+l.length/\(eZ a l).2.length=l.length:=by
 induction l with
 | nil=>intro a _ h;exact ⟨h,iU _,rfl⟩
 | cons x l ih=>
   intro a hx h;have h1:=ih (dH a x).1 (fun y hy=>hx y (by simp[hy])) (A8 h (hx x (by simp)));have h2:=oO a x;simp only[eZ,List.length_cons];exact ⟨h1.1,by omega,by omega⟩
theorem OM (l:List (List Int)):∀ (a:Ar) (b:List Bool) (o:List Int),(∀ x∈l,yj x)->tu a.pages->tu (iT a l b o).1.pages/\(iT a l b o).1.pages.length<=a.pages.length+l.length/\(iT a l b o).2.length<=l.length:=by
 induction l with
 | nil=>intro a b o _ h;cases b<;>exact ⟨h,iU _,ek _⟩
 | cons x l ih=>
   intro a b o hx h;cases b with
   | nil=>exact ⟨h,Nat.le_add_right _ _,ek _⟩
   | cons b bs=>
     rw[iT]
     split
     ·have h1:=ih (dZ a (o.headD 0)).1 bs o.tail (fun y hy=>hx y (by simp[hy])) (L7 h);have h2:=Er a (o.headD 0);simp only[List.length_cons];exact ⟨h1.1,by omega,by omega⟩
     ·have h1:=ih (dH a x).1 bs o.tail (fun y hy=>hx y (by simp[hy])) (A8 h (hx x (by simp)));have h2:=oO a x;simp only[List.length_cons];exact ⟨h1.1,by omega,by omega⟩
structure wD (i:Nat) (s:Sr):Prop where
 hb:s.binds.length<=i
 ho:s.objs.length<=i
 hv:∀ o∈s.objs,o.bu.length<=i/\∀ v∈o.bu,v.pages.length<=61/\v.size<=61
 hp:s.pins.length<=i
 hg:s.ar.pages.length<=61*i
 hd:tu s.ar.pages
 hc:0<=s.commit/\s.commit<=i
 hl:0<=s.last/\s.last<=i
 hz:1<=s.c.fD/\s.c.fD<=1024
theorem wD.up {i:Nat} {s:Sr} (h:wD i s):wD (i+1) s:=
 ⟨by have:=h.hb;omega,by have:=h.ho;omega,fun o ho=>⟨by have:=(h.hv o ho).1;omega,(h.hv o ho).2⟩,by have:=h.hp;omega,by have:=h.hg;omega,h.hd,⟨h.hc.1,by have:=h.hc.2;omega⟩,⟨h.hl.1,by have:=h.hl.2;omega⟩,h.hz⟩
def Sk (i:Nat) (l:List fE):Prop:=l.length<=i/\∀ v∈l,v.pages.length<=61/\v.size<=61
theorem Gg {i:Nat} {l:List fE} {v:fE} (h:Sk i l) (hv:v.pages.length<=61/\v.size<=61):Sk (i+1) (cQ l v).1:=by
 unfold cQ
 split
 ·exact ⟨ek _,fun v hv=>by simp at hv⟩
 ·split
  ·exact ⟨ek _,fun v hv=>by simp at hv⟩
  ·split
   ·exact ⟨by simp,fun w hw=>by rw[rG.1 hw];exact hv⟩
   ·rename_i u hu;have XT:=h.2 u (fS hu)
    split
    ·exact ⟨ek _,fun v hv=>by simp at hv⟩
    ·split
     ·refine ⟨by have:=h.1;simp only[bW,GX,List.length_cons,List.length_nil];omega,fun w hw=>?_⟩;rcases lU.1 hw with h1|h1
      ·rcases RQ h1 with h2|rfl
       ·exact h.2 w h2
       ·exact XT
      ·rw[rG.1 h1];exact hv
     ·refine ⟨by have:=h.1;simp only[bW,List.length_cons,List.length_nil];omega,fun w hw=>?_⟩;rcases lU.1 hw with h1|h1
      ·exact h.2 w h1
      ·rw[rG.1 h1];exact hv
theorem Je {i:Nat} {l:List fE} {c:Int} (h:Sk i l):Sk (i+1) (dW l c).1:=by
 unfold dW
 split
 ·exact ⟨ek _,fun v hv=>by simp at hv⟩
 ·split
  ·exact ⟨ek _,fun v hv=>by simp at hv⟩
  ·rename_i u hu;have XT:=h.2 u (fS hu)
   split
   ·exact ⟨ek _,fun v hv=>by simp at hv⟩
   ·split
    ·exact ⟨ek _,fun v hv=>by simp at hv⟩
    ·refine ⟨by have:=h.1;simp only[GX];omega,fun w hw=>?_⟩;rcases RQ hw with h2|rfl
     ·exact h.2 w h2
     ·exact XT
theorem Es {i:Nat} {s:Sr} (h:wD i s) (j:Int):Sk i (dm s.objs j).bu:=by
 unfold dm;cases e:s.objs[j.toNat]? with
 | none=>exact ⟨ek _,fun v hv=>by simp at hv⟩
 | some o=>exact h.hv o (fS e)
theorem ym {i:Nat} {s:Sr} (h:wD i s) {j:Int} {v:List fE} (hv:Sk (i+1) v):(dz s.objs j v).length<=i+1/\∀ o∈dz s.objs j v,o.bu.length<=i+1/\∀ v∈o.bu,v.pages.length<=61/\v.size<=61:=by
 refine ⟨by have:=h.ho;simp only[dz,GX];omega,fun o ho=>?_⟩;rcases RQ ho with h2|rfl
 ·exact h.up.hv o h2
 ·exact hv
theorem gy (n:Int):(aO n).length<=61/\∀ z∈aO n,0<=z/\z<=255:=by
 have hl:(n/8%64%61).toNat<=61:=by omega
 refine ⟨by simp only[aO,dD,List.length_range];exact hl,fun z hz=>?_⟩;obtain ⟨i,hi,rfl⟩:=qu.1 hz;have:=List.mem_range.1 hi;unfold lg;split<;>omega
theorem nV (n sz:Int):(aR (aO n) sz).1.length<=61/\∀ x∈(aR (aO n) sz).1,yj x:=by
 have h:=gy n;exact ⟨by have:=uP (d:=aO n) (sz:=sz);omega,fun x hx=>⟨(oP x hx).1,fun z hz=>h.2 z ((oP x hx).2 z hz)⟩⟩
theorem F6 {i:Nat} {s:Sr} {m:ByteArray} {n:Int} (h:wD i s):wD (i+1) (cR s m (aO n)).1:=by
 have hs:=nV n s.c.fD;have ha:=Jd (aR (aO n) s.c.fD).1 s.ar hs.2 h.hd;have rY:=(gy n).1;unfold cR
 split
 ·exact h.up
 ·split
  ·exact h.up
  ·split
   ·exact h.up
   ·split
    ·exact h.up
    ·refine ⟨?_,?_,?_,?_,?_,ha.1,?_,?_,h.hz⟩
     ·have:=IZ s.binds m (s.last+1) (s.commit+1);have:=h.hb;simp only;omega
     ·have:=h.ho;simp only[bW,List.length_cons,List.length_nil];omega
     ·intro o ho;rcases lU.1 ho with h1|h1
      ·exact h.up.hv o h1
      ·rw[rG.1 h1];refine ⟨by simp,fun v hv=>?_⟩;rw[rG.1 hv];exact ⟨by simp only;omega,by simp only;omega⟩
     ·have:=h.hp;simp only;omega
     ·have:=h.hg;simp only;omega
     ·have:=h.hc;simp only;omega
     ·have:=h.hl;simp only;omega
theorem OH {i:Nat} {s:Sr} {m:ByteArray} {n:Int} (h:wD i s):wD (i+1) (ji s m (aO n)).1:=by
 have hs:=nV n s.c.fD;have ha:=OM (aR (aO n) s.c.fD).1 s.ar (bB (bh s.ar (fR s m s.commit).2.1.pages) (aR (aO n) s.c.fD).1) (fR s m s.commit).2.1.pages hs.2 h.hd;have rY:=(gy n).1;unfold ji
 split
 ·exact h.up
 ·split
  ·exact h.up
  ·split
   ·exact h.up
   ·have hv:=ym h (j:=(fR s m s.commit).1) (Gg (Es h (fR s m s.commit).1) (v:=⟨s.commit+1,0,(aO n).length,(iT s.ar (aR (aO n) s.c.fD).1 (bB (bh s.ar (fR s m s.commit).2.1.pages) (aR (aO n) s.c.fD).1) (fR s m s.commit).2.1.pages).2⟩) ⟨by simp only;omega,by simp only;omega⟩);refine ⟨?_,hv.1,hv.2,?_,?_,ha.1,?_,?_,h.hz⟩
    ·have:=h.hb;simp only;omega
    ·have:=h.hp;simp only;omega
    ·have:=h.hg;simp only;omega
    ·have:=h.hc;simp only;omega
    ·have:=h.hl;simp only;omega
theorem L8 {i:Nat} {s:Sr} {m:ByteArray} (h:wD i s):wD (i+1) (gq s m).1:=by
 unfold gq
 split
 ·exact h.up
 ·split
  ·exact h.up
  ·have hv:=ym h (j:=(fR s m s.commit).1) (Je (c:=s.commit+1) (Es h (fR s m s.commit).1));refine ⟨?_,hv.1,hv.2,?_,?_,h.hd,?_,?_,h.hz⟩
   ·have:=D0 s.binds m (s.commit+1);have:=h.hb;simp only;omega
   ·have:=h.hp;simp only;omega
   ·have:=h.hg;simp only;omega
   ·have:=h.hc;simp only;omega
   ·have:=h.hl;simp only;omega
theorem Gh {i:Nat} {s:Sr} {m k:ByteArray} (h:wD i s):wD (i+1) (bY s m k).1:=by
 unfold bY
 split
 ·exact h.up
 ·split
  ·exact h.up
  ·split
   ·exact h.up
   ·split
    ·exact h.up
    ·refine ⟨?_,h.up.ho,h.up.hv,h.up.hp,h.up.hg,h.hd,?_,h.up.hl,h.hz⟩
     ·have:=D1 s.binds m k (s.commit+1);have:=h.hb;simp only;omega
     ·have:=h.hc;simp only;omega
theorem OO {i:Nat} {s:Sr} {c:Int} (h:wD i s):wD (i+1) (ja s c).1:=by
 unfold ja
 split
 ·exact h.up
 ·split
  ·exact h.up
  ·exact ⟨h.up.hb,h.up.ho,h.up.hv,LI h.hp,h.up.hg,h.hd,h.up.hc,h.up.hl,h.hz⟩
theorem Jf {i:Nat} {s:Sr} {c:Int} (h:wD i s):wD (i+1) (gW s c).1:=by
 unfold gW
 split
 ·exact h.up
 ·exact ⟨h.up.hb,h.up.ho,h.up.hv,LJ h.up.hp,h.up.hg,h.hd,h.up.hc,h.up.hl,h.hz⟩
theorem oQ {n lo hi:Int} (h1:lo<=n) (h2:n<=hi):mO n lo hi=true:=by
 simp only[mO,GQ h1,GQ h2,Bool.and_self]
theorem HK {p q r:Prop} [Decidable p] [Decidable q] [Decidable r] {a b c d lo hi:Int} (h:lo<=a/\a<=hi/\lo<=b/\b<=hi/\lo<=c/\c<=hi/\lo<=d/\d<=hi):mO (if p then a else if q then b else if r then c else d) lo hi=true:=by
 split
 ·exact oQ h.1 h.2.1
 ·split
  ·exact oQ h.2.2.1 h.2.2.2.1
  ·split
   ·exact oQ h.2.2.2.2.1 h.2.2.2.2.2.1
   ·exact oQ h.2.2.2.2.2.2.1 h.2.2.2.2.2.2.2
theorem OP (n:Int):qN (sJ n)=true:=by
 simp only[qN,sJ,jl];exact ⟨⟨⟨⟨⟨⟨oQ (by omega) (by omega),oQ (by omega) (by omega)⟩,HK (by decide)⟩,HK (by decide)⟩,HK (by decide)⟩,HK (by decide)⟩,oQ (by omega) (by omega)⟩
theorem OQ (l:List Int) (i:Nat) (hi:i<=1000):0<=yT l i/\yT l i<=70000:=by
 unfold yT;split
 ·omega
 ·have:i/l.length<=i:=Nat.div_le_self _ _;generalize i/l.length=q at *;omega
def RH (a b:Int):Int:=if a<b then -1 else if b<a then 1 else 0
def Z6 (x y:Vn):Int:=if RH x.id y.id≠0 then RH x.id y.id else RH x.v.from_ y.v.from_
def mW:List Vn->List Vn->List Vn
 | a,[]=>a
 | a,x::l=>mW (E3 x a) l
theorem Ba:∀ (l a:List Vn),(mW a l).length=a.length+l.length
 | [],_=>rfl
 | x::l,a=>by rw[mW,Ba l,JY,List.length_cons];omega
theorem Bb:∀ (l m a:List Vn),mW a (l++m)=mW (mW a l) m
 | [],_,_=>rfl
 | x::l,m,a=>by rw[List.cons_append,mW,Bb l m,mW]
theorem vD (id:Int):∀ (l:List fE) (a:List Vn),qT id l a=mW a (l.map fun v=>⟨id,v⟩)
 | [],_=>rfl
 | v::l,a=>by rw[qT,vD id l,fk,mW]
theorem qj:∀ (l:List Ob) (a:List Vn),iV l a=mW a (l.flatMap jk)
 | [],_=>rfl
 | o::l,a=>by rw[iV,qj l,vD,RU,Bb];rfl
def Z7 (l:List Vn):Prop:=l.Pairwise fun x y=>yZ y x=false
theorem OS (x y:Vn):yZ x y=true↔(x.id<y.id\/(x.id=y.id/\x.v.from_<y.v.from_)):=by
 simp[yZ,HX]
theorem Oy (x y:Vn):yZ x y=false↔¬ (x.id<y.id\/(x.id=y.id/\x.v.from_<y.v.from_)):=by
 rw[<- OS];simp
theorem HL (p:Nat->Bool):∀ (n k:Nat),gx p n<=k->k<n->p k=true
 | 0,_,_,h=>by omega
 | n+1,k,h1,h2=>by
   unfold gx at h1
   split at h1
   ·rename_i hp;by_cases hk:k=n
    ·rw[hk];exact hp
    ·exact HL p n k h1 (by omega)
   ·omega
theorem HM (p:Nat->Bool):∀ (n j:Nat),gx p n=j+1->p j=false
 | 0,_,h=>by simp[gx] at h
 | n+1,j,h=>by
   unfold gx at h
   split at h
   ·exact HM p n j h
   ·rename_i hp;rw[show j=n by omega];simpa using hp
structure Vc where
 obj:Int
 eo:Int
 deriving DecidableEq
def gY (x:Vc):List D:=[.sc (.int .i64 x.obj), .sc (.int .i64 x.eo)]
def ql (p:List Pn) (v:fE):Bool:= !(v.to==0) && !dY v.from_ v.to p
def Jg (x:Vn):Vc:=⟨x.id,x.v.from_⟩
def kq (p:List Pn):List Vn->List Vc
 | []=>[]
 | x::l=>if ql p x.v=true then Jg x::kq p l else kq p l
def B4 (p:List Pn):List Vn->List Int
 | []=>[]
 | x::l=>if ql p x.v=true then B4 p l else x.v.pages++B4 p l
def UU (n:Int):List Int->List Int
 | []=>[n]
 | y::l=>if y<n then y::UU n l else if y=n then y::l else n::y::l
def L9:List Int->List Int->List Int
 | a,[]=>a
 | a,n::l=>L9 (UU n a) l
def XU (p:List Pn) (l:List Vn):List Int:=L9 [] (B4 p l)
def Qk (x:Vn):Vc:=⟨x.id,if x.v.from_<9223372036854775807 then x.v.from_+1 else x.v.from_⟩
def UW (x:Vn) (a:Vc):Bool:=HX x.id x.v.from_ a.obj a.eo
def Ql (p:List Pn) (a:Vc):List Vn->Int->List Vc->Vc->List Vc×Vc×Bool
 | [],_,vs,nx=>(vs,nx,true)
 | x::l,c,vs,nx=>if UW x a=true then Ql p a l c vs nx else if c<=0 then (vs,nx,false) else Ql p a l (c-1) (if ql p x.v=true then vs++[Jg x] else vs) (Qk x)
def UX (a:Vc):List Vn->List Vn
 | []=>[]
 | x::l=>if UW x a=true then UX a l else x::l
def UY (p:List Pn):List Vn->Int->List Vc->Vc->List Vc×Vc×Bool
 | [],_,vs,nx=>(vs,nx,true)
 | x::l,c,vs,nx=>if 0<c then UY p l (c-1) (if ql p x.v=true then vs++[Jg x] else vs) (Qk x) else (vs,nx,false)
def UZ (l:List Int):List Int:=l.mergeSort fun x y=>decide (x<=y)
def YB (l:List Int):List Int:=Lib.compact (UZ l)
structure B5 (a:Ar) (L:List Int):Prop where
 pM:vL (a.pages.map (·.num))
 refs:∀ p∈a.pages,p.refs=(L.count p.num:Int)/\1<=L.count p.num
 mem:∀ n∈L,n∈a.pages.map (·.num)
theorem B5.perm {a:Ar} {L M:List Int} (h:B5 a L) (hp:L.Perm M):B5 a M:=
 ⟨h.pM,fun p hm=>by rw[<- hp.count_eq];exact h.refs p hm,fun n hn=>h.mem n (hp.mem_iff.2 hn)⟩
theorem Ma {n:Int} (h0: -1000000<=n) (h1:n<=1000000):wr n=n:=by
 unfold wr;rw[IntKind.wrap_i64];omega
theorem HN {l:List Pg} (h:vL (l.map (·.num))) {i j:Nat} {x y:Pg} (hx:l[i]? = some x) (hy:l[j]? = some y) (hn:i≠j):x.num≠y.num:=by
 rcases Nat.lt_or_gt_of_ne hn with g|g
 ·have:=pS h (x:=x.num) (y:=y.num) (by rw[wH,hx];rfl) (by rw[wH,hy];rfl) g;omega
 ·have:=pS h (x:=y.num) (y:=x.num) (by rw[wH,hy];rfl) (by rw[wH,hx];rfl) g;omega
theorem HO {n:Int} {l:List Pg} (h:n∈l.map (·.num)):∃ (j:Nat) (p:Pg),l[j]? = some p/\j<l.length/\eO n l 0=(j:Int)/\fh l (eO n l 0)=p/\p.num=n:=by
 rcases gb n l 0 with ⟨h1,h2⟩|⟨j,p,h1,h2,h3,_⟩
 ·obtain ⟨p,hp,e⟩:=qu.1 h;exact absurd e (h2 p hp)
 ·exact ⟨j,p,h1,(jL.1 h1).1,by rw[h3];simp,by rw[h3];simp[fh,h1],h2⟩
theorem HP {l:List Pg} {j:Nat} {p q:Pg} (h:l[j]? = some p) (e:q.num=p.num):(l.set j q).map (·.num)=l.map (·.num):=by
 rw[qO,e];refine MD fun i=>?_;rw[List.getElem?_set]
 split
 ·rename_i hi;subst hi;obtain ⟨hj,hp⟩:=jL.1 h;rw[bC (by rw[dD];exact hj),wH,h];rfl
 ·rfl
theorem mem_set {l:List Pg} {j:Nat} {q x:Pg} (h:q∈l.set j x):q=x\/∃ i,i≠j/\l[i]? = some q:=by
 obtain ⟨i,hi⟩:=JE.1 h;rw[List.getElem?_set] at hi
 split at hi
 ·split at hi
  ·exact .inl (by injection hi with e;exact e.symm)
  ·cases hi
 ·rename_i hn;exact .inr ⟨i,fun e=>hn e.symm,hi⟩
theorem Mb {a:Ar} {L:List Int} {n:Int} (h:B5 a L) (hn:n∈L) (hl:L.length<=900000):B5 (dZ a n).1 (n::L):=by
 obtain ⟨j,p,h1,h2,h3,h4,h5⟩:=HO (h.mem n hn);have hc:=List.count_le_length (a:=p.num) (l:=L);have hr:=h.refs p (fS h1);have h6:fh a.pages (j:Int)=p:=by rw[<- h3];exact h4
 have e:(dZ a n).1=⟨a.cap,a.pages.set j ⟨p.num,p.refs+1,p.data⟩⟩:=by
  unfold dZ gl;rw[aE (by omega)];simp only[h3,h6,Int.toNat_natCast];rw[Ma (n:=p.refs+1) (by omega) (by omega)]
 rw[e];have Mc:=HP (q:=⟨p.num,p.refs+1,p.data⟩) h1 rfl;refine ⟨by simp only;rw[Mc];exact h.pM,fun q hq=>?_,fun m hm=>?_⟩
 ·rcases mem_set hq with rfl|⟨i,hi,Jh⟩
  ·simp only[h5,List.count_cons_self];rw[<- h5];omega
  ·have hne:=HN h.pM Jh h1 hi;have:=h.refs q (fS Jh);rw[List.count_cons_of_ne (by rw[<- h5];exact fun e=>hne e.symm)];exact this
 ·simp only;rw[Mc];rcases lp.1 hm with rfl|hm
  ·exact h.mem _ hn
  ·exact h.mem _ hm
theorem Ji {l:List Pg} {j:Nat} {q:Pg} (h:q∈ic l (j:Int)):∃ i,i≠j/\l[i]? = some q:=by
 rw[ic,Int.toNat_natCast] at h;rcases lU.1 h with h|h
 ·obtain ⟨i,hi⟩:=JE.1 h;rw[JG] at hi
  split at hi
  ·exact ⟨i,by omega,hi⟩
  ·cases hi
 ·obtain ⟨i,hi⟩:=JE.1 h;rw[Qt] at hi;exact ⟨j+1+i,by omega,hi⟩
theorem Jj {α:Type} (l:List α) (j:Nat):(ic l (j:Int)).Sublist l:=by
 rw[ic,Int.toNat_natCast]
 conv=>rhs;rw[<- JX j l]
 refine List.Sublist.append_left ?_ _;rw[<- List.drop_drop];exact List.drop_sublist _ _
theorem Md {l:List Pg} {j i:Nat} {q:Pg} (h:l[i]? = some q) (hn:i≠j):q∈ic l (j:Int):=by
 rw[ic,Int.toNat_natCast,lU];rcases Nat.lt_or_gt_of_ne hn with g|g
 ·exact .inl (JE.2 ⟨i,by rw[EJ g];exact h⟩)
 ·exact .inr (JE.2 ⟨i-(j+1),by rw[Qt,show j+1+(i-(j+1))=i by omega];exact h⟩)
theorem HQ {a:Ar} {L:List Int} {n:Int} (h:B5 a (n::L)) (hl:L.length<=900000):B5 (b8 a n).1 L:=by
 obtain ⟨j,p,h1,h2,h3,h4,h5⟩:=HO (h.mem n (by simp));have hc:=List.count_le_length (a:=n) (l:=L);have hr:=h.refs p (fS h1);rw[h5,List.count_cons_self] at hr;have h6:fh a.pages (j:Int)=p:=by rw[<- h3];exact h4
 have hw:wr (p.refs-1)=(L.count n:Int):=by rw[Ma (n:=p.refs-1) (by omega) (by omega)];omega
 have YC:∀ q:Pg,(∃ i,i≠j/\a.pages[i]? = some q)->q.refs=(L.count q.num:Int)/\1<=L.count q.num:=fun q ⟨i,hi,hq⟩=>by
  have hne:=HN h.pM hq h1 hi;have:=h.refs q (fS hq)
  rwa [List.count_cons_of_ne (by rw[<- h5];exact fun e=>hne e.symm)] at this
 by_cases hz:0<(L.count n:Int)
 ·have e:(b8 a n).1=⟨a.cap,a.pages.set j ⟨p.num,(L.count n:Int),p.data⟩⟩:=by
   unfold b8 gl;rw[aE (by omega),h3];simp only[h6,hw];rw[bC hz];simp only[Int.toNat_natCast]
  rw[e];have Mc:=HP (q:=⟨p.num,(L.count n:Int),p.data⟩) h1 rfl;refine ⟨by simp only;rw[Mc];exact h.pM,fun q hq=>?_,fun m hm=>?_⟩
  ·rcases mem_set hq with rfl|hq
   ·have h7:1<=L.count n:=by omega
    refine ⟨?_,?_⟩
    ·simp only[h5]
    ·simp only[h5];exact h7
   ·exact YC q hq
  ·simp only;rw[Mc];exact h.mem m (HZ _ hm)
 ·have e:(b8 a n).1=⟨a.cap,ic a.pages (j:Int)⟩:=by
   unfold b8;rw[aE (by omega),h3];simp only[h6,hw];rw[aE hz]
  rw[e];refine ⟨?_,fun q hq=>YC q (Ji hq),fun m hm=>?_⟩
  ·exact h.pM.sublist ((Jj a.pages j).map _)
  ·obtain ⟨q,hq,e2⟩:=qu.1 (h.mem m (HZ _ hm));obtain ⟨i,hi⟩:=JE.1 hq
   have hij:i≠j:=fun e3=>by
    subst e3;rw[h1] at hi;injection hi with e4;subst e4
    have:0<L.count n:=List.count_pos_iff.2 (by rw[<- h5,e2];exact hm);omega
   exact qu.2 ⟨q,Md hi hij,e2⟩
theorem DI:∀ (ps:List Int) {a:Ar} {L:List Int},B5 a (ps++L)->(ps++L).length<=900000->B5 (pN a ps) L
 | [],_,_,h,_=>h
 | n::ps,a,L,h,hl=>by
   simp only[List.cons_append,List.length_cons] at h hl;exact DI ps (HQ h (by omega)) (by omega)
theorem xK:∀ (ps:List Int) (a:Ar),(pN a ps).cap=a.cap
 | [],_=>rfl
 | n::ps,a=>by
   rw[pN,xK ps];unfold b8
   split
   ·rfl
   ·split<;>rfl
theorem vE (l:List Pg):∀ (k:Nat) (n:Int),eO (ju l k n) l 0<0\/∀ i:Nat,i<k->n+i∈l.map (·.num)
 | 0,n=> .inr fun i hi=>by omega
 | k+1,n=>by
   rw[ju]
   split
   ·rename_i h;exact .inl h
   ·rename_i h;rcases vE l k (n+1) with g|g
    ·exact .inl g
    ·refine .inr fun i hi=>?_;cases i with
     | zero=>simpa using wG h
     | succ i=>have:=g i (by omega);rwa [show n+((i+1:Nat):Int)=n+1+i by omega]
theorem xI (l:List Pg):∀ p∈l,p.num≠gO l:=by
 have h:eO (gO l) l 0<0:=by
  rcases vE l (l.length+1) 1 with h|h
  ·exact h
  ·have:=EX (l.length+1) (l.map (·.num)) fun i h1 h2=>by
    have:=h (i-1) (by omega)
    rwa [show (1:Int)+((i-1:Nat):Int)=i by omega] at this
   rw[dD] at this;omega
 rcases gb (gO l) l 0 with ⟨_,h2⟩|⟨j,p,h1,h2,h3,_⟩
 ·exact h2
 ·omega
theorem AO {l:List Pg} {x:Pg} (h:vL (l.map (·.num))) (hx:∀ p∈l,p.num≠x.num):vL ((tI x l).map (·.num)):=by
 unfold tI;have hj:=qs (fun k=>decide (x.num<(fh l k).num)) l.length;have hge:=HL (fun k=>decide (x.num<(fh l k).num)) l.length;have hlt:=HM (fun k=>decide (x.num<(fh l k).num)) l.length;generalize gx (fun k=>decide (x.num<(fh l k).num)) l.length=j at *;have az:∀ k:Nat,(hk:k<l.length)->fh l (k:Int)=l[k]:=fun k hk=>by simp[fh,rJ hk]
 have hA:∀ y∈l.take j,y.num<x.num:=fun y hy=>by
  cases j with
  | zero=>simp at hy
  | succ i=>
    have h1:=hlt i rfl;simp only[az i (by omega),Pk] at h1;obtain ⟨k,hk,rfl⟩:=RS.1 hy;rw[cw] at hk;rw[List.getElem_take];have h3:=hx l[i] (H9 _);by_cases hki:k=i
    ·subst hki;omega
    ·have h2:=pS h (x:=(l[k]).num) (y:=(l[i]).num) (by rw[wH,rJ (by omega)];rfl) (by rw[wH,rJ (by omega)];rfl) (show k<i by omega);omega
 have hB:∀ y∈l.drop j,x.num<y.num:=fun y hy=>by
  obtain ⟨k,hk,rfl⟩:=RS.1 hy;rw[bQ] at hk;have:=hge (j+k) (by omega) (by omega);simp only[az (j+k) (by omega),pP] at this
  rwa [List.getElem_drop]
 have h0:((l.take j).map (·.num)++(l.drop j).map (·.num)).Pairwise (· < ·):=by rw[<- vO,JX];exact h
 obtain ⟨g1,g2,g3⟩:=JF.1 h0;unfold fG vL;rw[lS,List.singleton_append,vO,fk];refine JF.2 ⟨g1,M9.2 ⟨fun y hy=>?_,g2⟩,fun a ha b hb=>?_⟩
 ·obtain ⟨q,hq,rfl⟩:=qu.1 hy;exact hB q hq
 ·rcases lp.1 hb with rfl|hb
  ·obtain ⟨q,hq,rfl⟩:=qu.1 ha;exact hA q hq
  ·exact g3 a ha b hb
theorem Bc {a:Ar} {L:List Int} {d:List Int} (h:B5 a L) (hd:d.length<=1024) (hc:(a.pages.length:Int)<a.cap):B5 (dH a d).1 ((dH a d).2.1::L)/\(dH a d).1.cap=a.cap/\(dH a d).1.pages.length=a.pages.length+1:=by
 have e:dH a d=(⟨a.cap,tI ⟨gO a.pages,1,d⟩ a.pages⟩,gO a.pages,0):=by rw[dH,aE (by omega),aE (by omega)]
 have hf:=xI a.pages
 have hfl:∀ m∈L,m≠gO a.pages:=fun m hm e=>by
  obtain ⟨q,hq,e2⟩:=qu.1 (h.mem m hm);exact hf q hq (by rw[e2,e])
 have hp:(tI ⟨gO a.pages,1,d⟩ a.pages).Perm (⟨gO a.pages,1,d⟩::a.pages):=rH _ _ _;rw[e];refine ⟨⟨AO h.pM hf,fun q hq=>?_,fun m hm=>?_⟩,rfl,by simpa using hp.length_eq⟩
 ·have KZ:q∈tI ⟨gO a.pages,1,d⟩ a.pages:=hq;rcases lp.1 (hp.mem_iff.1 KZ) with rfl|hq
  ·have:L.count (gO a.pages)=0:=List.count_eq_zero.2 fun hm=>hfl _ hm rfl;simp only[List.count_cons_self,this];omega
  ·have:=h.refs q hq;rw[List.count_cons_of_ne (fun e=>hf q hq e.symm)];exact this
 ·have hmp:=(hp.map (·.num)).mem_iff (a:=m);simp only[fk,lp] at hmp;refine hmp.2 ?_;rcases lp.1 hm with rfl|hm
  ·exact .inl rfl
  ·exact .inr (h.mem m hm)
theorem sx:∀ (l:List (List Int)) {a:Ar} {L:List Int},B5 a L->(∀ d∈l,d.length<=1024)->(a.pages.length:Int)+l.length<=a.cap->B5 (eZ a l).1 (L++(eZ a l).2)/\(eZ a l).1.cap=a.cap
 | [],a,L,h,_,_=>by simpa[eZ] using h
 | d::l,a,L,h,hd,hc=>by
   rw[List.length_cons] at hc;obtain ⟨h1,h2,h3⟩:=Bc h (hd d (by simp)) (by omega);obtain ⟨g1,g2⟩:=sx l h1 (fun x hx=>hd x (by simp[hx])) (by omega);rw[eZ];refine ⟨g1.perm ?_,by rw[g2,h2]⟩;rw[List.cons_append];exact List.perm_middle.symm
theorem tJ (a:Ar) (n:Int):(dZ a n).1.cap=a.cap:=by unfold dZ;split<;>rfl
theorem Et:∀ l:List Bool,0<=gj l
 | []=>Nd _
 | b::l=>by have:=Et l;rw[gj];split<;>omega
theorem tK (f:Int->List Int):∀ (l:List (List Int)) {a:Ar} {L o:List Int},B5 a L->(∀ n∈o,n∈L)->(∀ d∈l,d.length<=1024)->(a.pages.length:Int)+gj (bB (o.map f) l)<=a.cap->L.length+l.length<=800000->
  B5 (iT a l (bB (o.map f) l) o).1 (L++(iT a l (bB (o.map f) l) o).2)/\(iT a l (bB (o.map f) l) o).1.cap=a.cap
 | [],a,L,o,h,_,_,_,_=>by
   have e:bB (o.map f) []=[]:=by cases o<;>rfl
   rw[e];simpa[iT] using h
 | d::l,a,L,o,h,ho,hd,hc,hl=>by
   have key:∀ (b:Bool) (o':List Int),bB (o.map f) (d::l)=b::bB (o'.map f) l->o.tail=o'->(b=true->o.headD 0∈L)->(∀ n∈o',n∈L)->
     B5 (iT a (d::l) (bB (o.map f) (d::l)) o).1 (L++(iT a (d::l) (bB (o.map f) (d::l)) o).2)/\(iT a (d::l) (bB (o.map f) (d::l)) o).1.cap=a.cap:=fun b o' e1 e2 hb ho'=>by
    rw[e1] at hc ⊢;simp only[List.length_cons] at hl;rw[gj] at hc;rw[iT,e2];cases b with
    | true=>
      rw[bC rfl] at hc ⊢;have h1:=Mb h (hb rfl) (by omega);obtain ⟨g1,g2⟩:=tK f l h1 (o:=o') (fun n hn=>HZ _ (ho' n hn)) (fun x hx=>hd x (by simp[hx])) (by rw[Er,tJ];exact hc) (by simp only[List.length_cons];omega);refine ⟨g1.perm ?_,by rw[g2,tJ]⟩;rw[List.cons_append];exact List.perm_middle.symm
    | false=>
      have R3:=Et (bB (o'.map f) l);rw[aE (by decide)] at hc ⊢;obtain ⟨h1,h2,h3⟩:=Bc h (hd d (by simp)) (by omega);obtain ⟨g1,g2⟩:=tK f l h1 (o:=o') (fun n hn=>HZ _ (ho' n hn)) (fun x hx=>hd x (by simp[hx])) (by rw[h2];omega) (by simp only[List.length_cons];omega);refine ⟨g1.perm ?_,by rw[g2,h2]⟩;rw[List.cons_append];exact List.perm_middle.symm
   cases o with
   | nil=>exact key false [] rfl rfl (fun e=>by cases e) ho
   | cons n o=>exact key (decide (f n=d)) o rfl rfl (fun _=>ho n (by simp)) fun m hm=>ho m (by simp[hm])
structure ER (l:List fE):Prop where
 range:∀ v∈l,1<=v.from_/\0<=v.to/\0<=v.size/\(v.to≠0->v.from_<v.to)
 pM:l.Pairwise (fun a b=>a.to≠0/\a.to<=b.from_)
theorem ER.tail {v:fE} {l:List fE} (h:ER (v::l)):ER l/\∀ q∈l,v.to≠0/\v.to<=q.from_:=by
 have:=h.pM;rw[M9] at this;exact ⟨⟨fun q hq=>h.range q (HZ _ hq),this.2⟩,this.1⟩
theorem uS:∀ (l:List fE) (prev:Option fE),ER l->(∀ q,prev=some q->∀ v∈l,q.to≠0/\q.to<=v.from_)->er prev l=0
 | [],_,_,_=>rfl
 | v::l,prev,ok,h=>by
   obtain ⟨JK,hab⟩:=ok.tail;have hr:=ok.range v (by simp);have:=uS l (some v) JK (fun q e=>by cases e;exact hab);unfold er;rw[aE (by omega),aE (by omega)];cases prev with
   | none=>simpa using this
   | some q=>
     have:=h q rfl v (by simp);simp only;rw[aE (by omega)];assumption
theorem ER.sub {l m:List fE} (h:ER l) (hs:m.Sublist l):ER m:=⟨fun v hv=>h.range v (hs.subset hv),h.pM.sublist hs⟩
def lf (u:fE) (f:Int):fE:=if u.to=0 then { u with to:=f } else u
theorem yo (u:fE) (f:Int) (h1:u.from_<f) (h2:u.to<=f) (h3:u.to≠0->u.from_<u.to) (h4:0<=u.to) (h5:1<=u.from_):(lf u f).from_=u.from_/\(lf u f).to≠0/\(lf u f).to<=f/\u.from_<(lf u f).to/\(lf u f).size=u.size/\(lf u f).pages=u.pages:=by
 unfold lf;split
 ·exact ⟨rfl,by simp only;omega,by simp,h1,rfl,rfl⟩
 ·exact ⟨rfl,by assumption,h2,h3 (by assumption),rfl,rfl⟩
theorem HR {pre:List fE} {u:fE} {f s:Int} {p:List Int} (ok:ER (pre++[u])) (h1:u.from_<f) (h2:u.to<=f) (hs:0<=s) (h0:1<=f):ER (pre++[lf u f]++[⟨f,0,s,p⟩]):=by
 have hu:=ok.range u (by simp);obtain ⟨a1,a2,a3⟩:=JF.1 ok.pM;have hU:=yo u f h1 h2 hu.2.2.2 hu.2.1 hu.1;refine ⟨fun v hv=>?_,?_⟩
 ·simp only[lU,rG] at hv;rcases hv with (hv|rfl)|rfl
  ·exact ok.range v (by simp[hv])
  ·omega
  ·simp only;omega
 ·rw[JF,JF];refine ⟨⟨a1,by simp,fun a ha b hb=>?_⟩,by simp,fun a ha b hb=>?_⟩
  ·simp only[rG] at hb;subst hb;have:=a3 a ha u (by simp);exact ⟨this.1,by rw[hU.1];exact this.2⟩
  ·simp only[rG] at hb;subst hb;simp only[lU,rG] at ha;rcases ha with ha|rfl
   ·have:=a3 a ha u (by simp);exact ⟨this.1,by simp only;omega⟩
   ·exact ⟨hU.2.1,hU.2.2.1⟩
theorem vu {pre:List fE} {u:fE} {f s:Int} {p:List Int} (ok:ER (pre++[u])) (h1:u.from_<f) (h2:u.to<=f) (hs:0<=s):cQ (pre++[u]) ⟨f,0,s,p⟩=(pre++[lf u f]++[⟨f,0,s,p⟩],0):=by
 have hz:er none (pre++[u])=0:=uS _ none ok (by simp);have hu:=ok.range u (by simp);have hg:(pre++[u])[(pre++[u]).length-1]? = some u:=by simp
 unfold cQ;rw[hz,aE (by simp),aE (by simp only;omega),hg];simp only;rw[aE (by omega)];unfold lf
 split
 ·simp
 ·rfl
theorem Gi {pre:List fE} {u:fE} {c:Int} (ok:ER (pre++[u])) (h1:u.from_<c) (h2:u.to=0):dW (pre++[u]) c=(pre++[lf u c],0):=by
 have hz:er none (pre++[u])=0:=uS _ none ok (by simp);have hg:(pre++[u])[(pre++[u]).length-1]? = some u:=by simp
 unfold dW lf;rw[hz,aE (by simp),hg];simp only;rw[aE (by omega),aE (by omega),bC h2];simp
theorem sv {l:List fE} {k:Nat} {v:fE} (h:l[k]? = some v):∃ pre u,l=pre++[u]:=by
 have hne:l≠[]:=fun e=>by subst e;simp at h
 exact ⟨l.dropLast,l.getLast hne,(List.dropLast_concat_getLast hne).symm⟩
theorem nR {l:List Ob} {j:Nat} {o:Ob} (h:l[j]? = some o):∃ A B,l=A++o::B/\A.length=j/\(∀ x,l.set j x=A++x::B)/\ic l (j:Int)=A++B:=by
 have hj:=(jL.1 h).1;have hA:(l.take j).length=j:=by rw[cw];omega
 have e:l=l.take j++o::l.drop (j+1):=by rw[<- aH h,JX]
 refine ⟨l.take j,l.drop (j+1),e,hA,fun x=>?_,rfl⟩
 conv=>lhs;rw[e]
 rw[Ph _ _ (by omega),hA,JC];rfl
theorem nT (l m:List fE):ia (l++m)=ia l++ia m:=by simp[ia]
theorem mD (l m:List Ob):gp (l++m)=gp l++gp m:=by simp[gp]
theorem nS (o:Ob) (m:List Ob):gp (o::m)=ia o.bu++gp m:=by simp[gp]
theorem Eu (pre:List fE) (u:fE) (f:Int):ia (pre++[lf u f])=ia (pre++[u]):=by
 rw[nT,nT]
 congr 1
 unfold lf;split<;>simp[ia]
structure wC (s:Sr):Prop where
 ids:vL (s.objs.map (·.id))
 Qd:∀ o∈s.objs,1<=o.id/\o.id<=s.last
 ok:∀ o∈s.objs,ER o.bu
 com:∀ o∈s.objs,∀ v∈o.bu,v.from_<=s.commit/\v.to<=s.commit
 ar:B5 s.ar (gp s.objs)
 cap:s.ar.cap=s.c.nu
theorem BZ {α β:Type} (f:α->List β) (k:Nat):∀ (l:List α),(∀ x∈l,(f x).length<=k)->(l.flatMap f).length<=k*l.length
 | [],_=>iU _
 | x::l,h=>by
   have h1:=BZ f k l fun y hy=>h y (by simp[hy]);have h2:=h x (by simp);rw[RU,bW,List.length_cons,Nat.mul_add];omega
theorem wC.U0 {s:Sr} {i:Nat} {j:Nat} {o:Ob} {vs:List fE} {ps:List Int} {a:Ar} {com:Int} {s':Sr} (h:wC s) (hj:s.objs[j]? = some o) (hok:ER vs) (Fh:s.commit<=com) (hv:∀ v∈vs,v.from_<=com/\v.to<=com) (hp:(ia o.bu++ps).Perm (ia vs)) (ha:B5 a (gp s.objs++ps)) (hc:a.cap=s.ar.cap)
  (e1:s'.objs=dz s.objs (j:Int) vs) (e2:s'.commit=com) (e3:s'.last=s.last) (e4:s'.ar=a) (e5:s'.c=s.c):wC s':=by
 obtain ⟨A,B,hl,hA,aG,_⟩:=nR hj;have zZ:dm s.objs (j:Int)=o:=by simp[dm,hj]
 have XV:s'.objs=A++⟨o.id,vs⟩::B:=by rw[e1,dz,zZ,Int.toNat_natCast,aG]
 have hmem:∀ x∈s'.objs,x∈s.objs\/x=⟨o.id,vs⟩:=fun x hx=>by
  rw[XV] at hx;rw[hl];simp only[lU,lp] at hx ⊢;rcases hx with hx|hx|hx
  ·exact .inl (.inl hx)
  ·exact .inr hx
  ·exact .inl (.inr (.inr hx))
 have ho:o∈s.objs:=fS hj;refine ⟨?_,fun x hx=>?_,fun x hx=>?_,fun x hx=>?_,?_,by rw[e4,e5,hc];exact h.cap⟩
 ·have:=h.ids;rw[hl] at this;rw[XV];simpa using this
 ·rw[e3];rcases hmem x hx with hx|rfl
  ·exact h.Qd x hx
  ·exact h.Qd o ho
 ·rcases hmem x hx with hx|rfl
  ·exact h.ok x hx
  ·exact hok
 ·rw[e2];rcases hmem x hx with hx|rfl
  ·intro v hv;have:=h.com x hx v hv;omega
  ·exact hv
 ·rw[e4,XV];refine ha.perm ?_;rw[hl,mD,nS,mD,nS,lS];refine List.Perm.append_left _ ?_
  have h1:(ia o.bu++gp B++ps).Perm (ia o.bu++ps++gp B):=by
   rw[lS,lS];exact List.Perm.append_left _ SF
  exact h1.trans (hp.append_right _)
theorem uO {s:Sr} {n:ByteArray} {c:Int} (h:(fR s n c).2.2=true):∃ (j k:Nat) (o:Ob) (v:fE),s.objs[j]? = some o/\o.bu[k]? = some v/\mg v.from_ v.to c=true/\fR s n c=((j:Int),v,true):=by
 rcases gN s n c with ⟨e,_⟩|⟨j,k,o,v,h1,q1,q2,q3,q4,q5,q6,e⟩
 ·rw[e] at h;cases h
 ·refine ⟨j,k,o,v,q1,q4,?_,e⟩
  have:∀ (l:List fE) (i m:Nat),ga c l i=(((i+m:Nat):Int),true)->∀ u,l[m]? = some u->mg u.from_ u.to c=true:=by
   intro l
   induction l with
   | nil=>intro i m _ u hu;simp at hu
   | cons w l ih=>
     intro i m hf u hu;rw[ga] at hf
     split at hf
     ·rename_i hw;injection hf with pI _
      have:m=0:=by omega
      subst this;simp only[dJ,fF] at hu;subst hu;exact hw
     ·cases m with
      | zero=>
        exfalso;rcases m0 c l (i+1) with g|⟨k',u',g1,g2⟩
        ·rw[g] at hf;injection hf with _ mK;cases mK
        ·rw[g2] at hf;injection hf with pI _;omega
      | succ m=>
        exact ih (i+1) m (by rw[hf];congr 2;omega) u (by simpa using hu)
  exact this o.bu 0 k (by rw[q6,kO]) v q4
theorem Jk {pre:List fE} {u v:fE} {c:Int} (ok:ER (pre++[u])) (hc:∀ w∈pre++[u],w.from_<=c/\w.to<=c) (hm:v∈pre++[u]) (hh:mg v.from_ v.to c=true):v=u/\u.to=0:=by
 have h1:=hc v hm;have hr:=ok.range v hm
 have h0:v.to=0:=by
  simp only[mg,jl,vN,pP] at hh;omega
 rcases lU.1 hm with hm|hm
 ·obtain ⟨_,_,a3⟩:=JF.1 ok.pM;have:=(a3 v hm u (by simp)).1;omega
 ·have:=rG.1 hm;subst this;exact ⟨rfl,h0⟩
theorem OG {i:Nat} {s:Sr} {m:ByteArray} {n:Int} (h:wC s) (hb:wD i s):wC (cR s m (aO n)).1:=by
 have hsp:=nV n s.c.fD;unfold cR
 split
 ·exact h
 ·split
  ·exact h
  ·split
   ·exact h
   ·split
    ·exact h
    ·rename_i lF;simp only[vM,Int.not_le,Int.not_lt] at lF;obtain ⟨g1,g2⟩:=sx (aR (aO n) s.c.fD).1 h.ar (fun d hd=>(hsp.2 d hd).1) (by rw[h.cap];omega);have Fh:=hb.hc;have hla:=hb.hl;refine ⟨?_,fun o ho=>?_,fun o ho=>?_,fun o ho v hv=>?_,?_,?_⟩
     ·simp only[vO,fk,eM];refine JF.2 ⟨h.ids,Vl _ _,fun a ha b hb=>?_⟩;obtain ⟨o,ho,rfl⟩:=qu.1 ha;rw[rG] at hb;have:=(h.Qd o ho).2;omega
     ·rcases lU.1 ho with ho|ho
      ·have:=h.Qd o ho;exact ⟨this.1,by simp only;omega⟩
      ·rw[rG.1 ho];simp only;omega
     ·rcases lU.1 ho with ho|ho
      ·exact h.ok o ho
      ·rw[rG.1 ho];refine ⟨fun v hv=>?_,Vl _ _⟩;rw[rG.1 hv];simp only;omega
     ·rcases lU.1 ho with ho|ho
      ·have:=h.com o ho v hv;simp only;omega
      ·rw[rG.1 ho] at hv;rw[rG.1 hv];simp only;omega
     ·simp only;refine g1.perm ?_;rw[mD];exact List.Perm.append_left _ (by simp[gp,ia])
     ·simp only;rw[g2];exact h.cap
theorem XK {i:Nat} {s:Sr} {m:ByteArray} {n:Int} (h:wC s) (hb:wD i s) (j8:(gp s.objs).length<=10309):wC (ji s m (aO n)).1:=by
 have hsp:=nV n s.c.fD;have rY:=(gy n).1;unfold ji
 split
 ·exact h
 ·split
  ·exact h
  ·rename_i _ hv;obtain ⟨j,k,o,v,hj,hk,hh,e⟩:=uO (by simpa using hv);rw[e];simp only
   split
   ·exact h
   ·rename_i lF;simp only[vM,Int.not_le,Int.not_lt] at lF;have ho:=fS hj;have Qj:=fS hk;have XW:∀ z∈v.pages,z∈gp s.objs:=fun z hz=>MF.2 ⟨o,ho,MF.2 ⟨v,Qj,hz⟩⟩;obtain ⟨g1,g2⟩:=tK (fun z=>(eG s.ar z).1) (aR (aO n) s.c.fD).1 h.ar XW (fun d hd=>(hsp.2 d hd).1) (by rw[h.cap];simp only[bh] at lF;omega) (by have:=hsp.1;omega);have zZ:dm s.objs (j:Int)=o:=by simp[dm,hj]
    have Fh:=hb.hc;obtain ⟨pre,u,JI⟩:=sv hk;have hok:=h.ok o ho;have L4:=h.com o ho;rw[JI] at hok L4;have VE:=L4 u (by simp);rw[zZ];simp only[bh];generalize iT s.ar (aR (aO n) s.c.fD).1 (bB (v.pages.map fun z=>(eG s.ar z).1) (aR (aO n) s.c.fD).1) v.pages=P at *
    have e2:cQ o.bu ⟨s.commit+1,0,(aO n).length,P.2⟩=(pre++[lf u (s.commit+1)]++[⟨s.commit+1,0,(aO n).length,P.2⟩],0):=by
     rw[JI];exact vu hok (by omega) (by omega) (by omega)
    rw[e2];refine wC.U0 (i:=i) (s:=s) h hj (HR (p:=P.2) (s:=(aO n).length) hok (f:=s.commit+1) (by omega) (by omega) (by omega) (by omega)) (com:=s.commit+1) (by omega) (fun w hw=>?_) (ps:=P.2) ?_ g1 g2 rfl rfl rfl rfl rfl
    ·have RI:=hok.range u (by simp);have hU:=yo u (s.commit+1) (by omega) (by omega) RI.2.2.2 RI.2.1 RI.1;simp only[lU,rG] at hw;rcases hw with (hw|rfl)|rfl
     ·have:=L4 w (by simp[hw]);omega
     ·rw[hU.1];omega
     ·simp only;omega
    ·rw[nT,Eu,JI];simp[ia]
theorem U1 {i:Nat} {s:Sr} {m:ByteArray} (h:wC s) (hb:wD i s):wC (gq s m).1:=by
 unfold gq
 split
 ·exact h
 ·rename_i hv;obtain ⟨j,k,o,v,hj,hk,hh,e⟩:=uO (by simpa using hv);rw[e];simp only
  split
  ·exact h
  ·have ho:=fS hj;have Qj:=fS hk;have zZ:dm s.objs (j:Int)=o:=by simp[dm,hj]
   have Fh:=hb.hc;obtain ⟨pre,u,JI⟩:=sv hk;have hok:=h.ok o ho;have L4:=h.com o ho;rw[JI] at hok L4 Qj;have VE:=L4 u (by simp);obtain ⟨_,Z8⟩:=Jk hok L4 Qj hh;have RI:=hok.range u (by simp);have hU:=yo u (s.commit+1) (by omega) (by omega) RI.2.2.2 RI.2.1 RI.1;rw[zZ,JI,Gi hok (by omega) Z8];have hk2:ER (pre++[lf u (s.commit+1)]):=(HR (p:=[]) (s:=0) hok (f:=s.commit+1) (by omega) (by omega) (by omega) (by omega)).sub (List.sublist_append_left _ _);refine wC.U0 (i:=i) (s:=s) h hj hk2 (com:=s.commit+1) (by omega) (fun w hw=>?_) (ps:=[]) ?_ (by simpa using h.ar) rfl rfl rfl rfl rfl rfl
   ·simp only[lU,rG] at hw;rcases hw with hw|rfl
    ·have:=L4 w (by simp[hw]);omega
    ·rw[hU.1];omega
   ·rw[Eu,JI];simp
theorem HS {s s':Sr} (h:wC s) (e1:s'.objs=s.objs) (e2:s.commit<=s'.commit) (e3:s'.last=s.last) (e4:s'.ar=s.ar) (e5:s'.c=s.c):wC s':=
 ⟨by rw[e1];exact h.ids,by rw[e1,e3];exact h.Qd,by rw[e1];exact h.ok,fun o ho v hv=>by rw[e1] at ho;have:=h.com o ho v hv;omega,by rw[e1,e4];exact h.ar,by rw[e4,e5];exact h.cap⟩
theorem renameI {s:Sr} {m k:ByteArray} (h:wC s):wC (bY s m k).1:=by
 unfold bY
 repeat' split
 all_goals exact HS h rfl (by simp only;omega) rfl rfl rfl
theorem XX {s:Sr} {c:Int} (h:wC s):wC (ja s c).1:=by
 unfold ja
 repeat' split
 all_goals exact HS h rfl (by simp only;omega) rfl rfl rfl
theorem RJ {s:Sr} {c:Int} (h:wC s):wC (gW s c).1:=by
 unfold gW
 repeat' split
 all_goals exact HS h rfl (by simp only;omega) rfl rfl rfl
end Go.Proofs.YteemiclhnfkekaaGreat
