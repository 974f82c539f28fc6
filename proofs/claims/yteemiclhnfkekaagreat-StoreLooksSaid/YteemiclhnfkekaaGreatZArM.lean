/- Arena: its pages as a map of boxes (plain). -/
import Derived.Test.YteemiclhnfkekaaGreatZCoR
set_option linter.unusedSimpArgs false
set_option linter.unusedVariables false
namespace Go.Proofs.YteemiclhnfkekaaGreat
open Go.RowKit Go.eB
def EZ (p:Pg):Value×List D:=(.int .i64 p.num,[.sc (.int .i64 p.num), .sc (.int .i64 p.refs), .sl 1 (p.data.map cF)])
def c9 (l:List Pg):List (Value×List D):=l.map EZ
theorem M0:dR (c9 [])=[]:=rfl
theorem bS {l:List Pg}:(c9 l).length=l.length:=by simp[c9]
theorem H6 {l:List Pg} {i:Nat} {p:Pg} (h:l[i]? = some p):(c9 l)[i]? = some (EZ p):=by simp[c9,h]
theorem zK {l:List Pg} {i:Nat} {p:Pg}:(c9 l).set i (EZ p)=c9 (l.set i p):=by simp[c9,qN]
theorem EW {l:List Pg} {p:Pg}:c9 l++[EZ p]=c9 (l++[p]):=by simp[c9]
theorem bD:∀ {l:List Pg} {i:Nat},(c9 l).eraseIdx i=c9 (l.eraseIdx i)
 | [],_=>rfl
 | p::l,0=>rfl
 | p::l,i+1=>by
   show EZ p::(c9 l).eraseIdx i=EZ p::c9 (l.eraseIdx i);rw[bD (l:=l) (i:=i)]
theorem Cs {α:Type} {l:List α} {j:Nat} {x:α} (h:l[j]? = some x):l.set j x=l:=by
 refine MD fun i=>?_;rw[List.getElem?_set]
 split
 ·rename_i e;subst e;rw[bC (jM.1 h).1,h]
 ·rfl
theorem E0 {a b:Int}:oa (.int .i64 a) (.int .i64 b)=decide (a=b):=by
 show (a==b)=_;by_cases h:a=b<;>simp[h]
theorem Bs {n:Int}:∀ {l:List Pg} (k:Nat),(eP n l k = -1->wM (.int .i64 n) (c9 l)=none)/\(∀ j:Nat,eP n l k=((k+j:Nat):Int)->wM (.int .i64 n) (c9 l)=some j)
 | [],k=>⟨fun _=>rfl,fun j h=>by rw[eP] at h;omega⟩
 | p::l,k=>by
   obtain ⟨i1,i2⟩:=Bs (n:=n) (l:=l) (k+1);have e:wM (.int .i64 n) (c9 (p::l))=if oa (.int .i64 p.num) (.int .i64 n)=true then some 0 else (wM (.int .i64 n) (c9 l)).map (· + 1):=rfl;rw[e,E0,eP];by_cases hc:p.num=n
   ·rw[bC hc,bC (by simpa using hc)];exact ⟨fun h=>by omega,fun j h=>by rw[show j=0 by omega]⟩
   ·rw[aE hc,aE (by simpa using hc)];refine ⟨fun h=>by rw[i1 h];rfl,fun j h=>?_⟩;rcases gb n l (k+1) with ⟨h1,_⟩|⟨i,q,h1,h2,h3,_⟩
    ·omega
    ·have:=i2 i h3;rw[this,show j=i+1 by omega];rfl
theorem mN {α:Type} (l:List α) (j:Nat):ic l (j:Int)=l.eraseIdx j:=by
 rw[ic,Int.toNat_natCast,List.eraseIdx_eq_take_drop_succ]
theorem uU (n:Int) (l:List Pg):(eP n l 0 = -1/\wM (.int .i64 n) (c9 l)=none)\/∃ (j:Nat) (p:Pg),l[j]? = some p/\j<l.length/\eP n l 0=(j:Int)/\fh l (eP n l 0)=p/\p.num=n/\wM (.int .i64 n) (c9 l)=some j/\
  (c9 l)[j]? = some (.int .i64 n,[.sc (.int .i64 n), .sc (.int .i64 p.refs), .sl 1 (p.data.map cF)]):=by
 rcases gb n l 0 with ⟨h,_⟩|⟨j,p,h1,h2,h3,_⟩
 ·exact .inl ⟨h,(Bs 0).1 h⟩
 ·have h4:=(Bs (n:=n) (l:=l) 0).2 j h3;rw[kO] at h3;exact .inr ⟨j,p,h1,(jM.1 h1).1,h3,by simp[fh,h3,h1],h2,h4,by rw[H6 h1,EZ,h2]⟩
structure tT (l:List Pg) (a:Ar):Prop where
 perm:l.Perm a.pages
 pG:vO (a.pages.map (·.num))
theorem oc {l:List Pg} (h:vO (l.map (·.num))):(l.map (·.num)).Nodup:=h.imp fun {a b} hab=>by omega
theorem tT.nodup {l:List Pg} {a:Ar} (h:tT l a):(l.map (·.num)).Nodup:=(h.perm.map _).nodup_iff.2 (oc h.pG)
theorem Cx (n:Int) (l:List Pg):eP n l 0<0↔∀ p∈l,p.num≠n:=by
 rcases gb n l 0 with ⟨h1,h2⟩|⟨j,p,h1,h2,h3,_⟩
 ·exact ⟨fun _=>h2,fun _=>by omega⟩
 ·exact ⟨fun h=>by omega,fun h=>absurd h2 (h p (fS h1))⟩
theorem zM {n:Int} {l m:List Pg} (h:l.Perm m):(eP n l 0<0)=(eP n m 0<0):=by
 rw[Cx,Cx];exact propext ⟨fun q p hp=>q p (h.mem_iff.2 hp),fun q p hp=>q p (h.mem_iff.1 hp)⟩
theorem wN {l m:List Pg} (h:l.Perm m):gO l=gO m:=by
 have key:∀ k n,ju l k n=ju m k n:=by
  intro k
  induction k with
  | zero=>intro n;rfl
  | succ k ih=>
    intro n;rw[ju,ju,ih];by_cases hq:eP n l 0<0
    ·rw[bC hq,bC (by rw[<- zM h];exact hq)]
    ·rw[aE hq,aE (by rw[<- zM h];exact hq)]
 unfold gO;rw[h.length_eq,key]
def sL (n r:Int) (l:List Pg):List Pg:=l.map fun p=>if p.num=n then ⟨p.num,r,p.data⟩ else p
theorem wO {n r:Int} {l m:List Pg} (h:l.Perm m):(sL n r l).Perm (sL n r m):=h.map _
theorem zN {n r:Int} {l:List Pg}:(sL n r l).map (·.num)=l.map (·.num):=by
 unfold sL;rw[H7];refine Pe fun p _=>?_;simp only[Function.comp]
 split<;>rfl
theorem wP {n r:Int}:∀ {l:List Pg},(∀ p∈l,p.num≠n)->sL n r l=l
 | [],_=>rfl
 | p::l,h=>by
   show (if p.num=n then _ else p)::sL n r l=_;rw[aE (h p (by simp)),wP fun q hq=>h q (by simp[hq])]
theorem nA {r:Int}:∀ {l:List Pg} {j:Nat} {p:Pg},(l.map (·.num)).Nodup->l[j]? = some p->l.set j ⟨p.num,r,p.data⟩=sL p.num r l
 | [],_,_,_,h=>by simp at h
 | q::l,0,p,hn,h=>by
   simp only[dJ,fD] at h;subst h;rw[fk,M4] at hn;show _::l=(if q.num=q.num then _ else q)::sL q.num r l;rw[bC rfl,wP fun x hx e=>hn.1 (qq.2 ⟨x,hx,e⟩)]
 | q::l,j+1,p,hn,h=>by
   rw[fk,M4] at hn;have hp:l[j]? = some p:=by simpa using h
   show q::l.set j _=(if q.num=p.num then _ else q)::sL p.num r l;rw[aE fun e=>hn.1 (qq.2 ⟨p,fS hp,e.symm⟩),nA hn.2 hp]
def uX (n:Int) (l:List Pg):List Pg:=l.filter fun p=> !decide (p.num=n)
theorem E1 {n:Int} {l:List Pg} (h:∀ p∈l,p.num≠n):uX n l=l:=List.filter_eq_self.2 fun p hp=>by simp[h p hp]
theorem E2 {n:Int} {l m:List Pg} (h:l.Perm m):(uX n l).Perm (uX n m):=h.filter _
theorem tX:∀ {l:List Pg} {j:Nat} {p:Pg},(l.map (·.num)).Nodup->l[j]? = some p->l.eraseIdx j=uX p.num l
 | [],_,_,_,h=>by simp at h
 | q::l,0,p,hn,h=>by
   simp only[dJ,fD] at h;subst h;rw[fk,M4] at hn;show l=uX q.num (q::l);unfold uX;rw[List.filter_cons_of_neg (by simp)];exact (E1 fun x hx e=>hn.1 (qq.2 ⟨x,hx,e⟩)).symm
 | q::l,j+1,p,hn,h=>by
   rw[fk,M4] at hn;have hp:l[j]? = some p:=by simpa using h
   show q::l.eraseIdx j=uX p.num (q::l);rw[tX hn.2 hp];unfold uX;rw[List.filter_cons_of_pos (by simpa using fun e=>hn.1 (qq.2 ⟨p,fS hp,e.symm⟩))]
def tY (cap:Int) (l:List Pg) (d:List Int):List Pg×Int×Int:=
 if 1024<(d.length:Int) then (l,0,11) else if cap<=(l.length:Int) then (l,0,14) else (l++[⟨gO l,1,d⟩],gO l,0)
theorem E3 {l:List Pg} {a:Ar} {d:List Int} (h:tT l a):tT (tY a.cap l d).1 (dG a d).1/\(tY a.cap l d).2=(dG a d).2/\(dG a d).1.cap=a.cap:=by
 unfold tY dG;rw[h.perm.length_eq]
 split
 ·exact ⟨h,rfl,rfl⟩
 ·split
  ·exact ⟨h,rfl,rfl⟩
  ·have hf:=wQ a.pages;refine ⟨⟨?_,zO h.pG hf⟩,by rw[wN h.perm],rfl⟩;rw[wN h.perm];refine List.Perm.trans ?_ (rE _ _ _).symm;exact (h.perm.append_right _).trans Sv
theorem M5 {l:List Pg} {i j:Nat} {x y:Pg} (h:(l.map (·.num)).Nodup) (hx:l[i]? = some x) (hy:l[j]? = some y) (e:x.num=y.num):i=j:=by
 have h1:(l.map (·.num))[i]? = some x.num:=by rw[wR,hx];rfl
 have h2:(l.map (·.num))[j]? = some x.num:=by rw[wR,hy,e];rfl
 obtain ⟨hi,e1⟩:=jM.1 h1;obtain ⟨hj,e2⟩:=jM.1 h2;exact (List.getElem_inj h).1 (e1.trans e2.symm)
theorem H8 {l:List Pg} {a:Ar} {n:Int} (h:tT l a):((∀ p∈l,p.num≠n)/\eP n a.pages 0 = -1)\/∃ (i j:Nat) (p:Pg),l[i]? = some p/\a.pages[j]? = some p/\p.num=n/\eP n a.pages 0=(j:Int)/\fh a.pages (j:Int)=p:=by
 rcases gb n a.pages 0 with ⟨h1,h2⟩|⟨j,p,h1,h2,h3,_⟩
 ·exact .inl ⟨fun p hp=>h2 p (h.perm.mem_iff.1 hp),h1⟩
 ·obtain ⟨i,hi⟩:=JD.1 (h.perm.mem_iff.2 (fS h1));exact .inr ⟨i,j,p,hi,h1,h2,by rw[h3];simp,by simp[fh,h1]⟩
theorem H9 {l:List Pg} {a:Ar} {n:Int} {i j:Nat} {p:Pg} (h:tT l a) (h1:l[i]? = some p) (h2:a.pages[j]? = some p) (h3:p.num=n) (h4:eP n a.pages 0=(j:Int)) (h5:fh a.pages (j:Int)=p):
  tT (l.set i ⟨p.num,wr (p.refs+1),p.data⟩) (dZ a n).1/\(dZ a n).2=0/\(dZ a n).1.cap=a.cap:=by
 have e:dZ a n=(⟨a.cap,a.pages.set j ⟨p.num,wr (p.refs+1),p.data⟩⟩,0):=by
  unfold dZ gl;rw[aE (by omega),h4,h5,Int.toNat_natCast]
 rw[e,nA h.nodup h1,nA (oc h.pG) h2];exact ⟨⟨wO h.perm,by simp only;rw[zN];exact h.pG⟩,rfl,rfl⟩
theorem Bt {l:List Pg} {a:Ar} {n:Int} {i j:Nat} {p:Pg} (h:tT l a) (h1:l[i]? = some p) (h2:a.pages[j]? = some p) (h3:p.num=n) (h4:eP n a.pages 0=(j:Int)) (h5:fh a.pages (j:Int)=p):
  (0<wr (p.refs-1)->tT (l.set i ⟨p.num,wr (p.refs-1),p.data⟩) (bZ a n).1/\(bZ a n).2=(false,0))/\
  (¬ 0<wr (p.refs-1)->tT (l.eraseIdx i) (bZ a n).1/\(bZ a n).2=(true,0)):=by
 refine ⟨fun hq=>?_,fun hq=>?_⟩
 ·have e:bZ a n=(⟨a.cap,a.pages.set j ⟨p.num,wr (p.refs-1),p.data⟩⟩,false,0):=by
   simp only[bZ,gl];rw[aE (by omega),h4,h5,bC hq,Int.toNat_natCast]
  rw[e,nA h.nodup h1,nA (oc h.pG) h2];exact ⟨⟨wO h.perm,by simp only;rw[zN];exact h.pG⟩,rfl⟩
 ·have e:bZ a n=(⟨a.cap,ic a.pages (j:Int)⟩,true,0):=by
   simp only[bZ];rw[aE (by omega),h4,h5,aE hq]
  rw[e,mN,tX h.nodup h1,tX (oc h.pG) h2];refine ⟨⟨E2 h.perm,?_⟩,rfl⟩;exact h.pG.sublist ((List.filter_sublist).map _)
end Go.Proofs.YteemiclhnfkekaaGreat
