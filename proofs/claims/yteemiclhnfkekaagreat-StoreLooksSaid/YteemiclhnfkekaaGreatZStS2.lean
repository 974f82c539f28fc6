/- The store's invariants (plain), continued: Drop, Rename, Pin, Unpin, Prune, Remove. -/
import Derived.Test.YteemiclhnfkekaaGreatZDiT
set_option linter.unusedSimpArgs false
set_option linter.unusedVariables false
namespace Go.Proofs.YteemiclhnfkekaaGreat
open Go.RowKit Go.fe Tryz
theorem EB {i:Nat} {s:Sr} {m:ByteArray} (h:Inv i s):Inv (i+1) (gq s m).1:=by
 have hB:=L8 (m:=m) h.b;have hI:=U1 (m:=m) h.si h.b;rcases Ea s m with ⟨e,he⟩|⟨hv,_,he⟩
 ·rw[he];exact h.up
 rw[he] at hB hI ⊢;have hc:=h.b.hc;have hl:=h.b.hl
 have hmi:MI (bI s.binds m (s.commit+1)).1 (s.commit+1+1) (s.last+1):=by
  by_cases hz:(bI s.binds m (s.commit+1)).2=0
  ·obtain ⟨g1,g2,g3,g4⟩:=I3 h.mi hz;exact ⟨g1,g2,g3,by omega,by omega⟩
  ·rw[D3 hz];exact B0 (by omega) (by omega)
 rcases gN s m s.commit with ⟨e,_⟩|⟨j,k,o,v,q0,q1,q2,q3,q4,q5,q6,e⟩
 ·rw[e] at hv;cases hv
 rw[e] at hB hI ⊢;simp only at hB hI ⊢;have zZ:dm s.objs (j:Int)=o:=by simp[dm,q1]
 rw[zZ] at hB hI ⊢;obtain ⟨b0,hb0,hn0,hh0,X5⟩:=yb q0
 have hid:o.id=(b9 m s.commit s.binds).1:=by
  rcases jA (b9 m s.commit s.binds).1 s.objs 0 with ⟨g,_⟩|⟨j',p,g1,g2,g3,_⟩
  ·omega
  ·rw[q3] at g3;have:j'=j:=by omega
   subst this;rw[q1] at g1;cases g1;exact g2
 obtain ⟨A,B,a1,a2,a3⟩:=A5 (vs:=(dW o.bu (s.commit+1)).1) q1;refine ⟨hB,hI,?_,hmi,fun b hb h0=>?_,h.JL,fun p hp=>by have:=h.OE p hp;simp only;omega,h.cf⟩
 ·show ((dz s.objs (j:Int) _).flatMap jk).length<=_;refine J2 (D7 (k:=0) (by rw[zZ];exact F5 _ _)) ?_;have:=h.en;unfold gT at this;omega
 ·simp only[gT];obtain ⟨rY,hne⟩:=D8 h.mi hb h0;obtain ⟨x,hx,h1,h2⟩:=h.opn b rY h0;have X6:=hne b0 hb0 (h.mi.holds hb0 hh0) hn0;rw[a2];have hx':x∈A++jk o++B:=by rw[<- a1];exact hx
  simp only[lU] at hx';rcases hx' with (hx'|hx')|hx'
  ·exact ⟨x,by simp[hx'],h1,h2⟩
  ·obtain ⟨w,_,rfl⟩:=qu.1 hx';simp only at h1;exact absurd (X5.symm.trans (hid.symm.trans h1)) X6
  ·exact ⟨x,by simp[hx'],h1,h2⟩
theorem zI (s:Sr) (n m:ByteArray):(∃ e,bY s n m=(s,0,e))\/(bM m=true/\fK s n=true/\fK s m=false/\s.commit<s.c.com/\bY s n m=({ s with commit:=s.commit+1,binds:=(bH s.binds n m (s.commit+1)).1 },s.commit+1,0)):=by
 by_cases h1:bM m=false
 ·exact .inl ⟨6,by rw[bY,bC h1]⟩
 by_cases h2:fK s n=false
 ·exact .inl ⟨8,by rw[bY,aE h1,bC h2]⟩
 by_cases h3:fK s m=true
 ·exact .inl ⟨9,by rw[bY,aE h1,aE h2,bC h3]⟩
 by_cases h4:s.c.com<=s.commit
 ·exact .inl ⟨14,by rw[bY,aE h1,aE h2,aE h3,bC h4]⟩
 exact .inr ⟨by simpa using h1,by simpa using h2,by simpa using h3,by omega,by rw[bY,aE h1,aE h2,aE h3,aE h4]⟩
theorem yG {i:Nat} {s:Sr} {n m:ByteArray} (h:Inv i s):Inv (i+1) (bY s n m).1:=by
 have hB:=Gh (m:=n) (k:=m) h.b;have hI:=renameI (m:=n) (k:=m) h.si;rcases zI s n m with ⟨e,he⟩|⟨_,_,_,_,he⟩
 ·rw[he];exact h.up
 rw[he] at hB hI ⊢;have hc:=h.b.hc;have hl:=h.b.hl;refine ⟨hB,hI,by have:=h.en;simp only[gT] at this ⊢;omega,?_,fun b hb h0=>?_,h.JL,fun p hp=>by have:=h.OE p hp;simp only;omega,h.cf⟩
 ·simp only;by_cases hz:(bH s.binds n m (s.commit+1)).2=0
  ·obtain ⟨g1,g2,g3,g4⟩:=I4 h.mi hz;exact ⟨g1,g2,g3,by omega,by omega⟩
  ·rw[D4 hz];exact B0 (by omega) (by omega)
 ·obtain ⟨a,ha,ha0,e⟩:=D9 h.mi hb h0;rw[<- e];exact h.opn a ha ha0
theorem GH (s:Sr) (c:Int):(∃ e,e≠0/\ja s c=(s,e))\/(eF s c=0/\iJ s.pins 0<s.c.kf/\ja s c=({ s with pins:=(kH s.pins c).1 },0)):=by
 by_cases h1:eF s c=0
 ·by_cases h2:s.c.kf<=iJ s.pins 0
  ·exact .inl ⟨14,by decide,by rw[ja,aE (by simp[h1]),bC h2]⟩
  ·exact .inr ⟨h1,by omega,by rw[ja,aE (by simp[h1]),aE h2]⟩
 ·exact .inl ⟨eF s c,h1,by rw[ja,bC h1]⟩
theorem O4 {s:Sr} {c:Int} (h:eF s c=0):0<=c/\c<=s.commit:=by
 unfold eF at h
 split at h
 ·cases h
 ·rename_i hr;simp only[mO,Bool.and_eq_false_iff,Pk,vM,Decidable.not_not] at hr;exact hr
theorem HV {i:Nat} {s:Sr} {c:Int} (h:Inv i s):Inv (i+1) (ja s c).1:=by
 have hB:=OO (c:=c) h.b;have hI:=XX (c:=c) h.si;rcases GH s c with ⟨e,_,he⟩|⟨hv,_,he⟩
 ·rw[he];exact h.up
 rw[he] at hB hI ⊢;have hr:=O4 hv;refine ⟨hB,hI,by have:=h.en;simp only[gT] at this ⊢;omega,h.mi,h.opn,?_,fun p hp=>?_,h.cf⟩
 ·simp only;unfold kH
  repeat' split
  ·exact ⟨by simp,List.Pairwise.nil⟩
  ·exact ⟨by simp,List.Pairwise.nil⟩
  ·exact ⟨by simp,List.Pairwise.nil⟩
  ·rename_i hf;exact D5 hr.1 h.JL (by simpa using hf)
 ·simp only at hp ⊢;unfold kH at hp
  repeat' split at hp
  all_goals(try(cases hp;done))
  rcases uN hp with e|hp
  ·omega
  ·exact h.OE p hp
theorem oU (c:Int):∀ l:List Pn,fz l c=qh c l
 | []=>rfl
 | p::l=>by
   have ih:=oU c l;unfold fz at ih ⊢;rw[List.any_cons,ih,qh];by_cases h:p.commit=c<;>simp[h]
theorem EC {c:Int}:∀ {l:List Pn},Cn l->Cn (gG c l)/\∀ p∈gG c l,∃ q∈l,q.commit=p.commit
 | [],h=>⟨⟨by simp[gG],by simp[gG]⟩,by simp[gG]⟩
 | x::l,h=>by
   obtain ⟨h1,h2⟩:=h.tail;obtain ⟨g1,g2⟩:=EC (c:=c) h1;have hx:=h.range x (by simp)
   have key:∀ y:Pn,y.commit=x.commit->1<=y.count->y.count<=1024->Cn (y::gG c l)/\∀ p∈y::gG c l,∃ q∈x::l,q.commit=p.commit:=fun y e1 e2 e3=>by
    refine ⟨⟨fun p hp=>?_,M9.2 ⟨fun p hp=>?_,g1.pM⟩⟩,fun p hp=>?_⟩
    ·rcases lp.1 hp with rfl|hp
     ·omega
     ·exact g1.range p hp
    ·obtain ⟨q,hq,e⟩:=g2 p hp;have:=h2 q hq;omega
    ·rcases lp.1 hp with rfl|hp
     ·exact ⟨x,by simp,e1.symm⟩
     ·obtain ⟨q,hq,e⟩:=g2 p hp;exact ⟨q,by simp[hq],e⟩
   have key2:Cn (gG c l)/\∀ p∈gG c l,∃ q∈x::l,q.commit=p.commit:=⟨g1,fun p hp=>by
    obtain ⟨q,hq,e⟩:=g2 p hp
    exact ⟨q,by simp[hq],e⟩⟩
   rw[gG]
   split
   ·split
    ·exact key ⟨x.commit,x.count-1⟩ rfl (by simp only;omega) (by simp only;omega)
    ·exact key2
   ·split
    ·exact key x rfl (by omega) (by omega)
    ·exact key2
theorem tP (s:Sr) (c:Int) (h:Cn s.pins):(fz s.pins c=false/\gW s c=(s,8))\/(fz s.pins c=true/\gW s c=({ s with pins:=gG c s.pins },0)):=by
 have hv:dK none s.pins=0:=A3 _ none h (by simp);cases h1:fz s.pins c
 ·exact .inl ⟨rfl,by rw[gW,bC h1]⟩
 ·refine .inr ⟨rfl,?_⟩;rw[gW,aE (by simp[h1]),jh,aE (by simp[hv]),bC (by rw[<- oU];exact h1)]
theorem Bh {i:Nat} {s:Sr} {c:Int} (h:Inv i s):Inv (i+1) (gW s c).1:=by
 have hB:=Jf (c:=c) h.b;have hI:=RJ (c:=c) h.si;rcases tP s c h.JL with ⟨_,he⟩|⟨_,he⟩
 ·rw[he];exact h.up
 rw[he] at hB hI ⊢;obtain ⟨g1,g2⟩:=EC (c:=c) h.JL;refine ⟨hB,hI,by have:=h.en;simp only[gT] at this ⊢;omega,h.mi,h.opn,g1,fun p hp=>?_,h.cf⟩;obtain ⟨q,hq,e⟩:=g2 p hp;have:=h.OE q hq;simp only;omega
def kL (s:Sr):Sr×Int:=({ s with binds:=gi s.pins s.binds },(s.binds.length:Int)-((gi s.pins s.binds).length:Int))
theorem Bi {i:Nat} {s:Sr} (h:Inv i s):Inv (i+1) (kL s).1:=by
 have hm:∀ b∈gi s.pins s.binds,b∈s.binds:=fun b hb=>(List.mem_filter.1 hb).1;have hl:=D2 s.pins s.binds;refine ⟨⟨by have:=h.b.hb;simp only[kL];omega,h.b.up.ho,h.b.up.hv,h.b.up.hp,h.b.up.hg,h.b.hd,h.b.up.hc,h.b.up.hl,h.b.hz⟩,HS h.si rfl (Nd _) rfl rfl rfl,by have:=h.en;simp only[gT,kL] at this ⊢;omega,?_,fun b hb h0=>h.opn b (hm b hb) h0,h.JL,h.OE,h.cf⟩;exact ⟨L3 h.mi.vb,fun b hb=>h.mi.lt b (hm b hb),fun b hb=>h.mi.ob b (hm b hb),h.mi.c1,h.mi.o1⟩
theorem zJ {s:Sr} (id f:Int):(∃ e,e≠0/\dA s id f=(s,e))\/∃ x∈gT s,x.id=id/\x.v.from_=f/\ql s.pins x.v=true:=by
 unfold dA;by_cases h1:cU id s.objs 0<0
 ·exact .inl ⟨8,by decide,by rw[bC h1]⟩
 rw[aE h1];rcases jA id s.objs 0 with ⟨g,_⟩|⟨j,o,g1,g2,g3,_⟩
 ·omega
 rw[kO] at g3;have zZ:dm s.objs (j:Int)=o:=by simp[dm,g1]
 rw[g3,zZ];by_cases h2:(aS o.bu f).2.2=0
 ·rw[aE (by simp[h2])];by_cases h3:(aS o.bu f).2.1.to=0\/dY (aS o.bu f).2.1.from_ (aS o.bu f).2.1.to s.pins=true
  ·exact .inl ⟨17,by decide,by rw[bC h3]⟩
  ·refine .inr ?_;rcases lT f o.bu 0 with h|⟨k,v,hv,hc,h⟩
   ·rw[aS,bC (by omega)] at h2;cases h2
   ·rw[kO] at h;have e:(aS o.bu f).2.1=v:=by rw[aS,aE (by omega),h,Int.toNat_natCast,hv];rfl
    rw[e] at h3;simp only[vM] at h3;refine ⟨⟨o.id,v⟩,MF.2 ⟨o,fS g1,List.mem_map_of_mem (fS hv)⟩,g2,hc,?_⟩;simp only[ql,jl,Pt,y8,ne_eq];exact ⟨h3.1,by simpa using h3.2⟩
 ·exact .inl ⟨_,h2,by rw[bC h2]⟩
theorem Cc (s:Sr) (id f:Int):(dA s id f).1.binds=s.binds/\(dA s id f).1.commit=s.commit/\(dA s id f).1.last=s.last/\(dA s id f).1.pins=s.pins/\(dA s id f).1.c=s.c:=by
 unfold dA
 repeat' split
 all_goals exact ⟨rfl,rfl,rfl,rfl,rfl⟩
theorem yH {i:Nat} {s:Sr} {id f:Int} (h:Inv i s) (hi:i<=100):Inv (i+1) (dA s id f).1:=by
 rcases zJ (s:=s) id f with ⟨e,_,he⟩|⟨x,hx,e1,e2,hg⟩
 ·rw[he];exact h.up
 obtain ⟨s',g1,g2,g3,g4,g5⟩:=FT h.si h.b (h.VD hi) hx hg;obtain ⟨r1,r2,r3,r4,r5⟩:=Cc s id f;rw[e1,e2] at g1;rw[g1] at r1 r2 r3 r4 r5 ⊢;simp only at r1 r2 r3 r4 r5 ⊢;obtain ⟨L,R,Sg⟩:=List.append_of_mem hx;have LS:=g5 L R Sg
 have hto:x.v.to≠0:=by
  simp only[ql,jl,Pt,y8,ne_eq] at hg;exact hg.1
 refine ⟨g3.up,g2,?_,by rw[r1,r2,r3];exact h.mi,fun b hb h0=>?_,by rw[r4];exact h.JL,by rw[r4,r2];exact h.OE,by rw[r5];exact h.cf⟩
 ·have:=h.en;rw[LS];rw[Sg] at this;simp only[bW,List.length_cons] at this ⊢;omega
 ·rw[r1] at hb;obtain ⟨y,hy,q1,q2⟩:=h.opn b hb h0;refine ⟨y,?_,q1,q2⟩;rw[Sg] at hy;rw[LS];simp only[lU,lp] at hy ⊢;rcases hy with hy|rfl|hy
  ·exact .inl hy
  ·exact absurd q2 hto
  ·exact .inr hy
def GI (p:Pg):Value×List D:=(.int .i64 p.num,[.sc (.int .i64 p.num), .sc (.int .i64 p.refs), .sl 1 (p.data.map cF)])
def c9 (l:List Pg):List (Value×List D):=l.map GI
theorem MZ:dR (c9 [])=[]:=rfl
theorem bS {l:List Pg}:(c9 l).length=l.length:=by simp[c9]
theorem JA {l:List Pg} {i:Nat} {p:Pg} (h:l[i]? = some p):(c9 l)[i]? = some (GI p):=by simp[c9,h]
theorem zK {l:List Pg} {i:Nat} {p:Pg}:(c9 l).set i (GI p)=c9 (l.set i p):=by simp[c9,qO]
theorem EV {l:List Pg} {p:Pg}:c9 l++[GI p]=c9 (l++[p]):=by simp[c9]
theorem bD:∀ {l:List Pg} {i:Nat},(c9 l).eraseIdx i=c9 (l.eraseIdx i)
 | [],_=>rfl
 | p::l,0=>rfl
 | p::l,i+1=>by
   show GI p::(c9 l).eraseIdx i=GI p::c9 (l.eraseIdx i);rw[bD (l:=l) (i:=i)]
theorem Cr {α:Type} {l:List α} {j:Nat} {x:α} (h:l[j]? = some x):l.set j x=l:=by
 refine MD fun i=>?_;rw[List.getElem?_set]
 split
 ·rename_i e;subst e;rw[bC (jL.1 h).1,h]
 ·rfl
theorem GJ {a b:Int}:oz (.int .i64 a) (.int .i64 b)=decide (a=b):=by
 show (a==b)=_;by_cases h:a=b<;>simp[h]
theorem Cd {n:Int}:∀ {l:List Pg} (k:Nat),(eO n l k = -1->xA (.int .i64 n) (c9 l)=none)/\(∀ j:Nat,eO n l k=((k+j:Nat):Int)->xA (.int .i64 n) (c9 l)=some j)
 | [],k=>⟨fun _=>rfl,fun j h=>by rw[eO] at h;omega⟩
 | p::l,k=>by
   obtain ⟨i1,i2⟩:=Cd (n:=n) (l:=l) (k+1);have e:xA (.int .i64 n) (c9 (p::l))=if oz (.int .i64 p.num) (.int .i64 n)=true then some 0 else (xA (.int .i64 n) (c9 l)).map (· + 1):=rfl;rw[e,GJ,eO];by_cases hc:p.num=n
   ·rw[bC hc,bC (by simpa using hc)];exact ⟨fun h=>by omega,fun j h=>by rw[show j=0 by omega]⟩
   ·rw[aE hc,aE (by simpa using hc)];refine ⟨fun h=>by rw[i1 h];rfl,fun j h=>?_⟩;rcases gb n l (k+1) with ⟨h1,_⟩|⟨i,q,h1,h2,h3,_⟩
    ·omega
    ·have:=i2 i h3;rw[this,show j=i+1 by omega];rfl
theorem mN {α:Type} (l:List α) (j:Nat):ic l (j:Int)=l.eraseIdx j:=by
 rw[ic,Int.toNat_natCast,List.eraseIdx_eq_take_drop_succ]
theorem uU (n:Int) (l:List Pg):(eO n l 0 = -1/\xA (.int .i64 n) (c9 l)=none)\/∃ (j:Nat) (p:Pg),l[j]? = some p/\j<l.length/\eO n l 0=(j:Int)/\fh l (eO n l 0)=p/\p.num=n/\xA (.int .i64 n) (c9 l)=some j/\
  (c9 l)[j]? = some (.int .i64 n,[.sc (.int .i64 n), .sc (.int .i64 p.refs), .sl 1 (p.data.map cF)]):=by
 rcases gb n l 0 with ⟨h,_⟩|⟨j,p,h1,h2,h3,_⟩
 ·exact .inl ⟨h,(Cd 0).1 h⟩
 ·have h4:=(Cd (n:=n) (l:=l) 0).2 j h3;rw[kO] at h3;exact .inr ⟨j,p,h1,(jL.1 h1).1,h3,by simp[fh,h3,h1],h2,h4,by rw[JA h1,GI,h2]⟩
set_option maxRecDepth 100000
set_option maxHeartbeats 6400000
theorem O5 {n S:Nat} (hS:0<S) (i:Nat):((i:Int)<yY n S)↔i*S<n:=by
 have h1:=Nat.div_add_mod n S;have h2:=Nat.mod_lt n hS
 have e:yY n S=((n/S+(if n%S=0 then 0 else 1):Nat):Int):=by
  unfold yY;rw[<- Int.natCast_emod, <- Int.natCast_ediv];by_cases h:n%S=0
  ·rw[aE (by omega),bC h];omega
  ·rw[bC (by omega),aE h];omega
 rw[e,Int.ofNat_lt];generalize n/S=q at *;generalize n%S=r at *;rcases SB i q with h|h|h
 ·have:(i+1)*S<=q*S:=M8 S h;rw[sK,Nat.mul_comm q S] at this;constructor<;>intro _<;>(try split)<;>omega
 ·subst h;rw[Nat.mul_comm i S]
  split<;>constructor<;>intro _<;>omega
 ·have:(q+1)*S<=i*S:=M8 S h;rw[sK,Nat.mul_comm q S] at this
  split<;>constructor<;>intro _<;>omega
theorem yI {n sz p lo up hi:Int} (h1:IntKind.i64.wrap (p*sz)=lo) (hp:0<=p/\p<=1000) (h2:IntKind.i64.wrap ((p+1)*sz)=up) (h3:(up<=n/\hi=up)\/(n<up/\hi=n)):ak prog 149 [i6 n,i6 sz,i6 p] (.sc (.complex .f64 (floatOfInt .f64 lo) (floatOfInt .f64 hi))) []:=by
 have hpa:=hp.1;have hpb:=hp.2;rcases h3 with ⟨h,rfl⟩|⟨h,rfl⟩
 focus
  have hmn:(if n<hi then n else hi)=hi:=aE (by omega);have hZ:=(And.intro h1 (And.intro h2 (And.intro hmn (And.intro hpa hpb))))
 rotate_left 1
 focus
  have hmn:(if hi<up then hi else up)=hi:=bC h;have hZ:=(And.intro h1 (And.intro h2 (And.intro hmn (And.intro hpa hpb))))
 rotate_left 1;all_goals(refine bR [] [] [.tmp 6] func149 (by kernel_rfl) ntmps149 rfl rfl rfl ⟨rfl,rfl⟩ (by simp(disch:=omega)only[seval,go_sem,cI,List.replicate,l_2,l_1];rfl) ?_)
 all_goals((repeat'(first|simp only[seval,go_sem,hZ]|((with_reducible refine au ?_);first|(with_reducible refine II ?_;with_reducible refine ah.Zu underlying3 underlying195 (by simp only[seval,go_sem,hZ]) (by simp only[seval,go_sem,hZ];rfl) (by simp only[seval,go_sem,hZ];rfl) ?_;refine dI (st:=[]) ?_)|(with_reducible refine ah.Lz (by simp only[seval,go_sem,hZ]) (by simp only[seval,go_sem,hZ];rfl) (by simp only[seval,go_sem,hZ];rfl) (by simp only[seval,go_sem,hZ];rfl) ?_;refine dI (st:=[]) ?_))|(with_reducible first|refine aV (st:=[]) ?_|refine ai (by simp(disch:=omega)only[seval,go_sem,cI,hZ];rfl) ?_))))
theorem Ce {a b:List Int} (ha:∀ z∈a,0<=z/\z<=255) (hb:∀ z∈b,0<=z/\z<=255):ak prog 158 [.sl 1 (a.map cF), .sl 1 (b.map cF)] (.sc (.bool (decide (a=b)))) []:=by
 have VF:=yf ha hb;refine bR [] [] [.tmp 4] func158 (by kernel_rfl) ntmps158 rfl rfl rfl ⟨rfl,rfl⟩ (by simp(disch:=omega)only[seval,go_sem,cI,List.replicate,l_2,l_1];rfl) ?_;((repeat'(first|simp only[seval,go_sem,bA,VF]|(with_reducible refine aV (st:=[]) ?_)|(with_reducible refine ai (by simp(disch:=omega)only[seval,go_sem,cI,bA,VF];rfl) ?_))))
theorem gJ {b:List Int} {sz:Int} (hb:b.length<=200) (h1:8<=sz) (h2:sz<=1024):ak prog 81 [.sl 1 (b.map cF),i6 sz] (.cT [.sl 1 ((aR b sz).1.map bP),i6 (aR b sz).2]) []:=by
 have e:aR b sz=(chunks sz.toNat b.length b,0):=by rw[aR,aE (by omega)]
 rw[e];obtain ⟨S,rfl⟩:=M7 (show 0<=sz by omega);simp only[Int.toNat_natCast];generalize hC:chunks S b.length b=C;have Bv:=Ed (a:=b.length) (b:=(S:Int)) (by omega) (by omega) ⟨by omega,by omega⟩
 have hK0:((0:Nat):Int)<=yY b.length S:=by
  unfold yY;have:0<=(b.length:Int)/(S:Int):=Int.ediv_nonneg (by omega) (by omega)
  split<;>omega
 have hK:=O5 (n:=b.length) (S:=S) (by omega);generalize yY b.length S=K at *;refine dL [] [15,29,31,40,41,42,60] func81 (by kernel_rfl) ntmps81 rfl rfl ⟨rfl,rfl⟩ (by simp(disch:=omega)only[seval,go_sem,cI,List.replicate,l_2,l_1];rfl) ?_;((repeat'(first|simp only[seval,go_sem]|((with_reducible refine bJ ?_);refine aq.c (Bv) ?_)|(with_reducible first|refine aD (st:=[]) ?_|refine aV (st:=[]) ?_|refine ai (by simp(disch:=omega)only[seval,go_sem,cI];rfl) ?_))));all_goals(refine ay.fT 8 60 1 (by first|(simp only[seval,go_sem])) (by first|(simp only[seval,go_sem])) (by simp only[seval,go_sem];rfl) ?_)
 all_goals(with_reducible refine ay.cX (fun (t:Nat×List (List Int))=>[(22,i6 t.1),(8,.cW 60 1 0 t.2.length),(9,.any),(10,.any)]++aN 23 21) (fun (t:Nat×List (List Int))=>[(60,.row 1 (t.2.map bP)),(29,.dead),(31,.dead),(40,.dead),(41,.dead),(42,.dead)]) (fun (t:Nat×List (List Int))=>(t.1:Int)<=K/\t.1<=b.length/\t.2.length=t.1/\t.2++chunks S b.length (b.drop (t.1*S))=C) (fun (t:Nat×List (List Int))=>b.length-t.1) ((0,[])) (⟨hK0,ek _,rfl,by simpa using hC⟩) (by intro _;simp(disch:=omega)only[seval,go_sem,cI];rfl) (by simp only[seval,go_sem]) (fun t hI=>?_))
 all_goals
  obtain ⟨i,a⟩:=t;obtain ⟨hiK,hib,tW,hf⟩:=hI;simp only at hiK hib tW hf ⊢;have dM:(a.map bP).length=a.length:=dD _;by_cases hlt:(i:Int)<K
  ·have hi:=(hK i).1 hlt;have hmul:i*S+S=(i+1)*S:=by rw[sK,Qz]
   have hiS:i<=i*S:=Nat.le_mul_of_pos_right i (by omega);have hw1:IntKind.i64.wrap ((i:Int)*(S:Int))=((i*S:Nat):Int):=by rw[<- Int.natCast_mul,IntKind.wrap_i64];omega
   have YF:IntKind.i64.wrap (((i:Int)+1)*(S:Int))=(((i+1)*S:Nat):Int):=by
    rw[show ((i:Int)+1)=((i+1:Nat):Int) by omega, <- Int.natCast_mul,IntKind.wrap_i64];omega
   rw[vw (by omega) hi,hmul] at hf;generalize hlo:i*S=lo at *;generalize Vz:(i+1)*S=up at *;by_cases hc:up<=b.length
   ·have hsp:=yI (n:=b.length) (sz:=S) (p:=i) (lo:=lo) (up:=up) (hi:=up) hw1 (by omega) YF (.inl ⟨by omega,rfl⟩);have hts:((b.map cF).take up).drop lo=((b.drop lo).take S).map cF:=by rw[Qy,RY, <- hmul,List.drop_take,SC]
    have j8:(((b.drop lo).take S).map cF).length=S:=by simp;omega
    have fm:(((b.drop lo).take S).map cF).take S=((b.drop lo).take S).map cF:=lz (by rw[j8];omega);have Ve:=mU (P:=prog) (s:=195) (t:=3) (a:=((lo:Nat):Int)) underlying195 underlying3 (by omega) (by omega);have X7:=mU (P:=prog) (s:=195) (t:=3) (a:=((up:Nat):Int)) underlying195 underlying3 (by omega) (by omega)
    (all_goals(try have hZ:=(And.intro hts (And.intro j8 (And.intro fm (And.intro dM (And.intro Ve X7))))));(repeat'(first|simp only[seval,go_sem,Int.toNat_natCast,hZ]|((with_reducible refine bJ ?_);(refine aq.c (hsp) ?_;simp only[seval,go_sem,Int.toNat_natCast,hZ];(fail_if_success (with_reducible refine xq ?_))))|((with_reducible refine au ?_);first|(with_reducible refine aD (st:=[]) ?_)|(with_reducible refine ah.P5 (by simp only[seval,go_sem,Int.toNat_natCast,hZ]) (by simp only[seval,go_sem,Int.toNat_natCast,hZ];rfl) (by simp only[seval,go_sem,Int.toNat_natCast,hZ];rfl) ?_;refine dI (st:=[]) ?_)|(with_reducible refine ah.P6 (by simp only[seval,go_sem,Int.toNat_natCast,hZ]) (by simp only[seval,go_sem,Int.toNat_natCast,hZ];rfl) (by simp only[seval,go_sem,Int.toNat_natCast,hZ];rfl) ?_;refine dI (st:=[]) ?_)|(with_reducible refine ah.gu 40 (by simp only[seval,go_sem,Int.toNat_natCast,hZ];rfl) (by simp only[seval,go_sem,Int.toNat_natCast,hZ];rfl) ?_;refine dI (st:=[]) ?_))|(with_reducible first|refine aV (st:=[]) ?_|refine ai (by simp(disch:=omega)only[seval,go_sem,cI,Int.toNat_natCast,hZ];rfl) ?_)));all_goals(try clear hZ))
    all_goals(try((refine kN ((i+1,a++[(b.drop lo).take S])) (cZ.xg 42 60 (by decide) (by first|(simp only[seval,go_sem])) (by simp only[seval,go_sem];rfl) (cZ.Bm (by simp only[seval,go_sem,bP,vO,fk,eM,bW,List.length_cons,List.length_nil];first|((repeat'(with_reducible apply And.intro))<;>first|rfl)))) ?_ ?_)<;>(try(omega))))
    all_goals(try exact ⟨by simp only;omega,by simp only;omega,by simp only[bW,List.length_cons,List.length_nil];omega,by simp only[lS,List.cons_append,List.nil_append,Vz];exact hf⟩)
    all_goals done
   ·have hsp:=yI (n:=b.length) (sz:=S) (p:=i) (lo:=lo) (up:=up) (hi:=b.length) hw1 (by omega) YF (.inr ⟨by omega,rfl⟩);have hts:(b.map cF).drop lo=((b.drop lo).take S).map cF:=by rw[Qy,RY,lz (by simp;omega)]
    have j8:(((b.drop lo).take S).map cF).length=b.length-lo:=by simp;omega
    have fm:(((b.drop lo).take S).map cF).take (b.length-lo)=((b.drop lo).take S).map cF:=lz (by rw[j8];omega);have Ve:=mU (P:=prog) (s:=195) (t:=3) (a:=((lo:Nat):Int)) underlying195 underlying3 (by omega) (by omega);have X7:=mU (P:=prog) (s:=195) (t:=3) (a:=(b.length:Int)) underlying195 underlying3 (by omega) (by omega)
    (all_goals(try have hZ:=(And.intro hts (And.intro j8 (And.intro fm (And.intro dM (And.intro Ve X7))))));(repeat'(first|simp only[seval,go_sem,Int.toNat_natCast,hZ]|((with_reducible refine bJ ?_);(refine aq.c (hsp) ?_;simp only[seval,go_sem,Int.toNat_natCast,hZ];(fail_if_success (with_reducible refine xq ?_))))|((with_reducible refine au ?_);first|(with_reducible refine aD (st:=[]) ?_)|(with_reducible refine ah.P5 (by simp only[seval,go_sem,Int.toNat_natCast,hZ]) (by simp only[seval,go_sem,Int.toNat_natCast,hZ];rfl) (by simp only[seval,go_sem,Int.toNat_natCast,hZ];rfl) ?_;refine dI (st:=[]) ?_)|(with_reducible refine ah.P6 (by simp only[seval,go_sem,Int.toNat_natCast,hZ]) (by simp only[seval,go_sem,Int.toNat_natCast,hZ];rfl) (by simp only[seval,go_sem,Int.toNat_natCast,hZ];rfl) ?_;refine dI (st:=[]) ?_)|(with_reducible refine ah.gu 40 (by simp only[seval,go_sem,Int.toNat_natCast,hZ];rfl) (by simp only[seval,go_sem,Int.toNat_natCast,hZ];rfl) ?_;refine dI (st:=[]) ?_))|(with_reducible first|refine aV (st:=[]) ?_|refine ai (by simp(disch:=omega)only[seval,go_sem,cI,Int.toNat_natCast,hZ];rfl) ?_)));all_goals(try clear hZ))
    all_goals(try((refine kN ((i+1,a++[(b.drop lo).take S])) (cZ.xg 42 60 (by decide) (by first|(simp only[seval,go_sem])) (by simp only[seval,go_sem];rfl) (cZ.Bm (by simp only[seval,go_sem,bP,vO,fk,eM,bW,List.length_cons,List.length_nil];first|((repeat'(with_reducible apply And.intro))<;>first|rfl)))) ?_ ?_)<;>(try(omega))))
    all_goals(try exact ⟨by simp only;omega,by simp only;omega,by simp only[bW,List.length_cons,List.length_nil];omega,by simp only[lS,List.cons_append,List.nil_append,Vz];exact hf⟩)
    all_goals done
  ·have hge:b.length<=i*S:=Qu fun h=>hlt ((hK i).2 h);rw[yd hge,yP] at hf;subst hf;have fm:(a.map bP).take a.length=a.map bP:=lz (by rw[dM];exact iU _)
   ((repeat'(first|simp only[seval,go_sem,dM,fm]|(with_reducible refine aB ?_;(refine aC.gu 60 (by simp only[seval,go_sem];rfl) (by simp only[seval,go_sem,dM,fm];rfl) ?_);(with_reducible refine aB ?_;refine aC.q rfl rfl (by simp only[seval,go_sem];rfl) (by decide) (by simp only[seval,go_sem];rfl) (by simp only[seval,go_sem];rfl) rfl ?_<;>(try simp only[seval,go_sem,dM,fm])<;>(repeat'(with_reducible apply And.intro))<;>(try rfl)))|(with_reducible first|refine aV (st:=[]) ?_|refine ai (by simp(disch:=omega)only[seval,go_sem,cI,dM,fm];rfl) ?_))))
   all_goals done
theorem oT {os ns:List (List Int)} (ho:os.length<=1000000) (hn:ns.length<=1000000) (Cm:∀ x∈os,∀ z∈x,0<=z/\z<=255) (hnb:∀ x∈ns,∀ z∈x,0<=z/\z<=255):ak prog 87 [.sl 1 (os.map bP), .sl 1 (ns.map bP)] (.sl 1 ((bB os ns).map cz)) []:=by
 generalize hR:bB os ns=R;refine dP [] [26,28,29,60] func87 rfl call87 rfl (by decide) (by decide) rfl rfl ntmps87 (by simp(disch:=omega)only[seval,go_sem,cI,List.replicate,l_2,l_1];rfl) (by simp(disch:=omega)only[seval,go_sem,cI,l_2,l_1];rfl) ?_;((repeat'(first|(with_reducible refine aV (st:=[26]) ?_)|simp only[seval,go_sem])));all_goals(refine ay.fT 5 60 1 (by first|(simp only[seval,go_sem])) (by first|(simp only[seval,go_sem])) (by simp only[seval,go_sem];rfl) ?_)
 all_goals(with_reducible refine ay.PR (fun (t:Nat×List Bool)=>[(10,i6 t.1),(5,.cW 60 1 0 t.2.length),(6,.any),(7,.any),(11,.any),(12,.any),(13,.any),(14,.any),(15,.any),(16,.any),(17,.any),(18,.any),(19,.any),(20,.any),(21,.any),(22,.any),(23,.any),(24,.any),(25,.any),(26,.any),(27,.any),(28,.any),(29,.any),(30,.any)]) (fun (t:Nat×List Bool)=>[(60,.row 1 (t.2.map cz)),(26,.dead),(28,.dead),(29,.dead)]) (fun (t:Nat×List Bool)=>t.1<=ns.length/\t.2.length=t.1/\t.2++bB (os.drop t.1) (ns.drop t.1)=R) (fun (t:Nat×List Bool)=>ns.length-t.1) ((0,[])) (⟨ek _,by simp,by simpa using hR⟩) (by intro _;simp(disch:=omega)only[seval,go_sem,cI];rfl) (by intro _;simp(disch:=omega)only[seval,go_sem,cI];rfl) (by (refine bL ?_);(try simp only[seval,go_sem])) (by (refine bX ?_);(try simp only[seval,go_sem])) (fun t hI=>?_))
 all_goals
  obtain ⟨i,a⟩:=t;obtain ⟨hi,tW,hf⟩:=hI;simp only at hi tW hf ⊢;have dM:(a.map cz).length=a.length:=dD _;by_cases hlt:i<ns.length
  ·obtain ⟨x,hx⟩:=aZ hlt;have hx':=get_map bP hx;rw[aH hx] at hf;by_cases hc:i<os.length
   ·obtain ⟨o,Nk⟩:=aZ hc;have ho':=get_map bP Nk;rw[aH Nk,bB] at hf;have Yt:=Ce (Cm o (fS Nk)) (hnb x (fS hx));((repeat'(first|((with_reducible refine au ?_);((with_reducible refine cy ?_);((with_reducible refine aD (st:=[26]) ?_);simp only[seval,go_sem,bP,hx',ho',dM];(refine aq.c (Yt) ?_))))|(with_reducible refine aV (st:=[26]) ?_)|simp only[seval,go_sem,bP,hx',ho',dM]|(with_reducible refine ai (by simp(disch:=omega)only[seval,go_sem,cI,bP,hx',ho',dM];rfl) ?_))))
    all_goals(try((refine Dq ((i+1,a++[decide (o=x)])) (cZ.xg 29 60 (by decide) (by first|(simp only[seval,go_sem])) (by simp only[seval,go_sem];rfl) (cZ.PF (by (refine bL ?_);(try simp only[seval,go_sem,cz,vO,fk,eM,bW,List.length_cons,List.length_nil]);first|((repeat'(with_reducible apply And.intro))<;>first|rfl)) (by (refine bX ?_);(try simp only[seval,go_sem,cz,vO,fk,eM,bW,List.length_cons,List.length_nil])))) ?_ ?_)<;>(try(omega))))
    all_goals(try exact ⟨by simp only;omega,by simp only[bW,List.length_cons,List.length_nil];omega,by simp only[lS,List.cons_append,List.nil_append];exact hf⟩)
    all_goals done
   ·rw[j9 (by omega),bB] at hf;have hcd:decide ((i:Int)<(os.length:Int))=false:=HW (by omega);have wR:(os.map bP).length=os.length:=dD _;((repeat'(first|((with_reducible refine au ?_);((with_reducible first|refine ah.step (by simp only[seval,go_sem,bP,hx',dM,hcd,wR];rfl) ?_);refine dI (st:=[26]) ?_))|(with_reducible refine aV (st:=[26]) ?_)|simp only[seval,go_sem,bP,hx',dM,hcd,wR]|(with_reducible refine ai (by simp(disch:=omega)only[seval,go_sem,cI,bP,hx',dM,hcd,wR];rfl) ?_))))
    all_goals(try((refine Dq ((i+1,a++[false])) (cZ.xg 29 60 (by decide) (by first|(simp only[seval,go_sem])) (by simp only[seval,go_sem];rfl) (cZ.PF (by (refine bL ?_);(try simp only[seval,go_sem,cz,vO,fk,eM,bW,List.length_cons,List.length_nil]);first|((repeat'(with_reducible apply And.intro))<;>first|rfl)) (by (refine bX ?_);(try simp only[seval,go_sem,cz,vO,fk,eM,bW,List.length_cons,List.length_nil])))) ?_ ?_)<;>(try(omega))))
    all_goals(try exact ⟨by simp only;omega,by simp only[bW,List.length_cons,List.length_nil];omega,by simp only[lS,List.cons_append,List.nil_append,j9 (show os.length<=i+1 by omega)];exact hf⟩)
    all_goals done
  ·rw[j9 (show ns.length<=i by omega)] at hf;have hz:bB (os.drop i) []=[]:=by cases os.drop i<;>rfl
   rw[hz,yP] at hf;subst hf;have fm:(a.map cz).take a.length=a.map cz:=lz (by rw[dM];exact iU _)
   ((repeat'(first|(with_reducible refine aB ?_;(refine aC.gu 60 (by simp only[seval,go_sem];rfl) (by simp only[seval,go_sem,dM,fm];rfl) ?_);(with_reducible refine aB ?_;refine aC.q rfl rfl (by simp only[seval,go_sem];rfl) (by decide) (by simp only[seval,go_sem];rfl) (by simp only[seval,go_sem];rfl) rfl ?_<;>(try simp only[seval,go_sem,dM,fm])<;>(repeat'(with_reducible apply And.intro))<;>(try rfl)))|(with_reducible refine aV (st:=[26]) ?_)|simp only[seval,go_sem,dM,fm]|(with_reducible refine ai (by simp(disch:=omega)only[seval,go_sem,cI,dM,fm];rfl) ?_))))
   all_goals done
def rD (l:List (List Int)):List Int:=l.flatten
theorem Gx {l:List (List Int)} (hl:l.length<=1000) (hx:∀ x∈l,x.length<=2000):ak prog 60 [.sl 1 (l.map bP)] (.sl 1 ((rD l).map cF)) []:=by
 have hfl:∀ i,((l.take i).flatten).length<=2000*i:=by
  intro i
  induction i with
  | zero=>simp
  | succ i ih=>
    by_cases hi:i<l.length
    ·obtain ⟨x,Jm⟩:=aZ hi;have:=hx x (fS Jm);rw[H7,Jm];simp only[Option.toList_some,Pq,bW,List.flatten_cons,List.flatten_nil,yP];omega
    ·rw[lz (by omega)] at ih ⊢;omega
 refine dL [] [14,60] func60 (by kernel_rfl) ntmps60 rfl rfl ⟨rfl,rfl⟩ (by simp(disch:=omega)only[seval,go_sem,cI,List.replicate,l_2,l_1];rfl) ?_;((repeat'(first|simp only[seval,go_sem]|(with_reducible refine aV (st:=[]) ?_))));all_goals(refine ay.fT 3 60 1 (by first|(simp only[seval,go_sem])) (by first|(simp only[seval,go_sem])) (by simp only[seval,go_sem];rfl) ?_)
 all_goals(with_reducible refine ay.cX (fun (i:Nat)=>[(8,i6 i),(3,.cW 60 1 0 ((l.take i).flatten).length),(5,.any)]++aN 9 7) (fun (i:Nat)=>[(60,.row 1 (((l.take i).flatten).map cF)),(14,.dead)]) (fun (i:Nat)=>i<=l.length) (fun (i:Nat)=>l.length-i) (0) (ek _) (by intro _;simp(disch:=omega)only[seval,go_sem,cI];rfl) (by simp only[seval,go_sem]) (fun i hI=>?_))
 all_goals
  have nY:=hfl i;by_cases hlt:i<l.length
  ·obtain ⟨x,Jm⟩:=aZ hlt;have hx':=get_map bP Jm;have pQ:=hx x (fS Jm);have fm:(l.take (i+1)).flatten=(l.take i).flatten++x:=by rw[H7,Jm];simp
   have dM:(((l.take i).flatten).map cF).length=((l.take i).flatten).length:=dD _;generalize (l.take i).flatten=F at *;((repeat'(first|simp only[seval,go_sem,bP,hx',dM]|(with_reducible first|refine aV (st:=[]) ?_|refine ai (by simp(disch:=omega)only[seval,go_sem,cI,bP,hx',dM];rfl) ?_))));all_goals(try((refine kN (i+1) (cZ.xg 14 60 (by decide) (by first|(simp only[seval,go_sem])) (by simp only[seval,go_sem];rfl) (cZ.Bm (by simp only[seval,go_sem,fm,vO,bW];first|((repeat'(with_reducible apply And.intro))<;>first|rfl)))) ?_ ?_)<;>(try(omega))))
   all_goals done
  ·have e:l.take i=l:=lz (by omega);rw[e] at nY ⊢;have fm:((l.flatten).map cF).take l.flatten.length=(l.flatten).map cF:=lz (by rw[dD];exact iU _);have dM:((l.flatten).map cF).length=l.flatten.length:=dD _;unfold rD;generalize l.flatten=F at *
   ((repeat'(first|simp only[seval,go_sem,dM,fm]|(with_reducible refine aB ?_;(refine aC.gu 60 (by simp only[seval,go_sem];rfl) (by simp only[seval,go_sem,dM,fm];rfl) ?_);(with_reducible refine aB ?_;refine aC.q rfl rfl (by simp only[seval,go_sem];rfl) (by decide) (by simp only[seval,go_sem];rfl) (by simp only[seval,go_sem];rfl) rfl ?_<;>(try simp only[seval,go_sem,dM,fm])<;>(repeat'(with_reducible apply And.intro))<;>(try rfl)))|(with_reducible first|refine aV (st:=[]) ?_|refine ai (by simp(disch:=omega)only[seval,go_sem,cI,dM,fm];rfl) ?_))))
   all_goals done
def O6 (o:Ob):Value×D:=(.int .i64 o.id, .sl 4 (o.bu.map aL))
def fV (l:List Ob):List (Value×D):=l.map O6
abbrev iP (n1 n2 n3:Nat) (a1 a2 a3 a4 a5 a6 a7 com last cap:Int) (os:List Ob) (bs:List Bd) (ps:List Pn) (pg:List Pg):List Go.fe.Obj:=[.box [.sc (.int .i64 a1),.sc (.int .i64 a2),.sc (.int .i64 a3),.sc (.int .i64 a4),.sc (.int .i64 a5),.sc (.int .i64 a6),.sc (.int .i64 a7),.sc (.int .i64 com),.mp n1,.sc (.int .i64 last),.sl 4 (bs.map ag),.sl 2 (ps.map aW),.ref n2 0],.ext (xm (.int .i64) (fV os)),.box [.sc (.int .i64 cap),.mp n3],.ext (eN (.int .i64) (dR (c9 pg)))]
attribute [go_sem] iP
theorem Jv:fV []=[]:=rfl
theorem GG {l:List Ob} {o:Ob}:fV l++[(.int .i64 o.id, .sl 4 (o.bu.map aL))]=fV (l++[o]):=by simp[fV,O6]
theorem ED (n:Int):∀ (l:List Ob) (k:Nat),(cU n l k = -1/\(∀ o∈l,o.id≠n)/\me (.int .i64 n) (fV l)=none/\∀ v,qb (.int .i64 n) v (fV l)=fV l++[(.int .i64 n,v)])\/
  ∃ j o,l[j]? = some o/\o.id=n/\cU n l k=((k+j:Nat):Int)/\me (.int .i64 n) (fV l)=some (.sl 4 (o.bu.map aL))/\(∀ vs,qb (.int .i64 n) (.sl 4 (vs.map aL)) (fV l)=fV (l.set j ⟨n,vs⟩))/\xk (.int .i64 n) (fV l)=fV (l.eraseIdx j)
 | [],k=> .inl ⟨rfl,by simp,rfl,fun _=>rfl⟩
 | p::l,k=>by
   have e1:me (.int .i64 n) (fV (p::l))=if oz (.int .i64 p.id) (.int .i64 n)=true then some (.sl 4 (p.bu.map aL)) else me (.int .i64 n) (fV l):=rfl;have e2:∀ v,qb (.int .i64 n) v (fV (p::l))=if oz (.int .i64 p.id) (.int .i64 n)=true then (.int .i64 n,v)::fV l else O6 p::qb (.int .i64 n) v (fV l):=fun _=>rfl;have e3:xk (.int .i64 n) (fV (p::l))=if oz (.int .i64 p.id) (.int .i64 n)=true then fV l else O6 p::xk (.int .i64 n) (fV l):=rfl;rw[e1,e3,GJ];simp only[e2,GJ];by_cases hc:p.id=n
   ·refine .inr ⟨0,p,rfl,hc,by rw[cU,bC hc];rfl,by rw[bC (by simpa using hc)],fun vs=>by rw[bC (by simpa using hc)];rfl,by rw[bC (by simpa using hc)];rfl⟩
   ·rcases ED n l (k+1) with ⟨h1,h2,h3,h4⟩|⟨j,o,h1,h2,h3,h4,h5,h6⟩
    ·refine .inl ⟨by rw[cU,aE hc];exact h1,fun o ho=>?_,by rw[aE (by simpa using hc)];exact h3,fun v=>by rw[aE (by simpa using hc),h4];rfl⟩;rcases lp.1 ho with rfl|ho
     ·exact hc
     ·exact h2 o ho
    ·refine .inr ⟨j+1,o,by simpa using h1,h2,by rw[cU,aE hc,h3];omega,by rw[aE (by simpa using hc)];exact h4,fun vs=>by rw[aE (by simpa using hc),h5];rfl,by rw[aE (by simpa using hc),h6];rfl⟩
def eL (l:List Ob) (n:Int):List fE:=if cU n l 0<0 then [] else (dm l (cU n l 0)).bu
theorem ri (n:Int) (l:List Ob):(cU n l 0 = -1/\(∀ o∈l,o.id≠n)/\me (.int .i64 n) (fV l)=none/\(∀ v,qb (.int .i64 n) v (fV l)=fV l++[(.int .i64 n,v)])/\eL l n=[])\/
  ∃ (j:Nat) (o:Ob),l[j]? = some o/\o.id=n/\cU n l 0=(j:Int)/\me (.int .i64 n) (fV l)=some (.sl 4 (o.bu.map aL))/\(∀ vs,qb (.int .i64 n) (.sl 4 (vs.map aL)) (fV l)=fV (dz l (j:Int) vs))/\xk (.int .i64 n) (fV l)=fV (ic l (j:Int))/\eL l n=o.bu/\dm l (j:Int)=o:=by
 rcases ED n l 0 with ⟨h1,h2,h3,h4⟩|⟨j,o,h1,h2,h3,h4,h5,h6⟩
 ·exact .inl ⟨h1,h2,h3,h4,by rw[eL,bC (by omega)]⟩
 ·rw[kO] at h3;have hg:dm l (j:Int)=o:=by simp[dm,h1]
  refine .inr ⟨j,o,h1,h2,h3,h4,fun vs=>?_,by rw[mN];exact h6,by rw[eL,aE (by omega),h3,hg],hg⟩;rw[h5,dz,hg,h2,Int.toNat_natCast]
def eA (s:Sr) (n:ByteArray) (c:Int):Int×fE×Int:=
 if eF s c≠0 then (0,zeroV,eF s c) else if (b9 n c s.binds).2=false then (0,zeroV,8) else
 if (ga c (eL s.objs (b9 n c s.binds).1) 0).2=false then (0,zeroV,8) else ((b9 n c s.binds).1,yh (eL s.objs (b9 n c s.binds).1) (ga c (eL s.objs (b9 n c s.binds).1) 0).1,0)
end Go.Proofs.YteemiclhnfkekaaGreat
