/- The reference's store: its invariants (plain): chains are valid, numbers ascend, pages are those that versions name. -/
import Derived.Test.YteemiclhnfkekaaGreatZCoR
set_option linter.unusedSimpArgs false
set_option linter.unusedVariables false
namespace Go.Proofs.YteemiclhnfkekaaGreat
open Go.RowKit Go.eB Go.Proofs.Tryz
structure ES (l:List fE):Prop where
 range:∀ v∈l,1<=v.from_/\0<=v.to/\0<=v.size/\(v.to≠0->v.from_<v.to)
 pG:l.Pairwise (fun a b=>a.to≠0/\a.to<=b.from_)
theorem ES.tail {v:fE} {l:List fE} (h:ES (v::l)):ES l/\∀ q∈l,v.to≠0/\v.to<=q.from_:=by
 have:=h.pG;rw[M9] at this;exact ⟨⟨fun q hq=>h.range q (Ic _ hq),this.2⟩,this.1⟩
theorem uK:∀ (l:List fE) (prev:Option fE),ES l->(∀ q,prev=some q->∀ v∈l,q.to≠0/\q.to<=v.from_)->eA prev l=0
 | [],_,_,_=>rfl
 | v::l,prev,ok,h=>by
   obtain ⟨JL,hab⟩:=ok.tail;have hr:=ok.range v (by simp);have:=uK l (some v) JL (fun q e=>by cases e;exact hab);unfold eA;rw[aE (by omega),aE (by omega)];cases prev with
   | none=>simpa using this
   | some q=>
     have:=h q rfl v (by simp);simp only;rw[aE (by omega)];assumption
theorem ES.sub {l m:List fE} (h:ES l) (hs:m.Sublist l):ES m:=⟨fun v hv=>h.range v (hs.subset hv),h.pG.sublist hs⟩
def k8 (u:fE) (f:Int):fE:=if u.to=0 then { u with to:=f } else u
theorem xT (u:fE) (f:Int) (h1:u.from_<f) (h2:u.to<=f) (h3:u.to≠0->u.from_<u.to) (h4:0<=u.to) (h5:1<=u.from_):(k8 u f).from_=u.from_/\(k8 u f).to≠0/\(k8 u f).to<=f/\u.from_<(k8 u f).to/\(k8 u f).size=u.size/\(k8 u f).pages=u.pages:=by
 unfold k8;split
 ·exact ⟨rfl,by simp only;omega,by simp,h1,rfl,rfl⟩
 ·exact ⟨rfl,by assumption,h2,h3 (by assumption),rfl,rfl⟩
theorem HA {pre:List fE} {u:fE} {f s:Int} {p:List Int} (ok:ES (pre++[u])) (h1:u.from_<f) (h2:u.to<=f) (hs:0<=s) (h0:1<=f):ES (pre++[k8 u f]++[⟨f,0,s,p⟩]):=by
 have hu:=ok.range u (by simp);obtain ⟨a1,a2,a3⟩:=JF.1 ok.pG;have hU:=xT u f h1 h2 hu.2.2.2 hu.2.1 hu.1;refine ⟨fun v hv=>?_,?_⟩
 ·simp only[lS,rG] at hv;rcases hv with (hv|rfl)|rfl
  ·exact ok.range v (by simp[hv])
  ·omega
  ·simp only;omega
 ·rw[JF,JF];refine ⟨⟨a1,by simp,fun a ha b hb=>?_⟩,by simp,fun a ha b hb=>?_⟩
  ·simp only[rG] at hb;subst hb;have:=a3 a ha u (by simp);exact ⟨this.1,by rw[hU.1];exact this.2⟩
  ·simp only[rG] at hb;subst hb;simp only[lS,rG] at ha;rcases ha with ha|rfl
   ·have:=a3 a ha u (by simp);exact ⟨this.1,by simp only;omega⟩
   ·exact ⟨hU.2.1,hU.2.2.1⟩
theorem vq {pre:List fE} {u:fE} {f s:Int} {p:List Int} (ok:ES (pre++[u])) (h1:u.from_<f) (h2:u.to<=f) (hs:0<=s):cQ (pre++[u]) ⟨f,0,s,p⟩=(pre++[k8 u f]++[⟨f,0,s,p⟩],0):=by
 have hz:eA none (pre++[u])=0:=uK _ none ok (by simp);have hu:=ok.range u (by simp);have hg:(pre++[u])[(pre++[u]).length-1]? = some u:=by simp
 unfold cQ;rw[hz,aE (by simp),aE (by simp only;omega),hg];simp only;rw[aE (by omega)];unfold k8
 split
 ·simp
 ·rfl
theorem FW {pre:List fE} {u:fE} {c:Int} (ok:ES (pre++[u])) (h1:u.from_<c) (h2:u.to=0):dY (pre++[u]) c=(pre++[k8 u c],0):=by
 have hz:eA none (pre++[u])=0:=uK _ none ok (by simp);have hg:(pre++[u])[(pre++[u]).length-1]? = some u:=by simp
 unfold dY k8;rw[hz,aE (by simp),hg];simp only;rw[aE (by omega),aE (by omega),bC h2];simp
theorem sg {l:List fE} {k:Nat} {v:fE} (h:l[k]? = some v):∃ pre u,l=pre++[u]:=by
 have hne:l≠[]:=fun e=>by subst e;simp at h
 exact ⟨l.dropLast,l.getLast hne,(List.dropLast_concat_getLast hne).symm⟩
theorem nR {l:List Ob} {j:Nat} {o:Ob} (h:l[j]? = some o):∃ A B,l=A++o::B/\A.length=j/\(∀ x,l.set j x=A++x::B)/\ic l (j:Int)=A++B:=by
 have hj:=(jM.1 h).1;have hA:(l.take j).length=j:=by rw[cw];omega
 have e:l=l.take j++o::l.drop (j+1):=by rw[<- aH h,JS]
 refine ⟨l.take j,l.drop (j+1),e,hA,fun x=>?_,rfl⟩
 conv=>lhs;rw[e]
 rw[Pk _ _ (by omega),hA,JI];rfl
theorem nS (l m:List fE):ia (l++m)=ia l++ia m:=by simp[ia]
theorem mD (l m:List Ob):gp (l++m)=gp l++gp m:=by simp[gp]
theorem nT (o:Ob) (m:List Ob):gp (o::m)=ia o.bu++gp m:=by simp[gp]
theorem DU (pre:List fE) (u:fE) (f:Int):ia (pre++[k8 u f])=ia (pre++[u]):=by
 rw[nS,nS]
 congr 1
 unfold k8;split<;>simp[ia]
structure wC (s:Sr):Prop where
 ids:vO (s.objs.map (·.id))
 Qa:∀ o∈s.objs,1<=o.id/\o.id<=s.last
 ok:∀ o∈s.objs,ES o.bu
 com:∀ o∈s.objs,∀ v∈o.bu,v.from_<=s.commit/\v.to<=s.commit
 ar:B0 s.ar (gp s.objs)
 cap:s.ar.cap=s.c.nu
theorem B1 {α β:Type} (f:α->List β) (k:Nat):∀ (l:List α),(∀ x∈l,(f x).length<=k)->(l.flatMap f).length<=k*l.length
 | [],_=>iU _
 | x::l,h=>by
   have h1:=B1 f k l fun y hy=>h y (by simp[hy]);have h2:=h x (by simp);rw[RW,bW,List.length_cons,Nat.mul_add];omega
theorem wC.UK {s:Sr} {i:Nat} {j:Nat} {o:Ob} {vs:List fE} {ps:List Int} {a:Ar} {com:Int} {s':Sr} (h:wC s) (hj:s.objs[j]? = some o) (hok:ES vs) (Fi:s.commit<=com) (hv:∀ v∈vs,v.from_<=com/\v.to<=com) (hp:(ia o.bu++ps).Perm (ia vs)) (ha:B0 a (gp s.objs++ps)) (hc:a.cap=s.ar.cap)
  (e1:s'.objs=dz s.objs (j:Int) vs) (e2:s'.commit=com) (e3:s'.last=s.last) (e4:s'.ar=a) (e5:s'.c=s.c):wC s':=by
 obtain ⟨A,B,hl,hA,aG,_⟩:=nR hj;have zZ:dm s.objs (j:Int)=o:=by simp[dm,hj]
 have XJ:s'.objs=A++⟨o.id,vs⟩::B:=by rw[e1,dz,zZ,Int.toNat_natCast,aG]
 have hmem:∀ x∈s'.objs,x∈s.objs\/x=⟨o.id,vs⟩:=fun x hx=>by
  rw[XJ] at hx;rw[hl];simp only[lS,lp] at hx ⊢;rcases hx with hx|hx|hx
  ·exact .inl (.inl hx)
  ·exact .inr hx
  ·exact .inl (.inr (.inr hx))
 have ho:o∈s.objs:=fS hj;refine ⟨?_,fun x hx=>?_,fun x hx=>?_,fun x hx=>?_,?_,by rw[e4,e5,hc];exact h.cap⟩
 ·have:=h.ids;rw[hl] at this;rw[XJ];simpa using this
 ·rw[e3];rcases hmem x hx with hx|rfl
  ·exact h.Qa x hx
  ·exact h.Qa o ho
 ·rcases hmem x hx with hx|rfl
  ·exact h.ok x hx
  ·exact hok
 ·rw[e2];rcases hmem x hx with hx|rfl
  ·intro v hv;have:=h.com x hx v hv;omega
  ·exact hv
 ·rw[e4,XJ];refine ha.perm ?_;rw[hl,mD,nT,mD,nT,lR];refine List.Perm.append_left _ ?_
  have h1:(ia o.bu++gp B++ps).Perm (ia o.bu++ps++gp B):=by
   rw[lR,lR];exact List.Perm.append_left _ Sv
  exact h1.trans (hp.append_right _)
theorem uL {s:Sr} {n:ByteArray} {c:Int} (h:(fO s n c).2.2=true):∃ (j k:Nat) (o:Ob) (v:fE),s.objs[j]? = some o/\o.bu[k]? = some v/\me v.from_ v.to c=true/\fO s n c=((j:Int),v,true):=by
 rcases gK s n c with ⟨e,_⟩|⟨j,k,o,v,h1,q1,q2,q3,q4,q5,q6,e⟩
 ·rw[e] at h;cases h
 ·refine ⟨j,k,o,v,q1,q4,?_,e⟩
  have:∀ (l:List fE) (i m:Nat),gf c l i=(((i+m:Nat):Int),true)->∀ u,l[m]? = some u->me u.from_ u.to c=true:=by
   intro l
   induction l with
   | nil=>intro i m _ u hu;simp at hu
   | cons w l ih=>
     intro i m hf u hu;rw[gf] at hf
     split at hf
     ·rename_i hw;injection hf with pH _
      have:m=0:=by omega
      subst this;simp only[dJ,fD] at hu;subst hu;exact hw
     ·cases m with
      | zero=>
        exfalso;rcases mX c l (i+1) with g|⟨k',u',g1,g2⟩
        ·rw[g] at hf;injection hf with _ mK;cases mK
        ·rw[g2] at hf;injection hf with pH _;omega
      | succ m=>
        exact ih (i+1) m (by rw[hf];congr 2;omega) u (by simpa using hu)
  exact this o.bu 0 k (by rw[q6,kO]) v q4
theorem I7 {pre:List fE} {u v:fE} {c:Int} (ok:ES (pre++[u])) (hc:∀ w∈pre++[u],w.from_<=c/\w.to<=c) (hm:v∈pre++[u]) (hh:me v.from_ v.to c=true):v=u/\u.to=0:=by
 have h1:=hc v hm;have hr:=ok.range v hm
 have h0:v.to=0:=by
  simp only[me,jj,vP,pQ] at hh;omega
 rcases lS.1 hm with hm|hm
 ·obtain ⟨_,_,a3⟩:=JF.1 ok.pG;have:=(a3 v hm u (by simp)).1;omega
 ·have:=rG.1 hm;subst this;exact ⟨rfl,h0⟩
theorem Oy {i:Nat} {s:Sr} {m:ByteArray} {n:Int} (h:wC s) (hb:wD i s):wC (cR s m (aO n)).1:=by
 have hsp:=nU n s.c.fF;unfold cR
 split
 ·exact h
 ·split
  ·exact h
  ·split
   ·exact h
   ·split
    ·exact h
    ·rename_i lE;simp only[vQ,Int.not_le,Int.not_lt] at lE;obtain ⟨g1,g2⟩:=r9 (aR (aO n) s.c.fF).1 h.ar (fun d hd=>(hsp.2 d hd).1) (by rw[h.cap];omega);have Fi:=hb.hc;have hla:=hb.hl;refine ⟨?_,fun o ho=>?_,fun o ho=>?_,fun o ho v hv=>?_,?_,?_⟩
     ·simp only[vN,fk,eN];refine JF.2 ⟨h.ids,Vo _ _,fun a ha b hb=>?_⟩;obtain ⟨o,ho,rfl⟩:=qq.1 ha;rw[rG] at hb;have:=(h.Qa o ho).2;omega
     ·rcases lS.1 ho with ho|ho
      ·have:=h.Qa o ho;exact ⟨this.1,by simp only;omega⟩
      ·rw[rG.1 ho];simp only;omega
     ·rcases lS.1 ho with ho|ho
      ·exact h.ok o ho
      ·rw[rG.1 ho];refine ⟨fun v hv=>?_,Vo _ _⟩;rw[rG.1 hv];simp only;omega
     ·rcases lS.1 ho with ho|ho
      ·have:=h.com o ho v hv;simp only;omega
      ·rw[rG.1 ho] at hv;rw[rG.1 hv];simp only;omega
     ·simp only;refine g1.perm ?_;rw[mD];exact List.Perm.append_left _ (by simp[gp,ia])
     ·simp only;rw[g2];exact h.cap
theorem XK {i:Nat} {s:Sr} {m:ByteArray} {n:Int} (h:wC s) (hb:wD i s) (j8:(gp s.objs).length<=10309):wC (ji s m (aO n)).1:=by
 have hsp:=nU n s.c.fF;have rW:=(gy n).1;unfold ji
 split
 ·exact h
 ·split
  ·exact h
  ·rename_i _ hv;obtain ⟨j,k,o,v,hj,hk,hh,e⟩:=uL (by simpa using hv);rw[e];simp only
   split
   ·exact h
   ·rename_i lE;simp only[vQ,Int.not_le,Int.not_lt] at lE;have ho:=fS hj;have Qb:=fS hk;have XL:∀ z∈v.pages,z∈gp s.objs:=fun z hz=>MG.2 ⟨o,ho,MG.2 ⟨v,Qb,hz⟩⟩;obtain ⟨g1,g2⟩:=tH (fun z=>(eH s.ar z).1) (aR (aO n) s.c.fF).1 h.ar XL (fun d hd=>(hsp.2 d hd).1) (by rw[h.cap];simp only[bg] at lE;omega) (by have:=hsp.1;omega);have zZ:dm s.objs (j:Int)=o:=by simp[dm,hj]
    have Fi:=hb.hc;obtain ⟨pre,u,JJ⟩:=sg hk;have hok:=h.ok o ho;have LJ:=h.com o ho;rw[JJ] at hok LJ;have VD:=LJ u (by simp);rw[zZ];simp only[bg];generalize iR s.ar (aR (aO n) s.c.fF).1 (bB (v.pages.map fun z=>(eH s.ar z).1) (aR (aO n) s.c.fF).1) v.pages=P at *
    have e2:cQ o.bu ⟨s.commit+1,0,(aO n).length,P.2⟩=(pre++[k8 u (s.commit+1)]++[⟨s.commit+1,0,(aO n).length,P.2⟩],0):=by
     rw[JJ];exact vq hok (by omega) (by omega) (by omega)
    rw[e2];refine wC.UK (i:=i) (s:=s) h hj (HA (p:=P.2) (s:=(aO n).length) hok (f:=s.commit+1) (by omega) (by omega) (by omega) (by omega)) (com:=s.commit+1) (by omega) (fun w hw=>?_) (ps:=P.2) ?_ g1 g2 rfl rfl rfl rfl rfl
    ·have Ru:=hok.range u (by simp);have hU:=xT u (s.commit+1) (by omega) (by omega) Ru.2.2.2 Ru.2.1 Ru.1;simp only[lS,rG] at hw;rcases hw with (hw|rfl)|rfl
     ·have:=LJ w (by simp[hw]);omega
     ·rw[hU.1];omega
     ·simp only;omega
    ·rw[nS,DU,JJ];simp[ia]
theorem UL {i:Nat} {s:Sr} {m:ByteArray} (h:wC s) (hb:wD i s):wC (gq s m).1:=by
 unfold gq
 split
 ·exact h
 ·rename_i hv;obtain ⟨j,k,o,v,hj,hk,hh,e⟩:=uL (by simpa using hv);rw[e];simp only
  split
  ·exact h
  ·have ho:=fS hj;have Qb:=fS hk;have zZ:dm s.objs (j:Int)=o:=by simp[dm,hj]
   have Fi:=hb.hc;obtain ⟨pre,u,JJ⟩:=sg hk;have hok:=h.ok o ho;have LJ:=h.com o ho;rw[JJ] at hok LJ Qb;have VD:=LJ u (by simp);obtain ⟨_,ZE⟩:=I7 hok LJ Qb hh;have Ru:=hok.range u (by simp);have hU:=xT u (s.commit+1) (by omega) (by omega) Ru.2.2.2 Ru.2.1 Ru.1;rw[zZ,JJ,FW hok (by omega) ZE];have hk2:ES (pre++[k8 u (s.commit+1)]):=(HA (p:=[]) (s:=0) hok (f:=s.commit+1) (by omega) (by omega) (by omega) (by omega)).sub (List.sublist_append_left _ _);refine wC.UK (i:=i) (s:=s) h hj hk2 (com:=s.commit+1) (by omega) (fun w hw=>?_) (ps:=[]) ?_ (by simpa using h.ar) rfl rfl rfl rfl rfl rfl
   ·simp only[lS,rG] at hw;rcases hw with hw|rfl
    ·have:=LJ w (by simp[hw]);omega
    ·rw[hU.1];omega
   ·rw[DU,JJ];simp
theorem HB {s s':Sr} (h:wC s) (e1:s'.objs=s.objs) (e2:s.commit<=s'.commit) (e3:s'.last=s.last) (e4:s'.ar=s.ar) (e5:s'.c=s.c):wC s':=
 ⟨by rw[e1];exact h.ids,by rw[e1,e3];exact h.Qa,by rw[e1];exact h.ok,fun o ho v hv=>by rw[e1] at ho;have:=h.com o ho v hv;omega,by rw[e1,e4];exact h.ar,by rw[e4,e5];exact h.cap⟩
theorem renameI {s:Sr} {m k:ByteArray} (h:wC s):wC (bY s m k).1:=by
 unfold bY
 repeat' split
 all_goals exact HB h rfl (by simp only;omega) rfl rfl rfl
theorem XM {s:Sr} {c:Int} (h:wC s):wC (ja s c).1:=by
 unfold ja
 repeat' split
 all_goals exact HB h rfl (by simp only;omega) rfl rfl rfl
theorem Rv {s:Sr} {c:Int} (h:wC s):wC (gW s c).1:=by
 unfold gW
 repeat' split
 all_goals exact HB h rfl (by simp only;omega) rfl rfl rfl
def gY (s:Sr):List Vn:=s.objs.flatMap jo
def Sf (x y:Vn):Prop:=x.id<y.id\/(x.id=y.id/\x.v.from_<y.v.from_)
theorem DV {s:Sr} (h:wC s):(gY s).Pairwise Sf:=by
 unfold gY;refine List.pairwise_flatMap.2 ⟨fun o ho=>?_,?_⟩
 ·unfold jo;refine List.pairwise_map.2 ?_;have hok:=h.ok o ho;refine hok.pG.imp_of_mem fun {a b} ha hb hab=>?_;have:=hok.range a ha;exact .inr ⟨rfl,by simp only;have:=this.2.2.2 hab.1;omega⟩
 ·have:=List.pairwise_map.1 h.ids;refine this.imp fun {a b} hab x hx y hy=>?_;obtain ⟨v,_,rfl⟩:=qq.1 hx;obtain ⟨w,_,rfl⟩:=qq.1 hy;exact .inl hab
theorem LK {p:Nat->Bool} {n:Nat} (h:∀ k<n,p k=false):gx p n=n:=by
 cases n with
 | zero=>rfl
 | succ n=>rw[gx,aE (by rw[h n (by omega)];decide)]
theorem LM {x:Vn} {a:List Vn} (h:∀ y∈a,Sf y x):E6 x a=a++[x]:=by
 unfold E6;rw[LK fun k hk=>?_,tZ];simp only[uZ,rF hk,Option.getD_some];have:=h a[k] (Ih _);rw[Oz];unfold Sf at this;omega
theorem DW:∀ (l a:List Vn),(a++l).Pairwise Sf->mY a l=a++l
 | [],a,_=>by simp[mY]
 | x::l,a,h=>by
   have h2:=(JF.1 h).2.2;rw[mY,LM fun y hy=>h2 y hy x (by simp)];have e:a++x::l=a++[x]++l:=by simp
   rw[e] at h ⊢;exact DW l _ h
theorem xU {s:Sr} (h:wC s):iX s.objs []=gY s:=by
 rw[qh];exact DW _ [] (by rw[List.nil_append];exact DV h)
theorem FX {l:List Vn} (h:l.Pairwise Sf):l.Nodup:=h.imp fun {a b} hab e=>by subst e;unfold Sf at hab;omega
theorem HC {c:Int}:∀ {l:List fE} {k m:Nat} {v:fE},l[k]? = some v->v.from_=c->(∀ i u,i<k->l[i]? = some u->u.from_≠c)->lC c l m=((m+k:Nat):Int)
 | [],_,_,_,h,_,_=>by simp at h
 | w::l,0,m,v,h,hc,_=>by
   simp only[dJ,fD] at h;subst h;rw[lC,bC hc];rfl
 | w::l,k+1,m,v,h,hc,hn=>by
   rw[lC,aE (hn 0 w (by omega) rfl),HC (k:=k) (v:=v) (by simpa using h) hc fun i u hi hu=>hn (i+1) u (by omega) (by simpa using hu)];omega
theorem Rw {l:List fE} (h:ES l) {i k:Nat} {u v:fE} (hu:l[i]? = some u) (hv:l[k]? = some v) (hik:i<k):u.from_<v.from_:=by
 obtain ⟨hi,rfl⟩:=jM.1 hu;obtain ⟨hk,rfl⟩:=jM.1 hv;have h1:=JR.1 h.pG i k hi hk hik;have h2:=(h.range l[i] (Ih _)).2.2.2 h1.1;omega
theorem DX {l:List Ob} (h:vO (l.map (·.id))) {j:Nat} {o:Ob} (ho:l[j]? = some o):cU o.id l 0=(j:Int):=by
 rcases jH o.id l 0 with ⟨_,h2⟩|⟨i,p,h1,h2,h3,_⟩
 ·exact absurd rfl (h2 o (fS ho))
 ·rw[h3,OA h h1 ho h2];simp
theorem HD:∀ (ps:List Int) (a:Ar),(pN a ps).pages.length<=a.pages.length
 | [],_=>iU _
 | n::ps,a=>by
   have h1:=HD ps (bZ a n).1
   have h2:(bZ a n).1.pages.length<=a.pages.length:=by
    unfold bZ
    split
    ·exact iU _
    ·split
     ·simp[gl]
     ·simp only[ic,bW,cw,bQ];omega
   rw[pN];omega
theorem FY {a:Ar} {n:Int} (ha:tI a.pages):tI (bZ a n).1.pages:=by
 unfold bZ
 split
 ·exact ha
 ·split
  ·intro p hp;rcases RS hp with h|rfl
   ·exact ha p h
   ·exact DY ha
  ·intro p hp;rcases lS.1 hp with h|h
   ·exact ha p (zR h)
   ·exact ha p (E8 h)
theorem HE:∀ (ps:List Int) {a:Ar},tI a.pages->tI (pN a ps).pages
 | [],_,h=>h
 | n::ps,_,h=>HE ps (FY h)
theorem FZ {i:Nat} {s:Sr} {x:Vn} (h:wC s) (hb:wD i s) (j8:(gp s.objs).length<=10309) (hx:x∈gY s) (hg:qi s.pins x.v=true):∃ s',dA s x.id x.v.from_=(s',0)/\wC s'/\wD i s'/\s'.pins=s.pins/\∀ L R,gY s=L++x::R->gY s'=L++R:=by
 obtain ⟨o,ho,UM⟩:=MG.1 hx;obtain ⟨v,hv,rfl⟩:=qq.1 UM;obtain ⟨j,hj⟩:=JD.1 ho;obtain ⟨k,hk⟩:=JD.1 hv;have hok:=h.ok o ho;have Cn:cU o.id s.objs 0=(j:Int):=DX h.ids hj;have zZ:dm s.objs (j:Int)=o:=by simp[dm,hj]
 have zv:lC v.from_ o.bu 0=(k:Int):=by
  have:=HC (m:=0) hk rfl fun i u hi hu=>by have:=Rw hok hu hk hi;omega
  simpa using this
 have hrm:aS o.bu v.from_=(o.bu.take k++o.bu.drop (k+1),v,0):=by
  unfold aS;rw[aE (by omega),zv];simp[hk]
 have hto:v.to≠0/\dW v.from_ v.to s.pins=false:=by
  simp only[qi,jj,Pp] at hg;exact ⟨by simpa using hg.1,hg.2⟩
 obtain ⟨A,B,hl,hA,aG,XO⟩:=nR hj;have Sg:o.bu=o.bu.take k++v::o.bu.drop (k+1):=by rw[<- aH hk,JS]
 generalize hP:o.bu.take k=P at *;generalize hQ:o.bu.drop (k+1)=Q at *
 have hsub:(P++Q).Sublist o.bu:=by
  rw[Sg];exact List.Sublist.append_left (List.sublist_cons_self _ _) _
 let O2:List Ob:=if (P++Q).length=0 then A++B else A++⟨o.id,P++Q⟩::B
 have e0:dA s o.id v.from_=({ s with objs:=O2,ar:=pN s.ar v.pages },0):=by
  unfold dA;rw[aE (by omega),Cn,zZ,hrm];simp only;rw[aE (by simp),aE (by simp only[vQ];exact ⟨hto.1,by rw[hto.2];decide⟩)]
  have:(if (P++Q).length=0 then ic s.objs (j:Int) else dz s.objs (j:Int) (P++Q))=O2:=by
   simp only[O2]
   split
   ·exact XO
   ·rw[dz,zZ,Int.toNat_natCast,aG]
  rw[this]
 have hmem:∀ y∈O2,y∈s.objs\/y=⟨o.id,P++Q⟩:=fun y hy=>by
  rw[hl];simp only[O2] at hy
  split at hy
  ·simp only[lS,lp] at hy ⊢;rcases hy with hy|hy
   ·exact .inl (.inl hy)
   ·exact .inl (.inr (.inr hy))
  ·simp only[lS,lp] at hy ⊢;rcases hy with hy|hy|hy
   ·exact .inl (.inl hy)
   ·exact .inr hy
   ·exact .inl (.inr (.inr hy))
 have rM:(O2.map (·.id)).Sublist (s.objs.map (·.id)):=by
  rw[hl];simp only[O2]
  split
  ·exact (List.Sublist.append_left (List.sublist_cons_self _ _) _).map _
  ·simp
 have XP:gp O2=gp A++ia (P++Q)++gp B:=by
  simp only[O2]
  split
  ·rename_i hz;rw[uc hz,mD];simp[ia]
  ·rw[mD,nT,lR]
 have JQ:O2.flatMap jo=A.flatMap jo++(P++Q).map (fun w=>⟨o.id,w⟩)++B.flatMap jo:=by
  simp only[O2]
  split
  ·rename_i hz;rw[uc hz,SB];simp
  ·rw[SB,RW,lR];rfl
 have XQ:gY s=(A.flatMap jo++P.map (fun w=>⟨o.id,w⟩))++⟨o.id,v⟩::(Q.map (fun w=>⟨o.id,w⟩)++B.flatMap jo):=by
  unfold gY;rw[hl,SB,RW];unfold jo;rw[Sg];simp
 have Ys:(gp s.objs).Perm (v.pages++gp O2):=by
  rw[XP,hl,mD,nT,Sg,nS,nS];have e1:ia (v::Q)=v.pages++ia Q:=rfl;rw[e1]
  have h1:(gp A++(ia P++(v.pages++ia Q)++gp B)).Perm (v.pages++(gp A++(ia P++ia Q)++gp B)):=by
   have:gp A++(ia P++(v.pages++ia Q)++gp B)=(gp A++ia P)++v.pages++(ia Q++gp B):=by simp
   rw[this];have:v.pages++(gp A++(ia P++ia Q)++gp B)=v.pages++(gp A++ia P)++(ia Q++gp B):=by simp
   rw[this];exact List.Perm.append_right _ Sv
  exact h1
 refine ⟨_,e0,⟨h.ids.sublist rM,fun y hy=>?_,fun y hy=>?_,fun y hy=>?_,?_,?_⟩,⟨hb.hb,?_,fun y hy=>?_,hb.hp,?_,HE _ hb.hd,hb.hc,hb.hl,hb.hz⟩,rfl,fun L R Si=>?_⟩
 ·rcases hmem y hy with hy|rfl
  ·exact h.Qa y hy
  ·exact h.Qa o ho
 ·rcases hmem y hy with hy|rfl
  ·exact h.ok y hy
  ·exact hok.sub hsub
 ·rcases hmem y hy with hy|rfl
  ·exact h.com y hy
  ·exact fun w hw=>h.com o ho w (hsub.subset hw)
 ·simp only;exact DQ v.pages (h.ar.perm Ys) (by rw[<- Ys.length_eq];omega)
 ·simp only;rw[xS];exact h.cap
 ·have:=rM.length_le;simp only[dD] at this;have:=hb.ho;simp only;omega
 ·rcases hmem y hy with hy|rfl
  ·exact hb.hv y hy
  ·have:=hb.hv o ho;exact ⟨by have:=hsub.length_le;simp only;omega,fun w hw=>this.2 w (hsub.subset hw)⟩
 ·have:=HD v.pages s.ar;have:=hb.hg;simp only;omega
 ·have qX:=FX (DV h)
  have key:∀ (L R L' R':List Vn),(L++⟨o.id,v⟩::R).Nodup->L++(⟨o.id,v⟩:Vn)::R=L'++⟨o.id,v⟩::R'->L=L'/\R=R':=by
   intro L
   induction L with
   | nil=>
     intro R L' R' hn e;cases L' with
     | nil=>simp only[List.nil_append,Pq,true_and] at e;exact ⟨rfl,e⟩
     | cons y L'=>
       simp only[List.nil_append,List.cons_append,Pq] at e;simp only[List.nil_append,M4] at hn;exact absurd (by rw[e.2];simp) hn.1
   | cons y L ih=>
     intro R L' R' hn e;cases L' with
     | nil=>
       simp only[List.nil_append,List.cons_append,Pq] at e;simp only[List.cons_append,M4] at hn;exact absurd (by rw[e.1];simp) hn.1
     | cons z L'=>
       simp only[List.cons_append,Pq] at e;simp only[List.cons_append,M4] at hn;obtain ⟨g1,g2⟩:=ih R L' R' hn.2 e.2;exact ⟨by rw[g1,e.1],g2⟩
  rw[XQ] at qX Si;obtain ⟨g1,g2⟩:=key _ _ _ _ qX Si;rw[<- g1, <- g2];show O2.flatMap jo=_;rw[JQ];simp
theorem I8 (s:Sr):LN (gY s)=gp s.objs:=LO s.objs
set_option maxRecDepth 100000
set_option maxHeartbeats 6400000
theorem sj {l:List Ob} {j:Nat} {o:Ob} (h:l[j]? = some o) (v:List fE):dz l (j:Int) v=l.set j ⟨o.id,v⟩:=by
 simp[dz,dm,h]
theorem DZ {l:List Ob} {j:Nat} {o:Ob} (h:l[j]? = some o):dm l (j:Int)=o:=by simp[dm,h]
theorem D0 {a1 a2 a3 a4 a5 a6 a7 com last cap:Int} {os:List Ob} {bs:List Bd} {ps:List Pn} {pg:List Pg} {n:ByteArray} (hb:bs.length<=100000) (ho:os.length<=100000) (hv:∀ o∈os,o.bu.length<=100000) (hp:∀ o∈os,∀ v∈o.bu,v.pages.length<=1000000) (h0:0<=com) (h9:com<=1000000000):ak prog 49 [.agg [i6 a1,i6 a2,i6 a3,i6 a4,i6 a5,i6 a6,i6 a7,i6 com,i6 last,.sl 2 (os.map aK),.sl 4 (bs.map ag),.sl 2 (ps.map aW),i6 cap,.sl 3 (pg.map bt)],.sc (.string n)] (.cT [.agg (eS (gq ⟨⟨a1,a2,a3,a4,a5,a6,a7⟩,com,last,os,bs,ps,⟨cap,pg⟩⟩ n).1),i6 (gq ⟨⟨a1,a2,a3,a4,a5,a6,a7⟩,com,last,os,bs,ps,⟨cap,pg⟩⟩ n).2.1,i6 (gq ⟨⟨a1,a2,a3,a4,a5,a6,a7⟩,com,last,os,bs,ps,⟨cap,pg⟩⟩ n).2.2]) []:=by
 have yS:=n8 (a1:=a1) (a2:=a2) (a3:=a3) (a4:=a4) (a5:=a5) (a6:=a6) (a7:=a7) (com:=com) (last:=last) (cap:=cap) (os:=os) (bs:=bs) (ps:=ps) (pg:=pg) (n:=n) (c:=com) hb ho hv;unfold gq;simp only;rcases gK ⟨⟨a1,a2,a3,a4,a5,a6,a7⟩,com,last,os,bs,ps,⟨cap,pg⟩⟩ n com with ⟨e,_⟩|⟨j,k,o,v,_,q1,q2,q3,q4,q5,q6,e⟩
 focus
  rw[e] at yS ⊢;simp only;rw[bC trivial];simp only[aL,zeroV,eN] at yS;simp only[eS];have hZ:=ek 0
 rotate_left 1
 focus
  rw[e] at yS ⊢;simp only;rw[aE (by decide)];simp only[aL] at yS;by_cases c1:a6<=com
  focus
   rw[bC c1];simp only[eS];have hZ:=ek 0
  rotate_left 1
  ·rw[aE c1];simp only at q1 q2;simp only[DZ q1,sj q1];have hm:=fS q1;have lE:=FR (vs:=o.bu) (c:=com+1) (hv o hm) (hp o hm);have VD:=xV (l:=bs) (n:=n) (c:=com+1) hb;generalize dY o.bu (com+1)=CV at *;generalize bI bs n (com+1)=UB at *;have jc:=get_map aK q1;simp only[eS];refine dL [] [2,4,8,15,35,49,60] func49 (by kernel_rfl) ntmps49 rfl rfl ⟨rfl,rfl⟩ (by simp(disch:=omega)only[seval,go_sem,cI,List.replicate,l_2,l_1];rfl) ?_
   ((repeat'(first|(with_reducible refine aY 8 ?_;refine ay.bU 8 mix 18 rfl (.f 0 <| .f 2 <| .f 3 <| .f 5 <| .f 9 <| .a <| .b 1 (.a <| .b 4 (.f 6 <| .f 7 <| .a <| .b 8 (.a <| .b 10 (.a <| .b 11 (.f 12 <| .f 13 <| .f 14 <| .f 15 <| .f 16 <| .a <| .b 17 (.d) .e) .e) .e) <| .b 10 (.a <| .b 8 (.a <| .b 11 (.f 12 <| .f 13 <| .f 14 <| .f 15 <| .f 16 <| .a <| .b 17 (.d) .e) .e) .e) .e) <| .b 10 (.a <| .b 4 (.f 6 <| .f 7 <| .a <| .b 8 (.a <| .b 11 (.f 12 <| .f 13 <| .f 14 <| .f 15 <| .f 16 <| .a <| .b 17 (.d) .e) .e) .e) .e) .e) <| .b 4 (.f 6 <| .f 7 <| .a <| .b 1 (.a <| .b 8 (.a <| .b 10 (.a <| .b 11 (.f 12 <| .f 13 <| .f 14 <| .f 15 <| .f 16 <| .a <| .b 17 (.d) .e) .e) .e) <| .b 10 (.a <| .b 8 (.a <| .b 11 (.f 12 <| .f 13 <| .f 14 <| .f 15 <| .f 16 <| .a <| .b 17 (.d) .e) .e) .e) .e) <| .b 8 (.a <| .b 1 (.a <| .b 10 (.a <| .b 11 (.f 12 <| .f 13 <| .f 14 <| .f 15 <| .f 16 <| .a <| .b 17 (.d) .e) .e) .e) <| .b 10 (.a <| .b 1 (.a <| .b 11 (.f 12 <| .f 13 <| .f 14 <| .f 15 <| .f 16 <| .a <| .b 17 (.d) .e) .e) <| .b 11 (.f 12 <| .f 13 <| .f 14 <| .a <| .b 1 (.f 15 <| .f 16 <| .a <| .b 17 (.d) .e) .e) .e) .e) <| .b 10 (.a <| .b 1 (.a <| .b 8 (.a <| .b 11 (.f 12 <| .f 13 <| .f 14 <| .f 15 <| .f 16 <| .a <| .b 17 (.d) .e) .e) .e) <| .b 8 (.a <| .b 1 (.a <| .b 11 (.f 12 <| .f 13 <| .f 14 <| .f 15 <| .f 16 <| .a <| .b 17 (.d) .e) .e) <| .b 11 (.f 12 <| .f 13 <| .f 14 <| .a <| .b 1 (.f 15 <| .f 16 <| .a <| .b 17 (.d) .e) .e) .e) .e) .e) <| .b 10 (.a <| .b 1 (.a <| .b 4 (.f 6 <| .f 7 <| .a <| .b 8 (.a <| .b 11 (.f 12 <| .f 13 <| .f 14 <| .f 15 <| .f 16 <| .a <| .b 17 (.d) .e) .e) .e) .e) <| .b 4 (.f 6 <| .f 7 <| .a <| .b 1 (.a <| .b 8 (.a <| .b 11 (.f 12 <| .f 13 <| .f 14 <| .f 15 <| .f 16 <| .a <| .b 17 (.d) .e) .e) .e) <| .b 8 (.a <| .b 1 (.a <| .b 11 (.f 12 <| .f 13 <| .f 14 <| .f 15 <| .f 16 <| .a <| .b 17 (.d) .e) .e) <| .b 11 (.f 12 <| .f 13 <| .f 14 <| .a <| .b 1 (.f 15 <| .f 16 <| .a <| .b 17 (.d) .e) .e) .e) .e) .e) .e) (by kernel_rfl) ?_)|(with_reducible refine aY 10 ?_;refine ay.bU 10 mix 6 rfl (.f 1 <| .a <| .b 0 (.a <| .b 2 (.a <| .b 3 (.f 4 <| .f 5 <| .d) .e) <| .b 3 (.a <| .b 2 (.f 4 <| .f 5 <| .d) .e) .e) <| .b 2 (.a <| .b 0 (.a <| .b 3 (.f 4 <| .f 5 <| .d) .e) .e) .e) (by kernel_rfl) ?_)|(with_reducible refine cA ?_;first|refine aJ.D ?_|refine aJ.F (by simp only[seval,go_sem,eg,dJ];rfl) (by first|(simp only[seval,go_sem,jc,aK])) (by first|(simp only[seval,go_sem,jc,aK];with_reducible rfl)|(simp(disch:=omega)only[seval,go_sem,cI,jc,aK];with_reducible rfl)) ?_|refine aJ.A ?_)|(with_reducible first|exact aI.E|refine aI.B (by simp only[seval,go_sem,eg,dJ];rfl) ?_ ?_)|simp only[seval,go_sem,jc,aK]|((with_reducible refine bJ ?_);first|refine aq.c (yS) ?_|refine aq.c (lE) ?_|refine aq.c (VD) ?_)|((with_reducible refine au ?_);first|(with_reducible refine aD (st:=[]) ?_)|((with_reducible first|refine ah.step (by simp only[seval,go_sem,jc,aK];rfl) ?_);refine dI (st:=[]) ?_))|(with_reducible refine aB ?_;(refine aC.gu 35 (by simp only[seval,go_sem];rfl) (by simp only[seval,go_sem,jc,aK];rfl) ?_);(with_reducible refine aB ?_;refine aC.q rfl (by with_unfolding_all (show iw _ _ [.cell 4 33,.tmp 5,.tmp 6]=_);simp only[seval,go_sem];rfl) (by simp only[seval,go_sem];rfl) (by decide) (by simp only[seval,go_sem];rfl) (by simp only[seval,go_sem];rfl) rfl ?_<;>(try simp only[seval,go_sem,jc,aK])<;>(repeat'(with_reducible apply And.intro))<;>(try rfl)))|(with_reducible first|refine aV (st:=[]) ?_|refine ai (by simp(disch:=omega)only[seval,go_sem,cI,jc,aK];rfl) ?_))))
   all_goals(try(first|(simp[aK,qN];done)|exact lu (by simp)))
 rotate_left 1;all_goals(refine dL [] [2,4,8,15,35,49,60] func49 (by kernel_rfl) ntmps49 rfl rfl ⟨rfl,rfl⟩ (by simp(disch:=omega)only[seval,go_sem,cI,List.replicate,l_2,l_1];rfl) ?_)
 all_goals((repeat'(first|simp only[seval,go_sem,hZ]|((with_reducible refine bJ ?_);refine aq.c (yS) ?_)|(with_reducible refine aD (st:=[]) ?_)|(with_reducible refine aB ?_;refine fl (rs:=[.cell 4 33,.tmp 5,.tmp 6]) (by with_unfolding_all rfl) rfl ?_<;>simp only[seval,go_sem]<;>(repeat'(with_reducible apply And.intro))<;>(try rfl))|(with_reducible first|refine aV (st:=[]) ?_|refine ai (by simp(disch:=omega)only[seval,go_sem,cI,hZ];rfl) ?_))))
set_option maxHeartbeats 12800000
theorem D1 (a:Ar) (n:Int):(bZ a n).1.pages.length<=a.pages.length:=by
 unfold bZ
 split
 ·exact iU _
 ·split
  ·simp[gl]
  ·simp only[ic,bW,cw,bQ];omega
theorem I9 {a A:Ar} {l:List Int} {k:Nat} {z:Int} (hz:l[k]? = some z) (h:pN a (l.drop k)=A):pN (bZ a z).1 (l.drop (k+1))=A:=by
 rw[aH hz,pN] at h;exact h
theorem v7 {a1 a2 a3 a4 a5 a6 a7 com last cap:Int} {os:List Ob} {bs:List Bd} {ps:List Pn} {pg:List Pg} {id eo:Int} (ho:os.length<=100000) (hv:∀ o∈os,o.bu.length<=100000) (hp:∀ o∈os,∀ v∈o.bu,v.pages.length<=100000) (pS:ps.length<=100000) (hg:pg.length<=100000):ak prog 57 [.agg [i6 a1,i6 a2,i6 a3,i6 a4,i6 a5,i6 a6,i6 a7,i6 com,i6 last,.sl 2 (os.map aK),.sl 4 (bs.map ag),.sl 2 (ps.map aW),i6 cap,.sl 3 (pg.map bt)],i6 id,i6 eo] (.cT [.agg (eS (dA ⟨⟨a1,a2,a3,a4,a5,a6,a7⟩,com,last,os,bs,ps,⟨cap,pg⟩⟩ id eo).1),i6 (dA ⟨⟨a1,a2,a3,a4,a5,a6,a7⟩,com,last,os,bs,ps,⟨cap,pg⟩⟩ id eo).2]) []:=by
 have D2:=xW (l:=os) (n:=id) ho;unfold dA;simp only;rcases vr id os with h|⟨j,o,q1,q2,q3,q4⟩
 ·rw[h] at D2 ⊢;rw[bC (by decide)];simp only[eS];refine dL [] [3,6,10,16,28,46,64,71,91] func57 (by kernel_rfl) ntmps57 rfl rfl ⟨rfl,rfl⟩ (by simp(disch:=omega)only[seval,go_sem,cI,List.replicate,l_2,l_1];rfl) ?_
  ((repeat'(first|simp only[seval,go_sem]|((with_reducible refine bJ ?_);refine aq.c (D2) ?_)|(with_reducible refine aD (st:=[]) ?_)|(with_reducible refine aB ?_;refine fl (rs:=[.cell 6 33,.tmp 7]) (by with_unfolding_all rfl) rfl ?_<;>simp only[seval,go_sem]<;>(repeat'(with_reducible apply And.intro))<;>(try rfl))|(with_reducible first|refine aV (st:=[]) ?_|refine ai (by simp(disch:=omega)only[seval,go_sem,cI];rfl) ?_))))
 ·rw[q3] at D2 ⊢;rw[aE (by omega)];rw[q3] at q4;rw[q4];have hm:=fS q1;have hrc:=DM (vs:=o.bu) (c:=eo) (hv o hm);have jc:=get_map aK q1
  have Qb:(aS o.bu eo).2.1.pages.length<=100000:=by
   unfold aS
   split
   ·simp[zeroV]
   ·simp only;cases e:o.bu[(lC eo o.bu 0).toNat]? with
    | none=>simp[zeroV]
    | some v=>exact hp o hm v (fS e)
  have ZF:=fun v=>sj (v:=v) q1;generalize aS o.bu eo=RV at *;obtain ⟨V,⟨vf,vt,vs,vp⟩,re⟩:=RV;simp only[aL] at hrc Qb ⊢;by_cases c1:re=0
  ·subst c1;rw[aE (by simp)];have lE:=kR (f:=vf) (t:=vt) pS;by_cases c2:vt=0\/dW vf vt ps=true
   ·rw[bC c2];simp only[eS];by_cases c3:vt=0
    ·subst c3;refine dL [] [3,6,10,16,28,46,64,71,91] func57 (by kernel_rfl) ntmps57 rfl rfl ⟨rfl,rfl⟩ (by simp(disch:=omega)only[seval,go_sem,cI,List.replicate,l_2,l_1];rfl) ?_
     ((repeat'(first|simp only[seval,go_sem,jc,aK]|((with_reducible refine bJ ?_);first|refine aq.c (D2) ?_|refine aq.c (hrc) ?_)|(with_reducible refine aD (st:=[]) ?_)|(with_reducible refine aB ?_;refine fl (rs:=[.cell 6 33,.tmp 7]) (by with_unfolding_all rfl) rfl ?_<;>simp only[seval,go_sem]<;>(repeat'(with_reducible apply And.intro))<;>(try rfl))|(with_reducible first|refine aV (st:=[]) ?_|refine ai (by simp(disch:=omega)only[seval,go_sem,cI,jc,aK];rfl) ?_))))
    ·have c4:dW vf vt ps=true:=by rcases c2 with h|h
                                  ·exact absurd h c3
                                  ·exact h
     rw[c4] at lE;refine dL [] [3,6,10,16,28,46,64,71,91] func57 (by kernel_rfl) ntmps57 rfl rfl ⟨rfl,rfl⟩ (by simp(disch:=omega)only[seval,go_sem,cI,List.replicate,l_2,l_1];rfl) ?_
     ((repeat'(first|simp only[seval,go_sem,jc,aK]|((with_reducible refine bJ ?_);first|refine aq.c (D2) ?_|refine aq.c (hrc) ?_|refine aq.c (lE) ?_)|(with_reducible refine aD (st:=[]) ?_)|(with_reducible refine aB ?_;refine fl (rs:=[.cell 6 33,.tmp 7]) (by with_unfolding_all rfl) rfl ?_<;>simp only[seval,go_sem]<;>(repeat'(with_reducible apply And.intro))<;>(try rfl))|(with_reducible first|refine aV (st:=[]) ?_|refine ai (by simp(disch:=omega)only[seval,go_sem,cI,jc,aK];rfl) ?_))))
   ·rw[aE c2];simp only[vQ,Bool.not_eq_true] at c2;obtain ⟨c3,c4⟩:=c2;rw[c4] at lE;generalize hA:pN ⟨cap,pg⟩ vp=A;simp only[eS];refine dL [] [3,6,10,16,28,46,64,71,91] func57 (by kernel_rfl) ntmps57 rfl rfl ⟨rfl,rfl⟩ (by simp(disch:=omega)only[seval,go_sem,cI,List.replicate,l_2,l_1];rfl) ?_;((repeat'(first|simp only[seval,go_sem,jc,aK]|((with_reducible refine bJ ?_);first|refine aq.c (D2) ?_|refine aq.c (hrc) ?_|refine aq.c (lE) ?_)|(with_reducible first|refine aD (st:=[]) ?_|refine aV (st:=[]) ?_|refine ai (by simp(disch:=omega)only[seval,go_sem,cI,jc,aK];rfl) ?_))));all_goals(refine ay.bx 10 (by simp only[seval,go_sem];rfl) (by simp only[seval,go_sem];first|done|rfl) (by simp only[seval,go_sem];rfl) ?_)
    all_goals(with_reducible refine ay.cX (fun (t:Nat×Ar)=>[(12,i6 t.1)]++aN 49 20) (fun (t:Nat×Ar)=>[(3,.box [i6 a1,i6 a2,i6 a3,i6 a4,i6 a5,i6 a6,i6 a7,i6 com,i6 last,.sl 2 (os.map aK),.sl 4 (bs.map ag),.sl 2 (ps.map aW),i6 t.2.cap,.sl 3 (t.2.pages.map bt)]),(64,.dead)]) (fun (t:Nat×Ar)=>t.1<=vp.length/\t.2.pages.length<=100000/\pN t.2 (vp.drop t.1)=A) (fun (t:Nat×Ar)=>vp.length-t.1) ((0,⟨cap,pg⟩)) (⟨ek _,hg,by simpa using hA⟩) (by intro _;simp(disch:=omega)only[seval,go_sem,cI];rfl) (by simp only[seval,go_sem]) (fun t hI=>?_))
    all_goals
     obtain ⟨k,⟨nr,Yt⟩⟩:=t;obtain ⟨hk,UN,hf⟩:=hI;simp only at hk UN hf;by_cases hlt:k<vp.length
     ·obtain ⟨z,hz⟩:=aZ hlt;have yP:=get_map cO hz;have mK:=I9 hz hf;have i4:=F0 (c:=nr) (n:=z) UN;have j8:=D1 ⟨nr,Yt⟩ z;generalize bZ ⟨nr,Yt⟩ z=RR at *;obtain ⟨⟨zh,ZG⟩,rb,re⟩:=RR;simp only at i4 mK j8
      ((repeat'(first|(with_reducible refine aY 12 ?_;(try(refine ay.bx 10 (by simp only[seval,go_sem,yP,cO];rfl) (by simp only[seval,go_sem,yP,cO];fail) (by simp only[seval,go_sem,yP,cO];rfl) ?_));refine ay.bU 12 mix 14 rfl (.f 0 <| .f 2 <| .f 4 <| .r 3 <| .f 5 <| .r 6 <| .a <| .b 1 (.a <| .b 7 (.f 8 <| .f 9 <| .f 10 <| .f 11 <| .f 12 <| .a <| .b 13 (.d) .e) .e) .e) (by kernel_rfl) ?_)|(with_reducible refine cA ?_;first|refine aJ.D ?_|refine aJ.F (by simp only[seval,go_sem,eg,dJ];rfl) (by first|(simp only[seval,go_sem,yP,cO])) (by first|(simp only[seval,go_sem,yP,cO];with_reducible rfl)|(simp(disch:=omega)only[seval,go_sem,cI,yP,cO];with_reducible rfl)) ?_|refine aJ.R (by simp only[seval,go_sem,eg,dJ];rfl) (by first|(refine .inl ?_;simp only[seval,go_sem,yP,cO];done)) (by first|(simp only[seval,go_sem,yP,cO];with_reducible rfl)) ?_|refine aJ.A ?_)|(with_reducible first|exact aI.E|refine aI.B (by simp only[seval,go_sem,eg,dJ];rfl) ?_ ?_)|simp only[seval,go_sem,yP,cO]|((with_reducible refine bJ ?_);refine aq.c (i4) ?_)|((with_reducible refine au ?_);first|(with_reducible refine aD (st:=[]) ?_)|((with_reducible first|refine ah.step (by simp only[seval,go_sem,yP,cO];rfl) ?_);refine dI (st:=[]) ?_))|(with_reducible first|refine aV (st:=[]) ?_|refine ai (by simp(disch:=omega)only[seval,go_sem,cI,yP,cO];rfl) ?_))))
      all_goals(try(refine aP ((k+1,⟨zh,ZG⟩)) (by simp only[seval,go_sem];first|((repeat'(with_reducible apply And.intro))<;>first|rfl)) ?_ ?_<;>(try(omega))))
      all_goals(try exact ⟨by simp only;omega,by simp only;omega,mK⟩)
     ·rw[j9 (by omega),pN] at hf;subst hf;have hls:((os.map aK).set j [.sc (.int .i64 o.id), .sl 4 (V.map aL)]).length=os.length:=by simp
      by_cases hz:V.length=0
      ·rw[bC hz]
       have ht1:List.take (os.length-(j+1)) (List.drop (j+1) ((os.map aK).set j [.sc (.int .i64 o.id), .sl 4 (V.map aL)]))=(os.drop (j+1)).map aK:=by
        rw[List.drop_set_of_lt (by omega), <- RZ];exact lu (by simp)
       have ht2:List.take j ((os.map aK).set j [.sc (.int .i64 o.id), .sl 4 (V.map aL)])=(os.take j).map aK:=by
        rw[List.take_set_of_le (by omega),Qt]
       have j8:((os.drop (j+1)).map aK).length=os.length-(j+1):=by simp
       have fm:∀ X,List.take (j+(os.length-(j+1))) ((os.take j).map aK++(os.drop (j+1)).map aK++X)=(ic os (j:Int)).map aK:=fun X=>by
        rw[Sw (by simp;omega),lu (by simp;omega),ic,Int.toNat_natCast,vN]
       have hle:∀ X,j+(os.length-(j+1))<=((os.take j).map aK++(os.drop (j+1)).map aK++X).length:=fun X=>by
        rw[bW,bW,dD,dD,cw,bQ];omega
       (all_goals(try have hZ:=(And.intro hz (And.intro ht1 (And.intro ht2 (And.intro j8 (And.intro fm hle))))));(repeat'(first|(with_reducible refine aY 16 ?_;(try(refine ay.bx 10 (by simp only[seval,go_sem,jc,aK,hZ];rfl) (by simp only[seval,go_sem,jc,aK,hZ];fail) (by simp only[seval,go_sem,jc,aK,hZ];rfl) ?_));refine ay.bU 16 mix 12 rfl (.f 0 <| .f 2 <| .f 4 <| .f 6 <| .f 7 <| .a <| .b 1 (.f 3 <| .a <| .b 5 (.f 8 <| .a <| .b 9 (.f 10 <| .a <| .b 11 (.d) .e) .e) .e) <| .b 5 (.f 8 <| .a <| .b 1 (.f 3 <| .a <| .b 9 (.f 10 <| .a <| .b 11 (.d) .e) .e) .e) .e) (by kernel_rfl) ?_)|(with_reducible refine cA ?_;first|refine aJ.D ?_|refine aJ.F (by simp only[seval,go_sem,eg,dJ];rfl) (by first|(simp only[seval,go_sem,jc,aK,hZ])) (by first|(simp only[seval,go_sem,jc,aK,hZ];with_reducible rfl)|(simp(disch:=omega)only[seval,go_sem,cI,jc,aK,hZ];with_reducible rfl)) ?_|refine aJ.A ?_)|(with_reducible first|exact aI.E|refine aI.B (by simp only[seval,go_sem,eg,dJ];rfl) ?_ ?_)|simp only[seval,go_sem,jc,aK,hZ]|((with_reducible refine au ?_);first|((with_reducible first|refine ah.step (by simp only[seval,go_sem,jc,aK,hZ];rfl) ?_);refine dI (st:=[]) ?_)|(with_reducible refine nM ?_;with_reducible refine ah.uy (by simp only[seval,go_sem,jc,aK,hZ]) (by simp only[seval,go_sem,jc,aK,hZ];rfl) (by simp only[seval,go_sem,jc,aK,hZ];rfl) (by simp only[seval,go_sem,jc,aK,hZ];rfl) rfl (by decide) (by decide) (by decide) (by simp only[seval,go_sem,jc,aK,hZ];rfl) (by simp only[seval,go_sem,jc,aK,hZ];rfl) (by simp(disch:=omega)only[seval,go_sem,cI,jc,aK,hZ];rfl) (by (try simp only[aj,dD,bW,List.length_cons,List.length_nil,cw,bQ,dx,splice,Nat.reduceMul]);omega) (by (try simp only[aj,dD,bW,List.length_cons,List.length_nil,cw,bQ,dx,splice,Nat.reduceMul]);omega) ?_;refine dI (st:=[]) ?_))|(with_reducible refine aB ?_;(refine aC.gu 71 (by simp only[seval,go_sem];rfl) (by simp only[seval,go_sem,jc,aK,hZ];rfl) ?_);(with_reducible refine aB ?_;refine aC.q rfl (by with_unfolding_all (show iw _ _ [.cell 6 33,.tmp 7]=_);simp only[seval,go_sem];rfl) (by simp only[seval,go_sem];rfl) (by decide) (by simp only[seval,go_sem];rfl) (by simp only[seval,go_sem];rfl) rfl ?_<;>(try simp only[seval,go_sem,jc,aK,hZ])<;>(repeat'(with_reducible apply And.intro))<;>(try rfl)))|(with_reducible first|refine aV (st:=[]) ?_|refine ai (by simp(disch:=omega)only[seval,go_sem,cI,jc,aK,hZ];rfl) ?_))))
      ·rw[aE hz,ZF]
       ((repeat'(first|simp only[seval,go_sem,jc,aK]|(with_reducible refine aB ?_;(refine aC.gu 71 (by simp only[seval,go_sem];rfl) (by simp only[seval,go_sem,jc,aK];rfl) ?_);(with_reducible refine aB ?_;refine aC.q rfl (by with_unfolding_all (show iw _ _ [.cell 6 33,.tmp 7]=_);simp only[seval,go_sem];rfl) (by simp only[seval,go_sem];rfl) (by decide) (by simp only[seval,go_sem];rfl) (by simp only[seval,go_sem];rfl) rfl ?_<;>(try simp only[seval,go_sem,jc,aK])<;>(repeat'(with_reducible apply And.intro))<;>(try rfl)))|(with_reducible first|refine aV (st:=[]) ?_|refine ai (by simp(disch:=omega)only[seval,go_sem,cI,jc,aK];rfl) ?_))))
       all_goals(try(first|(simp[aK,qN];done)|exact lu (by simp)))
  ·rw[bC c1];simp only[eS];refine dL [] [3,6,10,16,28,46,64,71,91] func57 (by kernel_rfl) ntmps57 rfl rfl ⟨rfl,rfl⟩ (by simp(disch:=omega)only[seval,go_sem,cI,List.replicate,l_2,l_1];rfl) ?_
   ((repeat'(first|simp only[seval,go_sem,jc,aK]|((with_reducible refine bJ ?_);first|refine aq.c (D2) ?_|refine aq.c (hrc) ?_)|(with_reducible refine aD (st:=[]) ?_)|(with_reducible refine aB ?_;refine fl (rs:=[.cell 6 33,.tmp 7]) (by with_unfolding_all rfl) rfl ?_<;>simp only[seval,go_sem]<;>(repeat'(with_reducible apply And.intro))<;>(try rfl))|(with_reducible first|refine aV (st:=[]) ?_|refine ai (by simp(disch:=omega)only[seval,go_sem,cI,jc,aK];rfl) ?_))))
end Go.Proofs.YteemiclhnfkekaaGreat
