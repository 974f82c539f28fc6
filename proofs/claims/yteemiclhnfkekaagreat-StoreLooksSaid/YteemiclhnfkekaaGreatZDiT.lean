/- Directory: every change keeps a directory valid, and what held before it (plain). -/
import Derived.Test.YteemiclhnfkekaaGreatZCoW
set_option linter.unusedSimpArgs false
set_option linter.unusedVariables false
namespace Go.Proofs.YteemiclhnfkekaaGreat
open Go.RowKit Go.fe
def PB (a b:Bd):Prop:=rj a.name b.name=true\/(a.name=b.name/\a.to≠0/\a.to<=b.eo)
def NB (a b:Bd):Prop:= ¬ (a.obj=b.obj/\xO a b=true)
structure VB (l:List Bd):Prop where
 ok:∀ b∈l,jZ b=0
 pM:l.Pairwise PB
 dup:l.Pairwise NB
theorem OB {x y:ByteArray}:lq x y=lq y x:=by
 rw[Bool.eq_iff_iff,lP,lP];exact ⟨Eq.symm,Eq.symm⟩
theorem HF {a b:Bd}:vY a b=false↔PB a b/\(a.name=b.name->a.eo<b.eo):=by
 constructor
 ·intro h;obtain ⟨h1,h2⟩:=HD h;simp only[pE,vN,jl,pP] at h1;rcases h1 with h1|⟨h1,h3⟩
  ·refine ⟨.inl h1,fun e=>?_⟩;rw[e,iB] at h1;cases h1
  ·have e:=lP.1 h1;have:=h2 (by rw[OB];exact h1);exact ⟨.inr ⟨e,this.1,this.2⟩,fun _=>h3⟩
 ·rintro ⟨h,hf⟩;unfold vY;rcases h with h|⟨e,h1,h2⟩
  ·have h3:rj b.name a.name=false:=tn h
   have h4:lq b.name a.name=false:=by
    rw[Bool.eq_false_iff];intro g;rw[lP] at g;rw[g,iB] at h;cases h
   rw[h3,h4];rfl
  ·have:=hf e;rw[e,iB,wo,HW (by omega),y8.2 h1,HW (by omega)];simp
theorem LW {a b c:Bd} (hb:jZ b=0) (h:PB a b) (g:PB b c):PB a c:=by
 have:=(mZ hb).2.2.2.2;rcases h with h|⟨e,h1,h2⟩<;>rcases g with g|⟨e2,g1,g2⟩
 ·exact .inl (uJ h g)
 ·rw[e2] at h;exact .inl h
 ·rw[<- e] at g;exact .inl g
 ·exact .inr ⟨e.trans e2,h1,by omega⟩
theorem RB {a b:Bd} (ha:jZ a=0) (h:PB a b) (e:a.name=b.name):a.eo<b.eo:=by
 have:=(mZ ha).2.2.2.2;rcases h with h|⟨_,h1,h2⟩
 ·rw[e,iB] at h;cases h
 ·omega
theorem su:∀ (l:List Bd) (p:Option Bd),(∀ a,p=some a->jZ a=0)->(gU p l=0↔(∀ b∈l,jZ b=0)/\l.Pairwise PB/\∀ a,p=some a->∀ b∈l,PB a b)
 | [],p,_=>by simp[gU]
 | b::l,p,hp=>by
   rw[gU];by_cases h1:jZ b=0
   ·rw[aE (by simp[h1])];have ih:=su l (some b) (fun a e=>by cases e;exact h1);by_cases h2:p.any (fun a=>vY a b)=true
    ·rw[bC h2];simp only[show ¬ ((19:Int)=0) by decide,false_iff];rintro ⟨_,_,h5⟩;cases p with
     | none=>simp at h2
     | some a=>
       have h6:=h5 a rfl b (RT ..);have:=HF.2 ⟨h6,RB (hp a rfl) h6⟩;simp[this] at h2
    ·rw[aE h2,ih]
     have h3:∀ a,p=some a->PB a b:=by
      intro a e;subst e;simp only[Option.any_some,Bool.not_eq_true] at h2;exact (HF.1 h2).1
     constructor
     ·rintro ⟨g1,g2,g3⟩;refine ⟨fun x hx=>?_,List.Pairwise.cons (g3 b rfl) g2,fun a e x hx=>?_⟩
      ·rcases lp.1 hx with rfl|hx
       ·exact h1
       ·exact g1 x hx
      ·rcases lp.1 hx with rfl|hx
       ·exact h3 a e
       ·exact LW h1 (h3 a e) (g3 b rfl x hx)
     ·rintro ⟨g1,g2,g3⟩;have vr:=M9.1 g2;exact ⟨fun x hx=>g1 x (HZ _ hx),vr.2,fun a e x hx=>by cases e;exact vr.1 x hx⟩
   ·rw[bC h1];constructor
    ·intro h;exact absurd h h1
    ·rintro ⟨h,_⟩;exact absurd (h b (RT ..)) h1
theorem x8:∀ (m:List Bd) (l:List Bd) (i:Nat),l.drop i=m->(r9 l m i=false↔∀ j b,i<=j->l[j]? = some b->∀ a∈l.take j,NB a b)
 | [],l,i,h=>by
   simp only[r9,true_iff];intro j b hj hb;have:=(jL.1 hb).1;have:=congrArg List.length h;simp at this;omega
 | b::m,l,i,h=>by
   have hi:l[i]? = some b:=by
    have:=congrArg (fun z=>z[0]?) h;simpa using this
   have hd:l.drop (i+1)=m:=by
    have:=aH hi;rw[h] at this;simpa using this.symm
   rw[r9,MC,x8 m l (i+1) hd,List.any_eq_false];constructor
   ·rintro ⟨h1,h2⟩ j x hj hx a ha;by_cases e:j=i
    ·subst e;rw[hi] at hx;cases hx;intro g;exact h1 a ha (by simp[g.1,g.2])
    ·exact h2 j x (by omega) hx a ha
   ·intro h1;refine ⟨fun a ha g=>?_,fun j x hj hx a ha=>h1 j x (by omega) hx a ha⟩;simp only[jl,nX] at g;exact h1 i b (iU _) hi a ha g
theorem A0 {R:Bd->Bd->Prop} {l:List Bd}:(∀ j b,l[j]? = some b->∀ a∈l.take j,R a b)↔l.Pairwise R:=by
 rw[JW];constructor
 ·intro h i j hi hj hij;exact h j l[j] (rJ hj) l[i] (List.mem_take_iff_getElem.2 ⟨i,by omega,rfl⟩)
 ·intro h j b hb a ha;obtain ⟨hj,e⟩:=jL.1 hb;obtain ⟨i,hi,e2⟩:=List.mem_take_iff_getElem.1 ha;subst e e2;exact h i j (by omega) hj (by omega)
theorem oJ {l:List Bd}:dg l=0↔VB l:=by
 unfold dg;constructor
 ·intro h
  split at h
  ·rename_i h1;exact absurd h h1
  ·rename_i h1;have h1:gU none l=0:=by omega
   split at h
   ·cases h
   ·rename_i h2;obtain ⟨g1,g2,_⟩:=(su l none (fun _ e=>by cases e)).1 h1;have h3:=(x8 l l 0 rfl).1 (by simpa using h2);exact ⟨g1,g2,A0.1 fun j b hb=>h3 j b (ek _) hb⟩
 ·rintro ⟨g1,g2,g3⟩;have h1:=(su l none (fun _ e=>by cases e)).2 ⟨g1,g2,fun _ e=>by cases e⟩;have h2:=(x8 l l 0 rfl).2 (fun j b _ hb=>A0.2 g3 j b hb);rw[aE (by omega),aE (by simp[h2])]
theorem HG {a b:Bd} (h:xO a b=true):xO b a=true:=by
 unfold xO at h ⊢;rw[Bool.and_comm];exact h
theorem RD {a b:Bd} (h:NB a b):NB b a:=fun g=>h ⟨g.1.symm,HG g.2⟩
theorem x9 (b:Bd):∀ (l:List Bd) (y:Bd),l[eY b l]? = some y->pE y b=false
 | [],y,h=>by simp at h
 | x::l,y,h=>by
   rw[eY] at h
   split at h
   ·rw[eg] at h;exact x9 b l y h
   ·rename_i hx;rw[dJ,fF] at h;subst h;simpa using hx
theorem LY {l:List Bd} {n:ByteArray} {o c:Int} (hv:VB l) (hn:bM n=true) (ho:1<=o) (hc:1<=c) (hl:∀ b∈l,b.eo<=c/\b.to<=c) (h1:∀ b∈l,b.name=n->b.to≠0) (h2:∀ b∈l,b.obj=o->b.to≠0):VB (lC ⟨n,o,c,0⟩ l):=by
 have Qi:=xV (o:=o) hv.ok hl (fun b hb e=>h1 b hb (by rw[jG,jG] at e;exact BU e));have hs:Qg l:=(qK l none (nU (oJ.2 hv))).1;have hk:=kK ⟨n,o,c,0⟩ l
 have htl:∀ x∈l.take (eY ⟨n,o,c,0⟩ l),pE x ⟨n,o,c,0⟩=true:=by
  generalize (⟨n,o,c,0⟩:Bd)=bb;clear Qi hs hk;clear hv hl h1 h2
  induction l with
  | nil=>intro x hx;simp at hx
  | cons y l ih=>
    intro x hx;rw[eY] at hx
    split at hx
    ·rename_i hy;rw[List.take_succ_cons] at hx;rcases lp.1 hx with rfl|hx
     ·exact hy
     ·exact ih x hx
    ·simp at hx
 have ZN:∀ x∈l.drop (eY ⟨n,o,c,0⟩ l),pE ⟨n,o,c,0⟩ x=true:=by
  intro x hx;have pQ:=E7 hx;rcases Qi x pQ with g|g
  · -- the first one behind the place is not less; all others are greater than it
    obtain ⟨j,hj,e⟩:=List.mem_drop_iff_getElem.1 hx;obtain ⟨y,hy⟩:=aZ (show eY ⟨n,o,c,0⟩ l<l.length by omega);have Yw:pE y ⟨n,o,c,0⟩=false:=x9 _ l y hy;have hx':l[eY ⟨n,o,c,0⟩ l+j]? = some x:=by rw[<- e];exact rJ _
    by_cases h0:j=0
    ·subst h0;rw[Nat.add_zero,hy] at hx';cases hx';rw[Yw] at g;cases g
    ·have:=uK (HB hs hy hx' (by omega)) g;rw[Yw] at this;cases this
  ·exact g
 have ZO:∀ x∈l.take (eY ⟨n,o,c,0⟩ l),PB x ⟨n,o,c,0⟩:=by
  intro x hx;have pQ:=zR hx;have:=htl x hx;simp only[pE,vN,jl,pP] at this;rcases this with g|⟨g,_⟩
  ·exact .inl g
  ·have e:=lP.1 g;exact .inr ⟨e,h1 x pQ e,(hl x pQ).2⟩
 have ZR:∀ x∈l.drop (eY ⟨n,o,c,0⟩ l),PB ⟨n,o,c,0⟩ x:=by
  intro x hx;have pQ:=E7 hx;have:=ZN x hx;simp only[pE,vN,jl,pP] at this;rcases this with g|⟨_,g⟩
  ·exact .inl g
  ·have:=(hl x pQ).1;omega
 have hN:∀ x∈l,NB x ⟨n,o,c,0⟩:=by
  rintro x hx ⟨e,g⟩;have h3:=h2 x hx e;have h4:=(hl x hx).2;simp only[xO,jl,vN,nX,pP] at g;omega
 have key:∀ {R:Bd->Bd->Prop},l.Pairwise R->(∀ x∈l.take (eY ⟨n,o,c,0⟩ l),R x ⟨n,o,c,0⟩)->(∀ x∈l.drop (eY ⟨n,o,c,0⟩ l),R ⟨n,o,c,0⟩ x)->(lC ⟨n,o,c,0⟩ l).Pairwise R:=by
  intro R hp ht hd;have AA:=hp;rw[<- JX (eY ⟨n,o,c,0⟩ l) l,JF] at AA;rw[lC,lS,JF];refine ⟨AA.1,List.Pairwise.cons hd AA.2.1,fun x hx y hy=>?_⟩;rcases lp.1 hy with rfl|hy
  ·exact ht x hx
  ·exact AA.2.2 x hx y hy
 refine ⟨fun b hb=>?_,key hv.pM ZO ZR,key hv.dup (fun x hx=>hN x (zR hx)) (fun x hx=>RD (hN x (E7 hx)))⟩;rw[lC,lS,lU,lU,rG] at hb;rcases hb with hb|rfl|hb
 ·exact hv.ok b (zR hb)
 ·unfold jZ;rw[aE (by simp[hn]),aE (by simp only;omega),aE (by simp)]
 ·exact hv.ok b (E7 hb)
theorem LZ {l:List Bd} {i:Nat} {b:Bd} {c:Int} (hv:VB l) (hb:l[i]? = some b) (h0:b.to=0) (hc:b.eo<c):VB (l.set i ⟨b.name,b.obj,b.eo,c⟩):=by
 have rY:=fS hb;have hok:=mZ (hv.ok b rY)
 have key:∀ {R:Bd->Bd->Prop},l.Pairwise R->(∀ x,R x b->R x ⟨b.name,b.obj,b.eo,c⟩)->(∀ x,R b x->R ⟨b.name,b.obj,b.eo,c⟩ x)->(l.set i ⟨b.name,b.obj,b.eo,c⟩).Pairwise R:=by
  intro R hp h1 h2;rw[JW] at hp ⊢;intro j k hj hk hjk;simp only[GX] at hj hk;have h3:=hp j k hj hk hjk;obtain ⟨hi,e⟩:=jL.1 hb;simp only[List.getElem_set]
  split
  ·rename_i e1;subst e1;rw[aE (by omega)];exact h2 _ (e▸h3)
  ·split
   ·rename_i e2;subst e2;exact h1 _ (e▸h3)
   ·exact h3
 refine ⟨fun x hx=>?_,key hv.pM (fun x h=>h) (fun x h=>?_),key hv.dup (fun x h g=>?_) (fun x h g=>?_)⟩
 ·rcases iD hx with hx|rfl
  ·exact hv.ok x hx
  ·unfold jZ;rw[aE (by simp[hok.1]),aE (by simp only;omega),aE (by simp only;omega)]
 ·rcases h with h|⟨_,h,_⟩
  ·exact .inl h
  ·exact absurd h0 h
 ·refine h ⟨g.1,?_⟩;have:=g.2;simp only[xO,jl,vN,nX,pP] at this ⊢;omega
 ·refine h ⟨g.1,?_⟩;have:=g.2;simp only[xO,jl,vN,nX,pP] at this ⊢;omega
theorem F4 (c:Int) (l:List Bd):(jr c l).length<=l.length:=by
 have h1:=Lib.compact_length_le ((pq (eX c l)).map vX);rw[dD,qJ] at h1;have h2:=FX c l;simp only[jr,pz,dD];omega
theorem D2 (p:List Pn) (l:List Bd):(gi p l).length<=l.length:=Vp _ _
structure MI (l:List Bd) (c o:Int):Prop where
 vb:VB l
 lt:∀ b∈l,b.eo<c/\b.to<c
 ob:∀ b∈l,b.obj<o
 c1:1<=c
 o1:1<=o
theorem ld {b:Bd} {l:List Bd} {x:Bd}:x∈lC b l↔x=b\/x∈l:=by
 rw[lC]
 conv=>rhs;rw[<- JX (eY b l) l]
 simp only[lU,rG];constructor
 ·rintro ((h|h)|h)<;>simp_all
 ·rintro (h|h|h)<;>simp_all
structure Sm (l x:List Bd) (c:Int):Prop where
 fw:∀ b∈l,∀ d,d<c->eW b.eo b.to d=true->∃ y∈x,y.name=b.name/\y.obj=b.obj/\eW y.eo y.to d=true
 bw:∀ y∈x,∀ d,d<c->eW y.eo y.to d=true->∃ b∈l,b.name=y.name/\b.obj=y.obj/\eW b.eo b.to d=true
theorem L0 {l:List Bd} {n:ByteArray} {o c:Int}:Sm l (lC ⟨n,o,c,0⟩ l) c:=by
 refine ⟨fun b hb d hd h=>⟨b,ld.2 (.inr hb),rfl,rfl,h⟩,fun y hy d hd h=>?_⟩;rcases ld.1 hy with rfl|hy
 ·simp only[eW,jl,pP] at h;omega
 ·exact ⟨y,hy,rfl,rfl,h⟩
theorem L2 {l:List Bd} {i:Nat} {b:Bd} {c:Int} (hb:l[i]? = some b) (h0:b.to=0):Sm l (l.set i ⟨b.name,b.obj,b.eo,c⟩) c:=by
 have key:∀ d,d<c->eW b.eo c d=eW b.eo b.to d:=by
  intro d hd;unfold eW;rw[h0,GQ hd,show ((0:Int)==0)=true from rfl,Cl,Bool.or_true]
 obtain ⟨hi,e⟩:=jL.1 hb;constructor
 ·intro a ha d hd h;obtain ⟨j,hj,rfl⟩:=RS.1 ha;by_cases hij:i=j
  ·subst hij;refine ⟨⟨b.name,b.obj,b.eo,c⟩,List.mem_set hi _,?_,?_,?_⟩
   ·rw[e]
   ·rw[e]
   ·rw[e] at h;rw[key d hd];exact h
  ·exact ⟨l[j],by rw[RS];exact ⟨j,by simpa using hj,by rw[List.getElem_set_ne hij]⟩,rfl,rfl,h⟩
 ·intro y hy d hd h;rcases iD hy with hy|rfl
  ·exact ⟨y,hy,rfl,rfl,h⟩
  ·exact ⟨b,fS hb,rfl,rfl,by rw[<- key d hd];exact h⟩
theorem Sm.trans {l x z:List Bd} {c:Int} (h:Sm l x c) (g:Sm x z c):Sm l z c:=by
 constructor
 ·intro b hb d hd h1;obtain ⟨y,hy,e1,e2,h2⟩:=h.fw b hb d hd h1;obtain ⟨w,hw,e3,e4,h3⟩:=g.fw y hy d hd h2;exact ⟨w,hw,e3.trans e1,e4.trans e2,h3⟩
 ·intro b hb d hd h1;obtain ⟨y,hy,e1,e2,h2⟩:=g.bw b hb d hd h1;obtain ⟨w,hw,e3,e4,h3⟩:=h.bw y hy d hd h2;exact ⟨w,hw,e3.trans e1,e4.trans e2,h3⟩
theorem OC {l:List Bd} {n:ByteArray} {o c o':Int} (h:MI l c o') (ho:1<=o) (h2:∀ b∈l,b.obj=o->b.to≠0) (he:(dw l n o c).2=0):
  VB (dw l n o c).1/\(∀ b∈(dw l n o c).1,b.eo<c+1/\b.to<c+1)/\(∀ b∈(dw l n o c).1,b.obj<o'\/b.obj=o)/\Sm l (dw l n o c).1 c:=by
 have hv:=oJ.2 h.vb;unfold dw at he ⊢;rw[aE (by simp[hv])] at he ⊢;by_cases h3:bM n=false
 ·rw[bC h3] at he;cases he
 rw[aE h3] at he ⊢;by_cases h4:o<1\/c<1
 ·rw[bC h4] at he;cases he
 rw[aE h4] at he ⊢;by_cases h5:jj c l=true
 ·rw[bC h5] at he;cases he
 rw[aE h5] at he ⊢;by_cases h6:l.any (fun b=>b.to==0&&(lq b.name n||b.obj==o))=true
 ·rw[bC h6] at he;cases he
 rw[aE h6] at he ⊢;have h1:∀ b∈l,b.name=n->b.to≠0:=fun b hb e=>xW (by simpa using h6) b hb (by rw[e]);simp only;refine ⟨LY h.vb (by simpa using h3) ho (by omega) (fun b hb=>by have:=h.lt b hb;omega) h1 h2,fun b hb=>?_,fun b hb=>?_,L0⟩
 ·rcases ld.1 hb with rfl|hb
  ·simp only;omega
  ·have:=h.lt b hb;omega
 ·rcases ld.1 hb with rfl|hb
  ·exact .inr rfl
  ·exact .inl (h.ob b hb)
theorem I2 {l:List Bd} {n:ByteArray} {o c:Int} (he:(dw l n o c).2≠0):(dw l n o c).1=[]:=by
 unfold dw at he ⊢
 repeat'(split at he<;>rename_i hq<;>first|rw[bC hq]|rw[aE hq])
 exact absurd rfl he
theorem D3 {l:List Bd} {n:ByteArray} {c:Int} (he:(bI l n c).2≠0):(bI l n c).1=[]:=by
 unfold bI at he ⊢
 repeat'(split at he<;>rename_i hq<;>first|rw[bC hq]|rw[aE hq])
 exact absurd rfl he
theorem D4 {l:List Bd} {n m:ByteArray} {c:Int} (he:(bH l n m c).2≠0):(bH l n m c).1=[]:=by
 unfold bH at he ⊢
 repeat'(split at he<;>rename_i hq<;>first|rw[bC hq]|rw[aE hq])
 exact absurd rfl he
theorem I3 {l:List Bd} {n:ByteArray} {c o:Int} (h:MI l c o) (he:(bI l n c).2=0):
  VB (bI l n c).1/\(∀ b∈(bI l n c).1,b.eo<c+1/\b.to<c+1)/\(∀ b∈(bI l n c).1,b.obj<o)/\Sm l (bI l n c).1 c:=by
 have hv:=oJ.2 h.vb;unfold bI at he ⊢;rw[aE (by simp[hv])] at he ⊢;by_cases h3:bM n=false
 ·rw[bC h3] at he;cases he
 rw[aE h3] at he ⊢;by_cases h4:c<1
 ·rw[bC h4] at he;cases he
 rw[aE h4] at he ⊢;by_cases h5:jj c l=true
 ·rw[bC h5] at he;cases he
 rw[aE h5] at he ⊢;by_cases h6:ew n l<0
 ·rw[bC h6] at he;cases he
 rw[aE h6] at he ⊢;obtain ⟨b,hb,hp⟩:=k9 h6;have hbd:=fQ hb;by_cases h7:c<=(zx l (ew n l)).eo
 ·rw[bC h7] at he;cases he
 rw[aE h7];rw[hbd] at h7;simp only[gP,jl,nX] at hp;have rY:=fS hb;simp only[vZ,hbd];refine ⟨LZ h.vb hb hp.2 (by omega),fun x hx=>?_,fun x hx=>?_,L2 hb hp.2⟩
 ·rcases iD hx with hx|rfl
  ·have:=h.lt x hx;omega
  ·have:=h.lt b rY;simp only;omega
 ·rcases iD hx with hx|rfl
  ·exact h.ob x hx
  ·exact h.ob b rY
theorem I4 {l:List Bd} {n m:ByteArray} {c o:Int} (h:MI l c o) (he:(bH l n m c).2=0):
  VB (bH l n m c).1/\(∀ b∈(bH l n m c).1,b.eo<c+1/\b.to<c+1)/\(∀ b∈(bH l n m c).1,b.obj<o)/\Sm l (bH l n m c).1 c:=by
 have hv:=oJ.2 h.vb;unfold bH at he ⊢;rw[aE (by simp[hv])] at he ⊢;by_cases h3:bM n=false\/bM m=false
 ·rw[bC h3] at he;cases he
 rw[aE h3] at he ⊢;by_cases h4:c<1
 ·rw[bC h4] at he;cases he
 rw[aE h4] at he ⊢;by_cases h5:jj c l=true
 ·rw[bC h5] at he;cases he
 rw[aE h5] at he ⊢;by_cases h6:ew n l<0
 ·rw[bC h6] at he;cases he
 rw[aE h6] at he ⊢;obtain ⟨b,hb,hp⟩:=k9 h6;have hbd:=fQ hb;by_cases h8:0<=ew m l
 ·rw[bC h8] at he;cases he
 rw[aE h8] at he ⊢;by_cases h7:c<=(zx l (ew n l)).eo
 ·rw[bC h7] at he;cases he
 rw[aE h7];rw[hbd] at h7;simp only[gP,jl,nX] at hp;have rY:=fS hb;simp only[vZ,hbd];have HI:=LZ h.vb hb hp.2 (show b.eo<c by omega);have hok:=mZ (h.vb.ok b rY)
 have hlt:∀ x∈l.set (ew n l).toNat ⟨b.name,b.obj,b.eo,c⟩,x.eo<=c/\x.to<=c:=by
  intro x hx;rcases iD hx with hx|rfl
  ·have:=h.lt x hx;omega
  ·have:=h.lt b rY;simp only;omega
 have hnm:∀ x∈l.set (ew n l).toNat ⟨b.name,b.obj,b.eo,c⟩,x.name=m->x.to≠0:=by
  intro x hx e;rcases iD hx with hx|rfl
  ·exact AZ h8 x hx (by rw[e])
  ·simp only;omega
 have Cm:∀ x∈l.set (ew n l).toNat ⟨b.name,b.obj,b.eo,c⟩,x.obj=b.obj->x.to≠0:=by
  intro x hx e h0;obtain ⟨j,hj,rfl⟩:=RS.1 hx;obtain ⟨hi,e1⟩:=jL.1 hb;by_cases hij:(ew n l).toNat=j
  ·subst hij;simp only[List.getElem_set_self] at h0;omega
  ·rw[List.getElem_set_ne hij] at e h0;simp only[GX] at hj;have hd:=JW.1 h.vb.dup
   have EN:xO l[j] b=true:=by
    unfold xO;rw[h0,hp.2];rfl
   rcases Pw (ew n l).toNat j with g|g
   ·exact hd _ j hi hj g ⟨by rw[e1];exact e.symm,by rw[e1];exact HG EN⟩
   ·exact hd j _ hj hi (by omega) ⟨by rw[e1];exact e,by rw[e1];exact EN⟩
 refine ⟨LY HI (by cases hh:bM m<;>simp_all) hok.2.1 (by omega) hlt hnm Cm,fun x hx=>?_,fun x hx=>?_,(L2 hb hp.2).trans L0⟩
 ·rcases ld.1 hx with rfl|hx
  ·simp only;omega
  ·have:=hlt x hx;omega
 ·rcases ld.1 hx with rfl|hx
  ·exact h.ob b rY
  ·rcases iD hx with hx|rfl
   ·exact h.ob x hx
   ·exact h.ob b rY
theorem L3 {l:List Bd} {p:List Pn} (h:VB l):VB (gi p l):=
 ⟨fun b hb=>h.ok b (List.mem_filter.1 hb).1,h.pM.sublist List.filter_sublist,h.dup.sublist List.filter_sublist⟩
theorem A3 (l:List Pn):∀ prev:Option Pn,Cn l->(∀ q,prev=some q->∀ p∈l,q.commit<p.commit)->dK prev l=0:=by
 induction l with
 | nil=>intro _ _ _;rfl
 | cons v l ih=>
   intro prev ok h;obtain ⟨JK,hab⟩:=ok.tail;have hr:=ok.range v (by simp);have:=ih (some v) JK (fun q e=>by cases e;exact hab);unfold dK;rw[aE (by omega)];cases prev with
   | none=>simpa using this
   | some q=>
     have:=h q rfl v (by simp);simp only;rw[aE (by omega)];assumption
theorem uN {c:Int}:∀ {l:List Pn} {p:Pn},p∈i5 c l->p.commit=c\/p∈l
 | [],p,h=>by simp[i5] at h;subst h;exact .inl rfl
 | q::l,p,h=>by
   unfold i5 at h
   split at h
   ·rcases lp.1 h with rfl|h
    ·exact .inl rfl
    ·exact .inr h
   ·split at h
    ·rcases lp.1 h with rfl|h
     ·rename_i e;exact .inl e
     ·exact .inr (HZ _ h)
    ·rcases lp.1 h with rfl|h
     ·exact .inr (by simp)
     ·rcases uN h with h|h
      ·exact .inl h
      ·exact .inr (HZ _ h)
theorem D5 {c:Int} (hc:0<=c):∀ {l:List Pn},Cn l->kn c l=false->Cn (i5 c l)
 | [],_,_=>⟨fun p hp=>by simp[i5] at hp;subst hp;simp;exact hc,by simp[i5]⟩
 | q::l,ok,hf=>by
   obtain ⟨JK,hab⟩:=ok.tail;have hr:=ok.range q (by simp);unfold kn at hf
   split at hf
   ·cases hf
   ·rename_i hnf;unfold i5
    split
    ·rename_i hlt;refine ⟨fun p hp=>?_,List.Pairwise.cons (fun p hp=>?_) ok.pM⟩
     ·rcases lp.1 hp with rfl|hp
      ·simp;exact hc
      ·exact ok.range p hp
     ·rcases lp.1 hp with rfl|hp
      ·exact hlt
      ·exact Int.lt_trans hlt (hab p hp)
    ·split
     ·rename_i hlt heq;refine ⟨fun p hp=>?_,List.Pairwise.cons (fun p hp=>hab p hp) JK.pM⟩;rcases lp.1 hp with rfl|hp
      ·simp only;omega
      ·exact JK.range p hp
     ·rename_i hlt hne;have ih:=D5 hc JK hf;refine ⟨fun p hp=>?_,List.Pairwise.cons (fun p hp=>?_) ih.pM⟩
      ·rcases lp.1 hp with rfl|hp
       ·exact hr
       ·exact ih.range p hp
      ·rcases uN hp with h|h
       ·omega
       ·exact hab p h
theorem OD {i:Nat} {s:Sr} (h:wD i s):∀ x∈gT s,x.v.pages.length<=61:=fun x hx=>by
 obtain ⟨o,ho,UN⟩:=MF.1 hx;obtain ⟨v,hv,rfl⟩:=qu.1 UN;exact ((h.hv o ho).2 v hv).1
theorem D6 (l:List fE) (v:fE):(cQ l v).1.length<=l.length+1:=by
 unfold cQ
 split
 ·exact ek _
 ·split
  ·exact ek _
  ·split
   ·simp
   ·split
    ·exact ek _
    ·split
     ·simp
     ·simp
theorem F5 (l:List fE) (c:Int):(dW l c).1.length<=l.length:=by
 unfold dW
 split
 ·exact ek _
 ·split
  ·exact ek _
  ·split
   ·exact ek _
   ·split
    ·exact ek _
    ·simp
theorem D7 {l:List Ob} {j:Int} {v:List fE} {k:Nat} (h:v.length<=(dm l j).bu.length+k):((dz l j v).flatMap jk).length<=(l.flatMap jk).length+k:=by
 unfold dz;cases e:l[j.toNat]? with
 | none=>
   rw[List.set_eq_of_length_le (List.getElem?_eq_none_iff.1 e)];omega
 | some o=>
   have hg:dm l j=o:=by simp[dm,e]
   rw[hg] at h ⊢;obtain ⟨A,B,hl,_,hs,_⟩:=nR e;rw[hs]
   conv=>rhs;rw[hl]
   simp only[SK,RU,bW,jk,dD];omega
structure Inv (i:Nat) (s:Sr):Prop where
 b:wD i s
 si:wC s
 en:(gT s).length<=i
 mi:MI s.binds (s.commit+1) (s.last+1)
 opn:∀ b∈s.binds,b.to=0->∃ x∈gT s,x.id=b.obj/\x.v.to=0
 JL:Cn s.pins
 OE:∀ p∈s.pins,p.commit<=s.commit
 cf:qN s.c=true
theorem Inv.up {i:Nat} {s:Sr} (h:Inv i s):Inv (i+1) s:=⟨h.b.up,h.si,by have:=h.en;omega,h.mi,h.opn,h.JL,h.OE,h.cf⟩
theorem Inv.VD {i:Nat} {s:Sr} (h:Inv i s) (hi:i<=100):(gp s.objs).length<=10309:=by
 rw[<- IV];have h1:=BZ (fun x:Vn=>x.v.pages) 61 (gT s) (OD h.b);have h2:=h.en;unfold JZ;omega
theorem B0 {c o:Int} (hc:1<=c) (ho:1<=o):MI [] c o:=⟨⟨by simp,List.Pairwise.nil,List.Pairwise.nil⟩,by simp,by simp,hc,ho⟩
theorem RE {c:Cf} (hc:qN c=true) (hz:1<=c.fD/\c.fD<=1024):newR c=(⟨c,0,0,[],[],[],⟨c.nu,[]⟩⟩,0)/\Inv 1 (newR c).1:=by
 have e:newR c=(⟨c,0,0,[],[],[],⟨c.nu,[]⟩⟩,0):=by rw[newR,aE (by rw[hc];decide)]
 refine ⟨e,?_⟩;rw[e];exact ⟨⟨by simp,by simp,by simp,by simp,by simp,by intro p hp;simp at hp,by simp,by simp,hz⟩,⟨List.Pairwise.nil,by simp,by simp,by simp,⟨List.Pairwise.nil,by simp,by simp[gp]⟩,rfl⟩,by simp[gT],B0 (by simp) (by simp),by simp,⟨by simp,List.Pairwise.nil⟩,by simp,hc⟩
theorem zB (s:Sr) (n:ByteArray) (d:List Int):(∃ e,cR s n d=(s,0,e))\/(bM n=true/\fK s n=false/\((i7 s.commit s.binds []).length:Int)<s.c.qq/\s.commit<s.c.com/\(s.ar.pages.length:Int)+((aR d s.c.fD).1.length:Int)<=s.c.nu/\
  cR s n d=({ s with commit:=s.commit+1,last:=s.last+1,objs:=s.objs++[⟨s.last+1,[⟨s.commit+1,0,d.length,(eZ s.ar (aR d s.c.fD).1).2⟩]⟩],binds:=(dw s.binds n (s.last+1) (s.commit+1)).1,ar:=(eZ s.ar (aR d s.c.fD).1).1 },s.commit+1,0)):=by
 by_cases h1:bM n=false
 ·exact .inl ⟨6,by rw[cR,bC h1]⟩
 by_cases h2:65536<(d.length:Int)
 ·exact .inl ⟨11,by rw[cR,aE h1,bC h2]⟩
 by_cases h3:fK s n=true
 ·exact .inl ⟨9,by rw[cR,aE h1,aE h2,bC h3]⟩
 by_cases h4:s.c.qq<=((i7 s.commit s.binds []).length:Int)\/s.c.com<=s.commit\/s.c.nu<(s.ar.pages.length:Int)+((aR d s.c.fD).1.length:Int)
 ·exact .inl ⟨14,by rw[cR,aE h1,aE h2,aE h3,bC h4]⟩
 refine .inr ⟨by simpa using h1,by simpa using h3,by omega,by omega,by omega,by rw[cR,aE h1,aE h2,aE h3,aE h4]⟩
theorem I5 {l:List Bd} {n:ByteArray} {o c:Int} {b:Bd} (h:b∈(dw l n o c).1):b=⟨n,o,c,0⟩\/b∈l:=by
 unfold dw at h
 repeat' split at h
 all_goals(try(cases h;done))
 exact ld.1 h
theorem A4 (s:Sr) (o:Ob):(s.objs++[o]).flatMap jk=gT s++jk o:=by simp[gT]
theorem ya {i:Nat} {s:Sr} {m:ByteArray} {n:Int} (h:Inv i s):Inv (i+1) (cR s m (aO n)).1:=by
 have hB:=F6 (m:=m) (n:=n) h.b;have hI:=OG (m:=m) (n:=n) h.si h.b;rcases zB s m (aO n) with ⟨e,he⟩|⟨_,_,_,_,_,he⟩
 ·rw[he];exact h.up
 rw[he] at hB hI ⊢;have hc:=h.b.hc;have hl:=h.b.hl;refine ⟨hB,hI,?_,?_,fun b hb h0=>?_,h.JL,fun p hp=>by have:=h.OE p hp;simp only;omega,h.cf⟩
 ·show ((s.objs++[_]).flatMap jk).length<=_;rw[A4,bW];have:=h.en;simp[jk];omega
 ·simp only;by_cases hz:(dw s.binds m (s.last+1) (s.commit+1)).2=0
  ·obtain ⟨g1,g2,g3,g4⟩:=OC h.mi (o:=s.last+1) (by omega) (fun b hb e=>by have:=h.mi.ob b hb;omega) hz;exact ⟨g1,g2,fun b hb=>by rcases g3 b hb with g|g<;>omega,by omega,by omega⟩
  ·rw[I2 hz];exact B0 (by omega) (by omega)
 ·simp only[gT];rw[A4];rcases I5 hb with rfl|hb
  ·exact ⟨_,List.mem_append_right _ (rG.2 rfl),rfl,rfl⟩
  ·obtain ⟨x,hx,h1,h2⟩:=h.opn b hb h0;exact ⟨x,List.mem_append_left _ hx,h1,h2⟩
theorem F7 (s:Sr) (n:ByteArray) (d:List Int):(∃ e,ji s n d=(s,0,e))\/((fR s n s.commit).2.2=true/\s.commit<s.c.com/\(s.ar.pages.length:Int)+gj (bB (bh s.ar (fR s n s.commit).2.1.pages) (aR d s.c.fD).1)<=s.c.nu/\
  ji s n d=({ s with commit:=s.commit+1,objs:=dz s.objs (fR s n s.commit).1 (cQ (dm s.objs (fR s n s.commit).1).bu ⟨s.commit+1,0,d.length,(iT s.ar (aR d s.c.fD).1 (bB (bh s.ar (fR s n s.commit).2.1.pages) (aR d s.c.fD).1) (fR s n s.commit).2.1.pages).2⟩).1,ar:=(iT s.ar (aR d s.c.fD).1 (bB (bh s.ar (fR s n s.commit).2.1.pages) (aR d s.c.fD).1) (fR s n s.commit).2.1.pages).1 },s.commit+1,0)):=by
 by_cases h1:65536<(d.length:Int)
 ·exact .inl ⟨11,by rw[ji,bC h1]⟩
 by_cases h2:(fR s n s.commit).2.2=false
 ·exact .inl ⟨8,by rw[ji,aE h1,bC h2]⟩
 by_cases h3:s.c.com<=s.commit\/s.c.nu<(s.ar.pages.length:Int)+gj (bB (bh s.ar (fR s n s.commit).2.1.pages) (aR d s.c.fD).1)
 ·exact .inl ⟨14,by rw[ji,aE h1,aE h2,bC h3]⟩
 exact .inr ⟨by simpa using h2,by omega,by omega,by rw[ji,aE h1,aE h2,aE h3]⟩
theorem A5 {l:List Ob} {j:Nat} {o:Ob} {vs:List fE} (hj:l[j]? = some o):∃ A B,l.flatMap jk=A++jk o++B/\(dz l (j:Int) vs).flatMap jk=A++vs.map (fun v=>⟨o.id,v⟩)++B/\(vL (l.map (·.id))->∀ x,x∈A\/x∈B->x.id≠o.id):=by
 obtain ⟨A,B,hl,hA,aG,_⟩:=nR hj;have zZ:dm l (j:Int)=o:=by simp[dm,hj]
 refine ⟨A.flatMap jk,B.flatMap jk,?_,?_,fun RF x hx=>?_⟩
 ·conv=>lhs;rw[hl]
  simp
 ·rw[dz,zZ,Int.toNat_natCast,aG];simp[jk]
 ·rw[hl] at RF;simp only[vO,fk] at RF;obtain ⟨a1,a2,a3⟩:=JF.1 RF;have a4:=(M9.1 a2).1;rcases hx with hx|hx
  ·obtain ⟨p,hp,hq⟩:=MF.1 hx;obtain ⟨v,_,rfl⟩:=qu.1 hq;have:=a3 p.id (List.mem_map_of_mem hp) o.id (by simp);simp only;omega
  ·obtain ⟨p,hp,hq⟩:=MF.1 hx;obtain ⟨v,_,rfl⟩:=qu.1 hq;have:=a4 p.id (List.mem_map_of_mem hp);simp only;omega
theorem HJ {i:Nat} {s:Sr} {m:ByteArray} {n:Int} (h:Inv i s) (hi:i<=100):Inv (i+1) (ji s m (aO n)).1:=by
 have hB:=OH (m:=m) (n:=n) h.b;have hI:=XK (m:=m) (n:=n) h.si h.b (h.VD hi);rcases F7 s m (aO n) with ⟨e,he⟩|⟨hv,_,_,he⟩
 ·rw[he];exact h.up
 rw[he] at hB hI ⊢;have hc:=h.b.hc;have hl:=h.b.hl;obtain ⟨j,k,o,v,hj,hk,hh,e⟩:=uO hv;rw[e] at hB hI ⊢;simp only at hB hI ⊢;have zZ:dm s.objs (j:Int)=o:=by simp[dm,hj]
 rw[zZ] at hB hI ⊢;generalize iT s.ar (aR (aO n) s.c.fD).1 (bB (bh s.ar v.pages) (aR (aO n) s.c.fD).1) v.pages=P at *;have ho:=fS hj;obtain ⟨pre,u,JI⟩:=sv hk;have hok:=h.si.ok o ho;have L4:=h.si.com o ho;rw[JI] at hok L4;have VE:=L4 u (by simp)
 have e2:cQ o.bu ⟨s.commit+1,0,(aO n).length,P.2⟩=(pre++[lf u (s.commit+1)]++[⟨s.commit+1,0,(aO n).length,P.2⟩],0):=by
  rw[JI];exact vu hok (by omega) (by omega) (by omega)
 obtain ⟨A,B,a1,a2,a3⟩:=A5 (vs:=(cQ o.bu ⟨s.commit+1,0,(aO n).length,P.2⟩).1) hj;refine ⟨hB,hI,?_,?_,fun b hb h0=>?_,h.JL,fun p hp=>by have:=h.OE p hp;simp only;omega,h.cf⟩
 ·show ((dz s.objs (j:Int) _).flatMap jk).length<=_;refine J2 (D7 (k:=1) (by rw[zZ];exact D6 _ _)) ?_;have:=h.en;unfold gT at this;omega
 ·exact ⟨h.mi.vb,fun b hb=>by have:=h.mi.lt b hb;simp only;omega,h.mi.ob,by simp only;omega,by simp only;omega⟩
 ·simp only[gT];obtain ⟨x,hx,h1,h2⟩:=h.opn b hb h0;rw[a2];have hx':x∈A++jk o++B:=by rw[<- a1];exact hx
  simp only[lU] at hx';rcases hx' with (hx'|hx')|hx'
  ·exact ⟨x,by simp[hx'],h1,h2⟩
  ·obtain ⟨w,_,rfl⟩:=qu.1 hx';refine ⟨⟨o.id,⟨s.commit+1,0,(aO n).length,P.2⟩⟩,?_,h1,rfl⟩;rw[e2];simp
  ·exact ⟨x,by simp[hx'],h1,h2⟩
theorem I6 {l:List Bd} (h:VB l) {i j:Nat} {a b:Bd} (ha:l[i]? = some a) (hb:l[j]? = some b) (h1:a.to=0) (h2:b.to=0) (e:a.name=b.name):i=j:=by
 obtain ⟨hi,rfl⟩:=jL.1 ha;obtain ⟨hj,rfl⟩:=jL.1 hb;have hp:=JW.1 h.pM;rcases SB i j with g|g|g
 ·rcases hp i j hi hj g with q|⟨_,q,_⟩
  ·rw[e,iB] at q;cases q
  ·exact absurd h1 q
 ·exact g
 ·rcases hp j i hj hi g with q|⟨_,q,_⟩
  ·rw[e,iB] at q;cases q
  ·exact absurd h2 q
theorem L5 {l:List Bd} (h:VB l) {i j:Nat} {a b:Bd} (ha:l[i]? = some a) (hb:l[j]? = some b) (h1:a.to=0) (h2:b.to=0) (e:a.obj=b.obj):i=j:=by
 obtain ⟨hi,rfl⟩:=jL.1 ha;obtain ⟨hj,rfl⟩:=jL.1 hb;have hp:=JW.1 h.dup;rcases SB i j with g|g|g
 ·exact absurd ⟨e,by unfold xO;rw[h1,h2];rfl⟩ (hp i j hi hj g)
 ·exact g
 ·exact absurd ⟨e.symm,by unfold xO;rw[h1,h2];rfl⟩ (hp j i hj hi g)
theorem D8 {l:List Bd} {n:ByteArray} {c o:Int} (h:MI l c o) {b:Bd} (hb:b∈(bI l n c).1) (h0:b.to=0):b∈l/\∀ a∈l,a.to=0->a.name=n->a.obj≠b.obj:=by
 unfold bI at hb
 repeat' split at hb
 all_goals(try(cases hb;done))
 rename_i h6 h7;obtain ⟨d,hd,hp⟩:=k9 h6;have hbd:=fQ hd;simp only[gP,jl,nX] at hp;simp only[vZ,hbd] at hb;obtain ⟨j,hj⟩:=JE.1 hb;rw[List.getElem?_set] at hj;have hc:=h.c1
 split at hj
 ·split at hj
  ·cases hj;simp only at h0;omega
  ·cases hj
 ·rename_i hne;refine ⟨fS hj,fun a ha ha0 hn e=>?_⟩;obtain ⟨k,hk⟩:=JE.1 ha;have e1:=I6 h.vb hk hd ha0 hp.2 (hn.trans (lP.1 hp.1).symm);have e2:=L5 h.vb hk hj ha0 h0 e;omega
theorem D9 {l:List Bd} {n m:ByteArray} {c o:Int} (h:MI l c o) {b:Bd} (hb:b∈(bH l n m c).1) (h0:b.to=0):∃ a∈l,a.to=0/\a.obj=b.obj:=by
 unfold bH at hb
 repeat' split at hb
 all_goals(try(cases hb;done))
 rename_i h6 h8 h7;obtain ⟨d,hd,hp⟩:=k9 h6;have hbd:=fQ hd;simp only[gP,jl,nX] at hp;simp only[vZ,hbd] at hb;have hc:=h.c1;rcases ld.1 hb with rfl|hb
 ·exact ⟨d,fS hd,hp.2,rfl⟩
 ·rcases iD hb with hb|rfl
  ·exact ⟨b,hb,h0,rfl⟩
  ·simp only at h0;omega
theorem Ea (s:Sr) (n:ByteArray):(∃ e,gq s n=(s,0,e))\/((fR s n s.commit).2.2=true/\s.commit<s.c.com/\
  gq s n=({ s with commit:=s.commit+1,objs:=dz s.objs (fR s n s.commit).1 (dW (dm s.objs (fR s n s.commit).1).bu (s.commit+1)).1,binds:=(bI s.binds n (s.commit+1)).1 },s.commit+1,0)):=by
 by_cases h1:(fR s n s.commit).2.2=false
 ·exact .inl ⟨8,by rw[gq,bC h1]⟩
 by_cases h2:s.c.com<=s.commit
 ·exact .inl ⟨14,by rw[gq,aE h1,bC h2]⟩
 exact .inr ⟨by simpa using h1,by omega,by rw[gq,aE h1,aE h2]⟩
theorem yb {n:ByteArray} {c:Int}:∀ {l:List Bd},(b9 n c l).2=true->∃ b∈l,b.name=n/\eW b.eo b.to c=true/\(b9 n c l).1=b.obj
 | [],h=>by cases h
 | x::l,h=>by
   rw[b9] at h ⊢
   split at h
   ·rename_i hx;rw[bC hx];rw[jl] at hx;exact ⟨x,by simp,lP.1 hx.1,hx.2,rfl⟩
   ·rename_i hx;rw[aE hx];obtain ⟨b,hb,h1,h2,h3⟩:=yb h;exact ⟨b,by simp[hb],h1,h2,h3⟩
theorem MI.holds {l:List Bd} {c o:Int} (h:MI l (c+1) o) {b:Bd} (hb:b∈l) (hh:eW b.eo b.to c=true):b.to=0:=by
 have:=h.lt b hb;simp only[eW,jl,vN,pP,nX] at hh;omega
end Go.Proofs.YteemiclhnfkekaaGreat
