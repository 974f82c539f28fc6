/- The reference's arena: every page is stored while it is referenced, and no longer (plain). -/
import Derived.Test.YteemiclhnfkekaaGreatZSrH
set_option linter.unusedSimpArgs false
set_option linter.unusedVariables false
namespace Go.Proofs.YteemiclhnfkekaaGreat
open Go.RowKit Go.eB
structure B0 (a:Ar) (L:List Int):Prop where
 pG:vO (a.pages.map (·.num))
 refs:∀ p∈a.pages,p.refs=(L.count p.num:Int)/\1<=L.count p.num
 mem:∀ n∈L,n∈a.pages.map (·.num)
theorem B0.perm {a:Ar} {L M:List Int} (h:B0 a L) (hp:L.Perm M):B0 a M:=
 ⟨h.pG,fun p hm=>by rw[<- hp.count_eq];exact h.refs p hm,fun n hn=>h.mem n (hp.mem_iff.2 hn)⟩
theorem LD {n:Int} (h0: -1000000<=n) (h1:n<=1000000):wr n=n:=by
 unfold wr;rw[IntKind.wrap_i64];omega
theorem Hu {l:List Pg} (h:vO (l.map (·.num))) {i j:Nat} {x y:Pg} (hx:l[i]? = some x) (hy:l[j]? = some y) (hn:i≠j):x.num≠y.num:=by
 rcases Nat.lt_or_gt_of_ne hn with g|g
 ·have:=qj h (x:=x.num) (y:=y.num) (by rw[wR,hx];rfl) (by rw[wR,hy];rfl) g;omega
 ·have:=qj h (x:=y.num) (y:=x.num) (by rw[wR,hy];rfl) (by rw[wR,hx];rfl) g;omega
theorem Hv {n:Int} {l:List Pg} (h:n∈l.map (·.num)):∃ (j:Nat) (p:Pg),l[j]? = some p/\j<l.length/\eP n l 0=(j:Int)/\fh l (eP n l 0)=p/\p.num=n:=by
 rcases gb n l 0 with ⟨h1,h2⟩|⟨j,p,h1,h2,h3,_⟩
 ·obtain ⟨p,hp,e⟩:=qq.1 h;exact absurd e (h2 p hp)
 ·exact ⟨j,p,h1,(jM.1 h1).1,by rw[h3];simp,by rw[h3];simp[fh,h1],h2⟩
theorem Hw {l:List Pg} {j:Nat} {p q:Pg} (h:l[j]? = some p) (e:q.num=p.num):(l.set j q).map (·.num)=l.map (·.num):=by
 rw[qN,e];refine MD fun i=>?_;rw[List.getElem?_set]
 split
 ·rename_i hi;subst hi;obtain ⟨hj,hp⟩:=jM.1 h;rw[bC (by rw[dD];exact hj),wR,h];rfl
 ·rfl
theorem mem_set {l:List Pg} {j:Nat} {q x:Pg} (h:q∈l.set j x):q=x\/∃ i,i≠j/\l[i]? = some q:=by
 obtain ⟨i,hi⟩:=JD.1 h;rw[List.getElem?_set] at hi
 split at hi
 ·split at hi
  ·exact .inl (by injection hi with e;exact e.symm)
  ·cases hi
 ·rename_i hn;exact .inr ⟨i,fun e=>hn e.symm,hi⟩
theorem LG {a:Ar} {L:List Int} {n:Int} (h:B0 a L) (hn:n∈L) (hl:L.length<=900000):B0 (dZ a n).1 (n::L):=by
 obtain ⟨j,p,h1,h2,h3,h4,h5⟩:=Hv (h.mem n hn);have hc:=List.count_le_length (a:=p.num) (l:=L);have hr:=h.refs p (fS h1);have h6:fh a.pages (j:Int)=p:=by rw[<- h3];exact h4
 have e:(dZ a n).1=⟨a.cap,a.pages.set j ⟨p.num,p.refs+1,p.data⟩⟩:=by
  unfold dZ gl;rw[aE (by omega)];simp only[h3,h6,Int.toNat_natCast];rw[LD (n:=p.refs+1) (by omega) (by omega)]
 rw[e];have LH:=Hw (q:=⟨p.num,p.refs+1,p.data⟩) h1 rfl;refine ⟨by simp only;rw[LH];exact h.pG,fun q hq=>?_,fun m hm=>?_⟩
 ·rcases mem_set hq with rfl|⟨i,hi,I4⟩
  ·simp only[h5,List.count_cons_self];rw[<- h5];omega
  ·have hne:=Hu h.pG I4 h1 hi;have:=h.refs q (fS I4);rw[List.count_cons_of_ne (by rw[<- h5];exact fun e=>hne e.symm)];exact this
 ·simp only;rw[LH];rcases lp.1 hm with rfl|hm
  ·exact h.mem _ hn
  ·exact h.mem _ hm
theorem I5 {l:List Pg} {j:Nat} {q:Pg} (h:q∈ic l (j:Int)):∃ i,i≠j/\l[i]? = some q:=by
 rw[ic,Int.toNat_natCast] at h;rcases lS.1 h with h|h
 ·obtain ⟨i,hi⟩:=JD.1 h;rw[JG] at hi
  split at hi
  ·exact ⟨i,by omega,hi⟩
  ·cases hi
 ·obtain ⟨i,hi⟩:=JD.1 h;rw[Qq] at hi;exact ⟨j+1+i,by omega,hi⟩
theorem I6 {α:Type} (l:List α) (j:Nat):(ic l (j:Int)).Sublist l:=by
 rw[ic,Int.toNat_natCast]
 conv=>rhs;rw[<- JS j l]
 refine List.Sublist.append_left ?_ _;rw[<- List.drop_drop];exact List.drop_sublist _ _
theorem LI {l:List Pg} {j i:Nat} {q:Pg} (h:l[i]? = some q) (hn:i≠j):q∈ic l (j:Int):=by
 rw[ic,Int.toNat_natCast,lS];rcases Nat.lt_or_gt_of_ne hn with g|g
 ·exact .inl (JD.2 ⟨i,by rw[EK g];exact h⟩)
 ·exact .inr (JD.2 ⟨i-(j+1),by rw[Qq,show j+1+(i-(j+1))=i by omega];exact h⟩)
theorem Hx {a:Ar} {L:List Int} {n:Int} (h:B0 a (n::L)) (hl:L.length<=900000):B0 (bZ a n).1 L:=by
 obtain ⟨j,p,h1,h2,h3,h4,h5⟩:=Hv (h.mem n (by simp));have hc:=List.count_le_length (a:=n) (l:=L);have hr:=h.refs p (fS h1);rw[h5,List.count_cons_self] at hr;have h6:fh a.pages (j:Int)=p:=by rw[<- h3];exact h4
 have hw:wr (p.refs-1)=(L.count n:Int):=by rw[LD (n:=p.refs-1) (by omega) (by omega)];omega
 have Yr:∀ q:Pg,(∃ i,i≠j/\a.pages[i]? = some q)->q.refs=(L.count q.num:Int)/\1<=L.count q.num:=fun q ⟨i,hi,hq⟩=>by
  have hne:=Hu h.pG hq h1 hi;have:=h.refs q (fS hq)
  rwa [List.count_cons_of_ne (by rw[<- h5];exact fun e=>hne e.symm)] at this
 by_cases hz:0<(L.count n:Int)
 ·have e:(bZ a n).1=⟨a.cap,a.pages.set j ⟨p.num,(L.count n:Int),p.data⟩⟩:=by
   unfold bZ gl;rw[aE (by omega),h3];simp only[h6,hw];rw[bC hz];simp only[Int.toNat_natCast]
  rw[e];have LH:=Hw (q:=⟨p.num,(L.count n:Int),p.data⟩) h1 rfl;refine ⟨by simp only;rw[LH];exact h.pG,fun q hq=>?_,fun m hm=>?_⟩
  ·rcases mem_set hq with rfl|hq
   ·have h7:1<=L.count n:=by omega
    refine ⟨?_,?_⟩
    ·simp only[h5]
    ·simp only[h5];exact h7
   ·exact Yr q hq
  ·simp only;rw[LH];exact h.mem m (Ic _ hm)
 ·have e:(bZ a n).1=⟨a.cap,ic a.pages (j:Int)⟩:=by
   unfold bZ;rw[aE (by omega),h3];simp only[h6,hw];rw[aE hz]
  rw[e];refine ⟨?_,fun q hq=>Yr q (I5 hq),fun m hm=>?_⟩
  ·exact h.pG.sublist ((I6 a.pages j).map _)
  ·obtain ⟨q,hq,e2⟩:=qq.1 (h.mem m (Ic _ hm));obtain ⟨i,hi⟩:=JD.1 hq
   have hij:i≠j:=fun e3=>by
    subst e3;rw[h1] at hi;injection hi with e4;subst e4
    have:0<L.count n:=List.count_pos_iff.2 (by rw[<- h5,e2];exact hm);omega
   exact qq.2 ⟨q,LI hi hij,e2⟩
theorem DQ:∀ (ps:List Int) {a:Ar} {L:List Int},B0 a (ps++L)->(ps++L).length<=900000->B0 (pN a ps) L
 | [],_,_,h,_=>h
 | n::ps,a,L,h,hl=>by
   simp only[List.cons_append,List.length_cons] at h hl;exact DQ ps (Hx h (by omega)) (by omega)
theorem xS:∀ (ps:List Int) (a:Ar),(pN a ps).cap=a.cap
 | [],_=>rfl
 | n::ps,a=>by
   rw[pN,xS ps];unfold bZ
   split
   ·rfl
   ·split<;>rfl
theorem vo (l:List Pg):∀ (k:Nat) (n:Int),eP (ju l k n) l 0<0\/∀ i:Nat,i<k->n+i∈l.map (·.num)
 | 0,n=> .inr fun i hi=>by omega
 | k+1,n=>by
   rw[ju]
   split
   ·rename_i h;exact .inl h
   ·rename_i h;rcases vo l k (n+1) with g|g
    ·exact .inl g
    ·refine .inr fun i hi=>?_;cases i with
     | zero=>simpa using wG h
     | succ i=>have:=g i (by omega);rwa [show n+((i+1:Nat):Int)=n+1+i by omega]
theorem wQ (l:List Pg):∀ p∈l,p.num≠gO l:=by
 have h:eP (gO l) l 0<0:=by
  rcases vo l (l.length+1) 1 with h|h
  ·exact h
  ·have:=EY (l.length+1) (l.map (·.num)) fun i h1 h2=>by
    have:=h (i-1) (by omega)
    rwa [show (1:Int)+((i-1:Nat):Int)=i by omega] at this
   rw[dD] at this;omega
 rcases gb (gO l) l 0 with ⟨_,h2⟩|⟨j,p,h1,h2,h3,_⟩
 ·exact h2
 ·omega
theorem zO {l:List Pg} {x:Pg} (h:vO (l.map (·.num))) (hx:∀ p∈l,p.num≠x.num):vO ((tF x l).map (·.num)):=by
 unfold tF;have hj:=qH (fun k=>decide (x.num<(fh l k).num)) l.length;have hge:=Hy (fun k=>decide (x.num<(fh l k).num)) l.length;have hlt:=Hz (fun k=>decide (x.num<(fh l k).num)) l.length;generalize gx (fun k=>decide (x.num<(fh l k).num)) l.length=j at *;have az:∀ k:Nat,(hk:k<l.length)->fh l (k:Int)=l[k]:=fun k hk=>by simp[fh,rF hk]
 have hA:∀ y∈l.take j,y.num<x.num:=fun y hy=>by
  cases j with
  | zero=>simp at hy
  | succ i=>
    have h1:=hlt i rfl;simp only[az i (by omega),Ph] at h1;obtain ⟨k,hk,rfl⟩:=RT.1 hy;rw[cw] at hk;rw[List.getElem_take];have h3:=hx l[i] (Ih _);by_cases hki:k=i
    ·subst hki;omega
    ·have h2:=qj h (x:=(l[k]).num) (y:=(l[i]).num) (by rw[wR,rF (by omega)];rfl) (by rw[wR,rF (by omega)];rfl) (show k<i by omega);omega
 have hB:∀ y∈l.drop j,x.num<y.num:=fun y hy=>by
  obtain ⟨k,hk,rfl⟩:=RT.1 hy;rw[bQ] at hk;have:=hge (j+k) (by omega) (by omega);simp only[az (j+k) (by omega),pQ] at this
  rwa [List.getElem_drop]
 have h0:((l.take j).map (·.num)++(l.drop j).map (·.num)).Pairwise (· < ·):=by rw[<- vN,JS];exact h
 obtain ⟨g1,g2,g3⟩:=JF.1 h0;unfold fH vO;rw[lR,List.singleton_append,vN,fk];refine JF.2 ⟨g1,M9.2 ⟨fun y hy=>?_,g2⟩,fun a ha b hb=>?_⟩
 ·obtain ⟨q,hq,rfl⟩:=qq.1 hy;exact hB q hq
 ·rcases lp.1 hb with rfl|hb
  ·obtain ⟨q,hq,rfl⟩:=qq.1 ha;exact hA q hq
  ·exact g3 a ha b hb
theorem AJ {a:Ar} {L:List Int} {d:List Int} (h:B0 a L) (hd:d.length<=1024) (hc:(a.pages.length:Int)<a.cap):B0 (dG a d).1 ((dG a d).2.1::L)/\(dG a d).1.cap=a.cap/\(dG a d).1.pages.length=a.pages.length+1:=by
 have e:dG a d=(⟨a.cap,tF ⟨gO a.pages,1,d⟩ a.pages⟩,gO a.pages,0):=by rw[dG,aE (by omega),aE (by omega)]
 have hf:=wQ a.pages
 have hfl:∀ m∈L,m≠gO a.pages:=fun m hm e=>by
  obtain ⟨q,hq,e2⟩:=qq.1 (h.mem m hm);exact hf q hq (by rw[e2,e])
 have hp:(tF ⟨gO a.pages,1,d⟩ a.pages).Perm (⟨gO a.pages,1,d⟩::a.pages):=rE _ _ _;rw[e];refine ⟨⟨zO h.pG hf,fun q hq=>?_,fun m hm=>?_⟩,rfl,by simpa using hp.length_eq⟩
 ·have KQ:q∈tF ⟨gO a.pages,1,d⟩ a.pages:=hq;rcases lp.1 (hp.mem_iff.1 KQ) with rfl|hq
  ·have:L.count (gO a.pages)=0:=List.count_eq_zero.2 fun hm=>hfl _ hm rfl;simp only[List.count_cons_self,this];omega
  ·have:=h.refs q hq;rw[List.count_cons_of_ne (fun e=>hf q hq e.symm)];exact this
 ·have hmp:=(hp.map (·.num)).mem_iff (a:=m);simp only[fk,lp] at hmp;refine hmp.2 ?_;rcases lp.1 hm with rfl|hm
  ·exact .inl rfl
  ·exact .inr (h.mem m hm)
theorem r9:∀ (l:List (List Int)) {a:Ar} {L:List Int},B0 a L->(∀ d∈l,d.length<=1024)->(a.pages.length:Int)+l.length<=a.cap->B0 (eZ a l).1 (L++(eZ a l).2)/\(eZ a l).1.cap=a.cap
 | [],a,L,h,_,_=>by simpa[eZ] using h
 | d::l,a,L,h,hd,hc=>by
   rw[List.length_cons] at hc;obtain ⟨h1,h2,h3⟩:=AJ h (hd d (by simp)) (by omega);obtain ⟨g1,g2⟩:=r9 l h1 (fun x hx=>hd x (by simp[hx])) (by omega);rw[eZ];refine ⟨g1.perm ?_,by rw[g2,h2]⟩;rw[List.cons_append];exact List.perm_middle.symm
theorem tG (a:Ar) (n:Int):(dZ a n).1.cap=a.cap:=by unfold dZ;split<;>rfl
theorem DS:∀ l:List Bool,0<=gj l
 | []=>Nc _
 | b::l=>by have:=DS l;rw[gj];split<;>omega
theorem tH (f:Int->List Int):∀ (l:List (List Int)) {a:Ar} {L o:List Int},B0 a L->(∀ n∈o,n∈L)->(∀ d∈l,d.length<=1024)->(a.pages.length:Int)+gj (bB (o.map f) l)<=a.cap->L.length+l.length<=800000->
  B0 (iR a l (bB (o.map f) l) o).1 (L++(iR a l (bB (o.map f) l) o).2)/\(iR a l (bB (o.map f) l) o).1.cap=a.cap
 | [],a,L,o,h,_,_,_,_=>by
   have e:bB (o.map f) []=[]:=by cases o<;>rfl
   rw[e];simpa[iR] using h
 | d::l,a,L,o,h,ho,hd,hc,hl=>by
   have key:∀ (b:Bool) (o':List Int),bB (o.map f) (d::l)=b::bB (o'.map f) l->o.tail=o'->(b=true->o.headD 0∈L)->(∀ n∈o',n∈L)->
     B0 (iR a (d::l) (bB (o.map f) (d::l)) o).1 (L++(iR a (d::l) (bB (o.map f) (d::l)) o).2)/\(iR a (d::l) (bB (o.map f) (d::l)) o).1.cap=a.cap:=fun b o' e1 e2 hb ho'=>by
    rw[e1] at hc ⊢;simp only[List.length_cons] at hl;rw[gj] at hc;rw[iR,e2];cases b with
    | true=>
      rw[bC rfl] at hc ⊢;have h1:=LG h (hb rfl) (by omega);obtain ⟨g1,g2⟩:=tH f l h1 (o:=o') (fun n hn=>Ic _ (ho' n hn)) (fun x hx=>hd x (by simp[hx])) (by rw[DT,tG];exact hc) (by simp only[List.length_cons];omega);refine ⟨g1.perm ?_,by rw[g2,tG]⟩;rw[List.cons_append];exact List.perm_middle.symm
    | false=>
      have R4:=DS (bB (o'.map f) l);rw[aE (by decide)] at hc ⊢;obtain ⟨h1,h2,h3⟩:=AJ h (hd d (by simp)) (by omega);obtain ⟨g1,g2⟩:=tH f l h1 (o:=o') (fun n hn=>Ic _ (ho' n hn)) (fun x hx=>hd x (by simp[hx])) (by rw[h2];omega) (by simp only[List.length_cons];omega);refine ⟨g1.perm ?_,by rw[g2,h2]⟩;rw[List.cons_append];exact List.perm_middle.symm
   cases o with
   | nil=>exact key false [] rfl rfl (fun e=>by cases e) ho
   | cons n o=>exact key (decide (f n=d)) o rfl rfl (fun _=>ho n (by simp)) fun m hm=>ho m (by simp[hm])
end Go.Proofs.YteemiclhnfkekaaGreat
