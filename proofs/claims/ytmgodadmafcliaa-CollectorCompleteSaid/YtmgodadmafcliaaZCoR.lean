/- The reference's arena: every page is stored while it is referenced, and no longer (plain). -/
import Derived.Test.YtmgodadmafcliaaZDiL
import Derived.Test.YtmgodadmafcliaaZCoB
set_option linter.unusedSimpArgs false
set_option linter.unusedVariables false
namespace Go.Proofs.Ytmgodadmafcliaa
open Go.RowKit Go.Avm
/-- The stored pages are exactly those that L names, each with its number of references. -/
structure ArI (a:Ar) (L:List Int):Prop where
 asc:AscI (a.pages.map (·.num))
 refs: ∀ p∈a.pages,p.refs=(L.count p.num:Int)∧1≤L.count p.num
 mem: ∀ n∈L,n∈a.pages.map (·.num)
theorem ArI.perm {a:Ar} {L M:List Int} (h:ArI a L) (hp:L.Perm M):ArI a M:=
 ⟨h.asc,fun p hm=>by rw [← hp.count_eq];exact h.refs p hm,fun n hn=>h.mem n (hp.mem_iff.2 hn)⟩
theorem wr_of {n:Int} (h0: -1000000≤n) (h1:n≤1000000):wr n=n:=by
 unfold wr
 rw [IntKind.wrap_i64];omega
theorem ascI_ne {l:List Pg} (h:AscI (l.map (·.num))) {i j:Nat} {x y:Pg} (hx:l[i]? = some x) (hy:l[j]? = some y) (hn:i≠j):x.num≠y.num:=by
 rcases Nat.lt_or_gt_of_ne hn with g|g
 ·have:=ascI_get h (x:=x.num) (y:=y.num) (by rw [List.getElem?_map,hx];rfl) (by rw [List.getElem?_map,hy];rfl) g;omega
 ·have:=ascI_get h (x:=y.num) (y:=x.num) (by rw [List.getElem?_map,hy];rfl) (by rw [List.getElem?_map,hx];rfl) g;omega
theorem pgAt_in {n:Int} {l:List Pg} (h:n∈l.map (·.num)): ∃ (j:Nat) (p:Pg),l[j]? = some p∧j<l.length∧pgAt n l 0=(j:Int)∧pgGet l (pgAt n l 0)=p∧p.num=n:=by
 rcases pgAt_cases n l 0 with ⟨h1,h2⟩|⟨j,p,h1,h2,h3,_⟩
 ·obtain ⟨p,hp,e⟩:=List.mem_map.1 h
  exact absurd e (h2 p hp)
 ·exact ⟨j,p,h1,(List.getElem?_eq_some_iff.1 h1).1,by rw [h3];simp,by rw [h3];simp [pgGet,h1],h2⟩
theorem set_num {l:List Pg} {j:Nat} {p q:Pg} (h:l[j]? = some p) (e:q.num=p.num):(l.set j q).map (·.num)=l.map (·.num):=by
 rw [List.map_set,e]
 refine List.ext_getElem? fun i=>?_
 rw [List.getElem?_set]
 split
 ·rename_i hi;subst hi
  obtain ⟨hj,hp⟩:=List.getElem?_eq_some_iff.1 h
  rw [if_pos (by rw [List.length_map];exact hj),List.getElem?_map,h];rfl
 ·rfl
theorem mem_set {l:List Pg} {j:Nat} {q x:Pg} (h:q∈l.set j x):q=x∨ ∃ i,i≠j∧l[i]? = some q:=by
 obtain ⟨i,hi⟩:=List.mem_iff_getElem?.1 h
 rw [List.getElem?_set] at hi
 split at hi
 ·split at hi
  ·exact .inl (by injection hi with e;exact e.symm)
  ·cases hi
 ·rename_i hn;exact .inr ⟨i,fun e=>hn e.symm,hi⟩
theorem hold_inv {a:Ar} {L:List Int} {n:Int} (h:ArI a L) (hn:n∈L) (hl:L.length≤900000):ArI (holdR a n).1 (n::L):=by
 obtain ⟨j,p,h1,h2,h3,h4,h5⟩:=pgAt_in (h.mem n hn)
 have hc:=List.count_le_length (a:=p.num) (l:=L)
 have hr:=h.refs p (List.mem_of_getElem? h1)
 have h6:pgGet a.pages (j:Int)=p:=by rw [← h3];exact h4
 have e:(holdR a n).1=⟨a.cap,a.pages.set j ⟨p.num,p.refs+1,p.data⟩⟩:=by
  unfold holdR setRefs
  rw [if_neg (by omega)]
  simp only [h3,h6,Int.toNat_natCast]
  rw [wr_of (n:=p.refs+1) (by omega) (by omega)]
 rw [e]
 have hnum:=set_num (q:=⟨p.num,p.refs+1,p.data⟩) h1 rfl
 refine ⟨by simp only;rw [hnum];exact h.asc,fun q hq=>?_,fun m hm=>?_⟩
 ·rcases mem_set hq with rfl|⟨i,hi,hq2⟩
  ·simp only [h5,List.count_cons_self]
   rw [← h5];omega
  ·have hne:=ascI_ne h.asc hq2 h1 hi
   have:=h.refs q (List.mem_of_getElem? hq2)
   rw [List.count_cons_of_ne (by rw [← h5];exact fun e=>hne e.symm)]
   exact this
 ·simp only
  rw [hnum]
  rcases List.mem_cons.1 hm with rfl|hm
  ·exact h.mem _ hn
  ·exact h.mem _ hm
theorem delAt_mem {l:List Pg} {j:Nat} {q:Pg} (h:q∈delAt l (j:Int)): ∃ i,i≠j∧l[i]? = some q:=by
 rw [delAt,Int.toNat_natCast] at h
 rcases List.mem_append.1 h with h|h
 ·obtain ⟨i,hi⟩:=List.mem_iff_getElem?.1 h
  rw [List.getElem?_take] at hi
  split at hi
  ·exact ⟨i,by omega,hi⟩
  ·cases hi
 ·obtain ⟨i,hi⟩:=List.mem_iff_getElem?.1 h
  rw [List.getElem?_drop] at hi
  exact ⟨j+1+i,by omega,hi⟩
theorem delAt_sub {α:Type} (l:List α) (j:Nat):(delAt l (j:Int)).Sublist l:=by
 rw [delAt,Int.toNat_natCast]
 conv=>rhs;rw [← List.take_append_drop j l]
 refine List.Sublist.append_left ?_ _
 rw [← List.drop_drop]
 exact List.drop_sublist _ _
theorem delAt_of {l:List Pg} {j i:Nat} {q:Pg} (h:l[i]? = some q) (hn:i≠j):q∈delAt l (j:Int):=by
 rw [delAt,Int.toNat_natCast,List.mem_append]
 rcases Nat.lt_or_gt_of_ne hn with g|g
 ·exact .inl (List.mem_iff_getElem?.2 ⟨i,by rw [List.getElem?_take_of_lt g];exact h⟩)
 ·exact .inr (List.mem_iff_getElem?.2 ⟨i-(j+1),by rw [List.getElem?_drop,show j+1+(i-(j+1))=i by omega];exact h⟩)
theorem rel_inv {a:Ar} {L:List Int} {n:Int} (h:ArI a (n::L)) (hl:L.length≤900000):ArI (releaseR a n).1 L:=by
 obtain ⟨j,p,h1,h2,h3,h4,h5⟩:=pgAt_in (h.mem n (by simp))
 have hc:=List.count_le_length (a:=n) (l:=L)
 have hr:=h.refs p (List.mem_of_getElem? h1)
 rw [h5,List.count_cons_self] at hr
 have h6:pgGet a.pages (j:Int)=p:=by rw [← h3];exact h4
 have hw:wr (p.refs-1)=(L.count n:Int):=by rw [wr_of (n:=p.refs-1) (by omega) (by omega)];omega
 have oth: ∀ q:Pg,(∃ i,i≠j∧a.pages[i]? = some q)→q.refs=(L.count q.num:Int)∧1≤L.count q.num:=fun q ⟨i,hi,hq⟩=>by
  have hne:=ascI_ne h.asc hq h1 hi
  have:=h.refs q (List.mem_of_getElem? hq)
  rwa [List.count_cons_of_ne (by rw [← h5];exact fun e=>hne e.symm)] at this
 by_cases hz:0<(L.count n:Int)
 ·have e:(releaseR a n).1=⟨a.cap,a.pages.set j ⟨p.num,(L.count n:Int),p.data⟩⟩:=by
   unfold releaseR setRefs
   rw [if_neg (by omega),h3]
   simp only [h6,hw]
   rw [if_pos hz]
   simp only [Int.toNat_natCast]
  rw [e]
  have hnum:=set_num (q:=⟨p.num,(L.count n:Int),p.data⟩) h1 rfl
  refine ⟨by simp only;rw [hnum];exact h.asc,fun q hq=>?_,fun m hm=>?_⟩
  ·rcases mem_set hq with rfl|hq
   ·have h7:1≤L.count n:=by omega
    refine ⟨?_,?_⟩
    ·simp only [h5]
    ·simp only [h5];exact h7
   ·exact oth q hq
  ·simp only
   rw [hnum]
   exact h.mem m (List.mem_cons_of_mem _ hm)
 ·have e:(releaseR a n).1=⟨a.cap,delAt a.pages (j:Int)⟩:=by
   unfold releaseR
   rw [if_neg (by omega),h3]
   simp only [h6,hw]
   rw [if_neg hz]
  rw [e]
  refine ⟨?_,fun q hq=>oth q (delAt_mem hq),fun m hm=>?_⟩
  ·exact h.asc.sublist ((delAt_sub a.pages j).map _)
  ·obtain ⟨q,hq,e2⟩:=List.mem_map.1 (h.mem m (List.mem_cons_of_mem _ hm))
   obtain ⟨i,hi⟩:=List.mem_iff_getElem?.1 hq
   have hij:i≠j:=fun e3=>by
    subst e3
    rw [h1] at hi;injection hi with e4;subst e4
    have:0<L.count n:=List.count_pos_iff.2 (by rw [← h5,e2];exact hm)
    omega
   exact List.mem_map.2 ⟨q,delAt_of hi hij,e2⟩
theorem rels_inv: ∀ (ps:List Int) {a:Ar} {L:List Int},ArI a (ps++L)→(ps++L).length≤900000→ArI (rels a ps) L
 | [],_,_,h,_=>h
 | n::ps,a,L,h,hl=>by
   simp only [List.cons_append,List.length_cons] at h hl
   exact rels_inv ps (rel_inv h (by omega)) (by omega)
theorem rels_cap: ∀ (ps:List Int) (a:Ar),(rels a ps).cap=a.cap
 | [],_=>rfl
 | n::ps,a=>by
   rw [rels,rels_cap ps]
   unfold releaseR
   split
   ·rfl
   ·split<;>rfl
theorem freeGo_spec (l:List Pg): ∀ (k:Nat) (n:Int),pgAt (freeGo l k n) l 0<0∨ ∀ i:Nat,i<k→n+i∈l.map (·.num)
 | 0,n=> .inr fun i hi=>by omega
 | k+1,n=>by
   rw [freeGo]
   split
   ·rename_i h;exact .inl h
   ·rename_i h
    rcases freeGo_spec l k (n+1) with g|g
    ·exact .inl g
    ·refine .inr fun i hi=>?_
     cases i with
     | zero=>simpa using pgAt_mem h
     | succ i=>have:=g i (by omega);rwa [show n+((i+1:Nat):Int)=n+1+i by omega]
theorem free_fresh (l:List Pg): ∀ p∈l,p.num≠freeN l:=by
 have h:pgAt (freeN l) l 0<0:=by
  rcases freeGo_spec l (l.length+1) 1 with h|h
  ·exact h
  ·have:=mem_le (l.length+1) (l.map (·.num)) fun i h1 h2=>by
    have:=h (i-1) (by omega)
    rwa [show (1:Int)+((i-1:Nat):Int)=i by omega] at this
   rw [List.length_map] at this;omega
 rcases pgAt_cases (freeN l) l 0 with ⟨_,h2⟩|⟨j,p,h1,h2,h3,_⟩
 ·exact h2
 ·omega
theorem insPg_asc {l:List Pg} {x:Pg} (h:AscI (l.map (·.num))) (hx: ∀ p∈l,p.num≠x.num):AscI ((insPg x l).map (·.num)):=by
 unfold insPg
 have hj:=stopAt_le (fun k=>decide (x.num<(pgGet l k).num)) l.length
 have hge:=stop_ge (fun k=>decide (x.num<(pgGet l k).num)) l.length
 have hlt:=stop_lt (fun k=>decide (x.num<(pgGet l k).num)) l.length
 generalize stopAt (fun k=>decide (x.num<(pgGet l k).num)) l.length=j at *
 have hget: ∀ k:Nat,(hk:k<l.length)→pgGet l (k:Int)=l[k]:=fun k hk=>by simp [pgGet,List.getElem?_eq_getElem hk]
 have hA: ∀ y∈l.take j,y.num<x.num:=fun y hy=>by
  cases j with
  | zero=>simp at hy
  | succ i=>
    have h1:=hlt i rfl
    simp only [hget i (by omega),decide_eq_false_iff_not] at h1
    obtain ⟨k,hk,rfl⟩:=List.mem_iff_getElem.1 hy
    rw [List.length_take] at hk
    rw [List.getElem_take]
    have h3:=hx l[i] (List.getElem_mem _)
    by_cases hki:k=i
    ·subst hki;omega
    ·have h2:=ascI_get h (x:=(l[k]).num) (y:=(l[i]).num) (by rw [List.getElem?_map,List.getElem?_eq_getElem (by omega)];rfl) (by rw [List.getElem?_map,List.getElem?_eq_getElem (by omega)];rfl) (show k<i by omega)
     omega
 have hB: ∀ y∈l.drop j,x.num<y.num:=fun y hy=>by
  obtain ⟨k,hk,rfl⟩:=List.mem_iff_getElem.1 hy
  rw [List.length_drop] at hk
  have:=hge (j+k) (by omega) (by omega)
  simp only [hget (j+k) (by omega),decide_eq_true_eq] at this
  rwa [List.getElem_drop]
 have h0:((l.take j).map (·.num)++(l.drop j).map (·.num)).Pairwise (· < ·):=by rw [← List.map_append,List.take_append_drop];exact h
 obtain ⟨g1,g2,g3⟩:=List.pairwise_append.1 h0
 unfold insAt AscI
 rw [List.append_assoc,List.singleton_append,List.map_append,l_3]
 refine List.pairwise_append.2 ⟨g1,List.pairwise_cons.2 ⟨fun y hy=>?_,g2⟩,fun a ha b hb=>?_⟩
 ·obtain ⟨q,hq,rfl⟩:=List.mem_map.1 hy;exact hB q hq
 ·rcases List.mem_cons.1 hb with rfl|hb
  ·obtain ⟨q,hq,rfl⟩:=List.mem_map.1 ha;exact hA q hq
  ·exact g3 a ha b hb
theorem alloc_inv {a:Ar} {L:List Int} {d:List Int} (h:ArI a L) (hd:d.length≤1024) (hc:(a.pages.length:Int)<a.cap):ArI (allocR a d).1 ((allocR a d).2.1::L)∧(allocR a d).1.cap=a.cap∧(allocR a d).1.pages.length=a.pages.length+1:=by
 have e:allocR a d=(⟨a.cap,insPg ⟨freeN a.pages,1,d⟩ a.pages⟩,freeN a.pages,0):=by rw [allocR,if_neg (by omega),if_neg (by omega)]
 have hf:=free_fresh a.pages
 have hfl: ∀ m∈L,m≠freeN a.pages:=fun m hm e=>by
  obtain ⟨q,hq,e2⟩:=List.mem_map.1 (h.mem m hm)
  exact hf q hq (by rw [e2,e])
 have hp:(insPg ⟨freeN a.pages,1,d⟩ a.pages).Perm (⟨freeN a.pages,1,d⟩::a.pages):=insAt_perm _ _ _
 rw [e]
 refine ⟨⟨insPg_asc h.asc hf,fun q hq=>?_,fun m hm=>?_⟩,rfl,by simpa using hp.length_eq⟩
 ·have hq':q∈insPg ⟨freeN a.pages,1,d⟩ a.pages:=hq
  rcases List.mem_cons.1 (hp.mem_iff.1 hq') with rfl|hq
  ·have:L.count (freeN a.pages)=0:=List.count_eq_zero.2 fun hm=>hfl _ hm rfl
   simp only [List.count_cons_self,this];omega
  ·have:=h.refs q hq
   rw [List.count_cons_of_ne (fun e=>hf q hq e.symm)]
   exact this
 ·have hmp:=(hp.map (·.num)).mem_iff (a:=m)
  simp only [l_3,List.mem_cons] at hmp
  refine hmp.2 ?_
  rcases List.mem_cons.1 hm with rfl|hm
  ·exact .inl rfl
  ·exact .inr (h.mem m hm)
theorem allocs_inv: ∀ (l:List (List Int)) {a:Ar} {L:List Int},ArI a L→(∀ d∈l,d.length≤1024)→(a.pages.length:Int)+l.length≤a.cap→ArI (allocs a l).1 (L++(allocs a l).2)∧(allocs a l).1.cap=a.cap
 | [],a,L,h,_,_=>by simpa [allocs] using h
 | d::l,a,L,h,hd,hc=>by
   rw [List.length_cons] at hc
   obtain ⟨h1,h2,h3⟩:=alloc_inv h (hd d (by simp)) (by omega)
   obtain ⟨g1,g2⟩:=allocs_inv l h1 (fun x hx=>hd x (by simp [hx])) (by omega)
   rw [allocs]
   refine ⟨g1.perm ?_,by rw [g2,h2]⟩
   rw [List.cons_append]
   exact List.perm_middle.symm
theorem hold_cap (a:Ar) (n:Int):(holdR a n).1.cap=a.cap:=by unfold holdR;split<;>rfl
theorem needR_nn: ∀ l:List Bool,0≤needR l
 | []=>Int.le_refl _
 | b::l=>by have:=needR_nn l;rw [needR];split<;>omega
theorem puts_inv (f:Int→List Int): ∀ (l:List (List Int)) {a:Ar} {L o:List Int},ArI a L→(∀ n∈o,n∈L)→(∀ d∈l,d.length≤1024)→(a.pages.length:Int)+needR (sharedR (o.map f) l)≤a.cap→L.length+l.length≤800000→
  ArI (puts a l (sharedR (o.map f) l) o).1 (L++(puts a l (sharedR (o.map f) l) o).2)∧(puts a l (sharedR (o.map f) l) o).1.cap=a.cap
 | [],a,L,o,h,_,_,_,_=>by
   have e:sharedR (o.map f) []=[]:=by cases o<;>rfl
   rw [e]
   simpa [puts] using h
 | d::l,a,L,o,h,ho,hd,hc,hl=>by
   have key: ∀ (b:Bool) (o':List Int),sharedR (o.map f) (d::l)=b::sharedR (o'.map f) l→o.tail=o'→(b=true→o.headD 0∈L)→(∀ n∈o',n∈L)→
     ArI (puts a (d::l) (sharedR (o.map f) (d::l)) o).1 (L++(puts a (d::l) (sharedR (o.map f) (d::l)) o).2)∧(puts a (d::l) (sharedR (o.map f) (d::l)) o).1.cap=a.cap:=fun b o' e1 e2 hb ho'=>by
    rw [e1] at hc ⊢
    simp only [List.length_cons] at hl
    rw [needR] at hc
    rw [puts,e2]
    cases b with
    | true=>
      rw [if_pos rfl] at hc ⊢
      have h1:=hold_inv h (hb rfl) (by omega)
      obtain ⟨g1,g2⟩:=puts_inv f l h1 (o:=o') (fun n hn=>List.mem_cons_of_mem _ (ho' n hn)) (fun x hx=>hd x (by simp [hx])) (by rw [hold_len,hold_cap];exact hc) (by simp only [List.length_cons];omega)
      refine ⟨g1.perm ?_,by rw [g2,hold_cap]⟩
      rw [List.cons_append]
      exact List.perm_middle.symm
    | false=>
      have hnn:=needR_nn (sharedR (o'.map f) l)
      rw [if_neg (by decide)] at hc ⊢
      obtain ⟨h1,h2,h3⟩:=alloc_inv h (hd d (by simp)) (by omega)
      obtain ⟨g1,g2⟩:=puts_inv f l h1 (o:=o') (fun n hn=>List.mem_cons_of_mem _ (ho' n hn)) (fun x hx=>hd x (by simp [hx])) (by rw [h2];omega) (by simp only [List.length_cons];omega)
      refine ⟨g1.perm ?_,by rw [g2,h2]⟩
      rw [List.cons_append]
      exact List.perm_middle.symm
   cases o with
   | nil=>exact key false [] rfl rfl (fun e=>by cases e) ho
   | cons n o=>exact key (decide (f n=d)) o rfl rfl (fun _=>ho n (by simp)) fun m hm=>ho m (by simp [hm])
end Go.Proofs.Ytmgodadmafcliaa
/- The reference's store: its invariants (plain): chains are valid, numbers ascend, pages are those that versions name. -/
set_option linter.unusedSimpArgs false
set_option linter.unusedVariables false
namespace Go.Proofs.Ytmgodadmafcliaa
open Go.RowKit Go.Avm
structure OkV (l:List Ver):Prop where
 range: ∀ v∈l,1≤v.from_∧0≤v.to∧0≤v.size∧(v.to≠0→v.from_<v.to)
 asc:l.Pairwise (fun a b=>a.to≠0∧a.to≤b.from_)
theorem OkV.tail {v:Ver} {l:List Ver} (h:OkV (v::l)):OkV l∧ ∀ q∈l,v.to≠0∧v.to≤q.from_:=by
 have:=h.asc
 rw [List.pairwise_cons] at this
 exact ⟨⟨fun q hq=>h.range q (List.mem_cons_of_mem _ hq),this.2⟩,this.1⟩
theorem validV_of: ∀ (l:List Ver) (prev:Option Ver),OkV l→(∀ q,prev=some q→ ∀ v∈l,q.to≠0∧q.to≤v.from_)→validV prev l=0
 | [],_,_,_=>rfl
 | v::l,prev,ok,h=>by
   obtain ⟨ok',hab⟩:=ok.tail
   have hr:=ok.range v (by simp)
   have:=validV_of l (some v) ok' (fun q e=>by cases e;exact hab)
   unfold validV
   rw [if_neg (by omega),if_neg (by omega)]
   cases prev with
   | none=>simpa using this
   | some q=>
     have:=h q rfl v (by simp)
     simp only
     rw [if_neg (by omega)];assumption
theorem OkV.sub {l m:List Ver} (h:OkV l) (hs:m.Sublist l):OkV m:=⟨fun v hv=>h.range v (hs.subset hv),h.asc.sublist hs⟩
/-- Closed, if it was open. -/
def keepU (u:Ver) (f:Int):Ver:=if u.to=0 then { u with to:=f } else u
theorem keepU_is (u:Ver) (f:Int) (h1:u.from_<f) (h2:u.to≤f) (h3:u.to≠0→u.from_<u.to) (h4:0≤u.to) (h5:1≤u.from_):(keepU u f).from_=u.from_∧(keepU u f).to≠0∧(keepU u f).to≤f∧u.from_<(keepU u f).to∧(keepU u f).size=u.size∧(keepU u f).pages=u.pages:=by
 unfold keepU;split
 ·exact ⟨rfl,by simp only;omega,by simp,h1,rfl,rfl⟩
 ·exact ⟨rfl,by assumption,h2,h3 (by assumption),rfl,rfl⟩
theorem keep_ok {pre:List Ver} {u:Ver} {f s:Int} {p:List Int} (ok:OkV (pre++[u])) (h1:u.from_<f) (h2:u.to≤f) (hs:0≤s) (h0:1≤f):OkV (pre++[keepU u f]++[⟨f,0,s,p⟩]):=by
 have hu:=ok.range u (by simp)
 obtain ⟨a1,a2,a3⟩:=List.pairwise_append.1 ok.asc
 have hU:=keepU_is u f h1 h2 hu.2.2.2 hu.2.1 hu.1
 refine ⟨fun v hv=>?_,?_⟩
 ·simp only [List.mem_append,List.mem_singleton] at hv
  rcases hv with (hv|rfl)|rfl
  ·exact ok.range v (by simp [hv])
  ·omega
  ·simp only;omega
 ·rw [List.pairwise_append,List.pairwise_append]
  refine ⟨⟨a1,by simp,fun a ha b hb=>?_⟩,by simp,fun a ha b hb=>?_⟩
  ·simp only [List.mem_singleton] at hb
   subst hb
   have:=a3 a ha u (by simp)
   exact ⟨this.1,by rw [hU.1];exact this.2⟩
  ·simp only [List.mem_singleton] at hb
   subst hb
   simp only [List.mem_append,List.mem_singleton] at ha
   rcases ha with ha|rfl
   ·have:=a3 a ha u (by simp)
    exact ⟨this.1,by simp only;omega⟩
   ·exact ⟨hU.2.1,hU.2.2.1⟩
theorem keep_append {pre:List Ver} {u:Ver} {f s:Int} {p:List Int} (ok:OkV (pre++[u])) (h1:u.from_<f) (h2:u.to≤f) (hs:0≤s):appendV (pre++[u]) ⟨f,0,s,p⟩=(pre++[keepU u f]++[⟨f,0,s,p⟩],0):=by
 have hz:validV none (pre++[u])=0:=validV_of _ none ok (by simp)
 have hu:=ok.range u (by simp)
 have hg:(pre++[u])[(pre++[u]).length-1]? = some u:=by simp
 unfold appendV
 rw [hz,if_neg (by simp),if_neg (by simp only;omega),hg]
 simp only
 rw [if_neg (by omega)]
 unfold keepU
 split
 ·simp
 ·rfl
theorem keep_close {pre:List Ver} {u:Ver} {c:Int} (ok:OkV (pre++[u])) (h1:u.from_<c) (h2:u.to=0):closeV (pre++[u]) c=(pre++[keepU u c],0):=by
 have hz:validV none (pre++[u])=0:=validV_of _ none ok (by simp)
 have hg:(pre++[u])[(pre++[u]).length-1]? = some u:=by simp
 unfold closeV keepU
 rw [hz,if_neg (by simp),hg]
 simp only
 rw [if_neg (by omega),if_neg (by omega),if_pos h2]
 simp
theorem last_split {l:List Ver} {k:Nat} {v:Ver} (h:l[k]? = some v): ∃ pre u,l=pre++[u]:=by
 have hne:l≠[]:=fun e=>by subst e;simp at h
 exact ⟨l.dropLast,l.getLast hne,(List.dropLast_concat_getLast hne).symm⟩
theorem set_split {l:List Ob} {j:Nat} {o:Ob} (h:l[j]? = some o): ∃ A B,l=A++o::B∧A.length=j∧(∀ x,l.set j x=A++x::B)∧delAt l (j:Int)=A++B:=by
 have hj:=(List.getElem?_eq_some_iff.1 h).1
 have hA:(l.take j).length=j:=by rw [List.length_take];omega
 have e:l=l.take j++o::l.drop (j+1):=by rw [← drop_get h,List.take_append_drop]
 refine ⟨l.take j,l.drop (j+1),e,hA,fun x=>?_,rfl⟩
 conv=>lhs;rw [e]
 rw [List.set_append_right _ _ (by omega),hA,Nat.sub_self]
 rfl
theorem pgsV_app (l m:List Ver):pgsV (l++m)=pgsV l++pgsV m:=by simp [pgsV]
theorem pgsO_app (l m:List Ob):pgsO (l++m)=pgsO l++pgsO m:=by simp [pgsO]
theorem pgsO_cons (o:Ob) (m:List Ob):pgsO (o::m)=pgsV o.vers++pgsO m:=by simp [pgsO]
theorem pgs_keep (pre:List Ver) (u:Ver) (f:Int):pgsV (pre++[keepU u f])=pgsV (pre++[u]):=by
 rw [pgsV_app,pgsV_app]
 congr 1
 unfold keepU;split<;>simp [pgsV]
structure SrI (s:Sr):Prop where
 ids:AscI (s.objs.map (·.id))
 idr: ∀ o∈s.objs,1≤o.id∧o.id≤s.last
 ok: ∀ o∈s.objs,OkV o.vers
 com: ∀ o∈s.objs, ∀ v∈o.vers,v.from_≤s.commit∧v.to≤s.commit
 ar:ArI s.ar (pgsO s.objs)
 cap:s.ar.cap=s.c.pag
theorem flat_le {α β:Type} (f:α→List β) (k:Nat): ∀ (l:List α),(∀ x∈l,(f x).length≤k)→(l.flatMap f).length≤k*l.length
 | [],_=>Nat.le_refl _
 | x::l,h=>by
   have h1:=flat_le f k l fun y hy=>h y (by simp [hy])
   have h2:=h x (by simp)
   rw [List.flatMap_cons,List.length_append,List.length_cons,Nat.mul_add];omega
theorem pgsO_len {i:Nat} {s:Sr} (h:SrB i s) (hi:i≤13):(pgsO s.objs).length≤10309:=by
 have h1:=flat_le (fun o:Ob=>pgsV o.vers) (61*13) s.objs fun o ho=>by
  have h2:=flat_le (fun v:Ver=>v.pages) 61 o.vers fun v hv=>((h.hv o ho).2 v hv).1
  have h3:=(h.hv o ho).1
  have h4:61*o.vers.length≤61*13:=Nat.mul_le_mul_left _ (by omega)
  exact Nat.le_trans h2 h4
 have h5:61*13*s.objs.length≤61*13*13:=Nat.mul_le_mul_left _ (by have:=h.ho;omega)
 exact Nat.le_trans h1 h5
/-- A chain put in the place of one. -/
theorem SrI.setv {s:Sr} {i:Nat} {j:Nat} {o:Ob} {vs:List Ver} {ps:List Int} {a:Ar} {com:Int} {s':Sr} (h:SrI s) (hj:s.objs[j]? = some o) (hok:OkV vs) (hcm:s.commit≤com) (hv: ∀ v∈vs,v.from_≤com∧v.to≤com) (hp:(pgsV o.vers++ps).Perm (pgsV vs)) (ha:ArI a (pgsO s.objs++ps)) (hc:a.cap=s.ar.cap)
  (e1:s'.objs=setVers s.objs (j:Int) vs) (e2:s'.commit=com) (e3:s'.last=s.last) (e4:s'.ar=a) (e5:s'.c=s.c):SrI s':=by
 obtain ⟨A,B,hl,hA,hset,_⟩:=set_split hj
 have hog:obGet s.objs (j:Int)=o:=by simp [obGet,hj]
 have e1':s'.objs=A++⟨o.id,vs⟩::B:=by rw [e1,setVers,hog,Int.toNat_natCast,hset]
 have hmem: ∀ x∈s'.objs,x∈s.objs∨x=⟨o.id,vs⟩:=fun x hx=>by
  rw [e1'] at hx
  rw [hl]
  simp only [List.mem_append,List.mem_cons] at hx ⊢
  rcases hx with hx|hx|hx
  ·exact .inl (.inl hx)
  ·exact .inr hx
  ·exact .inl (.inr (.inr hx))
 have ho:o∈s.objs:=List.mem_of_getElem? hj
 refine ⟨?_,fun x hx=>?_,fun x hx=>?_,fun x hx=>?_,?_,by rw [e4,e5,hc];exact h.cap⟩
 ·have:=h.ids
  rw [hl] at this
  rw [e1']
  simpa using this
 ·rw [e3]
  rcases hmem x hx with hx|rfl
  ·exact h.idr x hx
  ·exact h.idr o ho
 ·rcases hmem x hx with hx|rfl
  ·exact h.ok x hx
  ·exact hok
 ·rw [e2]
  rcases hmem x hx with hx|rfl
  ·intro v hv;have:=h.com x hx v hv;omega
  ·exact hv
 ·rw [e4,e1']
  refine ha.perm ?_
  rw [hl,pgsO_app,pgsO_cons,pgsO_app,pgsO_cons,List.append_assoc]
  refine List.Perm.append_left _ ?_
  have h1:(pgsV o.vers++pgsO B++ps).Perm (pgsV o.vers++ps++pgsO B):=by
   rw [List.append_assoc,List.append_assoc]
   exact List.Perm.append_left _ List.perm_append_comm
  exact h1.trans (hp.append_right _)
theorem ver_found {s:Sr} {n:ByteArray} {c:Int} (h:(verR s n c).2.2=true): ∃ (j k:Nat) (o:Ob) (v:Ver),s.objs[j]? = some o∧o.vers[k]? = some v∧holdsF v.from_ v.to c=true∧verR s n c=((j:Int),v,true):=by
 rcases verR_split s n c with ⟨e,_⟩|⟨j,k,o,v,h1,q1,q2,q3,q4,q5,q6,e⟩
 ·rw [e] at h;cases h
 ·refine ⟨j,k,o,v,q1,q4,?_,e⟩
  have: ∀ (l:List Ver) (i m:Nat),findN c l i=(((i+m:Nat):Int),true)→ ∀ u,l[m]? = some u→holdsF u.from_ u.to c=true:=by
   intro l
   induction l with
   | nil=>intro i m _ u hu;simp at hu
   | cons w l ih=>
     intro i m hf u hu
     rw [findN] at hf
     split at hf
     ·rename_i hw
      injection hf with hf1 _
      have:m=0:=by omega
      subst this
      simp only [l_6,l_5] at hu
      subst hu;exact hw
     ·cases m with
      | zero=>
        exfalso
        rcases findN_split c l (i+1) with g|⟨k',u',g1,g2⟩
        ·rw [g] at hf;injection hf with _ hf2;cases hf2
        ·rw [g2] at hf;injection hf with hf1 _;omega
      | succ m=>
        exact ih (i+1) m (by rw [hf];congr 2;omega) u (by simpa using hu)
  exact this o.vers 0 k (by rw [q6,Nat.zero_add]) v q4
/-- A chain's last version, and whether it is open. -/
theorem open_last {pre:List Ver} {u v:Ver} {c:Int} (ok:OkV (pre++[u])) (hc: ∀ w∈pre++[u],w.from_≤c∧w.to≤c) (hm:v∈pre++[u]) (hh:holdsF v.from_ v.to c=true):v=u∧u.to=0:=by
 have h1:=hc v hm
 have hr:=ok.range v hm
 have h0:v.to=0:=by
  simp only [holdsF,Bool.and_eq_true,Bool.or_eq_true,decide_eq_true_eq] at hh
  omega
 rcases List.mem_append.1 hm with hm|hm
 ·obtain ⟨_,_,a3⟩:=List.pairwise_append.1 ok.asc
  have:=(a3 v hm u (by simp)).1
  omega
 ·have:=List.mem_singleton.1 hm
  subst this;exact ⟨rfl,h0⟩
theorem createI {i:Nat} {s:Sr} {m:ByteArray} {n:Int} (h:SrI s) (hb:SrB i s):SrI (createR s m (bytesK n)).1:=by
 have hsp:=split_ok n s.c.psz
 unfold createR
 split
 ·exact h
 ·split
  ·exact h
  ·split
   ·exact h
   ·split
    ·exact h
    ·rename_i hcc
     simp only [not_or,Int.not_le,Int.not_lt] at hcc
     obtain ⟨g1,g2⟩:=allocs_inv (splitR (bytesK n) s.c.psz).1 h.ar (fun d hd=>(hsp.2 d hd).1) (by rw [h.cap];omega)
     have hcm:=hb.hc
     have hla:=hb.hl
     refine ⟨?_,fun o ho=>?_,fun o ho=>?_,fun o ho v hv=>?_,?_,?_⟩
     ·simp only [List.map_append,l_3,l_4]
      refine List.pairwise_append.2 ⟨h.ids,List.pairwise_singleton _ _,fun a ha b hb=>?_⟩
      obtain ⟨o,ho,rfl⟩:=List.mem_map.1 ha
      rw [List.mem_singleton] at hb
      have:=(h.idr o ho).2
      omega
     ·rcases List.mem_append.1 ho with ho|ho
      ·have:=h.idr o ho
       exact ⟨this.1,by simp only;omega⟩
      ·rw [List.mem_singleton.1 ho];simp only;omega
     ·rcases List.mem_append.1 ho with ho|ho
      ·exact h.ok o ho
      ·rw [List.mem_singleton.1 ho]
       refine ⟨fun v hv=>?_,List.pairwise_singleton _ _⟩
       rw [List.mem_singleton.1 hv];simp only;omega
     ·rcases List.mem_append.1 ho with ho|ho
      ·have:=h.com o ho v hv
       simp only;omega
      ·rw [List.mem_singleton.1 ho] at hv
       rw [List.mem_singleton.1 hv];simp only;omega
     ·simp only
      refine g1.perm ?_
      rw [pgsO_app]
      exact List.Perm.append_left _ (by simp [pgsO,pgsV])
     ·simp only;rw [g2];exact h.cap
theorem putI {i:Nat} {s:Sr} {m:ByteArray} {n:Int} (h:SrI s) (hb:SrB i s) (hi:i≤13):SrI (putR s m (bytesK n)).1:=by
 have hsp:=split_ok n s.c.psz
 have hbl:=(bytesK_ok n).1
 unfold putR
 split
 ·exact h
 ·split
  ·exact h
  ·rename_i _ hv
   obtain ⟨j,k,o,v,hj,hk,hh,e⟩:=ver_found (by simpa using hv)
   rw [e]
   simp only
   split
   ·exact h
   ·rename_i hcc
    simp only [not_or,Int.not_le,Int.not_lt] at hcc
    have ho:=List.mem_of_getElem? hj
    have hvm:=List.mem_of_getElem? hk
    have hom: ∀ z∈v.pages,z∈pgsO s.objs:=fun z hz=>List.mem_flatMap.2 ⟨o,ho,List.mem_flatMap.2 ⟨v,hvm,hz⟩⟩
    have hln:=pgsO_len hb hi
    obtain ⟨g1,g2⟩:=puts_inv (fun z=>(dataR s.ar z).1) (splitR (bytesK n) s.c.psz).1 h.ar hom (fun d hd=>(hsp.2 d hd).1) (by rw [h.cap];simp only [storedR] at hcc;omega) (by have:=hsp.1;omega)
    have hog:obGet s.objs (j:Int)=o:=by simp [obGet,hj]
    have hcm:=hb.hc
    obtain ⟨pre,u,hpu⟩:=last_split hk
    have hok:=h.ok o ho
    have hco:=h.com o ho
    rw [hpu] at hok hco
    have huc:=hco u (by simp)
    rw [hog]
    simp only [storedR]
    generalize puts s.ar (splitR (bytesK n) s.c.psz).1 (sharedR (v.pages.map fun z=>(dataR s.ar z).1) (splitR (bytesK n) s.c.psz).1) v.pages=P at *
    have e2:appendV o.vers ⟨s.commit+1,0,(bytesK n).length,P.2⟩=(pre++[keepU u (s.commit+1)]++[⟨s.commit+1,0,(bytesK n).length,P.2⟩],0):=by
     rw [hpu];exact keep_append hok (by omega) (by omega) (by omega)
    rw [e2]
    refine SrI.setv (i:=i) (s:=s) h hj (keep_ok (p:=P.2) (s:=(bytesK n).length) hok (f:=s.commit+1) (by omega) (by omega) (by omega) (by omega)) (com:=s.commit+1) (by omega) (fun w hw=>?_) (ps:=P.2) ?_ g1 g2 rfl rfl rfl rfl rfl
    ·have hur:=hok.range u (by simp)
     have hU:=keepU_is u (s.commit+1) (by omega) (by omega) hur.2.2.2 hur.2.1 hur.1
     simp only [List.mem_append,List.mem_singleton] at hw
     rcases hw with (hw|rfl)|rfl
     ·have:=hco w (by simp [hw]);omega
     ·rw [hU.1];omega
     ·simp only;omega
    ·rw [pgsV_app,pgs_keep,hpu]
     simp [pgsV]
theorem dropI {i:Nat} {s:Sr} {m:ByteArray} (h:SrI s) (hb:SrB i s):SrI (dropR s m).1:=by
 unfold dropR
 split
 ·exact h
 ·rename_i hv
  obtain ⟨j,k,o,v,hj,hk,hh,e⟩:=ver_found (by simpa using hv)
  rw [e]
  simp only
  split
  ·exact h
  ·have ho:=List.mem_of_getElem? hj
   have hvm:=List.mem_of_getElem? hk
   have hog:obGet s.objs (j:Int)=o:=by simp [obGet,hj]
   have hcm:=hb.hc
   obtain ⟨pre,u,hpu⟩:=last_split hk
   have hok:=h.ok o ho
   have hco:=h.com o ho
   rw [hpu] at hok hco hvm
   have huc:=hco u (by simp)
   obtain ⟨_,hu0⟩:=open_last hok hco hvm hh
   have hur:=hok.range u (by simp)
   have hU:=keepU_is u (s.commit+1) (by omega) (by omega) hur.2.2.2 hur.2.1 hur.1
   rw [hog,hpu,keep_close hok (by omega) hu0]
   have hk2:OkV (pre++[keepU u (s.commit+1)]):=(keep_ok (p:=[]) (s:=0) hok (f:=s.commit+1) (by omega) (by omega) (by omega) (by omega)).sub (List.sublist_append_left _ _)
   refine SrI.setv (i:=i) (s:=s) h hj hk2 (com:=s.commit+1) (by omega) (fun w hw=>?_) (ps:=[]) ?_ (by simpa using h.ar) rfl rfl rfl rfl rfl rfl
   ·simp only [List.mem_append,List.mem_singleton] at hw
    rcases hw with hw|rfl
    ·have:=hco w (by simp [hw]);omega
    ·rw [hU.1];omega
   ·rw [pgs_keep,hpu];simp
theorem sameI {s s':Sr} (h:SrI s) (e1:s'.objs=s.objs) (e2:s.commit≤s'.commit) (e3:s'.last=s.last) (e4:s'.ar=s.ar) (e5:s'.c=s.c):SrI s':=
 ⟨by rw [e1];exact h.ids,by rw [e1,e3];exact h.idr,by rw [e1];exact h.ok,fun o ho v hv=>by rw [e1] at ho;have:=h.com o ho v hv;omega,by rw [e1,e4];exact h.ar,by rw [e4,e5];exact h.cap⟩
theorem renameI {s:Sr} {m k:ByteArray} (h:SrI s):SrI (renameR s m k).1:=by
 unfold renameR
 repeat' split
 all_goals exact sameI h rfl (by simp only;omega) rfl rfl rfl
theorem pinI {s:Sr} {c:Int} (h:SrI s):SrI (pinR s c).1:=by
 unfold pinR
 repeat' split
 all_goals exact sameI h rfl (by simp only;omega) rfl rfl rfl
theorem unpinI {s:Sr} {c:Int} (h:SrI s):SrI (unpinR s c).1:=by
 unfold unpinR
 repeat' split
 all_goals exact sameI h rfl (by simp only;omega) rfl rfl rfl
theorem changeI {i:Nat} {s:Sr} {n:Int} (h:SrI s) (hb:SrB i s) (hi:i≤13):SrI (changeR s n):=by
 unfold changeR
 repeat' split
 ·exact createI h hb
 ·exact putI h hb hi
 ·exact dropI h hb
 ·exact renameI h
 ·exact pinI h
 ·exact h
 ·exact unpinI h
theorem newI (n:Int):SrI (newR (cfgK n)).1:=by
 unfold newR
 rw [if_neg (by rw [cfgK_ok];decide)]
 exact ⟨List.Pairwise.nil,by simp,by simp,by simp,⟨List.Pairwise.nil,by simp,by simp [pgsO]⟩,rfl⟩
theorem storeGoI (l:List Int) (k:Nat): ∀ (i:Nat) (s:Sr),i+k≤13→SrB i s→SrI s→SrI (storeGo l k i s):=by
 induction k with
 | zero=>intro i s _ _ h;exact h
 | succ k ih=>
   intro i s hi hb h
   rw [storeGo]
   split
   ·exact ih (i+1) _ (by omega) (changeR_ok (n:=atK l i) hb) (changeI (n:=atK l i) h hb (by omega))
   ·exact h
theorem storeI (l:List Int):SrI (storeR l):=storeGoI l 12 1 _ (by omega) (newR_ok _) (newI _)
end Go.Proofs.Ytmgodadmafcliaa
/- Collector: what removing garbage from the reference's store leaves (plain). -/
set_option linter.unusedSimpArgs false
set_option linter.unusedVariables false
namespace Go.Proofs.Ytmgodadmafcliaa
open Go.RowKit Go.Avm
def entsS (s:Sr):List Vn:=s.objs.flatMap vnsO
def LtV (x y:Vn):Prop:=x.id<y.id∨(x.id=y.id∧x.v.from_<y.v.from_)
theorem ents_asc {s:Sr} (h:SrI s):(entsS s).Pairwise LtV:=by
 unfold entsS
 refine List.pairwise_flatMap.2 ⟨fun o ho=>?_,?_⟩
 ·unfold vnsO
  refine List.pairwise_map.2 ?_
  have hok:=h.ok o ho
  refine hok.asc.imp_of_mem fun {a b} ha hb hab=>?_
  have:=hok.range a ha
  exact .inr ⟨rfl,by simp only;have:=this.2.2.2 hab.1;omega⟩
 ·have:=List.pairwise_map.1 h.ids
  refine this.imp fun {a b} hab x hx y hy=>?_
  obtain ⟨v,_,rfl⟩:=List.mem_map.1 hx
  obtain ⟨w,_,rfl⟩:=List.mem_map.1 hy
  exact .inl hab
theorem stop_all {p:Nat→Bool} {n:Nat} (h: ∀ k<n,p k=false):stopAt p n=n:=by
 cases n with
 | zero=>rfl
 | succ n=>rw [stopAt,if_neg (by rw [h n (by omega)];decide)]
theorem insV_end {x:Vn} {a:List Vn} (h: ∀ y∈a,LtV y x):insV x a=a++[x]:=by
 unfold insV
 rw [stop_all fun k hk=>?_,insAt_end]
 simp only [vnGet,List.getElem?_eq_getElem hk,Option.getD_some]
 have:=h a[k] (List.getElem_mem _)
 rw [bef_not]
 unfold LtV at this;omega
theorem sortV_id: ∀ (l a:List Vn),(a++l).Pairwise LtV→sortV a l=a++l
 | [],a,_=>by simp [sortV]
 | x::l,a,h=>by
   have h2:=(List.pairwise_append.1 h).2.2
   rw [sortV,insV_end fun y hy=>h2 y hy x (by simp)]
   have e:a++x::l=a++[x]++l:=by simp
   rw [e] at h ⊢
   exact sortV_id l _ h
theorem versR_ents {s:Sr} (h:SrI s):versR s.objs []=entsS s:=by
 rw [versR_sortV]
 exact sortV_id _ [] (by rw [List.nil_append];exact ents_asc h)
theorem ents_nodup {l:List Vn} (h:l.Pairwise LtV):l.Nodup:=h.imp fun {a b} hab e=>by subst e;unfold LtV at hab;omega
theorem garbR_app (p:List Pn): ∀ l m:List Vn,garbR p (l++m)=garbR p l++garbR p m
 | [],_=>rfl
 | x::l,m=>by
   rw [List.cons_append,garbR,garbR,garbR_app p l m]
   split<;>rfl
theorem livePgs_app (p:List Pn): ∀ l m:List Vn,livePgs p (l++m)=livePgs p l++livePgs p m
 | [],_=>rfl
 | x::l,m=>by
   rw [List.cons_append,livePgs,livePgs,livePgs_app p l m]
   split<;>simp
theorem garbR_split {p:List Pn}: ∀ {l:List Vn} {c:Vc} {r:List Vc},garbR p l=c::r→ ∃ L x R,l=L++x::R∧garbR p L=[]∧garbV p x.v=true∧c=vcOf x∧garbR p R=r
 | [],_,_,h=>by cases h
 | y::l,c,r,h=>by
   rw [garbR] at h
   split at h
   ·rename_i hy
    injection h with h1 h2
    exact ⟨[],y,l,rfl,rfl,hy,h1.symm,h2⟩
   ·rename_i hy
    obtain ⟨L,x,R,e,h1,h2,h3,h4⟩:=garbR_split h
    exact ⟨y::L,x,R,by rw [e];rfl,by rw [garbR,if_neg hy];exact h1,h2,h3,h4⟩
theorem garbR_nil {p:List Pn}: ∀ {l:List Vn},garbR p l=[]→ ∀ x∈l,garbV p x.v=false
 | [],_=>by simp
 | y::l,h=>by
   rw [garbR] at h
   split at h
   ·cases h
   ·rename_i hy
    intro x hx
    rcases List.mem_cons.1 hx with rfl|hx
    ·simpa using hy
    ·exact garbR_nil h x hx
theorem garbR_none {p:List Pn}: ∀ {l:List Vn},(∀ x∈l,garbV p x.v=false)→garbR p l=[]
 | [],_=>rfl
 | y::l,h=>by rw [garbR,if_neg (by rw [h y (by simp)];decide)];exact garbR_none fun x hx=>h x (by simp [hx])
theorem live_all {p:List Pn}: ∀ {l:List Vn},garbR p l=[]→livePgs p l=pgsN l
 | [],_=>rfl
 | y::l,h=>by
   have hy:=garbR_nil h y (by simp)
   have hr:garbR p l=[]:=by rw [garbR,if_neg (by rw [hy];decide)] at h;exact h
   rw [livePgs,if_neg (by rw [hy];decide),live_all hr];rfl
theorem idxV_at {c:Int}: ∀ {l:List Ver} {k m:Nat} {v:Ver},l[k]? = some v→v.from_=c→(∀ i u,i<k→l[i]? = some u→u.from_≠c)→idxV c l m=((m+k:Nat):Int)
 | [],_,_,_,h,_,_=>by simp at h
 | w::l,0,m,v,h,hc,_=>by
   simp only [l_6,l_5] at h
   subst h
   rw [idxV,if_pos hc];rfl
 | w::l,k+1,m,v,h,hc,hn=>by
   rw [idxV,if_neg (hn 0 w (by omega) rfl),idxV_at (k:=k) (v:=v) (by simpa using h) hc fun i u hi hu=>hn (i+1) u (by omega) (by simpa using hu)]
   omega
theorem okV_lt {l:List Ver} (h:OkV l) {i k:Nat} {u v:Ver} (hu:l[i]? = some u) (hv:l[k]? = some v) (hik:i<k):u.from_<v.from_:=by
 obtain ⟨hi,rfl⟩:=List.getElem?_eq_some_iff.1 hu
 obtain ⟨hk,rfl⟩:=List.getElem?_eq_some_iff.1 hv
 have h1:=List.pairwise_iff_getElem.1 h.asc i k hi hk hik
 have h2:=(h.range l[i] (List.getElem_mem _)).2.2.2 h1.1
 omega
theorem objAt_at {l:List Ob} (h:AscI (l.map (·.id))) {j:Nat} {o:Ob} (ho:l[j]? = some o):objAt o.id l 0=(j:Int):=by
 rcases objAt_cases o.id l 0 with ⟨_,h2⟩|⟨i,p,h1,h2,h3,_⟩
 ·exact absurd rfl (h2 o (List.mem_of_getElem? ho))
 ·rw [h3,asc_inj h h1 ho h2];simp
theorem relsLen: ∀ (ps:List Int) (a:Ar),(rels a ps).pages.length≤a.pages.length
 | [],_=>Nat.le_refl _
 | n::ps,a=>by
   have h1:=relsLen ps (releaseR a n).1
   have h2:(releaseR a n).1.pages.length≤a.pages.length:=by
    unfold releaseR
    split
    ·exact Nat.le_refl _
    ·split
     ·simp [setRefs]
     ·simp only [delAt,List.length_append,List.length_take,List.length_drop];omega
   rw [rels];omega
theorem release_ok {a:Ar} {n:Int} (ha:PgOk a.pages):PgOk (releaseR a n).1.pages:=by
 unfold releaseR
 split
 ·exact ha
 ·split
  ·intro p hp
   rcases List.mem_or_eq_of_mem_set hp with h|rfl
   ·exact ha p h
   ·exact pgGet_ok ha
  ·intro p hp
   rcases List.mem_append.1 hp with h|h
   ·exact ha p (List.mem_of_mem_take h)
   ·exact ha p (List.mem_of_mem_drop h)
theorem rels_ok: ∀ (ps:List Int) {a:Ar},PgOk a.pages→PgOk (rels a ps).pages
 | [],_,h=>h
 | n::ps,_,h=>rels_ok ps (release_ok h)
/-- One garbage version removed. -/
theorem remove_one {i:Nat} {s:Sr} {x:Vn} (h:SrI s) (hb:SrB i s) (hi:i≤13) (hx:x∈entsS s) (hg:garbV s.pins x.v=true): ∃ s',removeR s x.id x.v.from_=(s',0)∧SrI s'∧SrB i s'∧s'.pins=s.pins∧ ∀ L R,entsS s=L++x::R→entsS s'=L++R:=by
 obtain ⟨o,ho,hxo⟩:=List.mem_flatMap.1 hx
 obtain ⟨v,hv,rfl⟩:=List.mem_map.1 hxo
 obtain ⟨j,hj⟩:=List.mem_iff_getElem?.1 ho
 obtain ⟨k,hk⟩:=List.mem_iff_getElem?.1 hv
 have hok:=h.ok o ho
 have hob:objAt o.id s.objs 0=(j:Int):=objAt_at h.ids hj
 have hog:obGet s.objs (j:Int)=o:=by simp [obGet,hj]
 have hix:idxV v.from_ o.vers 0=(k:Int):=by
  have:=idxV_at (m:=0) hk rfl fun i u hi hu=>by have:=okV_lt hok hu hk hi;omega
  simpa using this
 have hrm:removeV o.vers v.from_=(o.vers.take k++o.vers.drop (k+1),v,0):=by
  unfold removeV
  rw [if_neg (by omega),hix]
  simp [hk]
 have hto:v.to≠0∧coversP v.from_ v.to s.pins=false:=by
  simp only [garbV,Bool.and_eq_true,Bool.not_eq_true'] at hg
  exact ⟨by simpa using hg.1,hg.2⟩
 obtain ⟨A,B,hl,hA,hset,hdel⟩:=set_split hj
 have hvk:o.vers=o.vers.take k++v::o.vers.drop (k+1):=by rw [← drop_get hk,List.take_append_drop]
 generalize hP:o.vers.take k=P at *
 generalize hQ:o.vers.drop (k+1)=Q at *
 have hsub:(P++Q).Sublist o.vers:=by
  rw [hvk];exact List.Sublist.append_left (List.sublist_cons_self _ _) _
 let O2:List Ob:=if (P++Q).length=0 then A++B else A++⟨o.id,P++Q⟩::B
 have e0:removeR s o.id v.from_=({ s with objs:=O2,ar:=rels s.ar v.pages },0):=by
  unfold removeR
  rw [if_neg (by omega),hob,hog,hrm]
  simp only
  rw [if_neg (by simp),if_neg (by simp only [not_or];exact ⟨hto.1,by rw [hto.2];decide⟩)]
  have:(if (P++Q).length=0 then delAt s.objs (j:Int) else setVers s.objs (j:Int) (P++Q))=O2:=by
   simp only [O2]
   split
   ·exact hdel
   ·rw [setVers,hog,Int.toNat_natCast,hset]
  rw [this]
 have hmem: ∀ y∈O2,y∈s.objs∨y=⟨o.id,P++Q⟩:=fun y hy=>by
  rw [hl]
  simp only [O2] at hy
  split at hy
  ·simp only [List.mem_append,List.mem_cons] at hy ⊢
   rcases hy with hy|hy
   ·exact .inl (.inl hy)
   ·exact .inl (.inr (.inr hy))
  ·simp only [List.mem_append,List.mem_cons] at hy ⊢
   rcases hy with hy|hy|hy
   ·exact .inl (.inl hy)
   ·exact .inr hy
   ·exact .inl (.inr (.inr hy))
 have hids:(O2.map (·.id)).Sublist (s.objs.map (·.id)):=by
  rw [hl]
  simp only [O2]
  split
  ·exact (List.Sublist.append_left (List.sublist_cons_self _ _) _).map _
  ·simp
 have hpg:pgsO O2=pgsO A++pgsV (P++Q)++pgsO B:=by
  simp only [O2]
  split
  ·rename_i hz
   rw [List.eq_nil_of_length_eq_zero hz,pgsO_app];simp [pgsV]
  ·rw [pgsO_app,pgsO_cons,List.append_assoc]
 have hen:O2.flatMap vnsO=A.flatMap vnsO++(P++Q).map (fun w=>⟨o.id,w⟩)++B.flatMap vnsO:=by
  simp only [O2]
  split
  ·rename_i hz
   rw [List.eq_nil_of_length_eq_zero hz,List.flatMap_append];simp
  ·rw [List.flatMap_append,List.flatMap_cons,List.append_assoc];rfl
 have hen0:entsS s=(A.flatMap vnsO++P.map (fun w=>⟨o.id,w⟩))++⟨o.id,v⟩::(Q.map (fun w=>⟨o.id,w⟩)++B.flatMap vnsO):=by
  unfold entsS
  rw [hl,List.flatMap_append,List.flatMap_cons]
  unfold vnsO
  rw [hvk]
  simp
 have hln:=pgsO_len hb hi
 have hpm:(pgsO s.objs).Perm (v.pages++pgsO O2):=by
  rw [hpg,hl,pgsO_app,pgsO_cons,hvk,pgsV_app,pgsV_app]
  have e1:pgsV (v::Q)=v.pages++pgsV Q:=rfl
  rw [e1]
  have h1:(pgsO A++(pgsV P++(v.pages++pgsV Q)++pgsO B)).Perm (v.pages++(pgsO A++(pgsV P++pgsV Q)++pgsO B)):=by
   have:pgsO A++(pgsV P++(v.pages++pgsV Q)++pgsO B)=(pgsO A++pgsV P)++v.pages++(pgsV Q++pgsO B):=by simp
   rw [this]
   have:v.pages++(pgsO A++(pgsV P++pgsV Q)++pgsO B)=v.pages++(pgsO A++pgsV P)++(pgsV Q++pgsO B):=by simp
   rw [this]
   exact List.Perm.append_right _ List.perm_append_comm
  exact h1
 refine ⟨_,e0,⟨h.ids.sublist hids,fun y hy=>?_,fun y hy=>?_,fun y hy=>?_,?_,?_⟩,⟨hb.hb,?_,fun y hy=>?_,hb.hp,?_,rels_ok _ hb.hd,hb.hc,hb.hl,hb.hz⟩,rfl,fun L R hLR=>?_⟩
 ·rcases hmem y hy with hy|rfl
  ·exact h.idr y hy
  ·exact h.idr o ho
 ·rcases hmem y hy with hy|rfl
  ·exact h.ok y hy
  ·exact hok.sub hsub
 ·rcases hmem y hy with hy|rfl
  ·exact h.com y hy
  ·exact fun w hw=>h.com o ho w (hsub.subset hw)
 ·simp only
  exact rels_inv v.pages (h.ar.perm hpm) (by rw [← hpm.length_eq];omega)
 ·simp only;rw [rels_cap];exact h.cap
 ·have:=hids.length_le
  simp only [List.length_map] at this
  have:=hb.ho
  simp only;omega
 ·rcases hmem y hy with hy|rfl
  ·exact hb.hv y hy
  ·have:=hb.hv o ho
   exact ⟨by have:=hsub.length_le;simp only;omega,fun w hw=>this.2 w (hsub.subset hw)⟩
 ·have:=relsLen v.pages s.ar
  have:=hb.hg
  simp only;omega
 ·have hnd:=ents_nodup (ents_asc h)
  have key: ∀ (L R L' R':List Vn),(L++⟨o.id,v⟩::R).Nodup→L++(⟨o.id,v⟩:Vn)::R=L'++⟨o.id,v⟩::R'→L=L'∧R=R':=by
   intro L
   induction L with
   | nil=>
     intro R L' R' hn e
     cases L' with
     | nil=>simp only [List.nil_append,List.cons.injEq,true_and] at e;exact ⟨rfl,e⟩
     | cons y L'=>
       simp only [List.nil_append,List.cons_append,List.cons.injEq] at e
       simp only [List.nil_append,List.nodup_cons] at hn
       exact absurd (by rw [e.2];simp) hn.1
   | cons y L ih=>
     intro R L' R' hn e
     cases L' with
     | nil=>
       simp only [List.nil_append,List.cons_append,List.cons.injEq] at e
       simp only [List.cons_append,List.nodup_cons] at hn
       exact absurd (by rw [e.1];simp) hn.1
     | cons z L'=>
       simp only [List.cons_append,List.cons.injEq] at e
       simp only [List.cons_append,List.nodup_cons] at hn
       obtain ⟨g1,g2⟩:=ih R L' R' hn.2 e.2
       exact ⟨by rw [g1,e.1],g2⟩
  rw [hen0] at hnd hLR
  obtain ⟨g1,g2⟩:=key _ _ _ _ hnd hLR
  rw [← g1, ← g2]
  show O2.flatMap vnsO=_
  rw [hen]
  simp
/-- The first garbage version removed. -/
theorem remove_head {i:Nat} {s:Sr} {c:Vc} {r:List Vc} (h:SrI s) (hb:SrB i s) (hi:i≤13) (hg:garbR s.pins (entsS s)=c::r): ∃ s',removeR s c.obj c.frm=(s',0)∧SrI s'∧SrB i s'∧s'.pins=s.pins∧garbR s.pins (entsS s')=r∧livePgs s.pins (entsS s')=livePgs s.pins (entsS s):=by
 obtain ⟨L,x,R,e,h1,h2,h3,h4⟩:=garbR_split hg
 obtain ⟨s',g1,g2,g3,g4,g5⟩:=remove_one h hb hi (x:=x) (by rw [e];simp) h2
 have e2:=g5 L R e
 refine ⟨s',by rw [h3];exact g1,g2,g3,g4,?_,?_⟩
 ·rw [e2,garbR_app,h1,h4];rfl
 ·rw [e2,e,livePgs_app,livePgs_app,livePgs,if_pos h2]
theorem pages_eq {s:Sr} (h:SrI s):s.ar.pages.map (·.num)=insAll [] (pgsO s.objs):=by
 obtain ⟨g1,g2⟩:=insAll_spec (pgsO s.objs) [] List.Pairwise.nil
 refine ascI_ext h.ar.asc g1 fun x=>?_
 rw [g2]
 simp only [List.not_mem_nil,false_or]
 refine ⟨fun hx=>?_,h.ar.mem x⟩
 obtain ⟨p,hp,rfl⟩:=List.mem_map.1 hx
 exact List.count_pos_iff.1 (h.ar.refs p hp).2
theorem pgsN_ents (s:Sr):pgsN (entsS s)=pgsO s.objs:=pgsN_vns s.objs
/-- Without garbage the stored pages are the reachable ones. -/
theorem pages_live {s:Sr} (h:SrI s) (hg:garbR s.pins (entsS s)=[]):s.ar.pages.map (·.num)=insAll [] (livePgs s.pins (entsS s)):=by
 rw [pages_eq h,live_all hg,pgsN_ents]
end Go.Proofs.Ytmgodadmafcliaa
