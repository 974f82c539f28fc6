/- The reference's store: the version of a name; Pin, Unpin, Rename, Drop; the walks. -/
import Derived.Test.YteemiclhnfkekaaZArA
import Derived.Test.YteemiclhnfkekaaZSlInsB
import Derived.Test.YteemiclhnfkekaaZBase
import Derived.Lib.RowBridge
import Derived.Shelf.Sort.Plain
import Derived.Shelf.Slices.CompactS
import Derived.Shelf.Slices.In.SortNone
import Derived.Test.YteemiclhnfkekaaZAvmS
set_option linter.unusedSimpArgs false
set_option linter.unusedVariables false
namespace Go.Proofs.Yteemiclhnfkekaa
open Go.RowKit Go.Avm
end Go.Proofs.Yteemiclhnfkekaa
/- Directory: the walk of List of the reference. -/
set_option linter.unusedSimpArgs false
set_option linter.unusedVariables false
namespace Go.Proofs.Yteemiclhnfkekaa
open Go.RowKit Go.Avm
end Go.Proofs.Yteemiclhnfkekaa
/- The reference's store: lengths (plain). -/
set_option linter.unusedSimpArgs false
set_option linter.unusedVariables false
namespace Go.Proofs.Yteemiclhnfkekaa
open Go.RowKit Go.Avm
end Go.Proofs.Yteemiclhnfkekaa
/- The reference's store: sizes of what Change and Store build (plain). -/
set_option linter.unusedSimpArgs false
set_option linter.unusedVariables false
namespace Go.Proofs.Yteemiclhnfkekaa
open Go.RowKit Go.Avm
def DatOk (d:List Int):Prop:=d.length≤1024∧ ∀ z∈d,0≤z∧z≤255
def PgOk (l:List Pg):Prop:= ∀ p∈l,DatOk p.data
structure SrB (i:Nat) (s:Sr):Prop where
 hb:s.binds.length≤i
 ho:s.objs.length≤i
 hv: ∀ o∈s.objs,o.vers.length≤i∧ ∀ v∈o.vers,v.pages.length≤61∧v.size≤61
 hp:s.pins.length≤i
 hg:s.ar.pages.length≤61*i
 hd:PgOk s.ar.pages
 hc:0≤s.commit∧s.commit≤i
 hl:0≤s.last∧s.last≤i
 hz:1≤s.c.psz∧s.c.psz≤1024
theorem SrB.up {i:Nat} {s:Sr} (h:SrB i s):SrB (i+1) s:=
 ⟨by have:=h.hb;omega,by have:=h.ho;omega,fun o ho=>⟨by have:=(h.hv o ho).1;omega,(h.hv o ho).2⟩,by have:=h.hp;omega,by have:=h.hg;omega,h.hd,⟨h.hc.1,by have:=h.hc.2;omega⟩,⟨h.hl.1,by have:=h.hl.2;omega⟩,h.hz⟩
def VOk (i:Nat) (l:List Ver):Prop:=l.length≤i∧ ∀ v∈l,v.pages.length≤61∧v.size≤61
theorem bytesK_ok (n:Int):(bytesK n).length≤61∧ ∀ z∈bytesK n,0≤z∧z≤255:=by
 have hl:(n/8%64%61).toNat≤61:=by omega
 refine ⟨by simp only [bytesK,List.length_map,List.length_range];exact hl,fun z hz=>?_⟩
 obtain ⟨i,hi,rfl⟩:=List.mem_map.1 hz
 have:=List.mem_range.1 hi
 unfold byteK;split<;>omega
end Go.Proofs.Yteemiclhnfkekaa
/- Collector: what its functions compute (plain). -/
set_option linter.unusedSimpArgs false
set_option linter.unusedVariables false
namespace Go.Proofs.Yteemiclhnfkekaa
open Go.RowKit Go.Avm
def cmpI (a b:Int):Int:=if a<b then -1 else if b<a then 1 else 0
/-- The order of versions, as a number. -/
def cmpV (x y:Vn):Int:=if cmpI x.id y.id≠0 then cmpI x.id y.id else cmpI x.v.from_ y.v.from_
def sortV:List Vn→List Vn→List Vn
 | a,[]=>a
 | a,x::l=>sortV (insV x a) l
/-- In order: no later one comes before an earlier one. -/
def AscV (l:List Vn):Prop:=l.Pairwise fun x y=>befV y x=false
theorem stop_ge (p:Nat→Bool): ∀ (n k:Nat),stopAt p n≤k→k<n→p k=true
 | 0,_,_,h=>by omega
 | n+1,k,h1,h2=>by
   unfold stopAt at h1
   split at h1
   ·rename_i hp
    by_cases hk:k=n
    ·rw [hk];exact hp
    ·exact stop_ge p n k h1 (by omega)
   ·omega
theorem stop_lt (p:Nat→Bool): ∀ (n j:Nat),stopAt p n=j+1→p j=false
 | 0,_,h=>by simp [stopAt] at h
 | n+1,j,h=>by
   unfold stopAt at h
   split at h
   ·exact stop_lt p n j h
   ·rename_i hp
    rw [show j=n by omega];simpa using hp
structure Vc where
 obj:Int
 frm:Int
 deriving DecidableEq
def rowVc (x:Vc):List D:=[.sc (.int .i64 x.obj), .sc (.int .i64 x.frm)]
def garbV (p:List Pn) (v:Ver):Bool:= !(v.to==0) && !coversP v.from_ v.to p
def vcOf (x:Vn):Vc:=⟨x.id,x.v.from_⟩
def garbR (p:List Pn):List Vn→List Vc
 | []=>[]
 | x::l=>if garbV p x.v=true then vcOf x::garbR p l else garbR p l
def livePgs (p:List Pn):List Vn→List Int
 | []=>[]
 | x::l=>if garbV p x.v=true then livePgs p l else x.v.pages++livePgs p l
def insI (n:Int):List Int→List Int
 | []=>[n]
 | y::l=>if y<n then y::insI n l else if y=n then y::l else n::y::l
def insAll:List Int→List Int→List Int
 | a,[]=>a
 | a,n::l=>insAll (insI n a) l
/-- The pages of all versions that are not garbage, as the reference lists them. -/
def reachR (p:List Pn) (l:List Vn):List Int:=insAll [] (livePgs p l)
def bumpV (x:Vn):Vc:=⟨x.id,if x.v.from_<9223372036854775807 then x.v.from_+1 else x.v.from_⟩
def befP (x:Vn) (a:Vc):Bool:=ptLt x.id x.v.from_ a.obj a.frm
def nextP (p:List Pn) (a:Vc):List Vn→Int→List Vc→Vc→List Vc×Vc×Bool
 | [],_,vs,nx=>(vs,nx,true)
 | x::l,c,vs,nx=>if befP x a=true then nextP p a l c vs nx else if c≤0 then (vs,nx,false) else nextP p a l (c-1) (if garbV p x.v=true then vs++[vcOf x] else vs) (bumpV x)
def skipR (a:Vc):List Vn→List Vn
 | []=>[]
 | x::l=>if befP x a=true then skipR a l else x::l
def nextR (p:List Pn):List Vn→Int→List Vc→Vc→List Vc×Vc×Bool
 | [],_,vs,nx=>(vs,nx,true)
 | x::l,c,vs,nx=>if 0<c then nextR p l (c-1) (if garbV p x.v=true then vs++[vcOf x] else vs) (bumpV x) else (vs,nx,false)
end Go.Proofs.Yteemiclhnfkekaa
/- Collector: sorted and compacted pages are those that the reference puts in their places one by one (plain). -/
set_option linter.unusedSimpArgs false
set_option linter.unusedVariables false
namespace Go.Proofs.Yteemiclhnfkekaa
open Go.RowKit Go.Avm
theorem ascI_ext: ∀ {a b:List Int},AscI a→AscI b→(∀ x,x∈a↔x∈b)→a=b
 | [],[],_,_,_=>rfl
 | [],y::b,_,_,h=>by have:=(h y).2 (List.mem_cons_self ..);cases this
 | x::a,[],_,_,h=>by have:=(h x).1 (List.mem_cons_self ..);cases this
 | x::a,y::b,ha,hb,h=>by
   have ha':=List.pairwise_cons.1 ha
   have hb':=List.pairwise_cons.1 hb
   have e:x=y:=by
    rcases List.mem_cons.1 ((h x).1 (List.mem_cons_self ..)) with e|e
    ·exact e
    ·rcases List.mem_cons.1 ((h y).2 (List.mem_cons_self ..)) with e2|e2
     ·exact e2.symm
     ·have h1:=hb'.1 x e
      have h2:=ha'.1 y e2
      omega
   subst e
   rw [ascI_ext ha'.2 hb'.2 fun z=>?_]
   constructor
   ·intro hz
    rcases List.mem_cons.1 ((h z).1 (List.mem_cons_of_mem _ hz)) with e|e
    ·subst e;have:=ha'.1 z hz;omega
    ·exact e
   ·intro hz
    rcases List.mem_cons.1 ((h z).2 (List.mem_cons_of_mem _ hz)) with e|e
    ·subst e;have:=hb'.1 z hz;omega
    ·exact e
def sortI (l:List Int):List Int:=l.mergeSort fun x y=>decide (x≤y)
/-- Sorted and compacted. -/
def uniqI (l:List Int):List Int:=Lib.compact (sortI l)
end Go.Proofs.Yteemiclhnfkekaa
/- The reference's arena: every page is stored while it is referenced, and no longer (plain). -/
set_option linter.unusedSimpArgs false
set_option linter.unusedVariables false
namespace Go.Proofs.Yteemiclhnfkekaa
open Go.RowKit Go.Avm
/-- The stored pages are exactly those that L names, each with its number of references. -/
structure ArI (a:Ar) (L:List Int):Prop where
 asc:AscI (a.pages.map (·.num))
 refs: ∀ p∈a.pages,p.refs=(L.count p.num:Int)∧1≤L.count p.num
 mem: ∀ n∈L,n∈a.pages.map (·.num)
theorem ArI.perm {a:Ar} {L M:List Int} (h:ArI a L) (hp:L.Perm M):ArI a M:=
 ⟨h.asc,fun p hm=>by rw [← hp.count_eq];exact h.refs p hm,fun n hn=>h.mem n (hp.mem_iff.2 hn)⟩
theorem wr_of {n:Int} (h0: -1000000≤n) (h1:n≤1000000):wr n=n:=by
 unfold wr
 rw [IntKind.wrap_i64];omega
theorem mem_set {l:List Pg} {j:Nat} {q x:Pg} (h:q∈l.set j x):q=x∨ ∃ i,i≠j∧l[i]? = some q:=by
 obtain ⟨i,hi⟩:=List.mem_iff_getElem?.1 h
 rw [List.getElem?_set] at hi
 split at hi
 ·split at hi
  ·exact .inl (by injection hi with e;exact e.symm)
  ·cases hi
 ·rename_i hn;exact .inr ⟨i,fun e=>hn e.symm,hi⟩
theorem freeGo_spec (l:List Pg): ∀ (k:Nat) (n:Int),pgAt (freeGo l k n) l 0<0∨ ∀ i:Nat,i<k→n+i∈l.map (·.num)
 | 0,n=> .inr fun i hi=>by omega
 | k+1,n=>by
   rw [freeGo]
   split
   ·rename_i h;exact .inl h
   ·rename_i h
    rcases freeGo_spec l k (n+1) with g|g
    ·exact .inl g
    ·refine .inr fun i hi=>?_
     cases i with
     | zero=>simpa using pgAt_mem h
     | succ i=>have:=g i (by omega);rwa [show n+((i+1:Nat):Int)=n+1+i by omega]
theorem free_fresh (l:List Pg): ∀ p∈l,p.num≠freeN l:=by
 have h:pgAt (freeN l) l 0<0:=by
  rcases freeGo_spec l (l.length+1) 1 with h|h
  ·exact h
  ·have:=mem_le (l.length+1) (l.map (·.num)) fun i h1 h2=>by
    have:=h (i-1) (by omega)
    rwa [show (1:Int)+((i-1:Nat):Int)=i by omega] at this
   rw [List.length_map] at this;omega
 rcases pgAt_cases (freeN l) l 0 with ⟨_,h2⟩|⟨j,p,h1,h2,h3,_⟩
 ·exact h2
 ·omega
theorem insPg_asc {l:List Pg} {x:Pg} (h:AscI (l.map (·.num))) (hx: ∀ p∈l,p.num≠x.num):AscI ((insPg x l).map (·.num)):=by
 unfold insPg
 have hj:=stopAt_le (fun k=>decide (x.num<(pgGet l k).num)) l.length
 have hge:=stop_ge (fun k=>decide (x.num<(pgGet l k).num)) l.length
 have hlt:=stop_lt (fun k=>decide (x.num<(pgGet l k).num)) l.length
 generalize stopAt (fun k=>decide (x.num<(pgGet l k).num)) l.length=j at *
 have hget: ∀ k:Nat,(hk:k<l.length)→pgGet l (k:Int)=l[k]:=fun k hk=>by simp [pgGet,List.getElem?_eq_getElem hk]
 have hA: ∀ y∈l.take j,y.num<x.num:=fun y hy=>by
  cases j with
  | zero=>simp at hy
  | succ i=>
    have h1:=hlt i rfl
    simp only [hget i (by omega),decide_eq_false_iff_not] at h1
    obtain ⟨k,hk,rfl⟩:=List.mem_iff_getElem.1 hy
    rw [List.length_take] at hk
    rw [List.getElem_take]
    have h3:=hx l[i] (List.getElem_mem _)
    by_cases hki:k=i
    ·subst hki;omega
    ·have h2:=ascI_get h (x:=(l[k]).num) (y:=(l[i]).num) (by rw [List.getElem?_map,List.getElem?_eq_getElem (by omega)];rfl) (by rw [List.getElem?_map,List.getElem?_eq_getElem (by omega)];rfl) (show k<i by omega)
     omega
 have hB: ∀ y∈l.drop j,x.num<y.num:=fun y hy=>by
  obtain ⟨k,hk,rfl⟩:=List.mem_iff_getElem.1 hy
  rw [List.length_drop] at hk
  have:=hge (j+k) (by omega) (by omega)
  simp only [hget (j+k) (by omega),decide_eq_true_eq] at this
  rwa [List.getElem_drop]
 have h0:((l.take j).map (·.num)++(l.drop j).map (·.num)).Pairwise (· < ·):=by rw [← List.map_append,List.take_append_drop];exact h
 obtain ⟨g1,g2,g3⟩:=List.pairwise_append.1 h0
 unfold insAt AscI
 rw [List.append_assoc,List.singleton_append,List.map_append,l_3]
 refine List.pairwise_append.2 ⟨g1,List.pairwise_cons.2 ⟨fun y hy=>?_,g2⟩,fun a ha b hb=>?_⟩
 ·obtain ⟨q,hq,rfl⟩:=List.mem_map.1 hy;exact hB q hq
 ·rcases List.mem_cons.1 hb with rfl|hb
  ·obtain ⟨q,hq,rfl⟩:=List.mem_map.1 ha;exact hA q hq
  ·exact g3 a ha b hb
end Go.Proofs.Yteemiclhnfkekaa
/- Arena: what the program's pages are beside the reference's: the same pages in another order (plain). -/
set_option linter.unusedSimpArgs false
set_option linter.unusedVariables false
namespace Go.Proofs.Yteemiclhnfkekaa
open Go.RowKit Go.Avm
/-- The program's pages (in the order of its map) are those of the reference. -/
structure ArS (l:List Pg) (a:Ar):Prop where
 perm:l.Perm a.pages
 asc:AscI (a.pages.map (·.num))
theorem nums_nodup {l:List Pg} (h:AscI (l.map (·.num))):(l.map (·.num)).Nodup:=h.imp fun {a b} hab=>by omega
theorem ArS.nodup {l:List Pg} {a:Ar} (h:ArS l a):(l.map (·.num)).Nodup:=(h.perm.map _).nodup_iff.2 (nums_nodup h.asc)
theorem pgAt_neg (n:Int) (l:List Pg):pgAt n l 0<0↔ ∀ p∈l,p.num≠n:=by
 rcases pgAt_cases n l 0 with ⟨h1,h2⟩|⟨j,p,h1,h2,h3,_⟩
 ·exact ⟨fun _=>h2,fun _=>by omega⟩
 ·exact ⟨fun h=>by omega,fun h=>absurd h2 (h p (List.mem_of_getElem? h1))⟩
theorem pgAt_perm {n:Int} {l m:List Pg} (h:l.Perm m):(pgAt n l 0<0)=(pgAt n m 0<0):=by
 rw [pgAt_neg,pgAt_neg]
 exact propext ⟨fun q p hp=>q p (h.mem_iff.2 hp),fun q p hp=>q p (h.mem_iff.1 hp)⟩
theorem freeN_perm {l m:List Pg} (h:l.Perm m):freeN l=freeN m:=by
 have key: ∀ k n,freeGo l k n=freeGo m k n:=by
  intro k
  induction k with
  | zero=>intro n;rfl
  | succ k ih=>
    intro n
    rw [freeGo,freeGo,ih]
    by_cases hq:pgAt n l 0<0
    ·rw [if_pos hq,if_pos (by rw [← pgAt_perm h];exact hq)]
    ·rw [if_neg hq,if_neg (by rw [← pgAt_perm h];exact hq)]
 unfold freeN
 rw [h.length_eq,key]
/-- A page with other references. -/
def withR (n r:Int) (l:List Pg):List Pg:=l.map fun p=>if p.num=n then ⟨p.num,r,p.data⟩ else p
theorem withR_perm {n r:Int} {l m:List Pg} (h:l.Perm m):(withR n r l).Perm (withR n r m):=h.map _
theorem withR_num {n r:Int} {l:List Pg}:(withR n r l).map (·.num)=l.map (·.num):=by
 unfold withR
 rw [List.map_map]
 refine List.map_congr_left fun p _=>?_
 simp only [Function.comp]
 split<;>rfl
theorem withR_none {n r:Int}: ∀ {l:List Pg},(∀ p∈l,p.num≠n)→withR n r l=l
 | [],_=>rfl
 | p::l,h=>by
   show (if p.num=n then _ else p)::withR n r l=_
   rw [if_neg (h p (by simp)),withR_none fun q hq=>h q (by simp [hq])]
theorem set_withR {r:Int}: ∀ {l:List Pg} {j:Nat} {p:Pg},(l.map (·.num)).Nodup→l[j]? = some p→l.set j ⟨p.num,r,p.data⟩=withR p.num r l
 | [],_,_,_,h=>by simp at h
 | q::l,0,p,hn,h=>by
   simp only [l_6,l_5] at h
   subst h
   rw [l_3,List.nodup_cons] at hn
   show _::l=(if q.num=q.num then _ else q)::withR q.num r l
   rw [if_pos rfl,withR_none fun x hx e=>hn.1 (List.mem_map.2 ⟨x,hx,e⟩)]
 | q::l,j+1,p,hn,h=>by
   rw [l_3,List.nodup_cons] at hn
   have hp:l[j]? = some p:=by simpa using h
   show q::l.set j _=(if q.num=p.num then _ else q)::withR p.num r l
   rw [if_neg fun e=>hn.1 (List.mem_map.2 ⟨p,List.mem_of_getElem? hp,e.symm⟩),set_withR hn.2 hp]
/-- The pages without a number. -/
def lessN (n:Int) (l:List Pg):List Pg:=l.filter fun p=> !decide (p.num=n)
theorem lessN_none {n:Int} {l:List Pg} (h: ∀ p∈l,p.num≠n):lessN n l=l:=List.filter_eq_self.2 fun p hp=>by simp [h p hp]
theorem lessN_perm {n:Int} {l m:List Pg} (h:l.Perm m):(lessN n l).Perm (lessN n m):=h.filter _
theorem del_lessN: ∀ {l:List Pg} {j:Nat} {p:Pg},(l.map (·.num)).Nodup→l[j]? = some p→l.eraseIdx j=lessN p.num l
 | [],_,_,_,h=>by simp at h
 | q::l,0,p,hn,h=>by
   simp only [l_6,l_5] at h
   subst h
   rw [l_3,List.nodup_cons] at hn
   show l=lessN q.num (q::l)
   unfold lessN
   rw [List.filter_cons_of_neg (by simp)]
   exact (lessN_none fun x hx e=>hn.1 (List.mem_map.2 ⟨x,hx,e⟩)).symm
 | q::l,j+1,p,hn,h=>by
   rw [l_3,List.nodup_cons] at hn
   have hp:l[j]? = some p:=by simpa using h
   show q::l.eraseIdx j=lessN p.num (q::l)
   rw [del_lessN hn.2 hp]
   unfold lessN
   rw [List.filter_cons_of_pos (by simpa using fun e=>hn.1 (List.mem_map.2 ⟨p,List.mem_of_getElem? hp,e.symm⟩))]
/-- The program's Alloc, Hold, Release. -/
def allocL (cap:Int) (l:List Pg) (d:List Int):List Pg×Int×Int:=
 if 1024<(d.length:Int) then (l,0,11) else if cap≤(l.length:Int) then (l,0,14) else (l++[⟨freeN l,1,d⟩],freeN l,0)
theorem alloc_same {l:List Pg} {a:Ar} {d:List Int} (h:ArS l a):ArS (allocL a.cap l d).1 (allocR a d).1∧(allocL a.cap l d).2=(allocR a d).2∧(allocR a d).1.cap=a.cap:=by
 unfold allocL allocR
 rw [h.perm.length_eq]
 split
 ·exact ⟨h,rfl,rfl⟩
 ·split
  ·exact ⟨h,rfl,rfl⟩
  ·have hf:=free_fresh a.pages
   refine ⟨⟨?_,insPg_asc h.asc hf⟩,by rw [freeN_perm h.perm],rfl⟩
   rw [freeN_perm h.perm]
   refine List.Perm.trans ?_ (insAt_perm _ _ _).symm
   exact (h.perm.append_right _).trans List.perm_append_comm
theorem get_num {l:List Pg} {i j:Nat} {x y:Pg} (h:(l.map (·.num)).Nodup) (hx:l[i]? = some x) (hy:l[j]? = some y) (e:x.num=y.num):i=j:=by
 have h1:(l.map (·.num))[i]? = some x.num:=by rw [List.getElem?_map,hx];rfl
 have h2:(l.map (·.num))[j]? = some x.num:=by rw [List.getElem?_map,hy,e];rfl
 obtain ⟨hi,e1⟩:=List.getElem?_eq_some_iff.1 h1
 obtain ⟨hj,e2⟩:=List.getElem?_eq_some_iff.1 h2
 exact (List.getElem_inj h).1 (e1.trans e2.symm)
/-- A page of the program and the reference's place of it. -/
theorem page_same {l:List Pg} {a:Ar} {n:Int} (h:ArS l a):((∀ p∈l,p.num≠n)∧pgAt n a.pages 0 = -1)∨ ∃ (i j:Nat) (p:Pg),l[i]? = some p∧a.pages[j]? = some p∧p.num=n∧pgAt n a.pages 0=(j:Int)∧pgGet a.pages (j:Int)=p:=by
 rcases pgAt_cases n a.pages 0 with ⟨h1,h2⟩|⟨j,p,h1,h2,h3,_⟩
 ·exact .inl ⟨fun p hp=>h2 p (h.perm.mem_iff.1 hp),h1⟩
 ·obtain ⟨i,hi⟩:=List.mem_iff_getElem?.1 (h.perm.mem_iff.2 (List.mem_of_getElem? h1))
  exact .inr ⟨i,j,p,hi,h1,h2,by rw [h3];simp,by simp [pgGet,h1]⟩
theorem hold_same {l:List Pg} {a:Ar} {n:Int} {i j:Nat} {p:Pg} (h:ArS l a) (h1:l[i]? = some p) (h2:a.pages[j]? = some p) (h3:p.num=n) (h4:pgAt n a.pages 0=(j:Int)) (h5:pgGet a.pages (j:Int)=p):
  ArS (l.set i ⟨p.num,wr (p.refs+1),p.data⟩) (holdR a n).1∧(holdR a n).2=0∧(holdR a n).1.cap=a.cap:=by
 have e:holdR a n=(⟨a.cap,a.pages.set j ⟨p.num,wr (p.refs+1),p.data⟩⟩,0):=by
  unfold holdR setRefs
  rw [if_neg (by omega),h4,h5,Int.toNat_natCast]
 rw [e,set_withR h.nodup h1,set_withR (nums_nodup h.asc) h2]
 exact ⟨⟨withR_perm h.perm,by simp only;rw [withR_num];exact h.asc⟩,rfl,rfl⟩
theorem release_same {l:List Pg} {a:Ar} {n:Int} {i j:Nat} {p:Pg} (h:ArS l a) (h1:l[i]? = some p) (h2:a.pages[j]? = some p) (h3:p.num=n) (h4:pgAt n a.pages 0=(j:Int)) (h5:pgGet a.pages (j:Int)=p):
  (0<wr (p.refs-1)→ArS (l.set i ⟨p.num,wr (p.refs-1),p.data⟩) (releaseR a n).1∧(releaseR a n).2=(false,0))∧
  (¬ 0<wr (p.refs-1)→ArS (l.eraseIdx i) (releaseR a n).1∧(releaseR a n).2=(true,0)):=by
 refine ⟨fun hq=>?_,fun hq=>?_⟩
 ·have e:releaseR a n=(⟨a.cap,a.pages.set j ⟨p.num,wr (p.refs-1),p.data⟩⟩,false,0):=by
   simp only [releaseR,setRefs]
   rw [if_neg (by omega),h4,h5,if_pos hq,Int.toNat_natCast]
  rw [e,set_withR h.nodup h1,set_withR (nums_nodup h.asc) h2]
  exact ⟨⟨withR_perm h.perm,by simp only;rw [withR_num];exact h.asc⟩,rfl⟩
 ·have e:releaseR a n=(⟨a.cap,delAt a.pages (j:Int)⟩,true,0):=by
   simp only [releaseR]
   rw [if_neg (by omega),h4,h5,if_neg hq]
  rw [e,delAt_erase,del_lessN h.nodup h1,del_lessN (nums_nodup h.asc) h2]
  refine ⟨⟨lessN_perm h.perm,?_⟩,rfl⟩
  exact h.asc.sublist ((List.filter_sublist).map _)
/-- The numbers of all pages, sorted, are those of the reference in their order. -/
theorem dump_nums {l:List Pg} {a:Ar} {v:List Int} (h:ArS l a) (hv:v.Perm (l.map (·.num))):sortI v=a.pages.map (·.num):=by
 have hp:(sortI v).Perm v:=List.mergeSort_perm _ _
 have hnd:(sortI v).Nodup:=(hp.trans hv).nodup_iff.2 h.nodup
 have hsrt:(sortI v).Pairwise (fun x y=>x≤y):=by
  have:=List.pairwise_mergeSort (le:=fun x y:Int=>decide (x≤y)) (fun a b c h1 h2=>by simp only [decide_eq_true_eq] at *;omega) (fun a b=>by simp only [Bool.or_eq_true,decide_eq_true_eq];omega) v
  exact this.imp (fun h=>by simpa using h)
 refine ascI_ext ?_ h.asc fun x=>?_
 ·unfold AscI
  have:=hsrt.and hnd
  exact this.imp fun {a b} hab=>by have:=hab.1;have:=hab.2;omega
 ·rw [(hp.trans hv).mem_iff,(h.perm.map (·.num)).mem_iff]
end Go.Proofs.Yteemiclhnfkekaa
/- The library's slices.Sort (at []int and []string) and slices.Compact (at []string), by their contracts on the kit's shelf (the layings written by the kit's lay-shelf and lay-plain for this seat); as contracts of the machine. -/
set_option linter.unusedSimpArgs false
set_option linter.unusedVariables false
namespace Go.Proofs.Yteemiclhnfkekaa
open Go.Shelf
def lays189_ren:Go.Shelf.Ren:=⟨fun|189=>32|125=>50|257=>49|128=>80|129=>81|294=>71|295=>72|296=>73|297=>74|298=>75|299=>76|216=>77|300=>78|301=>79|328=>91|329=>92|330=>93|331=>94|332=>95|215=>96|343=>110|n=>n,fun|28=>22|3=>3|46=>46|0=>0|51=>131|53=>133|4=>4|183=>125|182=>124|131=>105|5=>5|9=>9|218=>139|222=>143|228=>157|229=>158|n=>n,fun|n=>n⟩
theorem lays189:Go.Proofs.Lays.n189 Try.prog lays189_ren:={
 mixed:=by kernel_rfl
 f125:=Try.func50.trans (congrArg some (by kernel_rfl))
 f128:=Try.func80.trans (congrArg some (by kernel_rfl))
 f129:=Try.func81.trans (congrArg some (by kernel_rfl))
 f189:=Try.func32.trans (congrArg some (by kernel_rfl))
 f215:=Try.func96.trans (congrArg some (by kernel_rfl))
 f216:=Try.func77.trans (congrArg some (by kernel_rfl))
 f257:=Try.func49.trans (congrArg some (by kernel_rfl))
 f294:=Try.func71.trans (congrArg some (by kernel_rfl))
 f295:=Try.func72.trans (congrArg some (by kernel_rfl))
 f296:=Try.func73.trans (congrArg some (by kernel_rfl))
 f297:=Try.func74.trans (congrArg some (by kernel_rfl))
 f298:=Try.func75.trans (congrArg some (by kernel_rfl))
 f299:=Try.func76.trans (congrArg some (by kernel_rfl))
 f300:=Try.func78.trans (congrArg some (by kernel_rfl))
 f301:=Try.func79.trans (congrArg some (by kernel_rfl))
 f328:=Try.func91.trans (congrArg some (by kernel_rfl))
 f329:=Try.func92.trans (congrArg some (by kernel_rfl))
 f330:=Try.func93.trans (congrArg some (by kernel_rfl))
 f331:=Try.func94.trans (congrArg some (by kernel_rfl))
 f332:=Try.func95.trans (congrArg some (by kernel_rfl))
 f343:=Try.func110.trans (congrArg some (by kernel_rfl))
 t0:=Try.underlying0
 a0:=Try.isAgg0
 z0:=Try.sizeOf0
 v0:=Try.zeroValue0
 t3:=Try.underlying3
 a3:=Try.isAgg3
 z3:=Try.sizeOf3
 v3:=Try.zeroValue3
 t4:=Try.underlying4
 a4:=Try.isAgg4
 z4:=Try.sizeOf4
 v4:=Try.zeroValue4
 t5:=Try.underlying5
 a5:=Try.isAgg5
 z5:=Try.sizeOf5
 v5:=Try.zeroValue5
 t9:=Try.underlying9
 a9:=Try.isAgg9
 z9:=Try.sizeOf9
 v9:=Try.zeroValue9
 t28:=Try.underlying22
 a28:=Try.isAgg22
 z28:=Try.sizeOf22
 v28:=Try.zeroValue22
 t46:=Try.underlying46
 a46:=Try.isAgg46
 z46:=Try.sizeOf46
 v46:=Try.zeroValue46
 t51:=Try.underlying131
 a51:=Try.isAgg131
 z51:=Try.sizeOf131
 v51:=Try.zeroValue131
 t53:=Try.underlying133
 a53:=Try.isAgg133
 z53:=Try.sizeOf133
 v53:=Try.zeroValue133
 t131:=Try.underlying105
 a131:=Try.isAgg105
 z131:=Try.sizeOf105
 v131:=Try.zeroValue105
 t182:=Try.underlying124
 a182:=Try.isAgg124
 z182:=Try.sizeOf124
 v182:=Try.zeroValue124
 t183:=Try.underlying125
 a183:=Try.isAgg125
 z183:=Try.sizeOf125
 v183:=Try.zeroValue125
 t218:=Try.underlying139
 a218:=Try.isAgg139
 z218:=Try.sizeOf139
 v218:=Try.zeroValue139
 t222:=Try.underlying143
 a222:=Try.isAgg143
 z222:=Try.sizeOf143
 v222:=Try.zeroValue143
 t228:=Try.underlying157
 a228:=Try.isAgg157
 z228:=Try.sizeOf157
 v228:=Try.zeroValue157
 t229:=Try.underlying158
 a229:=Try.isAgg158
 z229:=Try.sizeOf158
 v229:=Try.zeroValue158 }
open Go.Sort Go.RowKit in
theorem slices_Sort_int (blk off cap:Nat) (zs:List Int) (w:World) (hH:Holds (Value.int .i64) w blk off zs.toArray) (hblk:blk<w.heap.size) (hsz:zs.length<4611686018427387904):
  Calls Try.prog 32 #[.slice (some ⟨blk,off,none⟩) zs.length cap] w fun e w'=>
   e = .returned (.tuple #[])∧ ∃ n os,w'=grow (putRow (Value.int .i64) (Sort.ahead w n) blk off (zs.mergeSort fun x y=>decide (x≤y)).toArray) os:=Any.slices_Sort_int lays189 blk off cap zs w hH hblk hsz
def lays190_ren:Go.Shelf.Ren:=⟨fun|190=>57|125=>50|258=>84|128=>80|129=>81|302=>97|303=>98|304=>99|305=>100|306=>101|307=>102|308=>103|309=>104|310=>105|333=>111|329=>92|330=>93|334=>112|335=>113|336=>114|344=>117|n=>n,fun|31=>83|9=>9|3=>3|46=>46|0=>0|51=>131|53=>133|4=>4|183=>125|182=>124|131=>105|5=>5|218=>139|222=>143|228=>157|229=>158|n=>n,fun|n=>n⟩
def lays194_ren:Go.Shelf.Ren:=⟨fun|194=>58|n=>n,fun|31=>83|9=>9|3=>3|4=>4|0=>0|n=>n,fun|n=>n⟩
open Go.RowKit Go.Sort in
theorem slices_Sort_int_none (p:Option Addr) (cap:Nat) (w:World):
  Calls Try.prog 32 #[.slice p 0 cap] w fun e w'=>e = .returned (.tuple #[])∧w'=w:=Any.slices_Sort_int_none lays189 p cap w
open Go.RowKit Go.Avm
theorem sorti_calls {zs:List Int} {n:Nat} (hn:zs.length=n) (h0:0<n) (hl:n≤1000000):MCalls Try.prog 32 [.row 1 (zs.map rowI)] [.slo 0 1 0 n] (.tup []) [.row 1 ((sortI zs).map rowI)]:=by
 subst hn
 exact sort_calls (enc:=Value.int .i64) sortI (fun l=>by simp [sortI]) (fun _=>rfl) call32 (fun blk cap zs w hH hb hs=>slices_Sort_int blk 0 cap zs w hH hb hs) (fun e=>by subst e;simp at h0) hl
theorem sorti_none:MCalls Try.prog 32 [.row 1 []] [.slo 0 1 0 0] (.tup []) [.row 1 []]:=none_calls call32 slices_Sort_int_none
end Go.Proofs.Yteemiclhnfkekaa
/- The program's arena walked: Dump. -/
set_option linter.unusedSimpArgs false
set_option linter.unusedVariables false
namespace Go.Proofs.Yteemiclhnfkekaa
open Go.RowKit Go.Avm
/-- The number that an entry with the stamp b has. -/
def numB (l:List Pg) (bn:List Nat) (b:Nat):Int:=((l[bn.idxOf b]?).map (·.num)).getD 0
theorem numB_at {l:List Pg} {bn:List Nat} {j b:Nat} {p:Pg} (hn:bn.Nodup) (hb:bn[j]? = some b) (hp:l[j]? = some p):numB l bn b=p.num:=by
 have h1:bn.idxOf b=j:=by
  obtain ⟨hj,e⟩:=List.getElem?_eq_some_iff.1 hb
  rw [← e];exact hn.idxOf_getElem j hj
 rw [numB,h1,hp];rfl
theorem numB_all {l:List Pg} {bn:List Nat} (hn:bn.Nodup) (hl:bn.length=l.length):bn.map (numB l bn)=l.map (·.num):=by
 refine List.ext_getElem? fun j=>?_
 rw [List.getElem?_map,List.getElem?_map]
 by_cases h:j<l.length
 ·obtain ⟨p,hp⟩:=get_lt h
  obtain ⟨b,hb⟩:=get_lt (show j<bn.length by omega)
  rw [hp,hb]
  simp only [Option.map_some,numB_at hn hb hp]
 ·rw [List.getElem?_eq_none (by omega),List.getElem?_eq_none (by omega)];rfl
theorem seen_all {l:List Pg} {bn seen:List Nat} (hn:bn.Nodup) (hl:bn.length=l.length) (hs:seen.Nodup) (h1: ∀ b∈seen,b∈bn) (h2: ∀ b∈bn,b∈seen):(seen.map (numB l bn)).Perm (l.map (·.num)):=by
 rw [← numB_all hn hl]
 exact ((List.perm_ext_iff_of_nodup hs hn).2 fun b=>⟨h1 b,h2 b⟩).map _
theorem seen_len {bn seen:List Nat} (hs:seen.Nodup) (h1: ∀ b∈seen,b∈bn):seen.length≤bn.length:=hs.length_le_of_subset h1
theorem ownPg_get {l:List Pg} {j:Nat} {k:Value} {c:BC} (h:(ownB (mapPg l))[j]? = some (k,c)): ∃ p,l[j]? = some p∧k = .int .i64 p.num:=by
 simp only [ownB,mapPg,List.map_map,List.getElem?_map,Option.map_eq_some_iff] at h
 obtain ⟨p,hp,e⟩:=h
 exact ⟨p,hp,by simp only [Function.comp,pgEn,Prod.mk.injEq] at e;exact e.1.symm⟩
theorem dump_at {l:List Pg} {a:Ar} {j:Nat} {q:Pg} (h:ArS l a) (hq:a.pages[j]? = some q): ∃ i,l[i]? = some q∧i<l.length∧kIdx (.int .i64 q.num) (mapPg l)=some i∧(mapPg l)[i]? = some (.int .i64 q.num,[.sc (.int .i64 q.num),.sc (.int .i64 q.refs),.sl 1 (q.data.map rowW)]):=by
 have hm:q∈l:=h.perm.mem_iff.2 (List.mem_of_getElem? hq)
 rcases pg_at q.num l with ⟨h1,_⟩|⟨i,p,h1,h2,h3,h4,h5,h6,h7⟩
 ·obtain ⟨i,hi⟩:=List.mem_iff_getElem?.1 hm
  exact absurd rfl ((pgAt_neg q.num l).1 (by omega) q hm)
 ·obtain ⟨i',hi'⟩:=List.mem_iff_getElem?.1 hm
  have e:=get_num h.nodup h1 hi' h5
  subst e
  rw [h1] at hi'
  cases hi'
  exact ⟨i,h1,h2,h6,h7⟩
set_option maxRecDepth 100000 in set_option maxHeartbeats 12800000 in
theorem adump_calls {cap:Int} {l:List Pg} {a:Ar} (h:ArS l a) (hl:l.length≤100000) (hd: ∀ p∈l,p.data.length≤1000000):MCalls Try.prog 17 [.box [.sc (.int .i64 cap),.mp 1],.ext (mapB (.int .i64) (ownB (mapPg l)))] [.ref 0 0] (.sl 3 (a.pages.map rowPg)) [.box [.sc (.int .i64 cap),.mp 1],.ext (mapB (.int .i64) (ownB (mapPg l)))]:=by
 have hla:a.pages.length=l.length:=h.perm.length_eq.symm
 refine of_tri [1000,1001] [8,13,20,21,23,35,38,41,45,46,60,61] Try.func17 rfl call17 rfl (by decide) (by decide) (by first|rfl) (by first|(simp only [seval,go_sem,List.all_cons,List.all_nil,Bool.and_true,List.length_cons,List.length_nil];done)) Try.ntmps17 (by simp (disch:=omega) only [seval,go_sem,cnd,intV,shV,convV,strV,List.replicate,l_2,l_1];rfl) (by simp (disch:=omega) only [seval,go_sem,cnd,intV,shV,convV,strV,l_2,l_1];rfl) ?_
 ((repeat' (first|((with_reducible refine isTriD ?_);(with_reducible refine isRange ?_;with_reducible refine TriD.range (fun e=>(by simp only [seval,go_sem])) (by simp only [seval,go_sem];rfl) (by simp only [seval,go_sem];rfl) (by simp only [seval,go_sem];rfl) (by simp only [seval,go_sem];rfl) (by decide) (by simp only [seval,go_sem];first|done|fail) (fun e=>(by simp only [seval,go_sem];first|done|fail)) (fun e=>(by simp only [seval,go_sem];first|done|fail)) (fun bnR ckR hbR hnR=>?_);refine LVs (st:=[]) ?_))|(with_reducible (refine TVq (st:=[]) ?_))|simp only [seval,go_sem]))<;>(try (fail)))
 all_goals (refine Tri.virt 3 60 1 (by first|(simp only [seval,go_sem];first|done|fail)) (by first|(simp only [seval,go_sem];first|done|fail)) (by simp only [seval,go_sem];rfl) ?_)
 all_goals (with_reducible refine Tri.loopV (fun (seen:List Nat)=>[(3,.slo 60 1 0 seen.length),(4,.any),(14,.any),(15,.any),(16,.any),(17,.any),(18,.any),(19,.any),(20,.any),(21,.any)]) (fun (seen:List Nat)=>[(13,.ext (iterX 1001 ckR seen)),(60,.row 1 ((seen.map (numB l bnR)).map rowI)),(20,.dead),(21,.dead)]) (fun (seen:List Nat)=>seen.Nodup∧(∀ b∈seen,b∈bnR)) (fun (seen:List Nat)=>l.length-seen.length) ([]) (⟨List.nodup_nil,by simp⟩) (by intro _;simp (disch:=omega) only [seval,go_sem,cnd,intV,shV,convV,strV];rfl) (by intro _;simp (disch:=omega) only [seval,go_sem,cnd,intV,shV,convV,strV];rfl) (by (refine leQL_spec ?_);(try simp only [seval,go_sem]);first|done|fail) (by (refine leQH_spec ?_);(try simp only [seval,go_sem]);first|done|fail) (fun seen hI=>?_))
 all_goals
  obtain ⟨hs1,hs2⟩:=hI
  have hbl:bnR.length=l.length:=by rw [hbR,ownB_len,mapPg_len]
  ((repeat' (first|(with_reducible (refine TVq (st:=[]) ?_))|simp only [seval,go_sem]))<;>(try (fail)))
  (with_reducible refine isNextI ?_;refine TriD.nextI (by simp only [seval,go_sem]) (by simp only [seval,go_sem];rfl) (by simp only [seval,go_sem];rfl) (by simp only [seval,go_sem];rfl) (fun hAR=>TriD.impU (Imp.untold2 1001 (by simp only [seval,go_sem];rfl) (by simp only [seval,go_sem];rfl)) (LVs (st:=[]) ?_)) (fun jR kR cR bR hjR hbjR hnbR=>LVs (st:=[]) ?_))
  ·have hsrt:=dump_nums h (seen_all hnR hbl hs1 hs2 hAR)
   have hsl:seen.length=l.length:=by
    have:=(seen_all hnR hbl hs1 hs2 hAR).length_eq
    simpa using this
   have hso:MCalls Try.prog 32 [.row 1 ((seen.map (numB l bnR)).map rowI)] [.slo 0 1 0 a.pages.length] (.tup []) [.row 1 (a.pages.map fun q=>[D.sc (.int .i64 q.num)])]:=by
    have e:(a.pages.map fun q=>[D.sc (.int .i64 q.num)])=(sortI (seen.map (numB l bnR))).map rowI:=by rw [hsrt,List.map_map];rfl
    rw [e]
    by_cases h0:l.length=0
    ·have e:seen=[]:=List.eq_nil_of_length_eq_zero (by omega)
     rw [e,hla,h0]
     have:=sorti_none
     simpa [sortI] using this
    ·exact sorti_calls (by rw [List.length_map,hla];exact hsl) (by omega) (by omega)
   rw [hsl, ← hla]
   ((repeat' (first|((with_reducible refine isTriD ?_);((with_reducible refine isCallD ?_);((with_reducible ((refine TriD.cI (dst:=_) [] (by simp only [seval,go_sem];rfl) (by simp only [seval,go_sem];rfl) (hso) (by simp only [seval,go_sem];first|done|fail) (by simp only [seval,go_sem];first|done|fail) (by simp only [seval,go_sem];rfl) ?_)));refine LVs (st:=[]) ?_)))|simp only [seval,go_sem]))<;>(try (fail)))
   all_goals (refine Tri.frz 60 (by simp only [seval,go_sem];rfl) (by simp only [seval,go_sem];rfl) ?_)
   all_goals (refine Tri.virt 5 61 3 (by first|(simp only [seval,go_sem];first|done|fail)) (by first|(simp only [seval,go_sem];first|done|fail)) (by simp only [seval,go_sem];rfl) ?_)
   all_goals (with_reducible refine Tri.loopV (fun (i:Nat)=>[(26,.sc (.int .i64 i)),(5,.slo 61 3 0 i),(7,.any),(8,.any),(27,.any),(28,.any),(29,.any),(30,.any),(31,.any),(32,.any),(33,.any),(34,.any),(35,.any),(36,.any),(37,.any),(38,.any),(39,.any),(40,.any),(41,.any),(42,.any),(43,.any),(44,.any),(45,.any),(46,.any),(47,.any)]) (fun (i:Nat)=>[(61,.row 3 ((a.pages.take i).map rowPg)),(8,.dead),(35,.dead),(38,.dead),(41,.dead),(45,.dead),(46,.dead)]) (fun (i:Nat)=>i≤a.pages.length) (fun (i:Nat)=>a.pages.length-i) (0) (Nat.zero_le _) (by intro _;simp (disch:=omega) only [seval,go_sem,cnd,intV,shV,convV,strV];rfl) (by intro _;simp (disch:=omega) only [seval,go_sem,cnd,intV,shV,convV,strV];rfl) (by (refine leQL_spec ?_);(try simp only [seval,go_sem]);first|done|fail) (by (refine leQH_spec ?_);(try simp only [seval,go_sem]);first|done|fail) (fun i hI=>?_))
   all_goals
    by_cases hlt:i<a.pages.length
    ·obtain ⟨q,hq⟩:=get_lt hlt
     obtain ⟨r,hr1,hr2,hr3,hr4⟩:=dump_at h hq
     have hqd:=hd q (List.mem_of_getElem? hr1)
     have hqn:(a.pages.map fun q=>[D.sc (.int .i64 q.num)])[i]? = some [.sc (.int .i64 q.num)]:=by simp [hq]
     have htk:(a.pages.take i).map rowPg++[[D.sc (.int .i64 q.num), .sc (.int .i64 q.refs), .sl 1 (q.data.map rowW)]]=(a.pages.take (i+1)).map rowPg:=by rw [List.take_add_one,hq];simp [rowPg]
     have hs:(mapPg l).set r (.int .i64 q.num,[.sc (.int .i64 q.num), .sc (.int .i64 q.refs), .sl 1 (q.data.map rowW)])=mapPg l:=set_same hr4
     have htl:((a.pages.take i).map rowPg).length=i:=by rw [List.length_map,List.length_take];omega
     have hj:r<(mapPg l).length:=by rw [mapPg_len];exact hr2
     (all_goals (try have hZ:=(And.intro hqn (And.intro hr3 (And.intro hr4 htl))));(repeat' (first|((with_reducible refine isTriD ?_);first|(with_reducible refine isLookupO ?_;with_reducible refine TriD.lookupP (by simp only [seval,go_sem,hZ];rfl) (by simp only [seval,go_sem,hZ];rfl) (by simp only [seval,go_sem,hZ];rfl) (by simp only [seval,go_sem,hZ];rfl) (by simp only [seval,go_sem,hZ];rfl) (by simp only [seval,go_sem,hZ];first|done|fail) (by decide) (by simp only [seval,go_sem,hZ];rfl) (by simp only [seval,go_sem,hZ]) (by simp only [seval,go_sem,hZ];rfl) (by simp only [seval,go_sem,hZ];rfl) (by simp only [seval,go_sem,hZ];rfl) (by simp only [seval,go_sem,hZ];first|done|fail) (by simp only [seval,go_sem,hZ];first|done|fail) (by simp only [seval,go_sem,hZ];first|done|fail) (by simp only [seval,go_sem,hZ];first|done|fail) (by simp only [seval,go_sem,hZ];first|done|fail) (by simp only [seval,go_sem,hZ];rfl) ?_;refine LVs (st:=[]) ?_)|(with_reducible refine TriD.frz 41 (by simp only [seval,go_sem,hZ];rfl) (by simp only [seval,go_sem,hZ];rfl) ?_;refine LVs (st:=[]) ?_))|(with_reducible (refine TVq (st:=[]) ?_))|simp only [seval,go_sem,hZ]|(with_reducible refine oV_st (by simp (disch:=omega) only [seval,go_sem,cnd,intV,shV,convV,strV,hZ];rfl) ?_)))<;>(try (fail));all_goals (try clear hZ))
     all_goals (try ((refine isNextVM (i+1) (Imp.trans (Imp.healB2 1001 35 (by simp only [seval,go_sem];rfl) (by simp only [seval,go_sem];rfl) (by rfl) (by first|assumption) (by decide) (by decide) (by simp only [seval,go_sem];rfl)) (Imp.rnTo 46 61 (by decide) (by first|(simp only [seval,go_sem];first|done|fail)) (by simp only [seval,go_sem];rfl) (Imp.les (by (refine leQL_spec ?_);(try simp only [seval,go_sem,htk,hs]);first|((repeat' (with_reducible apply And.intro))<;>first|rfl|(simp [htk,hs];omega));first|done|fail) (by (refine leQH_spec ?_);(try simp only [seval,go_sem,htk,hs]);first|done|fail)))) ?_ ?_)<;>(try (omega))))
     all_goals done
    ·have e1:i=a.pages.length:=by omega
     have e2:a.pages.take a.pages.length=a.pages:=List.take_length
     rw [e1,e2]
     ((repeat' (first|(with_reducible refine isRet ?_;(refine RetOK.frz 61 (by simp only [seval,go_sem];rfl) (by simp only [seval,go_sem];rfl) ?_);(with_reducible refine isRet ?_;refine RetOK.q rfl rfl (by simp only [seval,go_sem];rfl) (by decide) (by simp only [seval,go_sem];rfl) (by simp only [seval,go_sem];rfl) rfl ?_<;>(try simp only [seval,go_sem])<;>(repeat' (with_reducible apply And.intro))<;>(try rfl)))|(with_reducible (refine TVq (st:=[]) ?_))|simp only [seval,go_sem]|(with_reducible refine oV_st (by simp (disch:=omega) only [seval,go_sem,cnd,intV,shV,convV,strV];rfl) ?_)))<;>(try (fail)))
     all_goals done
  ·obtain ⟨p,hp,rfl⟩:=ownPg_get hjR
   have hnb:=numB_at hnR hbjR hp
   have hnd:(seen++[bR]).Nodup:=by rw [List.nodup_append];exact ⟨hs1,by simp,fun x hx y hy e=>by simp at hy;subst hy;subst e;exact hnbR hx⟩
   have hin: ∀ b∈seen++[bR],b∈bnR:=fun b hb=>by
    rcases List.mem_append.1 hb with hb|hb
    ·exact hs2 b hb
    ·simp at hb;subst hb;exact List.mem_of_getElem? hbjR
   have hsl:seen.length<l.length:=by
    have:=seen_len (bn:=bnR) hnd hin
    rw [List.length_append,List.length_singleton] at this;omega
   (all_goals (try have hZ:=(And.intro hjR hbjR));(repeat' (first|((with_reducible refine isTriD ?_);(with_reducible refine isEntry ?_;with_reducible refine TriD.entryI (by simp only [seval,go_sem,hZ]) (by simp only [seval,go_sem,hZ];rfl) (by simp only [seval,go_sem,hZ];rfl) (by simp only [seval,go_sem,hZ];rfl) (by assumption) (by assumption) (by simp only [seval,go_sem,hZ];rfl) ?_;refine LVs (st:=[]) ?_))|simp only [seval,go_sem,hZ]|(with_reducible refine oV_st (by simp (disch:=omega) only [seval,go_sem,cnd,intV,shV,convV,strV,hZ];rfl) ?_)))<;>(try (fail));all_goals (try clear hZ))
   all_goals (try ((refine isNextVM (seen++[bR]) (Imp.rnTo 21 60 (by decide) (by first|(simp only [seval,go_sem];first|done|fail)) (by simp only [seval,go_sem];rfl) (Imp.les (by (refine leQL_spec ?_);(try simp only [seval,go_sem,rowI,hnb,List.map_append,l_3,l_4,List.length_append,List.length_cons,List.length_nil]);first|done|fail) (by (refine leQH_spec ?_);(try simp only [seval,go_sem,rowI,hnb,List.map_append,l_3,l_4,List.length_append,List.length_cons,List.length_nil]);first|done|fail))) ?_ ?_)<;>(try ((simp;omega)))))
   all_goals (try exact ⟨hnd,hin⟩)
   all_goals done
end Go.Proofs.Yteemiclhnfkekaa
