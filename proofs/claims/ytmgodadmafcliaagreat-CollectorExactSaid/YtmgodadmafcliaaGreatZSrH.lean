/- The reference's store: sizes of what Change and Store build (plain). -/
import Derived.Test.YtmgodadmafcliaaGreatZSrD
import Derived.Test.YtmgodadmafcliaaGreatZCoB
set_option linter.unusedSimpArgs false
set_option linter.unusedVariables false
namespace Go.Proofs.YtmgodadmafcliaaGreat
open Go.RowKit Go.Avm
def DatOk (d:List Int):Prop:=d.length≤1024∧ ∀ z∈d,0≤z∧z≤255
def PgOk (l:List Pg):Prop:= ∀ p∈l,DatOk p.data
theorem datOk_nil:DatOk []:=⟨Nat.zero_le _,fun z hz=>by simp at hz⟩
theorem allocR_ok {a:Ar} {d:List Int} (ha:PgOk a.pages) (hd:DatOk d):PgOk (allocR a d).1.pages:=by
 unfold allocR;split
 ·exact ha
 ·split
  ·exact ha
  ·intro p hp
   rcases List.mem_cons.1 ((insAt_perm _ _ _).mem_iff.1 hp) with rfl|h
   ·exact hd
   ·exact ha p h
theorem pgGet_ok {l:List Pg} {i:Int} (h:PgOk l):DatOk (pgGet l i).data:=by
 unfold pgGet
 cases e:l[i.toNat]? with
 | none=>exact datOk_nil
 | some p=>exact h p (List.mem_of_getElem? e)
theorem holdR_ok {a:Ar} {n:Int} (ha:PgOk a.pages):PgOk (holdR a n).1.pages:=by
 unfold holdR;split
 ·exact ha
 ·intro p hp
  rcases List.mem_or_eq_of_mem_set hp with h|rfl
  ·exact ha p h
  ·exact pgGet_ok ha
theorem hold_len (a:Ar) (n:Int):(holdR a n).1.pages.length=a.pages.length:=by
 unfold holdR;split
 ·rfl
 ·simp [setRefs]
theorem allocs_ok (l:List (List Int)): ∀ a:Ar,(∀ x∈l,DatOk x)→PgOk a.pages→PgOk (allocs a l).1.pages∧(allocs a l).1.pages.length≤a.pages.length+l.length∧(allocs a l).2.length=l.length:=by
 induction l with
 | nil=>intro a _ h;exact ⟨h,Nat.le_refl _,rfl⟩
 | cons x l ih=>
   intro a hx h
   have h1:=ih (allocR a x).1 (fun y hy=>hx y (by simp [hy])) (allocR_ok h (hx x (by simp)))
   have h2:=allocR_len a x
   simp only [allocs,List.length_cons]
   exact ⟨h1.1,by omega,by omega⟩
theorem puts_ok (l:List (List Int)): ∀ (a:Ar) (b:List Bool) (o:List Int),(∀ x∈l,DatOk x)→PgOk a.pages→PgOk (puts a l b o).1.pages∧(puts a l b o).1.pages.length≤a.pages.length+l.length∧(puts a l b o).2.length≤l.length:=by
 induction l with
 | nil=>intro a b o _ h;cases b<;>exact ⟨h,Nat.le_refl _,Nat.zero_le _⟩
 | cons x l ih=>
   intro a b o hx h
   cases b with
   | nil=>exact ⟨h,Nat.le_add_right _ _,Nat.zero_le _⟩
   | cons b bs=>
     rw [puts]
     split
     ·have h1:=ih (holdR a (o.headD 0)).1 bs o.tail (fun y hy=>hx y (by simp [hy])) (holdR_ok h)
      have h2:=hold_len a (o.headD 0)
      simp only [List.length_cons]
      exact ⟨h1.1,by omega,by omega⟩
     ·have h1:=ih (allocR a x).1 bs o.tail (fun y hy=>hx y (by simp [hy])) (allocR_ok h (hx x (by simp)))
      have h2:=allocR_len a x
      simp only [List.length_cons]
      exact ⟨h1.1,by omega,by omega⟩
structure SrB (i:Nat) (s:Sr):Prop where
 hb:s.binds.length≤i
 ho:s.objs.length≤i
 hv: ∀ o∈s.objs,o.vers.length≤i∧ ∀ v∈o.vers,v.pages.length≤61∧v.size≤61
 hp:s.pins.length≤i
 hg:s.ar.pages.length≤61*i
 hd:PgOk s.ar.pages
 hc:0≤s.commit∧s.commit≤i
 hl:0≤s.last∧s.last≤i
 hz:1≤s.c.psz∧s.c.psz≤1024
theorem SrB.up {i:Nat} {s:Sr} (h:SrB i s):SrB (i+1) s:=
 ⟨by have:=h.hb;omega,by have:=h.ho;omega,fun o ho=>⟨by have:=(h.hv o ho).1;omega,(h.hv o ho).2⟩,by have:=h.hp;omega,by have:=h.hg;omega,h.hd,⟨h.hc.1,by have:=h.hc.2;omega⟩,⟨h.hl.1,by have:=h.hl.2;omega⟩,h.hz⟩
def VOk (i:Nat) (l:List Ver):Prop:=l.length≤i∧ ∀ v∈l,v.pages.length≤61∧v.size≤61
theorem appendV_ok {i:Nat} {l:List Ver} {v:Ver} (h:VOk i l) (hv:v.pages.length≤61∧v.size≤61):VOk (i+1) (appendV l v).1:=by
 unfold appendV
 split
 ·exact ⟨Nat.zero_le _,fun v hv=>by simp at hv⟩
 ·split
  ·exact ⟨Nat.zero_le _,fun v hv=>by simp at hv⟩
  ·split
   ·exact ⟨by simp,fun w hw=>by rw [List.mem_singleton.1 hw];exact hv⟩
   ·rename_i u hu
    have hum:=h.2 u (List.mem_of_getElem? hu)
    split
    ·exact ⟨Nat.zero_le _,fun v hv=>by simp at hv⟩
    ·split
     ·refine ⟨by have:=h.1;simp only [List.length_append,List.length_set,List.length_cons,List.length_nil];omega,fun w hw=>?_⟩
      rcases List.mem_append.1 hw with h1|h1
      ·rcases List.mem_or_eq_of_mem_set h1 with h2|rfl
       ·exact h.2 w h2
       ·exact hum
      ·rw [List.mem_singleton.1 h1];exact hv
     ·refine ⟨by have:=h.1;simp only [List.length_append,List.length_cons,List.length_nil];omega,fun w hw=>?_⟩
      rcases List.mem_append.1 hw with h1|h1
      ·exact h.2 w h1
      ·rw [List.mem_singleton.1 h1];exact hv
theorem closeV_ok {i:Nat} {l:List Ver} {c:Int} (h:VOk i l):VOk (i+1) (closeV l c).1:=by
 unfold closeV
 split
 ·exact ⟨Nat.zero_le _,fun v hv=>by simp at hv⟩
 ·split
  ·exact ⟨Nat.zero_le _,fun v hv=>by simp at hv⟩
  ·rename_i u hu
   have hum:=h.2 u (List.mem_of_getElem? hu)
   split
   ·exact ⟨Nat.zero_le _,fun v hv=>by simp at hv⟩
   ·split
    ·exact ⟨Nat.zero_le _,fun v hv=>by simp at hv⟩
    ·refine ⟨by have:=h.1;simp only [List.length_set];omega,fun w hw=>?_⟩
     rcases List.mem_or_eq_of_mem_set hw with h2|rfl
     ·exact h.2 w h2
     ·exact hum
theorem obGet_ok {i:Nat} {s:Sr} (h:SrB i s) (j:Int):VOk i (obGet s.objs j).vers:=by
 unfold obGet
 cases e:s.objs[j.toNat]? with
 | none=>exact ⟨Nat.zero_le _,fun v hv=>by simp at hv⟩
 | some o=>exact h.hv o (List.mem_of_getElem? e)
theorem setVers_ok {i:Nat} {s:Sr} (h:SrB i s) {j:Int} {v:List Ver} (hv:VOk (i+1) v):(setVers s.objs j v).length≤i+1∧ ∀ o∈setVers s.objs j v,o.vers.length≤i+1∧ ∀ v∈o.vers,v.pages.length≤61∧v.size≤61:=by
 refine ⟨by have:=h.ho;simp only [setVers,List.length_set];omega,fun o ho=>?_⟩
 rcases List.mem_or_eq_of_mem_set ho with h2|rfl
 ·exact h.up.hv o h2
 ·exact hv
theorem bytesK_ok (n:Int):(bytesK n).length≤61∧ ∀ z∈bytesK n,0≤z∧z≤255:=by
 have hl:(n/8%64%61).toNat≤61:=by omega
 refine ⟨by simp only [bytesK,List.length_map,List.length_range];exact hl,fun z hz=>?_⟩
 obtain ⟨i,hi,rfl⟩:=List.mem_map.1 hz
 have:=List.mem_range.1 hi
 unfold byteK;split<;>omega
theorem split_ok (n sz:Int):(splitR (bytesK n) sz).1.length≤61∧ ∀ x∈(splitR (bytesK n) sz).1,DatOk x:=by
 have h:=bytesK_ok n
 exact ⟨by have:=splitR_len (d:=bytesK n) (sz:=sz);omega,fun x hx=>⟨(splitR_mem x hx).1,fun z hz=>h.2 z ((splitR_mem x hx).2 z hz)⟩⟩
theorem createR_ok {i:Nat} {s:Sr} {m:ByteArray} {n:Int} (h:SrB i s):SrB (i+1) (createR s m (bytesK n)).1:=by
 have hs:=split_ok n s.c.psz
 have ha:=allocs_ok (splitR (bytesK n) s.c.psz).1 s.ar hs.2 h.hd
 have hbl:=(bytesK_ok n).1
 unfold createR
 split
 ·exact h.up
 ·split
  ·exact h.up
  ·split
   ·exact h.up
   ·split
    ·exact h.up
    ·refine ⟨?_,?_,?_,?_,?_,ha.1,?_,?_,h.hz⟩
     ·have:=bindB_len s.binds m (s.last+1) (s.commit+1);have:=h.hb;simp only;omega
     ·have:=h.ho;simp only [List.length_append,List.length_cons,List.length_nil];omega
     ·intro o ho
      rcases List.mem_append.1 ho with h1|h1
      ·exact h.up.hv o h1
      ·rw [List.mem_singleton.1 h1]
       refine ⟨by simp,fun v hv=>?_⟩
       rw [List.mem_singleton.1 hv]
       exact ⟨by simp only;omega,by simp only;omega⟩
     ·have:=h.hp;simp only;omega
     ·have:=h.hg;simp only;omega
     ·have:=h.hc;simp only;omega
     ·have:=h.hl;simp only;omega
theorem putR_ok {i:Nat} {s:Sr} {m:ByteArray} {n:Int} (h:SrB i s):SrB (i+1) (putR s m (bytesK n)).1:=by
 have hs:=split_ok n s.c.psz
 have ha:=puts_ok (splitR (bytesK n) s.c.psz).1 s.ar (sharedR (storedR s.ar (verR s m s.commit).2.1.pages) (splitR (bytesK n) s.c.psz).1) (verR s m s.commit).2.1.pages hs.2 h.hd
 have hbl:=(bytesK_ok n).1
 unfold putR
 split
 ·exact h.up
 ·split
  ·exact h.up
  ·split
   ·exact h.up
   ·have hv:=setVers_ok h (j:=(verR s m s.commit).1) (appendV_ok (obGet_ok h (verR s m s.commit).1) (v:=⟨s.commit+1,0,(bytesK n).length,(puts s.ar (splitR (bytesK n) s.c.psz).1 (sharedR (storedR s.ar (verR s m s.commit).2.1.pages) (splitR (bytesK n) s.c.psz).1) (verR s m s.commit).2.1.pages).2⟩) ⟨by simp only;omega,by simp only;omega⟩)
    refine ⟨?_,hv.1,hv.2,?_,?_,ha.1,?_,?_,h.hz⟩
    ·have:=h.hb;simp only;omega
    ·have:=h.hp;simp only;omega
    ·have:=h.hg;simp only;omega
    ·have:=h.hc;simp only;omega
    ·have:=h.hl;simp only;omega
theorem dropR_ok {i:Nat} {s:Sr} {m:ByteArray} (h:SrB i s):SrB (i+1) (dropR s m).1:=by
 unfold dropR
 split
 ·exact h.up
 ·split
  ·exact h.up
  ·have hv:=setVers_ok h (j:=(verR s m s.commit).1) (closeV_ok (c:=s.commit+1) (obGet_ok h (verR s m s.commit).1))
   refine ⟨?_,hv.1,hv.2,?_,?_,h.hd,?_,?_,h.hz⟩
   ·have:=unbindB_len s.binds m (s.commit+1);have:=h.hb;simp only;omega
   ·have:=h.hp;simp only;omega
   ·have:=h.hg;simp only;omega
   ·have:=h.hc;simp only;omega
   ·have:=h.hl;simp only;omega
theorem renameR_ok {i:Nat} {s:Sr} {m k:ByteArray} (h:SrB i s):SrB (i+1) (renameR s m k).1:=by
 unfold renameR
 split
 ·exact h.up
 ·split
  ·exact h.up
  ·split
   ·exact h.up
   ·split
    ·exact h.up
    ·refine ⟨?_,h.up.ho,h.up.hv,h.up.hp,h.up.hg,h.hd,?_,h.up.hl,h.hz⟩
     ·have:=renameB_len s.binds m k (s.commit+1);have:=h.hb;simp only;omega
     ·have:=h.hc;simp only;omega
theorem pinR_ok {i:Nat} {s:Sr} {c:Int} (h:SrB i s):SrB (i+1) (pinR s c).1:=by
 unfold pinR
 split
 ·exact h.up
 ·split
  ·exact h.up
  ·exact ⟨h.up.hb,h.up.ho,h.up.hv,addP_len h.hp,h.up.hg,h.hd,h.up.hc,h.up.hl,h.hz⟩
theorem unpinR_ok {i:Nat} {s:Sr} {c:Int} (h:SrB i s):SrB (i+1) (unpinR s c).1:=by
 unfold unpinR
 split
 ·exact h.up
 ·exact ⟨h.up.hb,h.up.ho,h.up.hv,remP_len h.up.hp,h.up.hg,h.hd,h.up.hc,h.up.hl,h.hz⟩
theorem changeR_ok {i:Nat} {s:Sr} {n:Int} (h:SrB i s):SrB (i+1) (changeR s n):=by
 unfold changeR
 repeat' split
 ·exact createR_ok h
 ·exact putR_ok h
 ·exact dropR_ok h
 ·exact renameR_ok h
 ·exact pinR_ok h
 ·exact h.up
 ·exact unpinR_ok h
theorem inR_of {n lo hi:Int} (h1:lo≤n) (h2:n≤hi):inR n lo hi=true:=by
 simp only [inR,decide_eq_true h1,decide_eq_true h2,Bool.and_self]
theorem pickR {p q r:Prop} [Decidable p] [Decidable q] [Decidable r] {a b c d lo hi:Int} (h:lo≤a∧a≤hi∧lo≤b∧b≤hi∧lo≤c∧c≤hi∧lo≤d∧d≤hi):inR (if p then a else if q then b else if r then c else d) lo hi=true:=by
 split
 ·exact inR_of h.1 h.2.1
 ·split
  ·exact inR_of h.2.2.1 h.2.2.2.1
  ·split
   ·exact inR_of h.2.2.2.2.1 h.2.2.2.2.2.1
   ·exact inR_of h.2.2.2.2.2.2.1 h.2.2.2.2.2.2.2
theorem cfgK_ok (n:Int):cfOk (cfgK n)=true:=by
 simp only [cfOk,cfgK,Bool.and_eq_true]
 exact ⟨⟨⟨⟨⟨⟨inR_of (by omega) (by omega),inR_of (by omega) (by omega)⟩,pickR (by decide)⟩,pickR (by decide)⟩,pickR (by decide)⟩,pickR (by decide)⟩,inR_of (by omega) (by omega)⟩
theorem newR_ok (n:Int):SrB 1 (newR (cfgK n)).1:=by
 have hz:1≤(cfgK n).psz∧(cfgK n).psz≤1024:=by
  have h:=cfgK_ok n
  simp only [cfOk,inR,Bool.and_eq_true,decide_eq_true_eq] at h
  omega
 unfold newR
 rw [if_neg (by rw [cfgK_ok];decide)]
 exact ⟨Nat.zero_le _,Nat.zero_le _,fun o ho=>by simp at ho,Nat.zero_le _,Nat.zero_le _,fun o ho=>by simp at ho,⟨Int.le_refl _,by simp⟩,⟨Int.le_refl _,by simp⟩,hz⟩
theorem atK_rng (l:List Int) (i:Nat) (hi:i≤1000):0≤atK l i∧atK l i≤70000:=by
 unfold atK;split
 ·omega
 ·have:i/l.length≤i:=Nat.div_le_self _ _
  generalize i/l.length=q at *
  omega
theorem storeGo_ok (l:List Int) (k:Nat): ∀ (i:Nat) (s:Sr),SrB i s→SrB (i+k) (storeGo l k i s):=by
 have up: ∀ (k i:Nat) (s:Sr),SrB i s→SrB (i+k) s:=by
  intro k
  induction k with
  | zero=>intro i s h;exact h
  | succ k ih=>intro i s h;exact (ih i s h).up
 induction k with
 | zero=>intro i s h;exact h
 | succ k ih=>
   intro i s h
   rw [storeGo]
   split
   ·have:=ih (i+1) _ (changeR_ok (n:=atK l i) h)
    rwa [show i+1+k=i+(k+1) by omega] at this
   ·exact up (k+1) i s h
theorem storeR_ok (l:List Int):SrB 13 (storeR l):=storeGo_ok l 12 1 _ (newR_ok _)
end Go.Proofs.YtmgodadmafcliaaGreat
/- The reference's arena: every page is stored while it is referenced, and no longer (plain). -/
set_option linter.unusedSimpArgs false
set_option linter.unusedVariables false
namespace Go.Proofs.YtmgodadmafcliaaGreat
open Go.RowKit Go.Avm
/-- The stored pages are exactly those that L names, each with its number of references. -/
structure ArI (a:Ar) (L:List Int):Prop where
 asc:AscI (a.pages.map (·.num))
 refs: ∀ p∈a.pages,p.refs=(L.count p.num:Int)∧1≤L.count p.num
 mem: ∀ n∈L,n∈a.pages.map (·.num)
theorem ArI.perm {a:Ar} {L M:List Int} (h:ArI a L) (hp:L.Perm M):ArI a M:=
 ⟨h.asc,fun p hm=>by rw [← hp.count_eq];exact h.refs p hm,fun n hn=>h.mem n (hp.mem_iff.2 hn)⟩
theorem wr_of {n:Int} (h0: -1000000≤n) (h1:n≤1000000):wr n=n:=by
 unfold wr
 rw [IntKind.wrap_i64];omega
theorem ascI_ne {l:List Pg} (h:AscI (l.map (·.num))) {i j:Nat} {x y:Pg} (hx:l[i]? = some x) (hy:l[j]? = some y) (hn:i≠j):x.num≠y.num:=by
 rcases Nat.lt_or_gt_of_ne hn with g|g
 ·have:=ascI_get h (x:=x.num) (y:=y.num) (by rw [List.getElem?_map,hx];rfl) (by rw [List.getElem?_map,hy];rfl) g;omega
 ·have:=ascI_get h (x:=y.num) (y:=x.num) (by rw [List.getElem?_map,hy];rfl) (by rw [List.getElem?_map,hx];rfl) g;omega
theorem pgAt_in {n:Int} {l:List Pg} (h:n∈l.map (·.num)): ∃ (j:Nat) (p:Pg),l[j]? = some p∧j<l.length∧pgAt n l 0=(j:Int)∧pgGet l (pgAt n l 0)=p∧p.num=n:=by
 rcases pgAt_cases n l 0 with ⟨h1,h2⟩|⟨j,p,h1,h2,h3,_⟩
 ·obtain ⟨p,hp,e⟩:=List.mem_map.1 h
  exact absurd e (h2 p hp)
 ·exact ⟨j,p,h1,(List.getElem?_eq_some_iff.1 h1).1,by rw [h3];simp,by rw [h3];simp [pgGet,h1],h2⟩
theorem set_num {l:List Pg} {j:Nat} {p q:Pg} (h:l[j]? = some p) (e:q.num=p.num):(l.set j q).map (·.num)=l.map (·.num):=by
 rw [List.map_set,e]
 refine List.ext_getElem? fun i=>?_
 rw [List.getElem?_set]
 split
 ·rename_i hi;subst hi
  obtain ⟨hj,hp⟩:=List.getElem?_eq_some_iff.1 h
  rw [if_pos (by rw [List.length_map];exact hj),List.getElem?_map,h];rfl
 ·rfl
theorem mem_set {l:List Pg} {j:Nat} {q x:Pg} (h:q∈l.set j x):q=x∨ ∃ i,i≠j∧l[i]? = some q:=by
 obtain ⟨i,hi⟩:=List.mem_iff_getElem?.1 h
 rw [List.getElem?_set] at hi
 split at hi
 ·split at hi
  ·exact .inl (by injection hi with e;exact e.symm)
  ·cases hi
 ·rename_i hn;exact .inr ⟨i,fun e=>hn e.symm,hi⟩
theorem hold_inv {a:Ar} {L:List Int} {n:Int} (h:ArI a L) (hn:n∈L) (hl:L.length≤900000):ArI (holdR a n).1 (n::L):=by
 obtain ⟨j,p,h1,h2,h3,h4,h5⟩:=pgAt_in (h.mem n hn)
 have hc:=List.count_le_length (a:=p.num) (l:=L)
 have hr:=h.refs p (List.mem_of_getElem? h1)
 have h6:pgGet a.pages (j:Int)=p:=by rw [← h3];exact h4
 have e:(holdR a n).1=⟨a.cap,a.pages.set j ⟨p.num,p.refs+1,p.data⟩⟩:=by
  unfold holdR setRefs
  rw [if_neg (by omega)]
  simp only [h3,h6,Int.toNat_natCast]
  rw [wr_of (n:=p.refs+1) (by omega) (by omega)]
 rw [e]
 have hnum:=set_num (q:=⟨p.num,p.refs+1,p.data⟩) h1 rfl
 refine ⟨by simp only;rw [hnum];exact h.asc,fun q hq=>?_,fun m hm=>?_⟩
 ·rcases mem_set hq with rfl|⟨i,hi,hq2⟩
  ·simp only [h5,List.count_cons_self]
   rw [← h5];omega
  ·have hne:=ascI_ne h.asc hq2 h1 hi
   have:=h.refs q (List.mem_of_getElem? hq2)
   rw [List.count_cons_of_ne (by rw [← h5];exact fun e=>hne e.symm)]
   exact this
 ·simp only
  rw [hnum]
  rcases List.mem_cons.1 hm with rfl|hm
  ·exact h.mem _ hn
  ·exact h.mem _ hm
theorem freeGo_spec (l:List Pg): ∀ (k:Nat) (n:Int),pgAt (freeGo l k n) l 0<0∨ ∀ i:Nat,i<k→n+i∈l.map (·.num)
 | 0,n=> .inr fun i hi=>by omega
 | k+1,n=>by
   rw [freeGo]
   split
   ·rename_i h;exact .inl h
   ·rename_i h
    rcases freeGo_spec l k (n+1) with g|g
    ·exact .inl g
    ·refine .inr fun i hi=>?_
     cases i with
     | zero=>simpa using pgAt_mem h
     | succ i=>have:=g i (by omega);rwa [show n+((i+1:Nat):Int)=n+1+i by omega]
theorem free_fresh (l:List Pg): ∀ p∈l,p.num≠freeN l:=by
 have h:pgAt (freeN l) l 0<0:=by
  rcases freeGo_spec l (l.length+1) 1 with h|h
  ·exact h
  ·have:=mem_le (l.length+1) (l.map (·.num)) fun i h1 h2=>by
    have:=h (i-1) (by omega)
    rwa [show (1:Int)+((i-1:Nat):Int)=i by omega] at this
   rw [List.length_map] at this;omega
 rcases pgAt_cases (freeN l) l 0 with ⟨_,h2⟩|⟨j,p,h1,h2,h3,_⟩
 ·exact h2
 ·omega
theorem insPg_asc {l:List Pg} {x:Pg} (h:AscI (l.map (·.num))) (hx: ∀ p∈l,p.num≠x.num):AscI ((insPg x l).map (·.num)):=by
 unfold insPg
 have hj:=stopAt_le (fun k=>decide (x.num<(pgGet l k).num)) l.length
 have hge:=stop_ge (fun k=>decide (x.num<(pgGet l k).num)) l.length
 have hlt:=stop_lt (fun k=>decide (x.num<(pgGet l k).num)) l.length
 generalize stopAt (fun k=>decide (x.num<(pgGet l k).num)) l.length=j at *
 have hget: ∀ k:Nat,(hk:k<l.length)→pgGet l (k:Int)=l[k]:=fun k hk=>by simp [pgGet,List.getElem?_eq_getElem hk]
 have hA: ∀ y∈l.take j,y.num<x.num:=fun y hy=>by
  cases j with
  | zero=>simp at hy
  | succ i=>
    have h1:=hlt i rfl
    simp only [hget i (by omega),decide_eq_false_iff_not] at h1
    obtain ⟨k,hk,rfl⟩:=List.mem_iff_getElem.1 hy
    rw [List.length_take] at hk
    rw [List.getElem_take]
    have h3:=hx l[i] (List.getElem_mem _)
    by_cases hki:k=i
    ·subst hki;omega
    ·have h2:=ascI_get h (x:=(l[k]).num) (y:=(l[i]).num) (by rw [List.getElem?_map,List.getElem?_eq_getElem (by omega)];rfl) (by rw [List.getElem?_map,List.getElem?_eq_getElem (by omega)];rfl) (show k<i by omega)
     omega
 have hB: ∀ y∈l.drop j,x.num<y.num:=fun y hy=>by
  obtain ⟨k,hk,rfl⟩:=List.mem_iff_getElem.1 hy
  rw [List.length_drop] at hk
  have:=hge (j+k) (by omega) (by omega)
  simp only [hget (j+k) (by omega),decide_eq_true_eq] at this
  rwa [List.getElem_drop]
 have h0:((l.take j).map (·.num)++(l.drop j).map (·.num)).Pairwise (· < ·):=by rw [← List.map_append,List.take_append_drop];exact h
 obtain ⟨g1,g2,g3⟩:=List.pairwise_append.1 h0
 unfold insAt AscI
 rw [List.append_assoc,List.singleton_append,List.map_append,l_3]
 refine List.pairwise_append.2 ⟨g1,List.pairwise_cons.2 ⟨fun y hy=>?_,g2⟩,fun a ha b hb=>?_⟩
 ·obtain ⟨q,hq,rfl⟩:=List.mem_map.1 hy;exact hB q hq
 ·rcases List.mem_cons.1 hb with rfl|hb
  ·obtain ⟨q,hq,rfl⟩:=List.mem_map.1 ha;exact hA q hq
  ·exact g3 a ha b hb
theorem alloc_inv {a:Ar} {L:List Int} {d:List Int} (h:ArI a L) (hd:d.length≤1024) (hc:(a.pages.length:Int)<a.cap):ArI (allocR a d).1 ((allocR a d).2.1::L)∧(allocR a d).1.cap=a.cap∧(allocR a d).1.pages.length=a.pages.length+1:=by
 have e:allocR a d=(⟨a.cap,insPg ⟨freeN a.pages,1,d⟩ a.pages⟩,freeN a.pages,0):=by rw [allocR,if_neg (by omega),if_neg (by omega)]
 have hf:=free_fresh a.pages
 have hfl: ∀ m∈L,m≠freeN a.pages:=fun m hm e=>by
  obtain ⟨q,hq,e2⟩:=List.mem_map.1 (h.mem m hm)
  exact hf q hq (by rw [e2,e])
 have hp:(insPg ⟨freeN a.pages,1,d⟩ a.pages).Perm (⟨freeN a.pages,1,d⟩::a.pages):=insAt_perm _ _ _
 rw [e]
 refine ⟨⟨insPg_asc h.asc hf,fun q hq=>?_,fun m hm=>?_⟩,rfl,by simpa using hp.length_eq⟩
 ·have hq':q∈insPg ⟨freeN a.pages,1,d⟩ a.pages:=hq
  rcases List.mem_cons.1 (hp.mem_iff.1 hq') with rfl|hq
  ·have:L.count (freeN a.pages)=0:=List.count_eq_zero.2 fun hm=>hfl _ hm rfl
   simp only [List.count_cons_self,this];omega
  ·have:=h.refs q hq
   rw [List.count_cons_of_ne (fun e=>hf q hq e.symm)]
   exact this
 ·have hmp:=(hp.map (·.num)).mem_iff (a:=m)
  simp only [l_3,List.mem_cons] at hmp
  refine hmp.2 ?_
  rcases List.mem_cons.1 hm with rfl|hm
  ·exact .inl rfl
  ·exact .inr (h.mem m hm)
theorem allocs_inv: ∀ (l:List (List Int)) {a:Ar} {L:List Int},ArI a L→(∀ d∈l,d.length≤1024)→(a.pages.length:Int)+l.length≤a.cap→ArI (allocs a l).1 (L++(allocs a l).2)∧(allocs a l).1.cap=a.cap
 | [],a,L,h,_,_=>by simpa [allocs] using h
 | d::l,a,L,h,hd,hc=>by
   rw [List.length_cons] at hc
   obtain ⟨h1,h2,h3⟩:=alloc_inv h (hd d (by simp)) (by omega)
   obtain ⟨g1,g2⟩:=allocs_inv l h1 (fun x hx=>hd x (by simp [hx])) (by omega)
   rw [allocs]
   refine ⟨g1.perm ?_,by rw [g2,h2]⟩
   rw [List.cons_append]
   exact List.perm_middle.symm
theorem hold_cap (a:Ar) (n:Int):(holdR a n).1.cap=a.cap:=by unfold holdR;split<;>rfl
theorem needR_nn: ∀ l:List Bool,0≤needR l
 | []=>Int.le_refl _
 | b::l=>by have:=needR_nn l;rw [needR];split<;>omega
theorem puts_inv (f:Int→List Int): ∀ (l:List (List Int)) {a:Ar} {L o:List Int},ArI a L→(∀ n∈o,n∈L)→(∀ d∈l,d.length≤1024)→(a.pages.length:Int)+needR (sharedR (o.map f) l)≤a.cap→L.length+l.length≤800000→
  ArI (puts a l (sharedR (o.map f) l) o).1 (L++(puts a l (sharedR (o.map f) l) o).2)∧(puts a l (sharedR (o.map f) l) o).1.cap=a.cap
 | [],a,L,o,h,_,_,_,_=>by
   have e:sharedR (o.map f) []=[]:=by cases o<;>rfl
   rw [e]
   simpa [puts] using h
 | d::l,a,L,o,h,ho,hd,hc,hl=>by
   have key: ∀ (b:Bool) (o':List Int),sharedR (o.map f) (d::l)=b::sharedR (o'.map f) l→o.tail=o'→(b=true→o.headD 0∈L)→(∀ n∈o',n∈L)→
     ArI (puts a (d::l) (sharedR (o.map f) (d::l)) o).1 (L++(puts a (d::l) (sharedR (o.map f) (d::l)) o).2)∧(puts a (d::l) (sharedR (o.map f) (d::l)) o).1.cap=a.cap:=fun b o' e1 e2 hb ho'=>by
    rw [e1] at hc ⊢
    simp only [List.length_cons] at hl
    rw [needR] at hc
    rw [puts,e2]
    cases b with
    | true=>
      rw [if_pos rfl] at hc ⊢
      have h1:=hold_inv h (hb rfl) (by omega)
      obtain ⟨g1,g2⟩:=puts_inv f l h1 (o:=o') (fun n hn=>List.mem_cons_of_mem _ (ho' n hn)) (fun x hx=>hd x (by simp [hx])) (by rw [hold_len,hold_cap];exact hc) (by simp only [List.length_cons];omega)
      refine ⟨g1.perm ?_,by rw [g2,hold_cap]⟩
      rw [List.cons_append]
      exact List.perm_middle.symm
    | false=>
      have hnn:=needR_nn (sharedR (o'.map f) l)
      rw [if_neg (by decide)] at hc ⊢
      obtain ⟨h1,h2,h3⟩:=alloc_inv h (hd d (by simp)) (by omega)
      obtain ⟨g1,g2⟩:=puts_inv f l h1 (o:=o') (fun n hn=>List.mem_cons_of_mem _ (ho' n hn)) (fun x hx=>hd x (by simp [hx])) (by rw [h2];omega) (by simp only [List.length_cons];omega)
      refine ⟨g1.perm ?_,by rw [g2,h2]⟩
      rw [List.cons_append]
      exact List.perm_middle.symm
   cases o with
   | nil=>exact key false [] rfl rfl (fun e=>by cases e) ho
   | cons n o=>exact key (decide (f n=d)) o rfl rfl (fun _=>ho n (by simp)) fun m hm=>ho m (by simp [hm])
end Go.Proofs.YtmgodadmafcliaaGreat
/- The reference's store: its invariants (plain): chains are valid, numbers ascend, pages are those that versions name. -/
set_option linter.unusedSimpArgs false
set_option linter.unusedVariables false
namespace Go.Proofs.YtmgodadmafcliaaGreat
open Go.RowKit Go.Avm
structure OkV (l:List Ver):Prop where
 range: ∀ v∈l,1≤v.from_∧0≤v.to∧0≤v.size∧(v.to≠0→v.from_<v.to)
 asc:l.Pairwise (fun a b=>a.to≠0∧a.to≤b.from_)
theorem OkV.tail {v:Ver} {l:List Ver} (h:OkV (v::l)):OkV l∧ ∀ q∈l,v.to≠0∧v.to≤q.from_:=by
 have:=h.asc
 rw [List.pairwise_cons] at this
 exact ⟨⟨fun q hq=>h.range q (List.mem_cons_of_mem _ hq),this.2⟩,this.1⟩
theorem validV_of: ∀ (l:List Ver) (prev:Option Ver),OkV l→(∀ q,prev=some q→ ∀ v∈l,q.to≠0∧q.to≤v.from_)→validV prev l=0
 | [],_,_,_=>rfl
 | v::l,prev,ok,h=>by
   obtain ⟨ok',hab⟩:=ok.tail
   have hr:=ok.range v (by simp)
   have:=validV_of l (some v) ok' (fun q e=>by cases e;exact hab)
   unfold validV
   rw [if_neg (by omega),if_neg (by omega)]
   cases prev with
   | none=>simpa using this
   | some q=>
     have:=h q rfl v (by simp)
     simp only
     rw [if_neg (by omega)];assumption
theorem OkV.sub {l m:List Ver} (h:OkV l) (hs:m.Sublist l):OkV m:=⟨fun v hv=>h.range v (hs.subset hv),h.asc.sublist hs⟩
/-- Closed, if it was open. -/
def keepU (u:Ver) (f:Int):Ver:=if u.to=0 then { u with to:=f } else u
theorem keepU_is (u:Ver) (f:Int) (h1:u.from_<f) (h2:u.to≤f) (h3:u.to≠0→u.from_<u.to) (h4:0≤u.to) (h5:1≤u.from_):(keepU u f).from_=u.from_∧(keepU u f).to≠0∧(keepU u f).to≤f∧u.from_<(keepU u f).to∧(keepU u f).size=u.size∧(keepU u f).pages=u.pages:=by
 unfold keepU;split
 ·exact ⟨rfl,by simp only;omega,by simp,h1,rfl,rfl⟩
 ·exact ⟨rfl,by assumption,h2,h3 (by assumption),rfl,rfl⟩
theorem keep_ok {pre:List Ver} {u:Ver} {f s:Int} {p:List Int} (ok:OkV (pre++[u])) (h1:u.from_<f) (h2:u.to≤f) (hs:0≤s) (h0:1≤f):OkV (pre++[keepU u f]++[⟨f,0,s,p⟩]):=by
 have hu:=ok.range u (by simp)
 obtain ⟨a1,a2,a3⟩:=List.pairwise_append.1 ok.asc
 have hU:=keepU_is u f h1 h2 hu.2.2.2 hu.2.1 hu.1
 refine ⟨fun v hv=>?_,?_⟩
 ·simp only [List.mem_append,List.mem_singleton] at hv
  rcases hv with (hv|rfl)|rfl
  ·exact ok.range v (by simp [hv])
  ·omega
  ·simp only;omega
 ·rw [List.pairwise_append,List.pairwise_append]
  refine ⟨⟨a1,by simp,fun a ha b hb=>?_⟩,by simp,fun a ha b hb=>?_⟩
  ·simp only [List.mem_singleton] at hb
   subst hb
   have:=a3 a ha u (by simp)
   exact ⟨this.1,by rw [hU.1];exact this.2⟩
  ·simp only [List.mem_singleton] at hb
   subst hb
   simp only [List.mem_append,List.mem_singleton] at ha
   rcases ha with ha|rfl
   ·have:=a3 a ha u (by simp)
    exact ⟨this.1,by simp only;omega⟩
   ·exact ⟨hU.2.1,hU.2.2.1⟩
theorem keep_append {pre:List Ver} {u:Ver} {f s:Int} {p:List Int} (ok:OkV (pre++[u])) (h1:u.from_<f) (h2:u.to≤f) (hs:0≤s):appendV (pre++[u]) ⟨f,0,s,p⟩=(pre++[keepU u f]++[⟨f,0,s,p⟩],0):=by
 have hz:validV none (pre++[u])=0:=validV_of _ none ok (by simp)
 have hu:=ok.range u (by simp)
 have hg:(pre++[u])[(pre++[u]).length-1]? = some u:=by simp
 unfold appendV
 rw [hz,if_neg (by simp),if_neg (by simp only;omega),hg]
 simp only
 rw [if_neg (by omega)]
 unfold keepU
 split
 ·simp
 ·rfl
theorem keep_close {pre:List Ver} {u:Ver} {c:Int} (ok:OkV (pre++[u])) (h1:u.from_<c) (h2:u.to=0):closeV (pre++[u]) c=(pre++[keepU u c],0):=by
 have hz:validV none (pre++[u])=0:=validV_of _ none ok (by simp)
 have hg:(pre++[u])[(pre++[u]).length-1]? = some u:=by simp
 unfold closeV keepU
 rw [hz,if_neg (by simp),hg]
 simp only
 rw [if_neg (by omega),if_neg (by omega),if_pos h2]
 simp
theorem last_split {l:List Ver} {k:Nat} {v:Ver} (h:l[k]? = some v): ∃ pre u,l=pre++[u]:=by
 have hne:l≠[]:=fun e=>by subst e;simp at h
 exact ⟨l.dropLast,l.getLast hne,(List.dropLast_concat_getLast hne).symm⟩
theorem set_split {l:List Ob} {j:Nat} {o:Ob} (h:l[j]? = some o): ∃ A B,l=A++o::B∧A.length=j∧(∀ x,l.set j x=A++x::B)∧delAt l (j:Int)=A++B:=by
 have hj:=(List.getElem?_eq_some_iff.1 h).1
 have hA:(l.take j).length=j:=by rw [List.length_take];omega
 have e:l=l.take j++o::l.drop (j+1):=by rw [← drop_get h,List.take_append_drop]
 refine ⟨l.take j,l.drop (j+1),e,hA,fun x=>?_,rfl⟩
 conv=>lhs;rw [e]
 rw [List.set_append_right _ _ (by omega),hA,Nat.sub_self]
 rfl
theorem pgsV_app (l m:List Ver):pgsV (l++m)=pgsV l++pgsV m:=by simp [pgsV]
theorem pgsO_app (l m:List Ob):pgsO (l++m)=pgsO l++pgsO m:=by simp [pgsO]
theorem pgsO_cons (o:Ob) (m:List Ob):pgsO (o::m)=pgsV o.vers++pgsO m:=by simp [pgsO]
theorem pgs_keep (pre:List Ver) (u:Ver) (f:Int):pgsV (pre++[keepU u f])=pgsV (pre++[u]):=by
 rw [pgsV_app,pgsV_app]
 congr 1
 unfold keepU;split<;>simp [pgsV]
structure SrI (s:Sr):Prop where
 ids:AscI (s.objs.map (·.id))
 idr: ∀ o∈s.objs,1≤o.id∧o.id≤s.last
 ok: ∀ o∈s.objs,OkV o.vers
 com: ∀ o∈s.objs, ∀ v∈o.vers,v.from_≤s.commit∧v.to≤s.commit
 ar:ArI s.ar (pgsO s.objs)
 cap:s.ar.cap=s.c.pag
theorem flat_le {α β:Type} (f:α→List β) (k:Nat): ∀ (l:List α),(∀ x∈l,(f x).length≤k)→(l.flatMap f).length≤k*l.length
 | [],_=>Nat.le_refl _
 | x::l,h=>by
   have h1:=flat_le f k l fun y hy=>h y (by simp [hy])
   have h2:=h x (by simp)
   rw [List.flatMap_cons,List.length_append,List.length_cons,Nat.mul_add];omega
theorem pgsO_len {i:Nat} {s:Sr} (h:SrB i s) (hi:i≤13):(pgsO s.objs).length≤10309:=by
 have h1:=flat_le (fun o:Ob=>pgsV o.vers) (61*13) s.objs fun o ho=>by
  have h2:=flat_le (fun v:Ver=>v.pages) 61 o.vers fun v hv=>((h.hv o ho).2 v hv).1
  have h3:=(h.hv o ho).1
  have h4:61*o.vers.length≤61*13:=Nat.mul_le_mul_left _ (by omega)
  exact Nat.le_trans h2 h4
 have h5:61*13*s.objs.length≤61*13*13:=Nat.mul_le_mul_left _ (by have:=h.ho;omega)
 exact Nat.le_trans h1 h5
/-- A chain put in the place of one. -/
theorem SrI.setv {s:Sr} {i:Nat} {j:Nat} {o:Ob} {vs:List Ver} {ps:List Int} {a:Ar} {com:Int} {s':Sr} (h:SrI s) (hj:s.objs[j]? = some o) (hok:OkV vs) (hcm:s.commit≤com) (hv: ∀ v∈vs,v.from_≤com∧v.to≤com) (hp:(pgsV o.vers++ps).Perm (pgsV vs)) (ha:ArI a (pgsO s.objs++ps)) (hc:a.cap=s.ar.cap)
  (e1:s'.objs=setVers s.objs (j:Int) vs) (e2:s'.commit=com) (e3:s'.last=s.last) (e4:s'.ar=a) (e5:s'.c=s.c):SrI s':=by
 obtain ⟨A,B,hl,hA,hset,_⟩:=set_split hj
 have hog:obGet s.objs (j:Int)=o:=by simp [obGet,hj]
 have e1':s'.objs=A++⟨o.id,vs⟩::B:=by rw [e1,setVers,hog,Int.toNat_natCast,hset]
 have hmem: ∀ x∈s'.objs,x∈s.objs∨x=⟨o.id,vs⟩:=fun x hx=>by
  rw [e1'] at hx
  rw [hl]
  simp only [List.mem_append,List.mem_cons] at hx ⊢
  rcases hx with hx|hx|hx
  ·exact .inl (.inl hx)
  ·exact .inr hx
  ·exact .inl (.inr (.inr hx))
 have ho:o∈s.objs:=List.mem_of_getElem? hj
 refine ⟨?_,fun x hx=>?_,fun x hx=>?_,fun x hx=>?_,?_,by rw [e4,e5,hc];exact h.cap⟩
 ·have:=h.ids
  rw [hl] at this
  rw [e1']
  simpa using this
 ·rw [e3]
  rcases hmem x hx with hx|rfl
  ·exact h.idr x hx
  ·exact h.idr o ho
 ·rcases hmem x hx with hx|rfl
  ·exact h.ok x hx
  ·exact hok
 ·rw [e2]
  rcases hmem x hx with hx|rfl
  ·intro v hv;have:=h.com x hx v hv;omega
  ·exact hv
 ·rw [e4,e1']
  refine ha.perm ?_
  rw [hl,pgsO_app,pgsO_cons,pgsO_app,pgsO_cons,List.append_assoc]
  refine List.Perm.append_left _ ?_
  have h1:(pgsV o.vers++pgsO B++ps).Perm (pgsV o.vers++ps++pgsO B):=by
   rw [List.append_assoc,List.append_assoc]
   exact List.Perm.append_left _ List.perm_append_comm
  exact h1.trans (hp.append_right _)
theorem ver_found {s:Sr} {n:ByteArray} {c:Int} (h:(verR s n c).2.2=true): ∃ (j k:Nat) (o:Ob) (v:Ver),s.objs[j]? = some o∧o.vers[k]? = some v∧holdsF v.from_ v.to c=true∧verR s n c=((j:Int),v,true):=by
 rcases verR_split s n c with ⟨e,_⟩|⟨j,k,o,v,h1,q1,q2,q3,q4,q5,q6,e⟩
 ·rw [e] at h;cases h
 ·refine ⟨j,k,o,v,q1,q4,?_,e⟩
  have: ∀ (l:List Ver) (i m:Nat),findN c l i=(((i+m:Nat):Int),true)→ ∀ u,l[m]? = some u→holdsF u.from_ u.to c=true:=by
   intro l
   induction l with
   | nil=>intro i m _ u hu;simp at hu
   | cons w l ih=>
     intro i m hf u hu
     rw [findN] at hf
     split at hf
     ·rename_i hw
      injection hf with hf1 _
      have:m=0:=by omega
      subst this
      simp only [l_6,l_5] at hu
      subst hu;exact hw
     ·cases m with
      | zero=>
        exfalso
        rcases findN_split c l (i+1) with g|⟨k',u',g1,g2⟩
        ·rw [g] at hf;injection hf with _ hf2;cases hf2
        ·rw [g2] at hf;injection hf with hf1 _;omega
      | succ m=>
        exact ih (i+1) m (by rw [hf];congr 2;omega) u (by simpa using hu)
  exact this o.vers 0 k (by rw [q6,Nat.zero_add]) v q4
/-- A chain's last version, and whether it is open. -/
theorem open_last {pre:List Ver} {u v:Ver} {c:Int} (ok:OkV (pre++[u])) (hc: ∀ w∈pre++[u],w.from_≤c∧w.to≤c) (hm:v∈pre++[u]) (hh:holdsF v.from_ v.to c=true):v=u∧u.to=0:=by
 have h1:=hc v hm
 have hr:=ok.range v hm
 have h0:v.to=0:=by
  simp only [holdsF,Bool.and_eq_true,Bool.or_eq_true,decide_eq_true_eq] at hh
  omega
 rcases List.mem_append.1 hm with hm|hm
 ·obtain ⟨_,_,a3⟩:=List.pairwise_append.1 ok.asc
  have:=(a3 v hm u (by simp)).1
  omega
 ·have:=List.mem_singleton.1 hm
  subst this;exact ⟨rfl,h0⟩
theorem createI {i:Nat} {s:Sr} {m:ByteArray} {n:Int} (h:SrI s) (hb:SrB i s):SrI (createR s m (bytesK n)).1:=by
 have hsp:=split_ok n s.c.psz
 unfold createR
 split
 ·exact h
 ·split
  ·exact h
  ·split
   ·exact h
   ·split
    ·exact h
    ·rename_i hcc
     simp only [not_or,Int.not_le,Int.not_lt] at hcc
     obtain ⟨g1,g2⟩:=allocs_inv (splitR (bytesK n) s.c.psz).1 h.ar (fun d hd=>(hsp.2 d hd).1) (by rw [h.cap];omega)
     have hcm:=hb.hc
     have hla:=hb.hl
     refine ⟨?_,fun o ho=>?_,fun o ho=>?_,fun o ho v hv=>?_,?_,?_⟩
     ·simp only [List.map_append,l_3,l_4]
      refine List.pairwise_append.2 ⟨h.ids,List.pairwise_singleton _ _,fun a ha b hb=>?_⟩
      obtain ⟨o,ho,rfl⟩:=List.mem_map.1 ha
      rw [List.mem_singleton] at hb
      have:=(h.idr o ho).2
      omega
     ·rcases List.mem_append.1 ho with ho|ho
      ·have:=h.idr o ho
       exact ⟨this.1,by simp only;omega⟩
      ·rw [List.mem_singleton.1 ho];simp only;omega
     ·rcases List.mem_append.1 ho with ho|ho
      ·exact h.ok o ho
      ·rw [List.mem_singleton.1 ho]
       refine ⟨fun v hv=>?_,List.pairwise_singleton _ _⟩
       rw [List.mem_singleton.1 hv];simp only;omega
     ·rcases List.mem_append.1 ho with ho|ho
      ·have:=h.com o ho v hv
       simp only;omega
      ·rw [List.mem_singleton.1 ho] at hv
       rw [List.mem_singleton.1 hv];simp only;omega
     ·simp only
      refine g1.perm ?_
      rw [pgsO_app]
      exact List.Perm.append_left _ (by simp [pgsO,pgsV])
     ·simp only;rw [g2];exact h.cap
theorem putI {i:Nat} {s:Sr} {m:ByteArray} {n:Int} (h:SrI s) (hb:SrB i s) (hi:i≤13):SrI (putR s m (bytesK n)).1:=by
 have hsp:=split_ok n s.c.psz
 have hbl:=(bytesK_ok n).1
 unfold putR
 split
 ·exact h
 ·split
  ·exact h
  ·rename_i _ hv
   obtain ⟨j,k,o,v,hj,hk,hh,e⟩:=ver_found (by simpa using hv)
   rw [e]
   simp only
   split
   ·exact h
   ·rename_i hcc
    simp only [not_or,Int.not_le,Int.not_lt] at hcc
    have ho:=List.mem_of_getElem? hj
    have hvm:=List.mem_of_getElem? hk
    have hom: ∀ z∈v.pages,z∈pgsO s.objs:=fun z hz=>List.mem_flatMap.2 ⟨o,ho,List.mem_flatMap.2 ⟨v,hvm,hz⟩⟩
    have hln:=pgsO_len hb hi
    obtain ⟨g1,g2⟩:=puts_inv (fun z=>(dataR s.ar z).1) (splitR (bytesK n) s.c.psz).1 h.ar hom (fun d hd=>(hsp.2 d hd).1) (by rw [h.cap];simp only [storedR] at hcc;omega) (by have:=hsp.1;omega)
    have hog:obGet s.objs (j:Int)=o:=by simp [obGet,hj]
    have hcm:=hb.hc
    obtain ⟨pre,u,hpu⟩:=last_split hk
    have hok:=h.ok o ho
    have hco:=h.com o ho
    rw [hpu] at hok hco
    have huc:=hco u (by simp)
    rw [hog]
    simp only [storedR]
    generalize puts s.ar (splitR (bytesK n) s.c.psz).1 (sharedR (v.pages.map fun z=>(dataR s.ar z).1) (splitR (bytesK n) s.c.psz).1) v.pages=P at *
    have e2:appendV o.vers ⟨s.commit+1,0,(bytesK n).length,P.2⟩=(pre++[keepU u (s.commit+1)]++[⟨s.commit+1,0,(bytesK n).length,P.2⟩],0):=by
     rw [hpu];exact keep_append hok (by omega) (by omega) (by omega)
    rw [e2]
    refine SrI.setv (i:=i) (s:=s) h hj (keep_ok (p:=P.2) (s:=(bytesK n).length) hok (f:=s.commit+1) (by omega) (by omega) (by omega) (by omega)) (com:=s.commit+1) (by omega) (fun w hw=>?_) (ps:=P.2) ?_ g1 g2 rfl rfl rfl rfl rfl
    ·have hur:=hok.range u (by simp)
     have hU:=keepU_is u (s.commit+1) (by omega) (by omega) hur.2.2.2 hur.2.1 hur.1
     simp only [List.mem_append,List.mem_singleton] at hw
     rcases hw with (hw|rfl)|rfl
     ·have:=hco w (by simp [hw]);omega
     ·rw [hU.1];omega
     ·simp only;omega
    ·rw [pgsV_app,pgs_keep,hpu]
     simp [pgsV]
theorem dropI {i:Nat} {s:Sr} {m:ByteArray} (h:SrI s) (hb:SrB i s):SrI (dropR s m).1:=by
 unfold dropR
 split
 ·exact h
 ·rename_i hv
  obtain ⟨j,k,o,v,hj,hk,hh,e⟩:=ver_found (by simpa using hv)
  rw [e]
  simp only
  split
  ·exact h
  ·have ho:=List.mem_of_getElem? hj
   have hvm:=List.mem_of_getElem? hk
   have hog:obGet s.objs (j:Int)=o:=by simp [obGet,hj]
   have hcm:=hb.hc
   obtain ⟨pre,u,hpu⟩:=last_split hk
   have hok:=h.ok o ho
   have hco:=h.com o ho
   rw [hpu] at hok hco hvm
   have huc:=hco u (by simp)
   obtain ⟨_,hu0⟩:=open_last hok hco hvm hh
   have hur:=hok.range u (by simp)
   have hU:=keepU_is u (s.commit+1) (by omega) (by omega) hur.2.2.2 hur.2.1 hur.1
   rw [hog,hpu,keep_close hok (by omega) hu0]
   have hk2:OkV (pre++[keepU u (s.commit+1)]):=(keep_ok (p:=[]) (s:=0) hok (f:=s.commit+1) (by omega) (by omega) (by omega) (by omega)).sub (List.sublist_append_left _ _)
   refine SrI.setv (i:=i) (s:=s) h hj hk2 (com:=s.commit+1) (by omega) (fun w hw=>?_) (ps:=[]) ?_ (by simpa using h.ar) rfl rfl rfl rfl rfl rfl
   ·simp only [List.mem_append,List.mem_singleton] at hw
    rcases hw with hw|rfl
    ·have:=hco w (by simp [hw]);omega
    ·rw [hU.1];omega
   ·rw [pgs_keep,hpu];simp
theorem sameI {s s':Sr} (h:SrI s) (e1:s'.objs=s.objs) (e2:s.commit≤s'.commit) (e3:s'.last=s.last) (e4:s'.ar=s.ar) (e5:s'.c=s.c):SrI s':=
 ⟨by rw [e1];exact h.ids,by rw [e1,e3];exact h.idr,by rw [e1];exact h.ok,fun o ho v hv=>by rw [e1] at ho;have:=h.com o ho v hv;omega,by rw [e1,e4];exact h.ar,by rw [e4,e5];exact h.cap⟩
theorem renameI {s:Sr} {m k:ByteArray} (h:SrI s):SrI (renameR s m k).1:=by
 unfold renameR
 repeat' split
 all_goals exact sameI h rfl (by simp only;omega) rfl rfl rfl
theorem pinI {s:Sr} {c:Int} (h:SrI s):SrI (pinR s c).1:=by
 unfold pinR
 repeat' split
 all_goals exact sameI h rfl (by simp only;omega) rfl rfl rfl
theorem unpinI {s:Sr} {c:Int} (h:SrI s):SrI (unpinR s c).1:=by
 unfold unpinR
 repeat' split
 all_goals exact sameI h rfl (by simp only;omega) rfl rfl rfl
theorem changeI {i:Nat} {s:Sr} {n:Int} (h:SrI s) (hb:SrB i s) (hi:i≤13):SrI (changeR s n):=by
 unfold changeR
 repeat' split
 ·exact createI h hb
 ·exact putI h hb hi
 ·exact dropI h hb
 ·exact renameI h
 ·exact pinI h
 ·exact h
 ·exact unpinI h
theorem newI (n:Int):SrI (newR (cfgK n)).1:=by
 unfold newR
 rw [if_neg (by rw [cfgK_ok];decide)]
 exact ⟨List.Pairwise.nil,by simp,by simp,by simp,⟨List.Pairwise.nil,by simp,by simp [pgsO]⟩,rfl⟩
theorem storeGoI (l:List Int) (k:Nat): ∀ (i:Nat) (s:Sr),i+k≤13→SrB i s→SrI s→SrI (storeGo l k i s):=by
 induction k with
 | zero=>intro i s _ _ h;exact h
 | succ k ih=>
   intro i s hi hb h
   rw [storeGo]
   split
   ·exact ih (i+1) _ (by omega) (changeR_ok (n:=atK l i) hb) (changeI (n:=atK l i) h hb (by omega))
   ·exact h
theorem storeI (l:List Int):SrI (storeR l):=storeGoI l 12 1 _ (by omega) (newR_ok _) (newI _)
end Go.Proofs.YtmgodadmafcliaaGreat
/- Collector: what removing garbage from the reference's store leaves (plain). -/
set_option linter.unusedSimpArgs false
set_option linter.unusedVariables false
namespace Go.Proofs.YtmgodadmafcliaaGreat
open Go.RowKit Go.Avm
def entsS (s:Sr):List Vn:=s.objs.flatMap vnsO
def LtV (x y:Vn):Prop:=x.id<y.id∨(x.id=y.id∧x.v.from_<y.v.from_)
theorem ents_asc {s:Sr} (h:SrI s):(entsS s).Pairwise LtV:=by
 unfold entsS
 refine List.pairwise_flatMap.2 ⟨fun o ho=>?_,?_⟩
 ·unfold vnsO
  refine List.pairwise_map.2 ?_
  have hok:=h.ok o ho
  refine hok.asc.imp_of_mem fun {a b} ha hb hab=>?_
  have:=hok.range a ha
  exact .inr ⟨rfl,by simp only;have:=this.2.2.2 hab.1;omega⟩
 ·have:=List.pairwise_map.1 h.ids
  refine this.imp fun {a b} hab x hx y hy=>?_
  obtain ⟨v,_,rfl⟩:=List.mem_map.1 hx
  obtain ⟨w,_,rfl⟩:=List.mem_map.1 hy
  exact .inl hab
theorem stop_all {p:Nat→Bool} {n:Nat} (h: ∀ k<n,p k=false):stopAt p n=n:=by
 cases n with
 | zero=>rfl
 | succ n=>rw [stopAt,if_neg (by rw [h n (by omega)];decide)]
theorem insV_end {x:Vn} {a:List Vn} (h: ∀ y∈a,LtV y x):insV x a=a++[x]:=by
 unfold insV
 rw [stop_all fun k hk=>?_,insAt_end]
 simp only [vnGet,List.getElem?_eq_getElem hk,Option.getD_some]
 have:=h a[k] (List.getElem_mem _)
 rw [bef_not]
 unfold LtV at this;omega
theorem sortV_id: ∀ (l a:List Vn),(a++l).Pairwise LtV→sortV a l=a++l
 | [],a,_=>by simp [sortV]
 | x::l,a,h=>by
   have h2:=(List.pairwise_append.1 h).2.2
   rw [sortV,insV_end fun y hy=>h2 y hy x (by simp)]
   have e:a++x::l=a++[x]++l:=by simp
   rw [e] at h ⊢
   exact sortV_id l _ h
theorem versR_ents {s:Sr} (h:SrI s):versR s.objs []=entsS s:=by
 rw [versR_sortV]
 exact sortV_id _ [] (by rw [List.nil_append];exact ents_asc h)
end Go.Proofs.YtmgodadmafcliaaGreat
