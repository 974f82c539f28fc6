/- Audit: the maps of the program, told as lists; the verdicts of the program and of the reference agree (plain). -/
import Derived.Test.YtmgodadmafcliaaRAuP
set_option linter.unusedSimpArgs false
set_option linter.unusedVariables false
namespace Go.Proofs.Ytmgodadmafcliaa
open Go.RowKit Go.Avm
def mapI (l:List (Int×Int)):List (Value×D):=l.map fun x=>(.int .i64 x.1, .sc (.int .i64 x.2))
def aFind (n:Int):List (Int×Int)→Option Int
 | []=>none
 | x::l=>if x.1=n then some x.2 else aFind n l
def aSet (n v:Int):List (Int×Int)→List (Int×Int)
 | []=>[(n,v)]
 | x::l=>if x.1=n then (n,v)::l else x::aSet n v l
def aDel (n:Int):List (Int×Int)→List (Int×Int)
 | []=>[]
 | x::l=>if x.1=n then l else x::aDel n l
theorem keyB_int (a b:Int):keyB (.int .i64 a) (.int .i64 b)=(a==b):=rfl
theorem mFind_I (n:Int): ∀ l,mFind (.int .i64 n) (mapI l)=(aFind n l).map fun v=>D.sc (.int .i64 v)
 | []=>rfl
 | x::l=>by
   have h:=mFind_I n l
   simp only [mapI,l_3,mFind,aFind,keyB_int,beq_iff_eq] at h ⊢
   split
   ·rfl
   ·exact h
theorem mSet_I (n v:Int): ∀ l,mSet (.int .i64 n) (.sc (.int .i64 v)) (mapI l)=mapI (aSet n v l)
 | []=>rfl
 | x::l=>by
   have h:=mSet_I n v l
   simp only [mapI,l_3,mSet,aSet,keyB_int,beq_iff_eq] at h ⊢
   split
   ·rfl
   ·rw [h];rfl
theorem mDel_I (n:Int): ∀ l,mDel (.int .i64 n) (mapI l)=mapI (aDel n l)
 | []=>rfl
 | x::l=>by
   have h:=mDel_I n l
   simp only [mapI,l_3,mDel,aDel,keyB_int,beq_iff_eq] at h ⊢
   split
   ·rfl
   ·rw [h];rfl
theorem mapI_len (l:List (Int×Int)):(mapI l).length=l.length:=by simp [mapI]
def aGet (n:Int) (l:List (Int×Int)):Int:=(aFind n l).getD 0
def bump (l:List (Int×Int)) (n:Int):List (Int×Int):=aSet n (wr (aGet n l+1)) l
theorem aFind_set (n v m:Int): ∀ l,aFind m (aSet n v l)=if m=n then some v else aFind m l
 | []=>by
   simp only [aSet,aFind]
   by_cases h:m=n
   ·rw [if_pos h,if_pos h.symm]
   ·rw [if_neg h,if_neg (Ne.symm h)]
 | x::l=>by
   have ih:=aFind_set n v m l
   by_cases h1:x.1=n
   ·rw [aSet,if_pos h1]
    simp only [aFind]
    by_cases h:m=n
    ·rw [if_pos h,if_pos h.symm]
    ·rw [if_neg h,if_neg (Ne.symm h),if_neg (by omega)]
   ·rw [aSet,if_neg h1]
    simp only [aFind]
    by_cases h2:x.1=m
    ·rw [if_pos h2,if_pos h2,if_neg (by omega)]
    ·rw [if_neg h2,if_neg h2,ih]
theorem cntW_bump (m:Int): ∀ (L:List Int) (l:List (Int×Int)),aGet m (L.foldl bump l)=cntW m L (aGet m l)
 | [],_=>rfl
 | x::L,l=>by
   rw [List.foldl_cons,cntW_bump m L (bump l x)]
   have:aGet m (bump l x)=if x=m then wr (aGet m l+1) else aGet m l:=by
    unfold bump
    rw [aGet,aFind_set]
    by_cases h:m=x
    ·subst h;rw [if_pos rfl,if_pos rfl];rfl
    ·rw [if_neg h,if_neg (Ne.symm h)];rfl
   rw [this,cntW]
   split<;>rfl
/-- The count depends on the numbers alone, not on their order. -/
theorem cntW_perm {m:Int} {a b:List Int} (h:a.Perm b): ∀ s,cntW m a s=cntW m b s:=by
 induction h with
 | nil=>intro s;rfl
 | cons x _ ih=>intro s;simp only [cntW];split<;>exact ih _
 | swap x y l=>
   intro s
   simp only [cntW]
   by_cases h1:x=m<;>by_cases h2:y=m<;>simp only [h1,h2,if_true,if_false]
 | trans _ _ ih1 ih2=>intro s;rw [ih1,ih2]
theorem cntW_app (m:Int): ∀ (a b:List Int) (s:Int),cntW m (a++b) s=cntW m b (cntW m a s)
 | [],_,_=>rfl
 | x::a,b,s=>by
   simp only [List.cons_append,cntW]
   split<;>exact cntW_app m a b _
/-- Ascending without repetitions. -/
def AscI (l:List Int):Prop:=l.Pairwise (· < ·)
theorem ascI_get {l:List Int} (h:AscI l) {i j:Nat} {x y:Int} (hx:l[i]? = some x) (hy:l[j]? = some y) (hij:i<j):x<y:=by
 obtain ⟨h1,rfl⟩:=List.getElem?_eq_some_iff.1 hx
 obtain ⟨h2,rfl⟩:=List.getElem?_eq_some_iff.1 hy
 exact List.pairwise_iff_getElem.1 h i j h1 h2 hij
theorem aSet_new {n v:Int}: ∀ {l:List (Int×Int)},(∀ x∈l,x.1≠n)→aSet n v l=l++[(n,v)]
 | [],_=>rfl
 | x::l,h=>by
   rw [aSet,if_neg (h x (by simp)),aSet_new (fun y hy=>h y (by simp [hy]))];rfl
/-- The sizes of the pages. -/
def szM (ps:List Pg):List (Int×Int):=ps.map fun p=>(p.num,(p.data.length:Int))
theorem szM_set {ps:List Pg} {k:Nat} {p:Pg} (h:AscI (ps.map (·.num))) (hp:ps[k]? = some p):aSet p.num p.data.length (szM (ps.take k))=szM (ps.take (k+1)):=by
 rw [aSet_new,List.take_add_one,hp]
 ·simp [szM]
 ·intro x hx
  simp only [szM,List.mem_map] at hx
  obtain ⟨q,hq,rfl⟩:=hx
  obtain ⟨i,hi⟩:=List.getElem?_of_mem hq
  have hik:i<k:=by
   have:=(List.getElem?_eq_some_iff.1 hi).1
   rw [List.length_take] at this;omega
  rw [List.getElem?_take_of_lt hik] at hi
  have:=ascI_get h (i:=i) (j:=k) (x:=q.num) (y:=p.num) (by rw [List.getElem?_map,hi];rfl) (by rw [List.getElem?_map,hp];rfl) hik
  simp only;omega
theorem pgAt_cases (n:Int): ∀ (l:List Pg) (k:Nat),(pgAt n l k = -1∧ ∀ p∈l,p.num≠n)∨ ∃ j p,l[j]? = some p∧p.num=n∧pgAt n l k=((k+j:Nat):Int)∧ ∀ i q,i<j→l[i]? = some q→q.num≠n
 | [],k=> .inl ⟨rfl,by simp⟩
 | p::l,k=>by
   unfold pgAt
   by_cases h:p.num=n
   ·exact .inr ⟨0,p,rfl,h,by rw [if_pos h];simp,by omega⟩
   ·rw [if_neg h]
    rcases pgAt_cases n l (k+1) with ⟨h1,h1'⟩|⟨j,u,h1,h2,h3,h4⟩
    ·exact .inl ⟨h1,fun q hq=>by rcases List.mem_cons.1 hq with rfl|hq;exact h;exact h1' q hq⟩
    ·refine .inr ⟨j+1,u,by simpa using h1,h2,by rw [h3];congr 1;omega,fun i q hi hq=>?_⟩
     cases i with
     | zero=>simp only [l_6,l_5] at hq;subst hq;exact h
     | succ i=>exact h4 i q (by omega) (by simpa using hq)
theorem szM_find (ps:List Pg) (n:Int):aFind n (szM ps)=pgLen ps n:=by
 have key: ∀ (l:List Pg) (k:Nat),(pgAt n l k = -1→aFind n (szM l)=none)∧ ∀ (j:Nat) (p:Pg),l[j]? = some p→p.num=n→(∀ (i:Nat) (q:Pg),i<j→l[i]? = some q→q.num≠n)→aFind n (szM l)=some (p.data.length:Int):=by
  intro l
  induction l with
  | nil=>intro k;exact ⟨fun _=>rfl,fun j p h=>by simp at h⟩
  | cons q l ih=>
    intro k
    constructor
    ·intro h
     unfold pgAt at h
     split at h
     ·omega
     ·rename_i hq
      simp only [szM,l_3,aFind]
      rw [if_neg hq]
      exact (ih (k+1)).1 h
    ·intro j p hj hn hlt
     simp only [szM,l_3,aFind]
     cases j with
     | zero=>
       simp only [l_6,l_5] at hj
       subst hj
       rw [if_pos hn]
     | succ j=>
       rw [if_neg (hlt 0 q (by omega) rfl)]
       exact (ih (k+1)).2 j p (by simpa using hj) hn (fun i r hi hr=>hlt (i+1) r (by omega) (by simpa using hr))
 unfold pgLen
 rcases pgAt_cases n ps 0 with ⟨h,_⟩|⟨j,p,h1,h2,h3,h4⟩
 ·rw [(key ps 0).1 h,h];rfl
 ·rw [(key ps 0).2 j p h1 h2 h4,h3,if_neg (by omega)]
  simp [h1]
/-- The pins' counts against what is left. -/
def gtP (left:Int):List Pn→Bool
 | []=>false
 | p::l=>decide (left<p.count)||gtP (left-p.count) l
theorem totalP_ge: ∀ (l:List Pn) (n:Int),(∀ p∈l,1≤p.count)→0≤n→n≤1099511627776→n≤totalP l n
 | [],n,_,_,_=>by simp [totalP]
 | p::l,n,h,h0,h1=>by
   have hp:=h p (by simp)
   have:n≤cap40 n p.count∧cap40 n p.count≤1099511627776:=by simp only [cap40];omega
   have:=totalP_ge l (cap40 n p.count) (fun q hq=>h q (by simp [hq])) (by omega) (by omega)
   rw [totalP];omega
theorem gtP_total {m:Int} (hm:m≤1024): ∀ (l:List Pn) (n:Int),(∀ p∈l,1≤p.count∧p.count≤1024)→0≤n→n≤m→gtP (m-n) l=decide (m<totalP l n)
 | [],n,_,h0,h1=>(decide_eq_false (show ¬ m<n by omega)).symm
 | p::l,n,h,h0,h1=>by
   have hp:=h p (by simp)
   have e:cap40 n p.count=n+p.count:=by simp only [cap40];omega
   rw [gtP,totalP,e]
   by_cases hlt:m-n<p.count
   ·have:=totalP_ge l (n+p.count) (fun q hq=>(h q (by simp [hq])).1) (by omega) (by omega)
    rw [decide_eq_true hlt,decide_eq_true (by omega)];rfl
   ·rw [decide_eq_false hlt,Bool.false_or,show m-n-p.count=m-(n+p.count) by omega]
    exact gtP_total hm l (n+p.count) (fun q hq=>h q (by simp [hq])) (by omega) (by omega)
/-- The program's walk through the objects with the names that are left. -/
def nmGo:List Ob→List (Int×Int)→Bool
 | [],l=>decide ((l.length:Int)=0)
 | o::os,l=>if curO o=true then (if aGet o.id l=1 then nmGo os (aDel o.id l) else false) else nmGo os l
def opens (l:List Bd):List Int:=(l.filter fun b=>b.to==0).map (·.obj)
def KN (l:List (Int×Int)):Prop:=(l.map (·.1)).Nodup
theorem aSet_keys (n v:Int): ∀ l,((aSet n v l).map (·.1))=if n∈l.map (·.1) then l.map (·.1) else l.map (·.1)++[n]
 | []=>by simp [aSet]
 | x::l=>by
   have ih:=aSet_keys n v l
   by_cases h:x.1=n
   ·rw [aSet,if_pos h];simp [h]
   ·rw [aSet,if_neg h,l_3,ih]
    by_cases h2:n∈l.map (·.1)
    ·rw [if_pos h2,if_pos (by simp only [l_3,List.mem_cons];exact .inr h2)];rfl
    ·rw [if_neg h2,if_neg (by simp only [l_3,List.mem_cons,not_or];exact ⟨Ne.symm h,h2⟩)];rfl
theorem KN.set {n v:Int} {l:List (Int×Int)} (h:KN l):KN (aSet n v l):=by
 unfold KN
 rw [aSet_keys]
 split
 ·exact h
 ·rename_i hn
  rw [List.nodup_append]
  exact ⟨h,by simp,fun a ha b hb=>by rw [List.mem_singleton] at hb;subst hb;exact fun e=>hn (e▸ha)⟩
theorem aDel_keys {n:Int}: ∀ {l:List (Int×Int)},KN l→(∀ m,m∈(aDel n l).map (·.1)↔m∈l.map (·.1)∧m≠n)∧KN (aDel n l)∧ ∀ m,m≠n→aFind m (aDel n l)=aFind m l
 | [],_=>⟨by simp [aDel],by simp [aDel,KN],fun _ _=>rfl⟩
 | x::l,h=>by
   unfold KN at h
   rw [l_3,List.nodup_cons] at h
   obtain ⟨h1,h2⟩:=h
   by_cases hx:x.1=n
   ·rw [aDel,if_pos hx]
    refine ⟨fun m=>?_,h2,fun m hm=>?_⟩
    ·rw [l_3,List.mem_cons]
     constructor
     ·intro hm;exact ⟨.inr hm,fun e=>h1 (by rw [hx, ← e];exact hm)⟩
     ·rintro ⟨hm|hm,hne⟩
      ·omega
      ·exact hm
    ·rw [aFind,if_neg (by omega)]
   ·obtain ⟨i1,i2,i3⟩:=aDel_keys (n:=n) h2
    rw [aDel,if_neg hx]
    refine ⟨fun m=>?_,?_,fun m hm=>?_⟩
    ·rw [l_3,List.mem_cons,l_3,List.mem_cons,i1 m]
     constructor
     ·rintro (rfl|⟨a,b⟩)
      ·exact ⟨.inl rfl,hx⟩
      ·exact ⟨.inr a,b⟩
     ·rintro ⟨a|a,b⟩
      ·exact .inl a
      ·exact .inr ⟨a,b⟩
    ·unfold KN
     rw [l_3,List.nodup_cons]
     exact ⟨fun q=>h1 ((i1 _).1 q).1,i2⟩
    ·rw [aFind,aFind];split
     ·rfl
     ·exact i3 m hm
theorem nmGo_iff: ∀ (os:List Ob) (l:List (Int×Int)),KN l→AscI (os.map (·.id))→(nmGo os l=true↔(∀ o∈os,curO o=true→aGet o.id l=1)∧ ∀ m∈l.map (·.1), ∃ o∈os,o.id=m∧curO o=true)
 | [],l,_,_=>by
   simp only [nmGo,decide_eq_true_eq]
   constructor
   ·intro h
    have:l=[]:=List.eq_nil_of_length_eq_zero (by omega)
    subst this;simp
   ·rintro ⟨_,h⟩
    cases l with
    | nil=>rfl
    | cons x l=>obtain ⟨o,ho,_⟩:=h x.1 (by simp);simp at ho
 | o::os,l,hk,ha=>by
   unfold AscI at ha
   rw [l_3,List.pairwise_cons] at ha
   obtain ⟨ha1,ha2⟩:=ha
   have hne: ∀ o'∈os,o'.id≠o.id:=fun o' ho'=>by have:=ha1 o'.id (List.mem_map_of_mem ho');omega
   rw [nmGo]
   cases hc:curO o with
   | false=>
     rw [if_neg (by simp),nmGo_iff os l hk ha2]
     constructor
     ·rintro ⟨h1,h2⟩
      refine ⟨fun o' ho' hc'=>?_,fun m hm=>?_⟩
      ·rcases List.mem_cons.1 ho' with rfl|ho'
       ·rw [hc] at hc';cases hc'
       ·exact h1 o' ho' hc'
      ·obtain ⟨o',ho',h⟩:=h2 m hm
       exact ⟨o',by simp [ho'],h⟩
     ·rintro ⟨h1,h2⟩
      refine ⟨fun o' ho' hc'=>h1 o' (by simp [ho']) hc',fun m hm=>?_⟩
      obtain ⟨o',ho',e,hc'⟩:=h2 m hm
      rcases List.mem_cons.1 ho' with rfl|ho'
      ·rw [hc] at hc';cases hc'
      ·exact ⟨o',ho',e,hc'⟩
   | true=>
     rw [if_pos rfl]
     obtain ⟨d1,d2,d3⟩:=aDel_keys (n:=o.id) hk
     by_cases h1:aGet o.id l=1
     ·rw [if_pos h1,nmGo_iff os _ d2 ha2]
      constructor
      ·rintro ⟨g1,g2⟩
       refine ⟨fun o' ho' hc'=>?_,fun m hm=>?_⟩
       ·rcases List.mem_cons.1 ho' with rfl|ho'
        ·exact h1
        ·have:=g1 o' ho' hc'
         rwa [aGet,d3 _ (hne o' ho')] at this
       ·by_cases e:m=o.id
        ·exact ⟨o,by simp,e.symm,hc⟩
        ·obtain ⟨o',ho',h⟩:=g2 m ((d1 m).2 ⟨hm,e⟩)
         exact ⟨o',by simp [ho'],h⟩
      ·rintro ⟨g1,g2⟩
       refine ⟨fun o' ho' hc'=>?_,fun m hm=>?_⟩
       ·have:=g1 o' (by simp [ho']) hc'
        rwa [aGet,d3 _ (hne o' ho')]
       ·obtain ⟨hm1,hm2⟩:=(d1 m).1 hm
        obtain ⟨o',ho',e,hc'⟩:=g2 m hm1
        rcases List.mem_cons.1 ho' with rfl|ho'
        ·exact absurd e.symm hm2
        ·exact ⟨o',ho',e,hc'⟩
     ·rw [if_neg h1]
      constructor
      ·intro h;cases h
      ·rintro ⟨g1,_⟩;exact absurd (g1 o (by simp) hc) h1
theorem bump_keys (m:Int): ∀ (L:List Int) (l:List (Int×Int)),KN l→KN (L.foldl bump l)∧(m∈(L.foldl bump l).map (·.1)↔m∈l.map (·.1)∨m∈L)
 | [],l,h=>⟨h,by simp⟩
 | x::L,l,h=>by
   obtain ⟨h1,h2⟩:=bump_keys m L (bump l x) h.set
   refine ⟨h1,?_⟩
   rw [List.foldl_cons,h2,bump,aSet_keys,List.mem_cons]
   split
   ·rename_i hx
    constructor
    ·rintro (a|a)
     ·exact .inl a
     ·exact .inr (.inr a)
    ·rintro (a|rfl|a)
     ·exact .inl a
     ·exact .inl hx
     ·exact .inr a
   ·rw [List.mem_append,List.mem_singleton]
    constructor
    ·rintro ((a|a)|a)
     ·exact .inl a
     ·exact .inr (.inl a)
     ·exact .inr (.inr a)
    ·rintro (a|a|a)
     ·exact .inl (.inl a)
     ·exact .inl (.inr a)
     ·exact .inr a
theorem openO_cnt (n:Int): ∀ (l:List Bd) (s:Int),0≤s→s+l.length≤1000000→cntW n (opens l) s=s+openO n l
 | [],s,_,_=>by simp [opens,cntW,openO]
 | b::l,s,h0,h=>by
   rw [List.length_cons] at h
   have ew:wr (s+1)=s+1:=IntWalk.i64_in _ (by omega)
   by_cases ht:b.to=0
   ·have e:opens (b::l)=b.obj::opens l:=by simp [opens,ht]
    rw [e,cntW,openO]
    by_cases ho:b.obj=n
    ·rw [if_pos ho,if_pos ⟨ho,ht⟩,ew,openO_cnt n l (s+1) (by omega) (by omega)];omega
    ·rw [if_neg ho,if_neg (fun q=>ho q.1),openO_cnt n l s h0 (by omega)]
   ·have e:opens (b::l)=opens l:=by simp [opens,ht]
    rw [e,openO,if_neg (fun q=>ht q.2),openO_cnt n l s h0 (by omega)]
theorem objAt_cases (n:Int): ∀ (l:List Ob) (k:Nat),(objAt n l k = -1∧ ∀ p∈l,p.id≠n)∨ ∃ j p,l[j]? = some p∧p.id=n∧objAt n l k=((k+j:Nat):Int)∧ ∀ i q,i<j→l[i]? = some q→q.id≠n
 | [],k=> .inl ⟨rfl,by simp⟩
 | p::l,k=>by
   unfold objAt
   by_cases h:p.id=n
   ·exact .inr ⟨0,p,rfl,h,by rw [if_pos h];simp,by omega⟩
   ·rw [if_neg h]
    rcases objAt_cases n l (k+1) with ⟨h1,h1'⟩|⟨j,u,h1,h2,h3,h4⟩
    ·exact .inl ⟨h1,fun q hq=>by rcases List.mem_cons.1 hq with rfl|hq;exact h;exact h1' q hq⟩
    ·refine .inr ⟨j+1,u,by simpa using h1,h2,by rw [h3];congr 1;omega,fun i q hi hq=>?_⟩
     cases i with
     | zero=>simp only [l_6,l_5] at hq;subst hq;exact h
     | succ i=>exact h4 i q (by omega) (by simpa using hq)
theorem asc_inj {l:List Ob} (h:AscI (l.map (·.id))) {i j:Nat} {x y:Ob} (hx:l[i]? = some x) (hy:l[j]? = some y) (e:x.id=y.id):i=j:=by
 rcases Nat.lt_trichotomy i j with hlt|rfl|hlt
 ·have:=ascI_get h (x:=x.id) (y:=y.id) (by rw [List.getElem?_map,hx];rfl) (by rw [List.getElem?_map,hy];rfl) hlt;omega
 ·rfl
 ·have:=ascI_get h (x:=y.id) (y:=x.id) (by rw [List.getElem?_map,hy];rfl) (by rw [List.getElem?_map,hx];rfl) hlt;omega
/-- The names, as the program counts them. -/
theorem named_eq {d:Dm} (h:AscI (d.objs.map (·.id))) (hb:d.binds.length≤1000):nmGo d.objs ((opens d.binds).foldl bump [])=(nameOne d&&nameCur d):=by
 rw [Bool.eq_iff_iff,nmGo_iff _ _ (bump_keys 0 _ [] (by simp [KN])).1 h,Bool.and_eq_true]
 refine and_congr ?_ ?_
 ·unfold nameOne
  rw [List.all_eq_true]
  refine forall_congr' fun o=>forall_congr' fun _=>?_
  rw [cntW_bump,show aGet o.id []=0 from rfl,openO_cnt _ _ 0 (by omega) (by omega),Int.zero_add]
  cases curO o<;>simp
 ·unfold nameCur
  rw [List.all_eq_true]
  constructor
  ·intro g b hbm
   cases ht:(b.to==0) with
   | false=>rfl
   | true=>
     have hm:b.obj∈((opens d.binds).foldl bump []).map (·.1):=(bump_keys b.obj _ [] (by simp [KN])).2.2 (.inr (List.mem_map.2 ⟨b,by simp [List.mem_filter,hbm,ht],rfl⟩))
     obtain ⟨o,ho,e,hc⟩:=g _ hm
     obtain ⟨i,hi⟩:=List.getElem?_of_mem ho
     rcases objAt_cases b.obj d.objs 0 with ⟨_,h2⟩|⟨j,p,h1,h2,h3,_⟩
     ·exact absurd e (h2 o ho)
     ·have:=asc_inj h hi h1 (by rw [e,h2])
      subst this
      rw [hi] at h1;cases h1
      rw [h3]
      simp [hi,hc]
  ·intro g m hm
   rw [(bump_keys m _ [] (by simp [KN])).2] at hm
   rcases hm with hm|hm
   ·simp at hm
   ·obtain ⟨b,hbm,rfl⟩:=List.mem_map.1 hm
    rw [List.mem_filter] at hbm
    have:=g b hbm.1
    rw [hbm.2] at this
    simp only [Bool.not_true,Bool.false_or,Bool.and_eq_true,Bool.not_eq_true',decide_eq_false_iff_not] at this
    obtain ⟨h1,h2⟩:=this
    rcases objAt_cases b.obj d.objs 0 with ⟨q,_⟩|⟨j,p,q1,q2,q3,_⟩
    ·omega
    ·rw [q3] at h2
     simp [q1] at h2
     exact ⟨p,List.mem_of_getElem? q1,q2,h2⟩
/-- The versions of the objects, as a map. -/
def obM (os:List Ob):List (Value×D):=os.map fun o=>(.int .i64 o.id, .sl 4 (o.vers.map rowV))
theorem mSet_new {k:Value} {v:D}: ∀ {l:List (Value×D)},(∀ x∈l,keyB x.1 k=false)→mSet k v l=l++[(k,v)]
 | [],_=>rfl
 | x::l,h=>by
   rw [mSet,if_neg (by rw [h x (by simp)];decide),mSet_new (fun y hy=>h y (by simp [hy]))];rfl
theorem obM_set {os:List Ob} {k:Nat} {o:Ob} (h:AscI (os.map (·.id))) (ho:os[k]? = some o):mSet (.int .i64 o.id) (.sl 4 (o.vers.map rowV)) (obM (os.take k))=obM (os.take (k+1)):=by
 rw [mSet_new,List.take_add_one,ho]
 ·simp [obM]
 ·intro x hx
  simp only [obM,List.mem_map] at hx
  obtain ⟨q,hq,rfl⟩:=hx
  obtain ⟨i,hi⟩:=List.getElem?_of_mem hq
  have hik:i<k:=by
   have:=(List.getElem?_eq_some_iff.1 hi).1
   rw [List.length_take] at this;omega
  rw [List.getElem?_take_of_lt hik] at hi
  have:=ascI_get h (i:=i) (j:=k) (x:=q.id) (y:=o.id) (by rw [List.getElem?_map,hi];rfl) (by rw [List.getElem?_map,ho];rfl) hik
  rw [keyB_int,beq_eq_false_iff_ne];omega
theorem obM_find (os:List Ob) (n:Int):mFind (.int .i64 n) (obM os)=if objAt n os 0<0 then none else some (.sl 4 ((versAt n os).map rowV)):=by
 have key: ∀ (l:List Ob),(∀ p∈l,p.id≠n)→mFind (.int .i64 n) (obM l)=none:=by
  intro l
  induction l with
  | nil=>intro _;rfl
  | cons q l ih=>
    intro h
    simp only [obM,l_3,mFind,keyB_int,beq_iff_eq]
    rw [if_neg (h q (by simp))]
    exact ih fun p hp=>h p (by simp [hp])
 have key2: ∀ (l:List Ob) (j:Nat) (p:Ob),l[j]? = some p→p.id=n→(∀ i q,i<j→l[i]? = some q→q.id≠n)→mFind (.int .i64 n) (obM l)=some (.sl 4 (p.vers.map rowV)):=by
  intro l
  induction l with
  | nil=>intro j p h;simp at h
  | cons q l ih=>
    intro j p hj hn hlt
    simp only [obM,l_3,mFind,keyB_int,beq_iff_eq]
    cases j with
    | zero=>
      simp only [l_6,l_5] at hj
      subst hj
      rw [if_pos hn]
    | succ j=>
      rw [if_neg (hlt 0 q (by omega) rfl)]
      exact ih j p (by simpa using hj) hn (fun i r hi hr=>hlt (i+1) r (by omega) (by simpa using hr))
 rcases objAt_cases n os 0 with ⟨h,h2⟩|⟨j,p,h1,h2,h3,h4⟩
 ·rw [key os h2,h,if_pos (by omega)]
 ·rw [key2 os j p h1 h2 h4,h3,if_neg (by omega)]
  simp [versAt,h3,h1]
  rw [if_neg (by omega)]
theorem findN_nil (c:Int):findN c [] 0=(0,false):=rfl
theorem versAt_neg {n:Int} {os:List Ob} (h:objAt n os 0<0):versAt n os=[]:=by unfold versAt;rw [if_pos h]
theorem all_swap {α β:Type} (f:α→β→Bool) (a:List α) (b:List β):(a.all fun x=>b.all fun y=>f x y)=b.all fun y=>a.all fun x=>f x y:=by
 rw [Bool.eq_iff_iff]
 simp only [List.all_eq_true]
 exact ⟨fun h y hy x hx=>h x hx y hy,fun h x hx y hy=>h y hy x hx⟩
end Go.Proofs.Ytmgodadmafcliaa
