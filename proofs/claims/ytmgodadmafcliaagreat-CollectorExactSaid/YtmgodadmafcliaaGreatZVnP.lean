/- An element that comes into a list from the end; the versions of a dump in their order (plain). -/
import Derived.Test.YtmgodadmafcliaaGreatZDiC
set_option linter.unusedSimpArgs false
set_option linter.unusedVariables false
namespace Go.Proofs.YtmgodadmafcliaaGreat
open Go.RowKit Go.Avm
/-- Where an element that comes in from the end stops. -/
def stopAt (p:Nat→Bool):Nat→Nat
 | 0=>0
 | k+1=>if p k=true then stopAt p k else k+1
theorem stopAt_le (p:Nat→Bool): ∀ n,stopAt p n≤n
 | 0=>Nat.le_refl _
 | k+1=>by
   have:=stopAt_le p k
   unfold stopAt;split<;>omega
def insAt {α:Type} (l:List α) (j:Nat) (x:α):List α:=l.take j++[x]++l.drop j
theorem insAt_len {α:Type} {l:List α} {j:Nat} {x:α} (h:j≤l.length):(insAt l j x).length=l.length+1:=by
 simp only [insAt,List.length_append,List.length_take,List.length_drop,List.length_cons,List.length_nil];omega
theorem insAt_at {α:Type} {l:List α} {j:Nat} {x:α} (h:j≤l.length):(insAt l j x)[j]? = some x:=by
 have hl:(l.take j).length=j:=by rw [List.length_take];omega
 rw [insAt,List.append_assoc,List.getElem?_append_right (by omega),hl];simp
theorem insAt_pre {α:Type} {l:List α} {j:Nat} {x:α} (h:j+1≤l.length):(insAt l (j+1) x)[j]? = l[j]? :=by
 have hl:(l.take (j+1)).length=j+1:=by rw [List.length_take];omega
 rw [insAt,List.append_assoc,List.getElem?_append_left (by omega),List.getElem?_take_of_lt (by omega)]
theorem insAt_end {α:Type} {l:List α} {x:α}:insAt l l.length x=l++[x]:=by simp [insAt]
theorem insAt_swap {α:Type} {l:List α} {j:Nat} {x y:α} (hy:l[j]? = some y):((insAt l (j+1) x).set (j+1) y).set j x=insAt l j x:=by
 have h:=(List.getElem?_eq_some_iff.1 hy).1
 have hl:(l.take j).length=j:=by rw [List.length_take];omega
 have e:insAt l (j+1) x=l.take j++(y::x::l.drop (j+1)):=by rw [insAt,take_get hy];simp
 rw [e,List.set_append_right _ _ (by omega),List.set_append_right _ _ (by omega),hl,Nat.add_sub_cancel_left,Nat.sub_self]
 rw [insAt,drop_get hy];simp
theorem insAt_perm {α:Type} (l:List α) (j:Nat) (x:α):(insAt l j x).Perm (x::l):=by
 unfold insAt
 have h1:(l.take j++[x]++l.drop j).Perm ([x]++l.take j++l.drop j):=List.Perm.append_right _ List.perm_append_comm
 refine h1.trans ?_
 rw [List.append_assoc,List.take_append_drop]
 exact List.Perm.refl _
structure Vn where
 id:Int
 v:Ver
 deriving DecidableEq
def rowVn (x:Vn):List D:=[.sc (.int .i64 x.id), .sc (.int .i64 x.v.from_), .sc (.int .i64 x.v.to), .sc (.int .i64 x.v.size), .sl 1 (x.v.pages.map rowI)]
def vnGet (l:List Vn) (i:Nat):Vn:=(l[i]?).getD ⟨0,⟨0,0,0,[]⟩⟩
def ptLt (a b c d:Int):Bool:=decide (a<c)||(decide (a=c)&&decide (b<d))
def befV (x y:Vn):Bool:=ptLt x.id x.v.from_ y.id y.v.from_
def insV (x:Vn) (l:List Vn):List Vn:=insAt l (stopAt (fun k=>befV x (vnGet l k)) l.length) x
def versO (id:Int):List Ver→List Vn→List Vn
 | [],a=>a
 | v::l,a=>versO id l (insV ⟨id,v⟩ a)
def versR:List Ob→List Vn→List Vn
 | [],a=>a
 | o::l,a=>versR l (versO o.id o.vers a)
theorem insV_len (x:Vn) (l:List Vn):(insV x l).length=l.length+1:=insAt_len (stopAt_le _ _)
def vnsO (o:Ob):List Vn:=o.vers.map fun v=>⟨o.id,v⟩
def pgsN (l:List Vn):List Int:=l.flatMap fun x=>x.v.pages
/-- The reference's verdict. -/
def conR (d:Dm):Bool:=(d.pages.all fun p=>cntW p.num (pgsN (versR d.objs [])) 0==p.refs)&&nameOne d&&d.binds.all fun b=>(!(b.to==0)||(!decide (objAt b.obj d.objs 0<0)&&((d.objs[(objAt b.obj d.objs 0).toNat]?).map curO).getD false))&&keptB d b
end Go.Proofs.YtmgodadmafcliaaGreat
/- Collector: what its functions compute (plain). -/
set_option linter.unusedSimpArgs false
set_option linter.unusedVariables false
namespace Go.Proofs.YtmgodadmafcliaaGreat
open Go.RowKit Go.Avm
def cmpI (a b:Int):Int:=if a<b then -1 else if b<a then 1 else 0
/-- The order of versions, as a number. -/
def cmpV (x y:Vn):Int:=if cmpI x.id y.id≠0 then cmpI x.id y.id else cmpI x.v.from_ y.v.from_
theorem cmpV_neg (x y:Vn):decide (cmpV x y<0)=befV x y:=by
 unfold cmpV befV ptLt cmpI
 rcases Int.lt_trichotomy x.id y.id with h|h|h
 ·rw [if_pos h,if_pos (by decide),decide_eq_true h];rfl
 ·rw [if_neg (show ¬ x.id<y.id by omega),if_neg (show ¬ y.id<x.id by omega),if_neg (by decide),decide_eq_false (show ¬ x.id<y.id by omega),decide_eq_true h,Bool.false_or,Bool.true_and]
  rw [Bool.eq_iff_iff,decide_eq_true_eq,decide_eq_true_eq]
  split
  ·simp_all
  ·split<;>omega
 ·rw [if_neg (show ¬ x.id<y.id by omega),if_pos h,if_pos (by decide),decide_eq_false (show ¬ x.id<y.id by omega),decide_eq_false (show ¬ x.id=y.id by omega)];rfl
def sortV:List Vn→List Vn→List Vn
 | a,[]=>a
 | a,x::l=>sortV (insV x a) l
theorem sortV_len: ∀ (l a:List Vn),(sortV a l).length=a.length+l.length
 | [],_=>rfl
 | x::l,a=>by rw [sortV,sortV_len l,insV_len,List.length_cons];omega
theorem sortV_app: ∀ (l m a:List Vn),sortV a (l++m)=sortV (sortV a l) m
 | [],_,_=>rfl
 | x::l,m,a=>by rw [List.cons_append,sortV,sortV_app l m,sortV]
theorem versO_sortV (id:Int): ∀ (l:List Ver) (a:List Vn),versO id l a=sortV a (l.map fun v=>⟨id,v⟩)
 | [],_=>rfl
 | v::l,a=>by rw [versO,versO_sortV id l,l_3,sortV]
theorem versR_sortV: ∀ (l:List Ob) (a:List Vn),versR l a=sortV a (l.flatMap vnsO)
 | [],_=>rfl
 | o::l,a=>by rw [versR,versR_sortV l,versO_sortV,List.flatMap_cons,sortV_app];rfl
/-- In order: no later one comes before an earlier one. -/
def AscV (l:List Vn):Prop:=l.Pairwise fun x y=>befV y x=false
theorem bef_iff (x y:Vn):befV x y=true↔(x.id<y.id∨(x.id=y.id∧x.v.from_<y.v.from_)):=by
 simp [befV,ptLt]
theorem bef_not (x y:Vn):befV x y=false↔ ¬ (x.id<y.id∨(x.id=y.id∧x.v.from_<y.v.from_)):=by
 rw [← bef_iff];simp
theorem stop_ge (p:Nat→Bool): ∀ (n k:Nat),stopAt p n≤k→k<n→p k=true
 | 0,_,_,h=>by omega
 | n+1,k,h1,h2=>by
   unfold stopAt at h1
   split at h1
   ·rename_i hp
    by_cases hk:k=n
    ·rw [hk];exact hp
    ·exact stop_ge p n k h1 (by omega)
   ·omega
theorem stop_lt (p:Nat→Bool): ∀ (n j:Nat),stopAt p n=j+1→p j=false
 | 0,_,h=>by simp [stopAt] at h
 | n+1,j,h=>by
   unfold stopAt at h
   split at h
   ·exact stop_lt p n j h
   ·rename_i hp
    rw [show j=n by omega];simpa using hp
theorem insV_asc (x:Vn) {l:List Vn} (h:AscV l):AscV (insV x l):=by
 have hj:=stopAt_le (fun k=>befV x (vnGet l k)) l.length
 have hge:=stop_ge (fun k=>befV x (vnGet l k)) l.length
 have hlt:=stop_lt (fun k=>befV x (vnGet l k)) l.length
 unfold insV
 generalize stopAt (fun k=>befV x (vnGet l k)) l.length=j at *
 have hget: ∀ k (hk:k<l.length),vnGet l k=l[k]:=fun k hk=>by simp [vnGet,List.getElem?_eq_getElem hk]
 have h0:(l.take j++l.drop j).Pairwise fun x y=>befV y x=false:=by rw [List.take_append_drop];exact h
 obtain ⟨hA,hB,hAB⟩:=List.pairwise_append.1 h0
 have hB': ∀ y∈l.drop j,befV x y=true:=fun y hy=>by
  obtain ⟨k,hk,rfl⟩:=List.mem_iff_getElem.1 hy
  rw [List.length_drop] at hk
  have:=hge (j+k) (by omega) (by omega)
  simp only [hget (j+k) (by omega)] at this
  rwa [List.getElem_drop]
 have hA': ∀ y∈l.take j,befV x y=false:=fun y hy=>by
  cases j with
  | zero=>simp at hy
  | succ i=>
    have h1:=hlt i rfl
    simp only [hget i (by omega)] at h1
    obtain ⟨k,hk,rfl⟩:=List.mem_iff_getElem.1 hy
    rw [List.length_take] at hk
    rw [List.getElem_take]
    by_cases hki:k=i
    ·subst hki;exact h1
    ·have h2:=List.pairwise_iff_getElem.1 h k i (by omega) (by omega) (by omega)
     rw [bef_not] at h1 h2 ⊢
     omega
 unfold insAt AscV
 rw [List.append_assoc,List.singleton_append]
 refine List.pairwise_append.2 ⟨hA,List.pairwise_cons.2 ⟨fun y hy=>?_,hB⟩,fun a ha b hb=>?_⟩
 ·have:=hB' y hy
  rw [bef_iff] at this
  rw [bef_not]
  omega
 ·rcases List.mem_cons.1 hb with rfl|hb
  ·exact hA' a ha
  ·exact hAB a ha b hb
theorem sortV_asc: ∀ (l:List Vn) {a:List Vn},AscV a→AscV (sortV a l)
 | [],_,h=>h
 | x::l,_,h=>sortV_asc l (insV_asc x h)
structure Vc where
 obj:Int
 frm:Int
 deriving DecidableEq
def rowVc (x:Vc):List D:=[.sc (.int .i64 x.obj), .sc (.int .i64 x.frm)]
def garbV (p:List Pn) (v:Ver):Bool:= !(v.to==0) && !coversP v.from_ v.to p
def vcOf (x:Vn):Vc:=⟨x.id,x.v.from_⟩
def garbR (p:List Pn):List Vn→List Vc
 | []=>[]
 | x::l=>if garbV p x.v=true then vcOf x::garbR p l else garbR p l
def livePgs (p:List Pn):List Vn→List Int
 | []=>[]
 | x::l=>if garbV p x.v=true then livePgs p l else x.v.pages++livePgs p l
def insI (n:Int):List Int→List Int
 | []=>[n]
 | y::l=>if y<n then y::insI n l else if y=n then y::l else n::y::l
def insAll:List Int→List Int→List Int
 | a,[]=>a
 | a,n::l=>insAll (insI n a) l
/-- The pages of all versions that are not garbage, as the reference lists them. -/
def reachR (p:List Pn) (l:List Vn):List Int:=insAll [] (livePgs p l)
def bumpV (x:Vn):Vc:=⟨x.id,if x.v.from_<9223372036854775807 then x.v.from_+1 else x.v.from_⟩
def befP (x:Vn) (a:Vc):Bool:=ptLt x.id x.v.from_ a.obj a.frm
def nextP (p:List Pn) (a:Vc):List Vn→Int→List Vc→Vc→List Vc×Vc×Bool
 | [],_,vs,nx=>(vs,nx,true)
 | x::l,c,vs,nx=>if befP x a=true then nextP p a l c vs nx else if c≤0 then (vs,nx,false) else nextP p a l (c-1) (if garbV p x.v=true then vs++[vcOf x] else vs) (bumpV x)
def skipR (a:Vc):List Vn→List Vn
 | []=>[]
 | x::l=>if befP x a=true then skipR a l else x::l
def nextR (p:List Pn):List Vn→Int→List Vc→Vc→List Vc×Vc×Bool
 | [],_,vs,nx=>(vs,nx,true)
 | x::l,c,vs,nx=>if 0<c then nextR p l (c-1) (if garbV p x.v=true then vs++[vcOf x] else vs) (bumpV x) else (vs,nx,false)
theorem befP_iff (x:Vn) (a:Vc):befP x a=true↔(x.id<a.obj∨(x.id=a.obj∧x.v.from_<a.frm)):=by
 simp [befP,ptLt]
theorem nextP_on (p:List Pn) (a:Vc): ∀ (l:List Vn) (c:Int) (vs:List Vc) (nx:Vc),(∀ x∈l,befP x a=false)→nextP p a l c vs nx=nextR p l c vs nx
 | [],_,_,_,_=>rfl
 | x::l,c,vs,nx,h=>by
   rw [nextP,nextR,if_neg (by rw [h x (by simp)];decide)]
   by_cases hc:c≤0
   ·rw [if_pos hc,if_neg (show ¬ 0<c by omega)]
   ·rw [if_neg hc,if_pos (show 0<c by omega)]
    exact nextP_on p a l _ _ _ fun y hy=>h y (by simp [hy])
theorem nextP_eq (p:List Pn) (a:Vc): ∀ (l:List Vn) (c:Int) (vs:List Vc) (nx:Vc),AscV l→nextP p a l c vs nx=nextR p (skipR a l) c vs nx
 | [],_,_,_,_=>rfl
 | x::l,c,vs,nx,h=>by
   have h':=List.pairwise_cons.1 h
   cases hb:befP x a with
   | true=>
     rw [nextP,if_pos hb,skipR,if_pos hb]
     exact nextP_eq p a l c vs nx h'.2
   | false=>
     rw [skipR,if_neg (by rw [hb];decide)]
     refine nextP_on p a (x::l) c vs nx fun y hy=>?_
     rcases List.mem_cons.1 hy with rfl|hy
     ·exact hb
     ·have h1:=h'.1 y hy
      rw [bef_not] at h1
      have h2: ¬ befP x a=true:=by rw [hb];decide
      rw [befP_iff] at h2
      cases h3:befP y a with
      | false=>rfl
      | true=>rw [befP_iff] at h3;omega
end Go.Proofs.YtmgodadmafcliaaGreat
/- Collector: the walks of its order of versions and of the sort of at most twenty. -/
set_option linter.unusedSimpArgs false
set_option linter.unusedVariables false
namespace Go.Proofs.YtmgodadmafcliaaGreat
open Go.RowKit Go.Avm
set_option maxRecDepth 100000 in set_option maxHeartbeats 3200000 in
theorem nan_calls {n:Int}:ACalls Tryz.prog 82 [.sc (.int .i64 n)] (.sc (.bool false)) []:=by
 refine of_tri [] [] Tryz.func82 rfl call82 rfl (by decide) (by decide) rfl rfl Tryz.ntmps82 (by simp (disch:=omega) only [seval,go_sem,cnd,intV,shV,convV,strV,List.replicate,l_2,l_1];rfl) (by simp (disch:=omega) only [seval,go_sem,cnd,intV,shV,convV,strV,l_2,l_1];rfl) ?_
 ((repeat' (first|(with_reducible refine isRet ?_;refine RetV (rs:=[.tmp 2]) (by with_unfolding_all rfl) rfl ?_<;>simp only [seval,go_sem]<;>(repeat' (with_reducible apply And.intro))<;>(try rfl))|(with_reducible (refine TVq (st:=[]) ?_))|simp only [seval,go_sem,bne_self_eq_false]|(with_reducible refine oV_st (by simp (disch:=omega) only [seval,go_sem,cnd,intV,shV,convV,strV,bne_self_eq_false];rfl) ?_)))<;>(try (fail)))
set_option maxRecDepth 100000 in set_option maxHeartbeats 3200000 in
theorem cmpi_calls {a b:Int}:ACalls Tryz.prog 62 [.sc (.int .i64 a), .sc (.int .i64 b)] (.sc (.int .i64 (cmpI a b))) []:=by
 unfold cmpI
 by_cases h1:a<b
 ·rw [if_pos h1]
  refine of_tri [] [8,10] Tryz.func62 rfl call62 rfl (by decide) (by decide) rfl rfl Tryz.ntmps62 (by simp (disch:=omega) only [seval,go_sem,cnd,intV,shV,convV,strV,List.replicate,l_2,l_1];rfl) (by simp (disch:=omega) only [seval,go_sem,cnd,intV,shV,convV,strV,l_2,l_1];rfl) ?_
  ((repeat' (first|((with_reducible refine isTriD ?_);((with_reducible refine isCallD ?_);((with_reducible refine LVcall (st:=[]) ?_);simp only [seval,go_sem];(refine CallL.c (nan_calls) ?_))))|(with_reducible refine isRet ?_;refine RetV (rs:=[.tmp 4]) (by with_unfolding_all rfl) rfl ?_<;>simp only [seval,go_sem]<;>(repeat' (with_reducible apply And.intro))<;>(try rfl))|(with_reducible (refine TVq (st:=[]) ?_))|simp only [seval,go_sem]|(with_reducible refine oV_st (by simp (disch:=omega) only [seval,go_sem,cnd,intV,shV,convV,strV];rfl) ?_)))<;>(try (fail)))
 ·rw [if_neg h1]
  by_cases h2:b<a
  ·rw [if_pos h2]
   refine of_tri [] [8,10] Tryz.func62 rfl call62 rfl (by decide) (by decide) rfl rfl Tryz.ntmps62 (by simp (disch:=omega) only [seval,go_sem,cnd,intV,shV,convV,strV,List.replicate,l_2,l_1];rfl) (by simp (disch:=omega) only [seval,go_sem,cnd,intV,shV,convV,strV,l_2,l_1];rfl) ?_
   ((repeat' (first|((with_reducible refine isTriD ?_);((with_reducible refine isCallD ?_);((with_reducible refine LVcall (st:=[]) ?_);simp only [seval,go_sem];(refine CallL.c (nan_calls) ?_))))|(with_reducible refine isRet ?_;refine RetV (rs:=[.tmp 4]) (by with_unfolding_all rfl) rfl ?_<;>simp only [seval,go_sem]<;>(repeat' (with_reducible apply And.intro))<;>(try rfl))|(with_reducible (refine TVq (st:=[]) ?_))|simp only [seval,go_sem]|(with_reducible refine oV_st (by simp (disch:=omega) only [seval,go_sem,cnd,intV,shV,convV,strV];rfl) ?_)))<;>(try (fail)))
  ·rw [if_neg h2]
   refine of_tri [] [8,10] Tryz.func62 rfl call62 rfl (by decide) (by decide) rfl rfl Tryz.ntmps62 (by simp (disch:=omega) only [seval,go_sem,cnd,intV,shV,convV,strV,List.replicate,l_2,l_1];rfl) (by simp (disch:=omega) only [seval,go_sem,cnd,intV,shV,convV,strV,l_2,l_1];rfl) ?_
   ((repeat' (first|((with_reducible refine isTriD ?_);((with_reducible refine isCallD ?_);((with_reducible refine LVcall (st:=[]) ?_);simp only [seval,go_sem];(refine CallL.c (nan_calls) ?_))))|(with_reducible refine isRet ?_;refine RetV (rs:=[.tmp 4]) (by with_unfolding_all rfl) rfl ?_<;>simp only [seval,go_sem]<;>(repeat' (with_reducible apply And.intro))<;>(try rfl))|(with_reducible (refine TVq (st:=[]) ?_))|simp only [seval,go_sem]|(with_reducible refine oV_st (by simp (disch:=omega) only [seval,go_sem,cnd,intV,shV,convV,strV];rfl) ?_)))<;>(try (fail)))
def firstNZ:List Int→Int
 | []=>0
 | z::l=>if z≠0 then z else firstNZ l
set_option maxRecDepth 100000 in set_option maxHeartbeats 3200000 in
theorem or_calls' {l:List Int} (hl:l.length≤100000):ACalls Tryz.prog 61 [.sl 1 (l.map rowI)] (.sc (.int .i64 (firstNZ l))) []:=by
 refine of_tri [] [] Tryz.func61 rfl call61 rfl (by decide) (by decide) rfl rfl Tryz.ntmps61 (by simp (disch:=omega) only [seval,go_sem,cnd,intV,shV,convV,strV,List.replicate,l_2,l_1];rfl) (by simp (disch:=omega) only [seval,go_sem,cnd,intV,shV,convV,strV,l_2,l_1];rfl) ?_
 ((repeat' (first|(with_reducible (refine TVq (st:=[]) ?_))|simp only [seval,go_sem]))<;>(try (fail)))
 all_goals (with_reducible refine Tri.loopU (fun (k:Nat)=>[(8,.sc (.int .i64 k)),(2,.any),(5,.any),(9,.any),(10,.any),(11,.any),(12,.any),(13,.any),(14,.any),(15,.any),(16,.any)]) (fun (k:Nat)=>[]) (fun (k:Nat)=>k≤l.length∧firstNZ (l.drop k)=firstNZ l) (fun (k:Nat)=>l.length-k) (0) (⟨Nat.zero_le _,rfl⟩) (by intro _;simp (disch:=omega) only [seval,go_sem,cnd,intV,shV,convV,strV];rfl) (by intro _;simp (disch:=omega) only [seval,go_sem,cnd,intV,shV,convV,strV];rfl) (by (refine leQL_spec ?_);(try simp only [seval,go_sem]);done) (by (refine leQH_spec ?_);(try simp only [seval,go_sem]);done) (fun k hI=>?_))
 all_goals obtain ⟨hk,hf⟩:=hI
 by_cases hlt:k<l.length
 ·obtain ⟨z,hz⟩:=get_lt hlt
  have hz':=get_map rowI hz
  rw [drop_get hz,firstNZ] at hf
  by_cases h0:z=0
  ·rw [if_neg (by simp [h0])] at hf
   ((repeat' (first|(with_reducible (refine TVq (st:=[]) ?_))|simp only [seval,go_sem,hz',rowI]|(with_reducible refine oV_st (by simp (disch:=omega) only [seval,go_sem,cnd,intV,shV,convV,strV,hz',rowI];rfl) ?_)))<;>(try (fail)))
   all_goals (try (refine isNextM (k+1) (by (refine leQL_spec ?_);(try simp only [seval,go_sem]);first|((repeat' (with_reducible apply And.intro))<;>first|rfl);done) (by (refine leQH_spec ?_);(try simp only [seval,go_sem]);done) ?_ ?_<;>(try (omega))))
   all_goals (try (exact ⟨by omega,hf⟩))
  ·rw [if_pos h0] at hf
   rw [← hf]
   ((repeat' (first|(with_reducible refine isRet ?_;refine RetV (rs:=[.tmp 2]) (by with_unfolding_all rfl) rfl ?_<;>simp only [seval,go_sem]<;>(repeat' (with_reducible apply And.intro))<;>(try rfl))|(with_reducible (refine TVq (st:=[]) ?_))|simp only [seval,go_sem,hz',rowI]|(with_reducible refine oV_st (by simp (disch:=omega) only [seval,go_sem,cnd,intV,shV,convV,strV,hz',rowI];rfl) ?_)))<;>(try (fail)))
 ·rw [List.drop_eq_nil_of_le (by omega),firstNZ] at hf
  rw [← hf]
  ((repeat' (first|(with_reducible refine isRet ?_;refine RetV (rs:=[.tmp 2]) (by with_unfolding_all rfl) rfl ?_<;>simp only [seval,go_sem]<;>(repeat' (with_reducible apply And.intro))<;>(try rfl))|(with_reducible (refine TVq (st:=[]) ?_))|simp only [seval,go_sem]|(with_reducible refine oV_st (by simp (disch:=omega) only [seval,go_sem,cnd,intV,shV,convV,strV];rfl) ?_)))<;>(try (fail)))
theorem or_calls {a b:Int}:ACalls Tryz.prog 61 [.sl 1 [[.sc (.int .i64 a)],[.sc (.int .i64 b)]]] (.sc (.int .i64 (if a≠0 then a else b))) []:=by
 have h:=or_calls' (l:=[a,b]) (by simp)
 have e:firstNZ [a,b]=if a≠0 then a else b:=by
  simp only [firstNZ]
  split
  ·rfl
  ·split
   ·rfl
   ·omega
 rw [e] at h
 exact h
set_option maxRecDepth 100000 in set_option maxHeartbeats 3200000 in
theorem cmpv_calls {i1 f1 t1 s1 i2 f2 t2 s2:Int} {p1 p2:List (List D)}:ACalls Tryz.prog 60 [.agg [.sc (.int .i64 i1),.sc (.int .i64 f1),.sc (.int .i64 t1),.sc (.int .i64 s1),.sl 1 p1],.agg [.sc (.int .i64 i2),.sc (.int .i64 f2),.sc (.int .i64 t2),.sc (.int .i64 s2),.sl 1 p2]] (.sc (.int .i64 (if cmpI i1 i2≠0 then cmpI i1 i2 else cmpI f1 f2))) []:=by
 have h1:=cmpi_calls (a:=i1) (b:=i2)
 have h2:=cmpi_calls (a:=f1) (b:=f2)
 generalize cmpI i1 i2=x at *
 generalize cmpI f1 f2=y at *
 have h3:=or_calls (a:=x) (b:=y)
 generalize (if x≠0 then x else y)=z at *
 refine of_tri [] [2,3,9,16,17,18] Tryz.func60 rfl call60 rfl (by decide) (by decide) rfl rfl Tryz.ntmps60 (by simp (disch:=omega) only [seval,go_sem,cnd,intV,shV,convV,strV,List.replicate,l_2,l_1];rfl) (by simp (disch:=omega) only [seval,go_sem,cnd,intV,shV,convV,strV,l_2,l_1];rfl) ?_
 ((repeat' (first|((with_reducible refine isTriD ?_);first|((with_reducible refine isCallD ?_);((with_reducible refine LVcall (st:=[]) ?_);simp only [seval,go_sem];first|(refine CallL.c (h1) ?_)|(refine CallL.c (h2) ?_)|(refine CallL.c (h3) ?_)))|((with_reducible first|refine TriD.step (by simp only [seval,go_sem];rfl) ?_);refine LVs (st:=[]) ?_))|(with_reducible refine isDrawnN 1 ?_;refine Tri.mixedP 1 mix 15 rfl (.f 0 <| .f 2 <| .f 5 <| .f 6 <| .f 8 <| .f 9 <| .a <| .b 1 (.a <| .b 3 (.a <| .b 4 (.a <| .b 7 (.a <| .b 10 (.a <| .b 11 (.a <| .b 12 (.a <| .b 13 (.f 14 <| .d) .e) .e) .e) .e) <| .b 10 (.a <| .b 7 (.a <| .b 11 (.a <| .b 12 (.a <| .b 13 (.f 14 <| .d) .e) .e) .e) .e) .e) <| .b 7 (.a <| .b 4 (.a <| .b 10 (.a <| .b 11 (.a <| .b 12 (.a <| .b 13 (.f 14 <| .d) .e) .e) .e) .e) <| .b 10 (.a <| .b 4 (.a <| .b 11 (.a <| .b 12 (.a <| .b 13 (.f 14 <| .d) .e) .e) .e) .e) .e) <| .b 10 (.a <| .b 4 (.a <| .b 7 (.a <| .b 11 (.a <| .b 12 (.a <| .b 13 (.f 14 <| .d) .e) .e) .e) .e) <| .b 7 (.a <| .b 4 (.a <| .b 11 (.a <| .b 12 (.a <| .b 13 (.f 14 <| .d) .e) .e) .e) .e) .e) .e) <| .b 7 (.a <| .b 3 (.a <| .b 4 (.a <| .b 10 (.a <| .b 11 (.a <| .b 12 (.a <| .b 13 (.f 14 <| .d) .e) .e) .e) .e) <| .b 10 (.a <| .b 4 (.a <| .b 11 (.a <| .b 12 (.a <| .b 13 (.f 14 <| .d) .e) .e) .e) .e) .e) <| .b 10 (.a <| .b 3 (.a <| .b 4 (.a <| .b 11 (.a <| .b 12 (.a <| .b 13 (.f 14 <| .d) .e) .e) .e) .e) .e) .e) <| .b 10 (.a <| .b 3 (.a <| .b 4 (.a <| .b 7 (.a <| .b 11 (.a <| .b 12 (.a <| .b 13 (.f 14 <| .d) .e) .e) .e) .e) <| .b 7 (.a <| .b 4 (.a <| .b 11 (.a <| .b 12 (.a <| .b 13 (.f 14 <| .d) .e) .e) .e) .e) .e) <| .b 7 (.a <| .b 3 (.a <| .b 4 (.a <| .b 11 (.a <| .b 12 (.a <| .b 13 (.f 14 <| .d) .e) .e) .e) .e) .e) .e) .e) <| .b 3 (.a <| .b 1 (.a <| .b 4 (.a <| .b 7 (.a <| .b 10 (.a <| .b 11 (.a <| .b 12 (.a <| .b 13 (.f 14 <| .d) .e) .e) .e) .e) <| .b 10 (.a <| .b 7 (.a <| .b 11 (.a <| .b 12 (.a <| .b 13 (.f 14 <| .d) .e) .e) .e) .e) .e) <| .b 7 (.a <| .b 4 (.a <| .b 10 (.a <| .b 11 (.a <| .b 12 (.a <| .b 13 (.f 14 <| .d) .e) .e) .e) .e) <| .b 10 (.a <| .b 4 (.a <| .b 11 (.a <| .b 12 (.a <| .b 13 (.f 14 <| .d) .e) .e) .e) .e) .e) <| .b 10 (.a <| .b 4 (.a <| .b 7 (.a <| .b 11 (.a <| .b 12 (.a <| .b 13 (.f 14 <| .d) .e) .e) .e) .e) <| .b 7 (.a <| .b 4 (.a <| .b 11 (.a <| .b 12 (.a <| .b 13 (.f 14 <| .d) .e) .e) .e) .e) .e) .e) <| .b 7 (.a <| .b 1 (.a <| .b 4 (.a <| .b 10 (.a <| .b 11 (.a <| .b 12 (.a <| .b 13 (.f 14 <| .d) .e) .e) .e) .e) <| .b 10 (.a <| .b 4 (.a <| .b 11 (.a <| .b 12 (.a <| .b 13 (.f 14 <| .d) .e) .e) .e) .e) .e) <| .b 10 (.a <| .b 1 (.a <| .b 4 (.a <| .b 11 (.a <| .b 12 (.a <| .b 13 (.f 14 <| .d) .e) .e) .e) .e) .e) .e) <| .b 10 (.a <| .b 1 (.a <| .b 4 (.a <| .b 7 (.a <| .b 11 (.a <| .b 12 (.a <| .b 13 (.f 14 <| .d) .e) .e) .e) .e) <| .b 7 (.a <| .b 4 (.a <| .b 11 (.a <| .b 12 (.a <| .b 13 (.f 14 <| .d) .e) .e) .e) .e) .e) <| .b 7 (.a <| .b 1 (.a <| .b 4 (.a <| .b 11 (.a <| .b 12 (.a <| .b 13 (.f 14 <| .d) .e) .e) .e) .e) .e) .e) .e) <| .b 7 (.a <| .b 1 (.a <| .b 3 (.a <| .b 4 (.a <| .b 10 (.a <| .b 11 (.a <| .b 12 (.a <| .b 13 (.f 14 <| .d) .e) .e) .e) .e) <| .b 10 (.a <| .b 4 (.a <| .b 11 (.a <| .b 12 (.a <| .b 13 (.f 14 <| .d) .e) .e) .e) .e) .e) <| .b 10 (.a <| .b 3 (.a <| .b 4 (.a <| .b 11 (.a <| .b 12 (.a <| .b 13 (.f 14 <| .d) .e) .e) .e) .e) .e) .e) <| .b 3 (.a <| .b 1 (.a <| .b 4 (.a <| .b 10 (.a <| .b 11 (.a <| .b 12 (.a <| .b 13 (.f 14 <| .d) .e) .e) .e) .e) <| .b 10 (.a <| .b 4 (.a <| .b 11 (.a <| .b 12 (.a <| .b 13 (.f 14 <| .d) .e) .e) .e) .e) .e) <| .b 10 (.a <| .b 1 (.a <| .b 4 (.a <| .b 11 (.a <| .b 12 (.a <| .b 13 (.f 14 <| .d) .e) .e) .e) .e) .e) .e) <| .b 10 (.a <| .b 1 (.a <| .b 3 (.a <| .b 4 (.a <| .b 11 (.a <| .b 12 (.a <| .b 13 (.f 14 <| .d) .e) .e) .e) .e) .e) <| .b 3 (.a <| .b 1 (.a <| .b 4 (.a <| .b 11 (.a <| .b 12 (.a <| .b 13 (.f 14 <| .d) .e) .e) .e) .e) .e) .e) .e) <| .b 10 (.a <| .b 1 (.a <| .b 3 (.a <| .b 4 (.a <| .b 7 (.a <| .b 11 (.a <| .b 12 (.a <| .b 13 (.f 14 <| .d) .e) .e) .e) .e) <| .b 7 (.a <| .b 4 (.a <| .b 11 (.a <| .b 12 (.a <| .b 13 (.f 14 <| .d) .e) .e) .e) .e) .e) <| .b 7 (.a <| .b 3 (.a <| .b 4 (.a <| .b 11 (.a <| .b 12 (.a <| .b 13 (.f 14 <| .d) .e) .e) .e) .e) .e) .e) <| .b 3 (.a <| .b 1 (.a <| .b 4 (.a <| .b 7 (.a <| .b 11 (.a <| .b 12 (.a <| .b 13 (.f 14 <| .d) .e) .e) .e) .e) <| .b 7 (.a <| .b 4 (.a <| .b 11 (.a <| .b 12 (.a <| .b 13 (.f 14 <| .d) .e) .e) .e) .e) .e) <| .b 7 (.a <| .b 1 (.a <| .b 4 (.a <| .b 11 (.a <| .b 12 (.a <| .b 13 (.f 14 <| .d) .e) .e) .e) .e) .e) .e) <| .b 7 (.a <| .b 1 (.a <| .b 3 (.a <| .b 4 (.a <| .b 11 (.a <| .b 12 (.a <| .b 13 (.f 14 <| .d) .e) .e) .e) .e) .e) <| .b 3 (.a <| .b 1 (.a <| .b 4 (.a <| .b 11 (.a <| .b 12 (.a <| .b 13 (.f 14 <| .d) .e) .e) .e) .e) .e) .e) .e) .e) (by kernel_rfl) ?_)|(with_reducible refine isAnyP ?_;first|refine AnyP.D ?_|refine AnyP.F (by simp only [seval,go_sem,l_7,l_6];rfl) (by first|(simp only [seval,go_sem];done)) (by first|(simp only [seval,go_sem];with_reducible rfl)) ?_|refine AnyP.A ?_)|(with_reducible first|exact NextsP.E|refine NextsP.B (by simp only [seval,go_sem,l_7,l_6];rfl) ?_ ?_)|(with_reducible refine isRet ?_;refine RetV (rs:=[.tmp 4]) (by with_unfolding_all rfl) rfl ?_<;>simp only [seval,go_sem]<;>(repeat' (with_reducible apply And.intro))<;>(try rfl))|(with_reducible (refine TVq (st:=[]) ?_))|simp only [seval,go_sem]))<;>(try (fail)))
set_option maxRecDepth 100000 in set_option maxHeartbeats 3200000 in
theorem garb_calls {com f t s:Int} {p od bd pg:List (List D)} {ps:List Pn} (hl:ps.length≤100000):ACalls Tryz.prog 29 [.agg [.sc (.int .i64 com),.sl 2 od,.sl 4 bd,.sl 2 (ps.map rowP),.sl 3 pg],.agg [.sc (.int .i64 f),.sc (.int .i64 t),.sc (.int .i64 s),.sl 1 p]] (.sc (.bool (!(t==0) && !coversP f t ps))) []:=by
 have hc:=covers_calls (f:=f) (t:=t) hl
 generalize coversP f t ps=c at *
 by_cases h:t=0
 ·subst h
  refine of_tri [] [2,3,15] Tryz.func29 rfl call29 rfl (by decide) (by decide) rfl rfl Tryz.ntmps29 (by simp (disch:=omega) only [seval,go_sem,cnd,intV,shV,convV,strV,List.replicate,l_2,l_1];rfl) (by simp (disch:=omega) only [seval,go_sem,cnd,intV,shV,convV,strV,l_2,l_1];rfl) ?_
  ((repeat' (first|((with_reducible refine isTriD ?_);((with_reducible first|refine TriD.step (by simp only [seval,go_sem];rfl) ?_);refine LVs (st:=[16]) ?_))|(with_reducible refine isRet ?_;refine RetV (rs:=[.tmp 4]) (by with_unfolding_all rfl) rfl ?_<;>simp only [seval,go_sem]<;>(repeat' (with_reducible apply And.intro))<;>(try rfl))|(with_reducible (refine TVq (st:=[16]) ?_))|simp only [seval,go_sem]|(with_reducible refine oV_st (by simp (disch:=omega) only [seval,go_sem,cnd,intV,shV,convV,strV];rfl) ?_)))<;>(try (fail)))
 ·have e:(t==0)=false:=by simpa using h
  cases c
  all_goals refine of_tri [] [2,3,15] Tryz.func29 rfl call29 rfl (by decide) (by decide) rfl rfl Tryz.ntmps29 (by simp (disch:=omega) only [seval,go_sem,cnd,intV,shV,convV,strV,List.replicate,l_2,l_1];rfl) (by simp (disch:=omega) only [seval,go_sem,cnd,intV,shV,convV,strV,l_2,l_1];rfl) ?_
  all_goals ((repeat' (first|((with_reducible refine isTriD ?_);first|((with_reducible refine isCallD ?_);((with_reducible refine LVcall (st:=[16]) ?_);simp only [seval,go_sem,e];(refine CallL.c (hc) ?_)))|((with_reducible first|refine TriD.step (by simp only [seval,go_sem,e];rfl) ?_);refine LVs (st:=[16]) ?_))|(with_reducible refine isRet ?_;refine RetV (rs:=[.tmp 4]) (by with_unfolding_all rfl) rfl ?_<;>simp only [seval,go_sem]<;>(repeat' (with_reducible apply And.intro))<;>(try rfl))|(with_reducible (refine TVq (st:=[16]) ?_))|simp only [seval,go_sem,e]|(with_reducible refine oV_st (by simp (disch:=omega) only [seval,go_sem,cnd,intV,shV,convV,strV,e];rfl) ?_)))<;>(try (fail)))
set_option maxRecDepth 100000 in set_option maxHeartbeats 3200000 in
theorem rgarb_calls {com f t s:Int} {p od bd pg:List (List D)} {ps:List Pn} (hl:ps.length≤100000):ACalls Tryz.prog 33 [.agg [.sc (.int .i64 com),.sl 2 od,.sl 4 bd,.sl 2 (ps.map rowP),.sl 3 pg],.agg [.sc (.int .i64 f),.sc (.int .i64 t),.sc (.int .i64 s),.sl 1 p]] (.sc (.bool (!(t==0) && !coversP f t ps))) []:=by
 have hc:=rcovers_calls (f:=f) (t:=t) hl
 generalize coversP f t ps=c at *
 by_cases h:t=0
 ·subst h
  refine of_tri [] [2,3,15] Tryz.func33 rfl call33 rfl (by decide) (by decide) rfl rfl Tryz.ntmps33 (by simp (disch:=omega) only [seval,go_sem,cnd,intV,shV,convV,strV,List.replicate,l_2,l_1];rfl) (by simp (disch:=omega) only [seval,go_sem,cnd,intV,shV,convV,strV,l_2,l_1];rfl) ?_
  ((repeat' (first|((with_reducible refine isTriD ?_);((with_reducible first|refine TriD.step (by simp only [seval,go_sem];rfl) ?_);refine LVs (st:=[16]) ?_))|(with_reducible refine isRet ?_;refine RetV (rs:=[.tmp 4]) (by with_unfolding_all rfl) rfl ?_<;>simp only [seval,go_sem]<;>(repeat' (with_reducible apply And.intro))<;>(try rfl))|(with_reducible (refine TVq (st:=[16]) ?_))|simp only [seval,go_sem]|(with_reducible refine oV_st (by simp (disch:=omega) only [seval,go_sem,cnd,intV,shV,convV,strV];rfl) ?_)))<;>(try (fail)))
 ·have e:(t==0)=false:=by simpa using h
  cases c
  all_goals refine of_tri [] [2,3,15] Tryz.func33 rfl call33 rfl (by decide) (by decide) rfl rfl Tryz.ntmps33 (by simp (disch:=omega) only [seval,go_sem,cnd,intV,shV,convV,strV,List.replicate,l_2,l_1];rfl) (by simp (disch:=omega) only [seval,go_sem,cnd,intV,shV,convV,strV,l_2,l_1];rfl) ?_
  all_goals ((repeat' (first|((with_reducible refine isTriD ?_);first|((with_reducible refine isCallD ?_);((with_reducible refine LVcall (st:=[16]) ?_);simp only [seval,go_sem,e];(refine CallL.c (hc) ?_)))|((with_reducible first|refine TriD.step (by simp only [seval,go_sem,e];rfl) ?_);refine LVs (st:=[16]) ?_))|(with_reducible refine isRet ?_;refine RetV (rs:=[.tmp 4]) (by with_unfolding_all rfl) rfl ?_<;>simp only [seval,go_sem]<;>(repeat' (with_reducible apply And.intro))<;>(try rfl))|(with_reducible (refine TVq (st:=[16]) ?_))|simp only [seval,go_sem,e]|(with_reducible refine oV_st (by simp (disch:=omega) only [seval,go_sem,cnd,intV,shV,convV,strV,e];rfl) ?_)))<;>(try (fail)))
theorem mid_get {α:Type} {p m r:List α} {q:Nat} (h1:p.length≤q) (h2:q<p.length+m.length):(p++m++r)[q]? = m[q-p.length]? :=by
 rw [List.getElem?_append_left (by rw [List.length_append];omega),List.getElem?_append_right h1]
theorem mid_set {α:Type} {p m r:List α} {q:Nat} {x:α} (h1:p.length≤q) (h2:q<p.length+m.length):(p++m++r).set q x=p++m.set (q-p.length) x++r:=by
 rw [List.set_append_left _ _ (by rw [List.length_append];omega),List.set_append_right _ _ h1]
set_option maxRecDepth 100000 in set_option maxHeartbeats 6400000 in
theorem isortv_calls {l pre post:List Vn} {a b n:Nat} (ha:pre.length=a) (hb:a+l.length=b) (hn:b+post.length=n) (hl:n≤100000):MCalls Tryz.prog 95 [.row 5 ((pre++l++post).map rowVn)] [.slo 0 5 0 n,.sc (.int .i64 a),.sc (.int .i64 b),.fn 60 []] (.tup []) [.row 5 ((pre++sortV [] l++post).map rowVn)]:=by
 by_cases h0:l.length=0
 ·have e:l=[]:=List.eq_nil_of_length_eq_zero h0
  subst e
  simp only [sortV]
  refine of_tri [1000] [32] Tryz.func95 rfl call95 rfl (by decide) (by decide) rfl rfl Tryz.ntmps95 (by simp (disch:=omega) only [seval,go_sem,cnd,intV,shV,convV,strV,List.replicate,l_2,l_1];rfl) (by simp (disch:=omega) only [seval,go_sem,cnd,intV,shV,convV,strV,l_2,l_1];rfl) ?_
  ((repeat' (first|(with_reducible (refine TVq (st:=[]) ?_))|simp only [seval,go_sem]|(with_reducible refine oV_st (by simp (disch:=omega) only [seval,go_sem,cnd,intV,shV,convV,strV];rfl) ?_)))<;>(try (fail)))
  all_goals (with_reducible refine Tri.loopU (fun (k:Nat)=>[(8,.sc (.int .i64 ((a:Int)+1))),(9,.any),(12,.any),(13,.any),(14,.any),(15,.any),(16,.any),(17,.any),(18,.any),(19,.any),(20,.any),(21,.any),(22,.any),(23,.any),(24,.any),(25,.any),(26,.any),(27,.any),(28,.any),(29,.any),(30,.any),(31,.any),(32,.any),(33,.any),(34,.any),(35,.any),(36,.any),(37,.any),(38,.any),(39,.any),(40,.any),(41,.any),(42,.any),(43,.any),(44,.any),(45,.any),(46,.any),(47,.any),(48,.any),(49,.any),(50,.any),(51,.any),(52,.any)]) (fun (k:Nat)=>[(1000,.row 5 ((pre++[]++post).map rowVn)),(32,.dead)]) (fun (k:Nat)=>True) (fun (k:Nat)=>0) (0) (trivial) (by intro _;simp (disch:=omega) only [seval,go_sem,cnd,intV,shV,convV,strV];rfl) (by intro _;simp (disch:=omega) only [seval,go_sem,cnd,intV,shV,convV,strV];rfl) (by (refine leQL_spec ?_);(try simp only [seval,go_sem]);done) (by (refine leQH_spec ?_);(try simp only [seval,go_sem]);done) (fun k hI=>?_))
  all_goals ((repeat' (first|(with_reducible refine isRet ?_;refine RetV (rs:=[]) (by with_unfolding_all rfl) rfl ?_<;>simp only [seval,go_sem]<;>(repeat' (with_reducible apply And.intro))<;>(try rfl))|(with_reducible (refine TVq (st:=[]) ?_))|simp only [seval,go_sem]|(with_reducible refine oV_st (by simp (disch:=omega) only [seval,go_sem,cnd,intV,shV,convV,strV];rfl) ?_)))<;>(try (fail)))
 have hinit:sortV (l.take 1) (l.drop 1)=sortV [] l:=by
  cases l with
  | nil=>simp at h0
  | cons x r=>rfl
 have hinit2:pre++l.take 1++l.drop 1++post=pre++l++post:=by
  rw [List.append_assoc pre,List.take_append_drop]
 generalize hS:sortV [] l=S at *
 refine of_tri [1000] [32] Tryz.func95 rfl call95 rfl (by decide) (by decide) rfl rfl Tryz.ntmps95 (by simp (disch:=omega) only [seval,go_sem,cnd,intV,shV,convV,strV,List.replicate,l_2,l_1];rfl) (by simp (disch:=omega) only [seval,go_sem,cnd,intV,shV,convV,strV,l_2,l_1];rfl) ?_
 ((repeat' (first|(with_reducible (refine TVq (st:=[]) ?_))|simp only [seval,go_sem]|(with_reducible refine oV_st (by simp (disch:=omega) only [seval,go_sem,cnd,intV,shV,convV,strV];rfl) ?_)))<;>(try (fail)))
 all_goals (with_reducible refine Tri.loopU (fun (t:Nat×List Vn)=>[(8,.sc (.int .i64 ((t.1:Int)+1))),(9,.any),(12,.any),(13,.any),(14,.any),(15,.any),(16,.any),(17,.any),(18,.any),(19,.any),(20,.any),(21,.any),(22,.any),(23,.any),(24,.any),(25,.any),(26,.any),(27,.any),(28,.any),(29,.any),(30,.any),(31,.any),(32,.any),(33,.any),(34,.any),(35,.any),(36,.any),(37,.any),(38,.any),(39,.any),(40,.any),(41,.any),(42,.any),(43,.any),(44,.any),(45,.any),(46,.any),(47,.any),(48,.any),(49,.any),(50,.any),(51,.any),(52,.any)]) (fun (t:Nat×List Vn)=>[(1000,.row 5 ((pre++t.2++l.drop (t.1+1-a)++post).map rowVn)),(32,.dead)]) (fun (t:Nat×List Vn)=>t.1+1≤b∧a≤t.1∧t.2.length=t.1+1-a∧sortV t.2 (l.drop (t.1+1-a))=S) (fun (t:Nat×List Vn)=>b-t.1) ((a,l.take 1)) (⟨by simp only;omega,Nat.le_refl _,by simp only [List.length_take];omega,by simp only [Nat.add_sub_cancel_left];exact hinit⟩) (by intro _;simp (disch:=omega) only [seval,go_sem,cnd,intV,shV,convV,strV];rfl) (by intro _;simp (disch:=omega) only [seval,go_sem,cnd,intV,shV,convV,strV];rfl) (by (refine leQL_spec ?_);(try simp only [seval,go_sem,Nat.add_sub_cancel_left,hinit2]);done) (by (refine leQH_spec ?_);(try simp only [seval,go_sem,Nat.add_sub_cancel_left,hinit2]);done) (fun t hI=>?_))
 all_goals
  obtain ⟨i0,out⟩:=t
  obtain ⟨hi,hi1,ho,hf⟩:=hI
  simp only at hi hi1 ho hf
  by_cases hlt:i0+1<b
  ·obtain ⟨v,hv⟩:=get_lt (show i0+1-a<l.length by omega)
   have ed:i0+1-a+1=i0+1+1-a:=by omega
   rw [drop_get hv,sortV,ed] at hf
   have hr0:(pre++out++l.drop (i0+1-a)++post).map rowVn=(pre++insAt out out.length v++(l.drop (i0+1+1-a)++post)).map rowVn:=by rw [insAt_end,drop_get hv,ed];simp
   generalize hrest:l.drop (i0+1+1-a)=rest at *
   have hrl:rest.length=b-(i0+2):=by rw [← hrest,List.length_drop];omega
   ((repeat' (first|(with_reducible (refine TVq (st:=[]) ?_))|simp only [seval,go_sem,hr0]|(with_reducible refine oV_st (by simp (disch:=omega) only [seval,go_sem,cnd,intV,shV,convV,strV,hr0];rfl) ?_)))<;>(try (fail)))
   all_goals (with_reducible refine Tri.loopU (fun (q:Nat)=>[(9,.sc (.int .i64 q)),(18,.any),(19,.any),(20,.any),(21,.any),(22,.any),(23,.any),(24,.any),(25,.any),(26,.any),(27,.any),(28,.any),(29,.any),(30,.any),(31,.any),(32,.any),(33,.any),(34,.any),(35,.any),(36,.any),(37,.any),(38,.any),(39,.any),(40,.any),(41,.any),(42,.any),(43,.any),(44,.any),(45,.any),(46,.any),(47,.any),(48,.any),(49,.any),(50,.any),(51,.any),(52,.any)]) (fun (q:Nat)=>[(1000,.row 5 ((pre++insAt out (q-a) v++(rest++post)).map rowVn)),(32,.dead)]) (fun (q:Nat)=>a≤q∧q≤i0+1∧stopAt (fun k=>befV v (vnGet out k)) (q-a)=stopAt (fun k=>befV v (vnGet out k)) out.length) (fun (q:Nat)=>q) (i0+1) (⟨by omega,Nat.le_refl _,by rw [ho]⟩) (by intro _;simp (disch:=omega) only [seval,go_sem,cnd,intV,shV,convV,strV];rfl) (by intro _;simp (disch:=omega) only [seval,go_sem,cnd,intV,shV,convV,strV];rfl) (by (refine leQL_spec ?_);(try simp only [seval,go_sem,ho.symm]);first|((repeat' (with_reducible apply And.intro))<;>first|omega);done) (by (refine leQH_spec ?_);(try simp only [seval,go_sem,ho.symm]);done) (fun q hI=>?_))
   all_goals
    obtain ⟨hq,hq2,hst⟩:=hI
    have hli:(insAt out (q-a) v).length=out.length+1:=insAt_len (by omega)
    have hlr:(pre++insAt out (q-a) v++(rest++post)).length=n:=by simp only [List.length_append,hli];omega
    by_cases hqa:q=a
    ·subst hqa
     have hins:insV v out=insAt out (q-q) v:=by rw [insV, ← hst,Nat.sub_self];rfl
     rw [hins] at hf
     have e3: ¬ (q:Int)>(q:Int):=by omega
     ((repeat' (first|(with_reducible refine ListD.nil ?_)|((with_reducible refine isListD ?_);(with_reducible first|refine ListD.step (by simp only [seval,go_sem,e3];rfl) ?_|refine ListD.step (by simp (disch:=omega) only [seval,go_sem,cnd,intV,shV,convV,strV,e3];rfl) ?_))|(with_reducible refine isDrawn ?_;refine Tri.drawnD mix (by kernel_rfl) (by simp only [l_3,l_4];rfl) ?_)|(with_reducible (refine TVq (st:=[]) ?_))|simp only [seval,go_sem,e3]|(with_reducible refine oV_st (by simp (disch:=omega) only [seval,go_sem,cnd,intV,shV,convV,strV,e3];rfl) ?_)))<;>(try (fail)))
     all_goals (try (refine isNextM ((i0+1,insAt out (q-q) v)) (by (refine leQL_spec ?_);(try simp only [seval,go_sem,hrest,List.append_assoc]);first|((repeat' (with_reducible apply And.intro))<;>first|rfl);done) (by (refine leQH_spec ?_);(try simp only [seval,go_sem,hrest,List.append_assoc]);done) ?_ ?_<;>(try (omega))))
     all_goals (try exact ⟨by simp only;omega,by simp only;omega,by simp only [hli];omega,by simp only [hrest];exact hf⟩)
    ·obtain ⟨j2,ej⟩: ∃ j2,q=a+(j2+1):=⟨q-a-1,by omega⟩
     have ej2:q-a=j2+1:=by omega
     rw [ej2] at hst hli hlr ⊢
     obtain ⟨y,hy⟩:=get_lt (show j2<out.length by omega)
     have g1:=get_map rowVn ((mid_get (p:=pre) (m:=insAt out (j2+1) v) (r:=rest++post) (q:=q) (by omega) (by omega)).trans (show (insAt out (j2+1) v)[q-pre.length]? = some v by rw [ha,ej2];exact insAt_at (by omega)))
     have g2:=get_map rowVn ((mid_get (p:=pre) (m:=insAt out (j2+1) v) (r:=rest++post) (q:=q-1) (by omega) (by omega)).trans (show (insAt out (j2+1) v)[q-1-pre.length]? = some y by rw [ha,show q-1-a=j2 by omega];exact (insAt_pre (by omega)).trans hy))
     have hsw:(((pre++insAt out (j2+1) v++(rest++post)).set q y).set (q-1) v)=pre++insAt out (q-1-a) v++(rest++post):=by
      rw [mid_set (by omega) (by omega),mid_set (by omega) (by rw [List.length_set];omega),ha,ej2,show q-1-a=j2 by omega,insAt_swap hy]
     have hsw2:=congrArg (List.map rowVn) hsw
     simp only [List.map_set] at hsw2
     have ey:vnGet out j2=y:=by simp [vnGet,hy]
     rw [stopAt] at hst
     simp only [ey] at hst
     have hce:=cmpV_neg v y
     have hcm:=cmpv_calls (i1:=v.id) (f1:=v.v.from_) (t1:=v.v.to) (s1:=v.v.size) (p1:=v.v.pages.map rowI) (i2:=y.id) (f2:=y.v.from_) (t2:=y.v.to) (s2:=y.v.size) (p2:=y.v.pages.map rowI)
     rw [show (if cmpI v.id y.id≠0 then cmpI v.id y.id else cmpI v.v.from_ y.v.from_)=cmpV v y from rfl] at hcm
     have e1:(q:Int)-1=((q-1:Nat):Int):=by omega
     have e2:(q:Int)>(a:Int):=by omega
     simp only [rowVn] at hsw2
     generalize hR:pre++insAt out (j2+1) v++(rest++post)=RR at *
     generalize cmpV v y=z at *
     generalize hq1:q-1=q1 at *
     cases hb2:befV v y with
     | true=>
       rw [hb2,if_pos rfl] at hst
       rw [hb2,decide_eq_true_eq] at hce
       have g3:((List.map rowVn RR).set q (rowVn y))[q1]? = some (rowVn y):=by rw [List.getElem?_set_ne (by omega)];exact g2
       simp only [rowVn] at g3
       ((repeat' (first|((with_reducible refine isTriD ?_);((with_reducible first|refine TriD.step (by simp only [seval,go_sem,g1,g2,g3,rowVn,e1,e2,hlr];rfl) ?_);refine LVs (st:=[]) ?_))|(with_reducible refine ListD.nil ?_)|((with_reducible refine isListD ?_);first|(with_reducible refine ListD.step (by simp only [seval,go_sem,g1,g2,g3,rowVn,e1,e2,hlr];rfl) ?_)|((with_reducible refine isCallV ?_);((with_reducible (refine ListD.dE (by simp only [seval,go_sem,g1,g2,g3,rowVn,e1,e2,hlr];rfl) (by simp only [seval,go_sem,g1,g2,g3,rowVn,e1,e2,hlr];rfl) ?_));refine CallW.c (hcm) (by simp only [seval,go_sem,g1,g2,g3,rowVn,e1,e2,hlr];rfl) ?_))|(with_reducible refine ListD.step (by simp (disch:=omega) only [seval,go_sem,cnd,intV,shV,convV,strV,g1,g2,g3,rowVn,e1,e2,hlr];rfl) ?_))|(with_reducible refine isDrawnN 6 ?_;refine Tri.mixedP 6 mix 18 rfl (.f 0 <| .f 1 <| .f 2 <| .f 3 <| .f 4 <| .f 5 <| .f 6 <| .f 7 <| .f 8 <| .f 10 <| .f 11 <| .f 12 <| .a <| .b 9 (.a <| .b 13 (.f 14 <| .a <| .b 15 (.f 16 <| .a <| .b 17 (.d) .e) .e) .e) <| .b 13 (.a <| .b 9 (.f 14 <| .a <| .b 15 (.f 16 <| .a <| .b 17 (.d) .e) .e) .e) .e) (by kernel_rfl) ?_)|(with_reducible refine isAnyP ?_;first|refine AnyP.D ?_|refine AnyP.F (by simp only [seval,go_sem,l_7,l_6];rfl) (by first|(simp only [seval,go_sem,g1,g2,g3,rowVn,e1,e2,hlr];done)) (by first|(simp only [seval,go_sem,g1,g2,g3,rowVn,e1,e2,hlr];with_reducible rfl)|(simp (disch:=omega) only [seval,go_sem,cnd,intV,shV,convV,strV,g1,g2,g3,rowVn,e1,e2,hlr];with_reducible rfl)) ?_|refine AnyP.A ?_)|(with_reducible first|exact NextsP.E|refine NextsP.B (by simp only [seval,go_sem,l_7,l_6];rfl) ?_ ?_)|(with_reducible refine isDrawn ?_;refine Tri.drawnD mix (by kernel_rfl) (by simp only [l_3,l_4];rfl) ?_)|(with_reducible (refine TVq (st:=[]) ?_))|simp only [seval,go_sem,g1,g2,g3,rowVn,e1,e2,hlr]|(with_reducible refine oV_st (by simp (disch:=omega) only [seval,go_sem,cnd,intV,shV,convV,strV,g1,g2,g3,rowVn,e1,e2,hlr];rfl) ?_)))<;>(try (fail)))
       all_goals (try (refine isNextM (q1) (by (refine leQL_spec ?_);(try simp only [seval,go_sem,hsw2]);done) (by (refine leQH_spec ?_);(try simp only [seval,go_sem,hsw2]);done) ?_ ?_<;>(try (omega))))
       all_goals (try exact ⟨by omega,by omega,by rw [show q1-a=j2 by omega];exact hst⟩)
     | false=>
       rw [hb2,if_neg (by decide)] at hst
       rw [hb2,decide_eq_false_iff_not] at hce
       have hins:insV v out=insAt out (j2+1) v:=by rw [insV, ← hst]
       have hR2:pre++(insAt out (j2+1) v++(rest++post))=RR:=by rw [← hR,List.append_assoc]
       rw [hins] at hf
       ((repeat' (first|(with_reducible refine ListD.nil ?_)|((with_reducible refine isListD ?_);first|(with_reducible refine ListD.step (by simp only [seval,go_sem,g1,g2,rowVn,e1,e2,hlr];rfl) ?_)|((with_reducible refine isCallV ?_);((with_reducible (refine ListD.dE (by simp only [seval,go_sem,g1,g2,rowVn,e1,e2,hlr];rfl) (by simp only [seval,go_sem,g1,g2,rowVn,e1,e2,hlr];rfl) ?_));refine CallW.c (hcm) (by simp only [seval,go_sem,g1,g2,rowVn,e1,e2,hlr];rfl) ?_))|(with_reducible refine ListD.step (by simp (disch:=omega) only [seval,go_sem,cnd,intV,shV,convV,strV,g1,g2,rowVn,e1,e2,hlr];rfl) ?_))|(with_reducible refine isDrawn ?_;refine Tri.drawnD mix (by kernel_rfl) (by simp only [l_3,l_4];rfl) ?_)|(with_reducible (refine TVq (st:=[]) ?_))|simp only [seval,go_sem,g1,g2,rowVn,e1,e2,hlr]|(with_reducible refine oV_st (by simp (disch:=omega) only [seval,go_sem,cnd,intV,shV,convV,strV,g1,g2,rowVn,e1,e2,hlr];rfl) ?_)))<;>(try (fail)))
       all_goals (try (refine isNextM ((i0+1,insAt out (j2+1) v)) (by (refine leQL_spec ?_);(try simp only [seval,go_sem,hrest,List.append_assoc,hR2]);first|((repeat' (with_reducible apply And.intro))<;>first|rfl);done) (by (refine leQH_spec ?_);(try simp only [seval,go_sem,hrest,List.append_assoc,hR2]);done) ?_ ?_<;>(try (omega))))
       all_goals (try exact ⟨by simp only;omega,by simp only;omega,by simp only [hli];omega,by simp only [hrest];exact hf⟩)
  ·have e:l.drop (i0+1-a)=[]:=List.drop_eq_nil_of_le (by omega)
   rw [e] at hf ⊢
   have e2:out=S:=hf
   subst e2
   ((repeat' (first|(with_reducible refine isRet ?_;refine RetV (rs:=[]) (by with_unfolding_all rfl) rfl ?_<;>simp only [seval,go_sem]<;>(repeat' (with_reducible apply And.intro))<;>(try rfl))|(with_reducible (refine TVq (st:=[]) ?_))|simp only [seval,go_sem,List.append_nil]|(with_reducible refine oV_st (by simp (disch:=omega) only [seval,go_sem,cnd,intV,shV,convV,strV,List.append_nil];rfl) ?_)))<;>(try (fail)))
end Go.Proofs.YtmgodadmafcliaaGreat
