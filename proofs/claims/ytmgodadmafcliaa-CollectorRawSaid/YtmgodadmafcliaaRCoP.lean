/- Collector: what its functions compute (plain). -/
import Derived.Test.YtmgodadmafcliaaRVnP
set_option linter.unusedSimpArgs false
set_option linter.unusedVariables false
namespace Go.Proofs.Ytmgodadmafcliaa
open Go.RowKit Go.Avm
def cmpI (a b:Int):Int:=if a<b then -1 else if b<a then 1 else 0
/-- The order of versions, as a number. -/
def cmpV (x y:Vn):Int:=if cmpI x.id y.id≠0 then cmpI x.id y.id else cmpI x.v.from_ y.v.from_
theorem cmpV_neg (x y:Vn):decide (cmpV x y<0)=befV x y:=by
 unfold cmpV befV ptLt cmpI
 rcases Int.lt_trichotomy x.id y.id with h|h|h
 ·rw [if_pos h,if_pos (by decide),decide_eq_true h];rfl
 ·rw [if_neg (show ¬ x.id<y.id by omega),if_neg (show ¬ y.id<x.id by omega),if_neg (by decide),decide_eq_false (show ¬ x.id<y.id by omega),decide_eq_true h,Bool.false_or,Bool.true_and]
  rw [Bool.eq_iff_iff,decide_eq_true_eq,decide_eq_true_eq]
  split
  ·simp_all
  ·split<;>omega
 ·rw [if_neg (show ¬ x.id<y.id by omega),if_pos h,if_pos (by decide),decide_eq_false (show ¬ x.id<y.id by omega),decide_eq_false (show ¬ x.id=y.id by omega)];rfl
def sortV:List Vn→List Vn→List Vn
 | a,[]=>a
 | a,x::l=>sortV (insV x a) l
theorem sortV_len: ∀ (l a:List Vn),(sortV a l).length=a.length+l.length
 | [],_=>rfl
 | x::l,a=>by rw [sortV,sortV_len l,insV_len,List.length_cons];omega
theorem sortV_app: ∀ (l m a:List Vn),sortV a (l++m)=sortV (sortV a l) m
 | [],_,_=>rfl
 | x::l,m,a=>by rw [List.cons_append,sortV,sortV_app l m,sortV]
theorem versO_sortV (id:Int): ∀ (l:List Ver) (a:List Vn),versO id l a=sortV a (l.map fun v=>⟨id,v⟩)
 | [],_=>rfl
 | v::l,a=>by rw [versO,versO_sortV id l,l_3,sortV]
theorem versR_sortV: ∀ (l:List Ob) (a:List Vn),versR l a=sortV a (l.flatMap vnsO)
 | [],_=>rfl
 | o::l,a=>by rw [versR,versR_sortV l,versO_sortV,List.flatMap_cons,sortV_app];rfl
/-- In order: no later one comes before an earlier one. -/
def AscV (l:List Vn):Prop:=l.Pairwise fun x y=>befV y x=false
theorem bef_iff (x y:Vn):befV x y=true↔(x.id<y.id∨(x.id=y.id∧x.v.from_<y.v.from_)):=by
 simp [befV,ptLt]
theorem bef_not (x y:Vn):befV x y=false↔ ¬ (x.id<y.id∨(x.id=y.id∧x.v.from_<y.v.from_)):=by
 rw [← bef_iff];simp
theorem stop_ge (p:Nat→Bool): ∀ (n k:Nat),stopAt p n≤k→k<n→p k=true
 | 0,_,_,h=>by omega
 | n+1,k,h1,h2=>by
   unfold stopAt at h1
   split at h1
   ·rename_i hp
    by_cases hk:k=n
    ·rw [hk];exact hp
    ·exact stop_ge p n k h1 (by omega)
   ·omega
theorem stop_lt (p:Nat→Bool): ∀ (n j:Nat),stopAt p n=j+1→p j=false
 | 0,_,h=>by simp [stopAt] at h
 | n+1,j,h=>by
   unfold stopAt at h
   split at h
   ·exact stop_lt p n j h
   ·rename_i hp
    rw [show j=n by omega];simpa using hp
theorem insV_asc (x:Vn) {l:List Vn} (h:AscV l):AscV (insV x l):=by
 have hj:=stopAt_le (fun k=>befV x (vnGet l k)) l.length
 have hge:=stop_ge (fun k=>befV x (vnGet l k)) l.length
 have hlt:=stop_lt (fun k=>befV x (vnGet l k)) l.length
 unfold insV
 generalize stopAt (fun k=>befV x (vnGet l k)) l.length=j at *
 have hget: ∀ k (hk:k<l.length),vnGet l k=l[k]:=fun k hk=>by simp [vnGet,List.getElem?_eq_getElem hk]
 have h0:(l.take j++l.drop j).Pairwise fun x y=>befV y x=false:=by rw [List.take_append_drop];exact h
 obtain ⟨hA,hB,hAB⟩:=List.pairwise_append.1 h0
 have hB': ∀ y∈l.drop j,befV x y=true:=fun y hy=>by
  obtain ⟨k,hk,rfl⟩:=List.mem_iff_getElem.1 hy
  rw [List.length_drop] at hk
  have:=hge (j+k) (by omega) (by omega)
  simp only [hget (j+k) (by omega)] at this
  rwa [List.getElem_drop]
 have hA': ∀ y∈l.take j,befV x y=false:=fun y hy=>by
  cases j with
  | zero=>simp at hy
  | succ i=>
    have h1:=hlt i rfl
    simp only [hget i (by omega)] at h1
    obtain ⟨k,hk,rfl⟩:=List.mem_iff_getElem.1 hy
    rw [List.length_take] at hk
    rw [List.getElem_take]
    by_cases hki:k=i
    ·subst hki;exact h1
    ·have h2:=List.pairwise_iff_getElem.1 h k i (by omega) (by omega) (by omega)
     rw [bef_not] at h1 h2 ⊢
     omega
 unfold insAt AscV
 rw [List.append_assoc,List.singleton_append]
 refine List.pairwise_append.2 ⟨hA,List.pairwise_cons.2 ⟨fun y hy=>?_,hB⟩,fun a ha b hb=>?_⟩
 ·have:=hB' y hy
  rw [bef_iff] at this
  rw [bef_not]
  omega
 ·rcases List.mem_cons.1 hb with rfl|hb
  ·exact hA' a ha
  ·exact hAB a ha b hb
theorem sortV_asc: ∀ (l:List Vn) {a:List Vn},AscV a→AscV (sortV a l)
 | [],_,h=>h
 | x::l,_,h=>sortV_asc l (insV_asc x h)
structure Vc where
 obj:Int
 frm:Int
 deriving DecidableEq
def rowVc (x:Vc):List D:=[.sc (.int .i64 x.obj), .sc (.int .i64 x.frm)]
def garbV (p:List Pn) (v:Ver):Bool:= !(v.to==0) && !coversP v.from_ v.to p
def vcOf (x:Vn):Vc:=⟨x.id,x.v.from_⟩
def garbR (p:List Pn):List Vn→List Vc
 | []=>[]
 | x::l=>if garbV p x.v=true then vcOf x::garbR p l else garbR p l
def livePgs (p:List Pn):List Vn→List Int
 | []=>[]
 | x::l=>if garbV p x.v=true then livePgs p l else x.v.pages++livePgs p l
def insI (n:Int):List Int→List Int
 | []=>[n]
 | y::l=>if y<n then y::insI n l else if y=n then y::l else n::y::l
def insAll:List Int→List Int→List Int
 | a,[]=>a
 | a,n::l=>insAll (insI n a) l
/-- The pages of all versions that are not garbage, as the reference lists them. -/
def reachR (p:List Pn) (l:List Vn):List Int:=insAll [] (livePgs p l)
def bumpV (x:Vn):Vc:=⟨x.id,if x.v.from_<9223372036854775807 then x.v.from_+1 else x.v.from_⟩
def befP (x:Vn) (a:Vc):Bool:=ptLt x.id x.v.from_ a.obj a.frm
def nextP (p:List Pn) (a:Vc):List Vn→Int→List Vc→Vc→List Vc×Vc×Bool
 | [],_,vs,nx=>(vs,nx,true)
 | x::l,c,vs,nx=>if befP x a=true then nextP p a l c vs nx else if c≤0 then (vs,nx,false) else nextP p a l (c-1) (if garbV p x.v=true then vs++[vcOf x] else vs) (bumpV x)
def skipR (a:Vc):List Vn→List Vn
 | []=>[]
 | x::l=>if befP x a=true then skipR a l else x::l
def nextR (p:List Pn):List Vn→Int→List Vc→Vc→List Vc×Vc×Bool
 | [],_,vs,nx=>(vs,nx,true)
 | x::l,c,vs,nx=>if 0<c then nextR p l (c-1) (if garbV p x.v=true then vs++[vcOf x] else vs) (bumpV x) else (vs,nx,false)
theorem befP_iff (x:Vn) (a:Vc):befP x a=true↔(x.id<a.obj∨(x.id=a.obj∧x.v.from_<a.frm)):=by
 simp [befP,ptLt]
theorem nextP_on (p:List Pn) (a:Vc): ∀ (l:List Vn) (c:Int) (vs:List Vc) (nx:Vc),(∀ x∈l,befP x a=false)→nextP p a l c vs nx=nextR p l c vs nx
 | [],_,_,_,_=>rfl
 | x::l,c,vs,nx,h=>by
   rw [nextP,nextR,if_neg (by rw [h x (by simp)];decide)]
   by_cases hc:c≤0
   ·rw [if_pos hc,if_neg (show ¬ 0<c by omega)]
   ·rw [if_neg hc,if_pos (show 0<c by omega)]
    exact nextP_on p a l _ _ _ fun y hy=>h y (by simp [hy])
theorem nextP_eq (p:List Pn) (a:Vc): ∀ (l:List Vn) (c:Int) (vs:List Vc) (nx:Vc),AscV l→nextP p a l c vs nx=nextR p (skipR a l) c vs nx
 | [],_,_,_,_=>rfl
 | x::l,c,vs,nx,h=>by
   have h':=List.pairwise_cons.1 h
   cases hb:befP x a with
   | true=>
     rw [nextP,if_pos hb,skipR,if_pos hb]
     exact nextP_eq p a l c vs nx h'.2
   | false=>
     rw [skipR,if_neg (by rw [hb];decide)]
     refine nextP_on p a (x::l) c vs nx fun y hy=>?_
     rcases List.mem_cons.1 hy with rfl|hy
     ·exact hb
     ·have h1:=h'.1 y hy
      rw [bef_not] at h1
      have h2: ¬ befP x a=true:=by rw [hb];decide
      rw [befP_iff] at h2
      cases h3:befP y a with
      | false=>rfl
      | true=>rw [befP_iff] at h3;omega
end Go.Proofs.Ytmgodadmafcliaa
