/- An element that comes into a list from the end; the versions of a dump in their order (plain). -/
import Derived.Test.YtmgodadmafcliaaRAuQ
set_option linter.unusedSimpArgs false
set_option linter.unusedVariables false
namespace Go.Proofs.Ytmgodadmafcliaa
open Go.RowKit Go.Avm
/-- Where an element that comes in from the end stops. -/
def stopAt (p:Nat→Bool):Nat→Nat
 | 0=>0
 | k+1=>if p k=true then stopAt p k else k+1
theorem stopAt_le (p:Nat→Bool): ∀ n,stopAt p n≤n
 | 0=>Nat.le_refl _
 | k+1=>by
   have:=stopAt_le p k
   unfold stopAt;split<;>omega
def insAt {α:Type} (l:List α) (j:Nat) (x:α):List α:=l.take j++[x]++l.drop j
theorem insAt_len {α:Type} {l:List α} {j:Nat} {x:α} (h:j≤l.length):(insAt l j x).length=l.length+1:=by
 simp only [insAt,List.length_append,List.length_take,List.length_drop,List.length_cons,List.length_nil];omega
theorem insAt_at {α:Type} {l:List α} {j:Nat} {x:α} (h:j≤l.length):(insAt l j x)[j]? = some x:=by
 have hl:(l.take j).length=j:=by rw [List.length_take];omega
 rw [insAt,List.append_assoc,List.getElem?_append_right (by omega),hl];simp
theorem insAt_pre {α:Type} {l:List α} {j:Nat} {x:α} (h:j+1≤l.length):(insAt l (j+1) x)[j]? = l[j]? :=by
 have hl:(l.take (j+1)).length=j+1:=by rw [List.length_take];omega
 rw [insAt,List.append_assoc,List.getElem?_append_left (by omega),List.getElem?_take_of_lt (by omega)]
theorem insAt_end {α:Type} {l:List α} {x:α}:insAt l l.length x=l++[x]:=by simp [insAt]
theorem insAt_swap {α:Type} {l:List α} {j:Nat} {x y:α} (hy:l[j]? = some y):((insAt l (j+1) x).set (j+1) y).set j x=insAt l j x:=by
 have h:=(List.getElem?_eq_some_iff.1 hy).1
 have hl:(l.take j).length=j:=by rw [List.length_take];omega
 have e:insAt l (j+1) x=l.take j++(y::x::l.drop (j+1)):=by rw [insAt,take_get hy];simp
 rw [e,List.set_append_right _ _ (by omega),List.set_append_right _ _ (by omega),hl,Nat.add_sub_cancel_left,Nat.sub_self]
 rw [insAt,drop_get hy];simp
theorem insAt_swap' {α:Type} {l:List α} {j:Nat} {x y:α} (hy:l[j]? = some y):((insAt l (j+1) x).set j x).set (j+1) y=insAt l j x:=by
 have:=insAt_swap (x:=x) hy
 rwa [List.set_comm _ _ (by omega)] at this
theorem insAt_perm {α:Type} (l:List α) (j:Nat) (x:α):(insAt l j x).Perm (x::l):=by
 unfold insAt
 have h1:(l.take j++[x]++l.drop j).Perm ([x]++l.take j++l.drop j):=List.Perm.append_right _ List.perm_append_comm
 refine h1.trans ?_
 rw [List.append_assoc,List.take_append_drop]
 exact List.Perm.refl _
structure Vn where
 id:Int
 v:Ver
 deriving DecidableEq
def rowVn (x:Vn):List D:=[.sc (.int .i64 x.id), .sc (.int .i64 x.v.from_), .sc (.int .i64 x.v.to), .sc (.int .i64 x.v.size), .sl 1 (x.v.pages.map rowI)]
def vnGet (l:List Vn) (i:Nat):Vn:=(l[i]?).getD ⟨0,⟨0,0,0,[]⟩⟩
def ptLt (a b c d:Int):Bool:=decide (a<c)||(decide (a=c)&&decide (b<d))
def befV (x y:Vn):Bool:=ptLt x.id x.v.from_ y.id y.v.from_
def insV (x:Vn) (l:List Vn):List Vn:=insAt l (stopAt (fun k=>befV x (vnGet l k)) l.length) x
def versO (id:Int):List Ver→List Vn→List Vn
 | [],a=>a
 | v::l,a=>versO id l (insV ⟨id,v⟩ a)
def versR:List Ob→List Vn→List Vn
 | [],a=>a
 | o::l,a=>versR l (versO o.id o.vers a)
theorem insV_len (x:Vn) (l:List Vn):(insV x l).length=l.length+1:=insAt_len (stopAt_le _ _)
theorem insV_perm (x:Vn) (l:List Vn):(insV x l).Perm (x::l):=insAt_perm _ _ _
theorem versO_len (id:Int): ∀ (l:List Ver) (a:List Vn),(versO id l a).length=a.length+l.length
 | [],_=>rfl
 | v::l,a=>by rw [versO,versO_len id l,insV_len,List.length_cons];omega
theorem versO_perm (id:Int): ∀ (l:List Ver) (a:List Vn),(versO id l a).Perm (a++l.map fun v=>⟨id,v⟩)
 | [],a=>by simp [versO]
 | v::l,a=>by
   rw [versO]
   refine (versO_perm id l _).trans ?_
   rw [l_3]
   refine ((insV_perm _ a).append_right _).trans ?_
   rw [List.cons_append]
   exact List.perm_middle.symm
def vnsO (o:Ob):List Vn:=o.vers.map fun v=>⟨o.id,v⟩
theorem versR_perm: ∀ (l:List Ob) (a:List Vn),(versR l a).Perm (a++l.flatMap vnsO)
 | [],a=>by simp [versR]
 | o::l,a=>by
   rw [versR,List.flatMap_cons, ← List.append_assoc]
   exact (versR_perm l _).trans ((versO_perm _ _ _).append_right _)
def pgsN (l:List Vn):List Int:=l.flatMap fun x=>x.v.pages
theorem pgsN_vns (l:List Ob):pgsN (l.flatMap vnsO)=pgsO l:=by
 unfold pgsN pgsO
 rw [List.flatMap_assoc]
 congr 1
 funext o
 simp [vnsO,pgsV,List.flatMap_map]
theorem cntW_vers (n:Int) (l:List Ob) (s:Int):cntW n (pgsN (versR l [])) s=cntW n (pgsO l) s:=by
 refine cntW_perm ?_ s
 rw [← pgsN_vns]
 exact (by simpa using versR_perm l []:(versR l []).Perm (l.flatMap vnsO)).flatMap_right _
/-- The reference's verdict. -/
def conR (d:Dm):Bool:=(d.pages.all fun p=>cntW p.num (pgsN (versR d.objs [])) 0==p.refs)&&nameOne d&&d.binds.all fun b=>(!(b.to==0)||(!decide (objAt b.obj d.objs 0<0)&&((d.objs[(objAt b.obj d.objs 0).toNat]?).map curO).getD false))&&keptB d b
theorem all_and {α:Type} (f g:α→Bool): ∀ l:List α,(l.all fun x=>f x&&g x)=(l.all f&&l.all g)
 | []=>rfl
 | x::l=>by
   rw [List.all_cons,List.all_cons,List.all_cons,all_and f g l]
   cases f x<;>cases g x<;>cases l.all f<;>rfl
theorem conR_eq (d:Dm):conR d=(refsOk d&&nameOne d&&nameCur d&&keptOk d):=by
 have e1:(d.pages.all fun p=>cntW p.num (pgsN (versR d.objs [])) 0==p.refs)=refsOk d:=by
  unfold refsOk
  congr 1
  funext p
  rw [cntW_vers,Bool.eq_iff_iff,beq_iff_eq,beq_iff_eq]
  exact eq_comm
 unfold conR
 rw [e1,all_and]
 unfold nameCur keptOk
 rw [Bool.and_assoc,Bool.and_assoc,Bool.and_assoc]
theorem objsE_asc {psz com:Int}: ∀ (l:List Ob) (prev:Option Int),objsE psz com prev l=0→(∀ o∈l,o.vers.length≠0∧validV none o.vers=0∧lateV com o.vers=false∧fitV psz o.vers=true∧1≤o.id∧ ∀ p,prev=some p→p<o.id)∧AscI (l.map (·.id))
 | [],_,_=>⟨by simp,List.Pairwise.nil⟩
 | o::l,prev,h=>by
   rw [objsE] at h
   split at h
   ·contradiction
   ·rename_i hz
    simp only [ne_eq,Decidable.not_not] at hz
    obtain ⟨h1,h2⟩:=objsE_asc l _ h
    unfold obE at hz
    split at hz
    ·omega
    split at hz
    ·omega
    rename_i g1 g2
    split at hz
    ·omega
    split at hz
    ·contradiction
    split at hz
    ·omega
    split at hz
    ·omega
    rename_i g3 g4 g5 g6
    have hp: ∀ p,prev=some p→p<o.id:=fun p e=>by subst e;simp at g2;omega
    refine ⟨fun o' ho'=>?_,?_⟩
    ·rcases List.mem_cons.1 ho' with rfl|ho'
     ·exact ⟨by omega,by simpa using g4,by simpa using g5,by simpa using g6,by omega,hp⟩
     ·obtain ⟨a1,a2,a3,a4,a5,a6⟩:=h1 o' ho'
      exact ⟨a1,a2,a3,a4,a5,fun p e=>Int.lt_trans (hp p e) (a6 _ rfl)⟩
    ·unfold AscI
     rw [l_3,List.pairwise_cons]
     refine ⟨fun x hx=>?_,h2⟩
     obtain ⟨o',ho',rfl⟩:=List.mem_map.1 hx
     exact (h1 o' ho').2.2.2.2.2 _ rfl
theorem pgsE_asc {psz:Int}: ∀ (l:List Pg) (prev:Option Int),pgsE psz prev l=0→(∀ o∈l,1≤o.num∧(o.data.length:Int)≤psz∧ ∀ p,prev=some p→p<o.num)∧AscI (l.map (·.num))
 | [],_,_=>⟨by simp,List.Pairwise.nil⟩
 | o::l,prev,h=>by
   rw [pgsE] at h
   split at h
   ·contradiction
   ·rename_i hz
    simp only [ne_eq,Decidable.not_not] at hz
    obtain ⟨h1,h2⟩:=pgsE_asc l _ h
    unfold pgE at hz
    split at hz
    ·omega
    split at hz
    ·omega
    rename_i g1 g2
    split at hz
    ·omega
    have hp: ∀ p,prev=some p→p<o.num:=fun p e=>by subst e;simp at g2;omega
    refine ⟨fun o' ho'=>?_,?_⟩
    ·rcases List.mem_cons.1 ho' with rfl|ho'
     ·exact ⟨by omega,by omega,hp⟩
     ·obtain ⟨a1,a2,a3⟩:=h1 o' ho'
      exact ⟨a1,a2,fun p e=>Int.lt_trans (hp p e) (a3 _ rfl)⟩
    ·unfold AscI
     rw [l_3,List.pairwise_cons]
     refine ⟨fun x hx=>?_,h2⟩
     obtain ⟨o',ho',rfl⟩:=List.mem_map.1 hx
     exact (h1 o' ho').2.2 _ rfl
theorem validV_rng: ∀ (l:List Ver) (prev:Option Ver),validV prev l=0→ ∀ v∈l,1≤v.from_∧0≤v.to∧0≤v.size
 | [],_,_=>by simp
 | x::l,prev,h=>by
   unfold validV at h
   split at h
   ·omega
   split at h
   ·omega
   have h2:validV (some x) l=0:=by
    cases prev with
    | none=>exact h
    | some p=>
      simp only at h
      split at h
      ·omega
      ·exact h
   intro v hv
   rcases List.mem_cons.1 hv with rfl|hv
   ·omega
   ·exact validV_rng l _ h2 v hv
end Go.Proofs.Ytmgodadmafcliaa
