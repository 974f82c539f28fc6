/- Pins: the place of a commit; what Add and Remove make of a valid list (plain lemmas). -/
import Derived.Test.YtmgodadmafcliaaRPiA
set_option linter.unusedSimpArgs false
set_option linter.unusedVariables false
namespace Go.Proofs.Ytmgodadmafcliaa
open Go.RowKit Go.Avm
structure OkP (l:List Pn):Prop where
 range: ∀ p∈l,0≤p.commit∧1≤p.count∧p.count≤1024
 asc:l.Pairwise (fun a b=>a.commit<b.commit)
theorem validP_ok: ∀ (l:List Pn) (prev:Option Pn),validP prev l=0→OkP l∧ ∀ q,prev=some q→ ∀ p∈l,q.commit<p.commit
 | [],_,_=>⟨⟨by simp,List.Pairwise.nil⟩,by simp⟩
 | v::l,prev,h=>by
   unfold validP at h
   split at h
   ·omega
   ·rename_i hr
    have key:validP (some v) l=0∧ ∀ q,prev=some q→q.commit<v.commit:=by
     cases prev with
     | none=>exact ⟨by simpa using h,by simp⟩
     | some q=>
       simp only at h
       split at h
       ·omega
       ·exact ⟨h,fun q' e=>by cases e;omega⟩
    obtain ⟨hl,hq⟩:=validP_ok l (some v) key.1
    refine ⟨⟨fun p hp=>?_,List.Pairwise.cons (fun p hp=>hq v rfl p hp) hl.asc⟩,fun q e p hp=>?_⟩
    ·rcases List.mem_cons.1 hp with rfl|hp
     ·omega
     ·exact hl.range p hp
    ·have h1:=key.2 q e
     rcases List.mem_cons.1 hp with rfl|hp
     ·exact h1
     ·exact Int.lt_trans h1 (hq v rfl p hp)
theorem validP_ok' {l:List Pn} (h:validP none l=0):OkP l:=(validP_ok l none h).1
theorem OkP.tail {p:Pn} {l:List Pn} (h:OkP (p::l)):OkP l∧ ∀ q∈l,p.commit<q.commit:=by
 have:=h.asc
 rw [List.pairwise_cons] at this
 exact ⟨⟨fun q hq=>h.range q (List.mem_cons_of_mem _ hq),this.2⟩,this.1⟩
def placeP (c:Int):List Pn→Nat
 | []=>0
 | p::l=>if p.commit<c then placeP c l+1 else 0
theorem placeP_le (c:Int): ∀ l,placeP c l≤l.length
 | []=>by simp [placeP]
 | p::l=>by
   unfold placeP
   have:=placeP_le c l
   split<;>simp only [List.length_cons]<;>omega
theorem placeP_is (c:Int): ∀ (l:List Pn) (i:Nat),i≤l.length→(∀ j q,j<i→l[j]? = some q→q.commit<c)→(∀ q,l[i]? = some q→c≤q.commit)→placeP c l=i
 | [],i,h,_,_=>by simp only [List.length_nil,Nat.le_zero] at h;subst h;rfl
 | p::l,0,_,_,h2=>by
   have:=h2 p rfl
   unfold placeP
   rw [if_neg (by omega)]
 | p::l,i+1,h,h1,h2=>by
   have h3:=h1 0 p (by omega) rfl
   unfold placeP
   rw [if_pos h3,placeP_is c l i (by simpa using h) (fun j q hj hq=>h1 (j+1) q (by omega) (by simpa using hq)) (fun q hq=>h2 q (by simpa using hq))]
theorem asc_get {l:List Pn} (h:l.Pairwise (fun a b=>a.commit<b.commit)) {i j:Nat} {x y:Pn} (hx:l[i]? = some x) (hy:l[j]? = some y) (hij:i<j):x.commit<y.commit:=by
 obtain ⟨h1,rfl⟩:=List.getElem?_eq_some_iff.1 hx
 obtain ⟨h2,rfl⟩:=List.getElem?_eq_some_iff.1 hy
 exact List.pairwise_iff_getElem.1 h i j h1 h2 hij
def insGo (c:Int):List Pn→List Pn
 | []=>[⟨c,1⟩]
 | p::l=>if c<p.commit then ⟨c,1⟩::p::l else if p.commit=c then ⟨p.commit,p.count+1⟩::l else p::insGo c l
def fullP (c:Int):List Pn→Bool
 | []=>false
 | p::l=>if p.commit=c∧p.count=1024 then true else fullP c l
def addP (l:List Pn) (c:Int):List Pn×Int:=
 if validP none l≠0 then ([],validP none l) else if c<0 then ([],5) else if fullP c l then ([],14) else (insGo c l,0)
def hasP (c:Int):List Pn→Bool
 | []=>false
 | p::l=>if p.commit=c then true else hasP c l
def delGo (c:Int):List Pn→List Pn
 | []=>[]
 | p::l=>if p.commit=c then (if p.count-1>0 then ⟨p.commit,p.count-1⟩::delGo c l else delGo c l) else if p.count>0 then p::delGo c l else delGo c l
def remP (l:List Pn) (c:Int):List Pn×Int:=
 if validP none l≠0 then ([],validP none l) else if hasP c l then (delGo c l,0) else ([],8)
theorem full_above {c:Int}: ∀ {l:List Pn},(∀ q∈l,c<q.commit)→fullP c l=false∧hasP c l=false∧((∀ q∈l,1≤q.count)→delGo c l=l)
 | [],_=>⟨rfl,rfl,fun _=>rfl⟩
 | p::l,h=>by
   have h1:=h p (by simp)
   obtain ⟨h2,h3,h4⟩:=full_above (fun q hq=>h q (List.mem_cons_of_mem _ hq))
   refine ⟨?_,?_,fun hc=>?_⟩
   ·unfold fullP;rw [if_neg (by omega)];exact h2
   ·unfold hasP;rw [if_neg (by omega)];exact h3
   ·have:=hc p (by simp)
    unfold delGo;rw [if_neg (by omega),if_pos (by omega),h4 (fun q hq=>hc q (List.mem_cons_of_mem _ hq))]
/-- Where the commit has a pin. -/
theorem at_pin {c:Int}: ∀ {l:List Pn} {p:Pn},OkP l→l[placeP c l]? = some p→p.commit=c→
  fullP c l=decide (p.count=1024)∧insGo c l=l.set (placeP c l) ⟨p.commit,p.count+1⟩∧hasP c l=true∧delGo c l=if p.count-1=0 then l.take (placeP c l)++l.drop (placeP c l+1) else l.set (placeP c l) ⟨p.commit,p.count-1⟩
 | [],p,_,h,_=>by simp at h
 | q::l,p,ok,h,hc=>by
   obtain ⟨ok',hab⟩:=ok.tail
   have hr:=ok.range q (by simp)
   unfold placeP at h ⊢
   by_cases hlt:q.commit<c
   ·simp only [if_pos hlt] at h ⊢
    rw [l_7] at h
    obtain ⟨h1,h2,h3,h4⟩:=at_pin ok' h hc
    refine ⟨?_,?_,?_,?_⟩
    ·unfold fullP;rw [if_neg (by omega)];exact h1
    ·unfold insGo;rw [if_neg (by omega),if_neg (by omega),h2];rfl
    ·unfold hasP;rw [if_neg (by omega)];exact h3
    ·unfold delGo;rw [if_neg (by omega),if_pos (by omega),h4];split<;>rfl
   ·simp only [if_neg hlt] at h ⊢
    simp only [l_6,l_5] at h
    subst h
    obtain ⟨f1,f2,f3⟩:=full_above (c:=c) (l:=l) (fun r hr=>by have:=hab r hr;omega)
    have f3':=f3 (fun r hr=>(ok'.range r hr).2.1)
    refine ⟨?_,?_,?_,?_⟩
    ·unfold fullP
     by_cases hk:q.count=1024
     ·rw [if_pos ⟨hc,hk⟩];simp [hk]
     ·rw [if_neg (by omega),f1];simp [hk]
    ·unfold insGo;rw [if_neg (by omega),if_pos hc];rfl
    ·unfold hasP;rw [if_pos hc]
    ·unfold delGo;rw [if_pos hc,f3']
     by_cases hk:q.count-1=0
     ·rw [if_neg (by omega),if_pos hk];rfl
     ·rw [if_pos (by omega),if_neg hk];rfl
/-- Where it has none. -/
theorem at_none {c:Int}: ∀ {l:List Pn},OkP l→(∀ p,l[placeP c l]? = some p→p.commit≠c)→fullP c l=false∧insGo c l=l.take (placeP c l)++[⟨c,1⟩]++l.drop (placeP c l)∧hasP c l=false
 | [],_,_=>⟨rfl,rfl,rfl⟩
 | q::l,ok,h=>by
   obtain ⟨ok',hab⟩:=ok.tail
   unfold placeP at h ⊢
   by_cases hlt:q.commit<c
   ·simp only [if_pos hlt] at h ⊢
    obtain ⟨h1,h2,h3⟩:=at_none ok' (fun p hp=>h p (by simpa using hp))
    refine ⟨?_,?_,?_⟩
    ·unfold fullP;rw [if_neg (by omega)];exact h1
    ·unfold insGo;rw [if_neg (by omega),if_neg (by omega),h2];rfl
    ·unfold hasP;rw [if_neg (by omega)];exact h3
   ·simp only [if_neg hlt] at h ⊢
    have hne:=h q rfl
    obtain ⟨f1,f2,_⟩:=full_above (c:=c) (l:=l) (fun r hr=>by have:=hab r hr;omega)
    refine ⟨?_,?_,?_⟩
    ·unfold fullP;rw [if_neg (by omega)];exact f1
    ·unfold insGo;rw [if_pos (by omega)];rfl
    ·unfold hasP;rw [if_neg (by omega)];exact f2
theorem insGo_len (c:Int): ∀ l:List Pn,(insGo c l).length≤l.length+1
 | []=>by simp [insGo]
 | p::l=>by
   unfold insGo
   have:=insGo_len c l
   split
   ·simp
   ·split<;>simp<;>omega
theorem delGo_len (c:Int): ∀ l:List Pn,(delGo c l).length≤l.length
 | []=>by simp [delGo]
 | p::l=>by
   unfold delGo
   have:=delGo_len c l
   split
   ·split<;>simp<;>omega
   ·split<;>simp<;>omega
theorem addP_len {l:List Pn} {c:Int} {n:Nat} (h:l.length≤n):(addP l c).1.length≤n+1:=by
 have:=insGo_len c l
 unfold addP;split
 ·simp
 ·split
  ·simp
  ·split
   ·simp
   ·simp only;omega
theorem remP_len {l:List Pn} {c:Int} {n:Nat} (h:l.length≤n):(remP l c).1.length≤n:=by
 have:=delGo_len c l
 unfold remP;split
 ·simp
 ·split
  ·simp only;omega
  ·simp
end Go.Proofs.Ytmgodadmafcliaa
