/- Collector: sorted and compacted pages are those that the reference puts in their places one by one (plain). -/
import Derived.Test.YtmgodadmafcliaaRCoP
import Derived.Lib.RowBridge
set_option linter.unusedSimpArgs false
set_option linter.unusedVariables false
namespace Go.Proofs.Ytmgodadmafcliaa
open Go.RowKit Go.Avm
theorem ascI_ext: ∀ {a b:List Int},AscI a→AscI b→(∀ x,x∈a↔x∈b)→a=b
 | [],[],_,_,_=>rfl
 | [],y::b,_,_,h=>by have:=(h y).2 (List.mem_cons_self ..);cases this
 | x::a,[],_,_,h=>by have:=(h x).1 (List.mem_cons_self ..);cases this
 | x::a,y::b,ha,hb,h=>by
   have ha':=List.pairwise_cons.1 ha
   have hb':=List.pairwise_cons.1 hb
   have e:x=y:=by
    rcases List.mem_cons.1 ((h x).1 (List.mem_cons_self ..)) with e|e
    ·exact e
    ·rcases List.mem_cons.1 ((h y).2 (List.mem_cons_self ..)) with e2|e2
     ·exact e2.symm
     ·have h1:=hb'.1 x e
      have h2:=ha'.1 y e2
      omega
   subst e
   rw [ascI_ext ha'.2 hb'.2 fun z=>?_]
   constructor
   ·intro hz
    rcases List.mem_cons.1 ((h z).1 (List.mem_cons_of_mem _ hz)) with e|e
    ·subst e;have:=ha'.1 z hz;omega
    ·exact e
   ·intro hz
    rcases List.mem_cons.1 ((h z).2 (List.mem_cons_of_mem _ hz)) with e|e
    ·subst e;have:=hb'.1 z hz;omega
    ·exact e
theorem insI_mem (n:Int): ∀ (l:List Int) (x:Int),x∈insI n l↔x=n∨x∈l
 | [],x=>by simp [insI]
 | y::l,x=>by
   unfold insI
   split
   ·rw [List.mem_cons,insI_mem n l x,List.mem_cons]
    constructor
    ·rintro (h|h|h)<;>simp_all
    ·rintro (h|h|h)<;>simp_all
   ·split
    ·rename_i h
     subst h
     simp
    ·simp
theorem insI_asc (n:Int): ∀ {l:List Int},AscI l→AscI (insI n l)
 | [],_=>List.pairwise_singleton _ _
 | y::l,h=>by
   have h':=List.pairwise_cons.1 h
   unfold insI
   split
   ·rename_i h1
    refine List.Pairwise.cons (fun x hx=>?_) (insI_asc n h'.2)
    rcases (insI_mem n l x).1 hx with rfl|hx
    ·exact h1
    ·exact h'.1 x hx
   ·rename_i h1
    split
    ·exact h
    ·rename_i h2
     refine List.Pairwise.cons (fun x hx=>?_) h
     rcases List.mem_cons.1 hx with rfl|hx
     ·omega
     ·have:=h'.1 x hx;omega
theorem insAll_spec: ∀ (l a:List Int),AscI a→AscI (insAll a l)∧ ∀ x,x∈insAll a l↔x∈a∨x∈l
 | [],a,h=>⟨h,fun x=>by simp [insAll]⟩
 | n::l,a,h=>by
   rw [insAll]
   obtain ⟨h1,h2⟩:=insAll_spec l _ (insI_asc n h)
   refine ⟨h1,fun x=>?_⟩
   rw [h2,insI_mem,List.mem_cons]
   constructor
   ·rintro ((h|h)|h)<;>simp_all
   ·rintro (h|h|h)<;>simp_all
theorem insI_len (n:Int): ∀ l:List Int,(insI n l).length≤l.length+1
 | []=>Nat.le_refl _
 | y::l=>by
   have:=insI_len n l
   unfold insI
   split
   ·simp only [List.length_cons];omega
   ·split<;>simp only [List.length_cons]<;>omega
theorem compI_spec (d:Array Int) (hs: ∀ i j,i<j→j<d.size→d[i]! ≤d[j]!): ∀ m,m≤d.size→
  (Lib.compactUpTo d m).Pairwise (· < ·)∧(∀ x,x∈Lib.compactUpTo d m↔ ∃ i,i<m∧d[i]! = x)
 | 0,_=>by simp [Lib.compactUpTo]
 | m+1,hm=>by
   obtain ⟨h1,h2⟩:=compI_spec d hs m (by omega)
   rw [Lib.compactUpTo_succ]
   by_cases hk:Lib.keeps d m=true
   ·rw [if_pos hk]
    refine ⟨List.pairwise_append.2 ⟨h1,List.pairwise_singleton _ _,fun x hx y hy=>?_⟩,fun x=>?_⟩
    ·obtain ⟨i,hi,rfl⟩:=(h2 x).1 hx
     rw [List.mem_singleton] at hy
     subst hy
     have hk':m≠0∧d[m]! ≠d[m-1]! ∨m=0:=by
      unfold Lib.keeps at hk
      rcases of_decide_eq_true hk with g|g
      ·exact .inr g
      ·by_cases h0:m=0
       ·exact .inr h0
       ·exact .inl ⟨h0,g⟩
     rcases hk' with ⟨h0,hne⟩|h0
     ·have a1:d[i]! ≤d[m-1]! :=by
       rcases Nat.lt_or_ge i (m-1) with g|g
       ·exact hs i (m-1) g (by omega)
       ·have:i=m-1:=by omega
        subst this;exact Int.le_refl _
      have a2:d[m-1]! ≤d[m]! :=hs (m-1) m (by omega) (by omega)
      omega
     ·omega
    ·rw [List.mem_append,h2,List.mem_singleton]
     constructor
     ·rintro (⟨i,hi,e⟩|e)
      ·exact ⟨i,by omega,e⟩
      ·exact ⟨m,by omega,e.symm⟩
     ·rintro ⟨i,hi,e⟩
      rcases Nat.lt_or_ge i m with g|g
      ·exact .inl ⟨i,g,e⟩
      ·have:i=m:=by omega
       subst this;exact .inr e.symm
   ·rw [if_neg hk,List.append_nil]
    refine ⟨h1,fun x=>?_⟩
    rw [h2]
    have hk':m≠0∧d[m]! = d[m-1]! :=by
     unfold Lib.keeps at hk
     simp only [decide_eq_true_eq,not_or,ne_eq,Decidable.not_not] at hk
     exact hk
    constructor
    ·rintro ⟨i,hi,e⟩;exact ⟨i,by omega,e⟩
    ·rintro ⟨i,hi,e⟩
     rcases Nat.lt_or_ge i m with g|g
     ·exact ⟨i,g,e⟩
     ·have:i=m:=by omega
      subst this;exact ⟨i-1,by omega,by rw [← hk'.2];exact e⟩
def sortI (l:List Int):List Int:=l.mergeSort fun x y=>decide (x≤y)
theorem sortI_len (l:List Int):(sortI l).length=l.length:=by simp [sortI]
/-- Sorted and compacted. -/
def uniqI (l:List Int):List Int:=Lib.compact (sortI l)
theorem uniqI_eq (l:List Int):uniqI l=insAll [] l:=by
 have hsrt:(sortI l).Pairwise (fun x y=>x≤y):=by
  have:=List.pairwise_mergeSort (le:=fun x y:Int=>decide (x≤y)) (fun a b c h1 h2=>by simp only [decide_eq_true_eq] at *;omega) (fun a b=>by simp only [Bool.or_eq_true,decide_eq_true_eq];omega) l
  exact this.imp (fun h=>by simpa using h)
 have hmem: ∀ z,z∈sortI l↔z∈l:=fun z=>List.mem_mergeSort
 unfold uniqI Lib.compact
 generalize sortI l=Z at hsrt hmem
 obtain ⟨h1,h2⟩:=compI_spec Z.toArray (fun i j hij hj=>by
  have hj':j<Z.length:=by simpa using hj
  have:=List.pairwise_iff_getElem.1 hsrt i j (by omega) hj' hij
  rw [getElem!_pos Z.toArray i (by simp;omega),getElem!_pos Z.toArray j hj]
  simpa using this) Z.length (by simp)
 obtain ⟨g1,g2⟩:=insAll_spec l [] List.Pairwise.nil
 refine ascI_ext h1 g1 fun x=>?_
 rw [h2,g2]
 simp only [List.not_mem_nil,false_or]
 rw [← hmem x]
 constructor
 ·rintro ⟨i,hi,rfl⟩
  rw [getElem!_pos Z.toArray i (by simpa using hi)]
  simp
 ·intro hx
  obtain ⟨i,hi,rfl⟩:=List.mem_iff_getElem.1 hx
  exact ⟨i,hi,by rw [getElem!_pos Z.toArray i (by simpa using hi)];simp⟩
end Go.Proofs.Ytmgodadmafcliaa
