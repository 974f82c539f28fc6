/- A stable sort by merging: what it gives is what inserting gives (plain). -/
import Derived.Test.YtmgodadmafcliaaRCoP
set_option linter.unusedSimpArgs false
set_option linter.unusedVariables false
namespace Go.Proofs.Ytmgodadmafcliaa
open Go.RowKit Go.Avm
/-- The elements with the point of x, in their order. -/
def eqK (x:Vn) (l:List Vn):List Vn:=l.filter fun y=>decide (y.id=x.id)&&decide (y.v.from_=x.v.from_)
theorem eqK_app (x:Vn) (l m:List Vn):eqK x (l++m)=eqK x l++eqK x m:=by simp [eqK]
theorem eqK_cons (x y:Vn) (l:List Vn):eqK x (y::l)=if y.id=x.id∧y.v.from_=x.v.from_ then y::eqK x l else eqK x l:=by
 unfold eqK
 rw [List.filter_cons]
 by_cases h:y.id=x.id∧y.v.from_=x.v.from_
 ·rw [if_pos h,if_pos (by simp [h])]
 ·rw [if_neg h,if_neg (by simpa using h)]
theorem eqK_nil {x:Vn} {l:List Vn} (h: ∀ y∈l, ¬ (y.id=x.id∧y.v.from_=x.v.from_)):eqK x l=[]:=by
 unfold eqK
 rw [List.filter_eq_nil_iff]
 intro y hy
 have:=h y hy
 simpa using this
theorem ascV_app {l m:List Vn}:AscV (l++m)↔AscV l∧AscV m∧ ∀ x∈l, ∀ y∈m,befV y x=false:=List.pairwise_append
theorem eqK_insV (z x:Vn) {l:List Vn} (h:AscV l):eqK z (insV x l)=eqK z (l++[x]):=by
 have hj:=stopAt_le (fun k=>befV x (vnGet l k)) l.length
 have hge:=stop_ge (fun k=>befV x (vnGet l k)) l.length
 unfold insV insAt
 generalize stopAt (fun k=>befV x (vnGet l k)) l.length=j at *
 have hB: ∀ y∈l.drop j,befV x y=true:=fun y hy=>by
  obtain ⟨k,hk,rfl⟩:=List.mem_iff_getElem.1 hy
  rw [List.length_drop] at hk
  have:=hge (j+k) (by omega) (by omega)
  simp only [vnGet,List.getElem?_eq_getElem (show j+k<l.length by omega),Option.getD_some] at this
  rwa [List.getElem_drop]
 have e:l++[x]=l.take j++(l.drop j++[x]):=by rw [← List.append_assoc,List.take_append_drop]
 rw [e,eqK_app,eqK_app,eqK_app,List.append_assoc,eqK_app]
 congr 1
 by_cases hz:x.id=z.id∧x.v.from_=z.v.from_
 ·have:eqK z (l.drop j)=[]:=eqK_nil fun y hy=>by
   have:=hB y hy
   rw [bef_iff] at this
   omega
  rw [this];simp
 ·have:eqK z [x]=[]:=eqK_nil fun y hy=>by rw [List.mem_singleton.1 hy];exact hz
  rw [this];simp
theorem eqK_sortV (z:Vn): ∀ (l:List Vn) {a:List Vn},AscV a→eqK z (sortV a l)=eqK z (a++l)
 | [],a,_=>by rw [sortV,List.append_nil]
 | x::l,a,h=>by
   rw [sortV,eqK_sortV z l (insV_asc x h),eqK_app,eqK_insV z x h, ← eqK_app,List.append_assoc];rfl
theorem sort_uniq: ∀ {u v:List Vn},AscV u→AscV v→(∀ z,eqK z u=eqK z v)→u=v
 | [],[],_,_,_=>rfl
 | [],y::v,_,_,h=>by
   have:=h y
   rw [eqK_cons,if_pos ⟨rfl,rfl⟩] at this
   cases this
 | x::u,[],_,_,h=>by
   have:=h x
   rw [eqK_cons,if_pos ⟨rfl,rfl⟩] at this
   cases this
 | x::u,y::v,hu,hv,h=>by
   have hu':=List.pairwise_cons.1 hu
   have hv':=List.pairwise_cons.1 hv
   have key:y.id=x.id∧y.v.from_=x.v.from_:=by
    by_cases hk:y.id=x.id∧y.v.from_=x.v.from_
    ·exact hk
    ·exfalso
     have h1:=h x
     have h2:=h y
     rw [eqK_cons,if_pos ⟨rfl,rfl⟩,eqK_cons,if_neg hk] at h1
     rw [eqK_cons,if_neg (fun e=>hk ⟨e.1.symm,e.2.symm⟩),eqK_cons,if_pos ⟨rfl,rfl⟩] at h2
     have m1:x∈eqK x v:=by rw [← h1];simp
     have m2:y∈eqK y u:=by rw [h2];simp
     have n1:=hv'.1 x (List.mem_filter.1 m1).1
     have n2:=hu'.1 y (List.mem_filter.1 m2).1
     rw [bef_not] at n1 n2
     omega
   have h1:=h x
   rw [eqK_cons,if_pos ⟨rfl,rfl⟩,eqK_cons,if_pos key] at h1
   injection h1 with e1 e2
   subst e1
   congr 1
   refine sort_uniq hu'.2 hv'.2 fun z=>?_
   have h3:=h z
   rw [eqK_cons,eqK_cons] at h3
   split at h3
   ·injection h3
   ·exact h3
theorem sortV_sub: ∀ (l a:List Vn) (x:Vn),x∈sortV a l↔x∈a∨x∈l
 | [],a,x=>by simp [sortV]
 | y::l,a,x=>by
   rw [sortV,sortV_sub l,(insV_perm y a).mem_iff,List.mem_cons,List.mem_cons]
   constructor
   ·rintro ((h|h)|h)
    ·exact .inr (.inl h)
    ·exact .inl h
    ·exact .inr (.inr h)
   ·rintro (h|h|h)
    ·exact .inl (.inr h)
    ·exact .inl (.inl h)
    ·exact .inr h
/-- Sorting what comes in first changes nothing. -/
theorem sortV_sorted {A Y:List Vn} (h:AscV A):sortV A (sortV [] Y)=sortV A Y:=by
 refine sort_uniq (sortV_asc _ h) (sortV_asc _ h) fun z=>?_
 rw [eqK_sortV z _ h,eqK_sortV z _ h,eqK_app,eqK_app,eqK_sortV z Y (a:=[]) List.Pairwise.nil,List.nil_append]
theorem sortV_nil {A:List Vn} (h:AscV A):sortV [] A=A:=by
 refine sort_uniq (sortV_asc _ List.Pairwise.nil) h fun z=>?_
 rw [eqK_sortV z _ List.Pairwise.nil,List.nil_append]
/-- A merge falls into two. -/
theorem merge_split {A1 A2 B1 B2:List Vn} (hA:AscV (A1++A2)) (hB:AscV (B1++B2)) (h1: ∀ x∈A1, ∀ y∈B2,befV y x=false) (h2: ∀ y∈B1, ∀ x∈A2,befV y x=true):sortV (A1++A2) (B1++B2)=sortV A1 B1++sortV A2 B2:=by
 obtain ⟨a1,a2,a3⟩:=ascV_app.1 hA
 obtain ⟨b1,b2,b3⟩:=ascV_app.1 hB
 refine sort_uniq (sortV_asc _ hA) (ascV_app.2 ⟨sortV_asc _ a1,sortV_asc _ a2,fun u hu v hv=>?_⟩) fun z=>?_
 ·rw [sortV_sub] at hu hv
  rcases hu with hu|hu<;>rcases hv with hv|hv
  ·exact a3 u hu v hv
  ·exact h1 u hu v hv
  ·have:=h2 u hu v hv
   rw [bef_iff] at this
   rw [bef_not];omega
  ·exact b3 u hu v hv
 ·rw [eqK_sortV z _ hA,eqK_app,eqK_app,eqK_app,eqK_app,eqK_sortV z _ a1,eqK_sortV z _ a2,eqK_app,eqK_app]
  have hc:eqK z A2++eqK z B1=eqK z B1++eqK z A2:=by
   by_cases e:eqK z A2=[]
   ·rw [e];simp
   ·have:eqK z B1=[]:=eqK_nil fun y hy hyz=>by
     obtain ⟨x,hx⟩:=List.exists_mem_of_ne_nil _ e
     obtain ⟨hx1,hx2⟩:=List.mem_filter.1 hx
     have:=h2 y hy x hx1
     rw [bef_iff] at this
     simp only [Bool.and_eq_true,decide_eq_true_eq] at hx2
     omega
    rw [this];simp
  calc eqK z A1++eqK z A2++(eqK z B1++eqK z B2)=eqK z A1++(eqK z A2++eqK z B1)++eqK z B2:=by simp
   _=eqK z A1++(eqK z B1++eqK z A2)++eqK z B2:=by rw [hc]
   _=_:=by simp
/-- What stands before all of the other stays before it. -/
theorem merge_le {A B:List Vn} (hA:AscV A) (hB:AscV B) (h: ∀ x∈A, ∀ y∈B,befV y x=false):sortV A B=A++B:=by
 have:=merge_split (A1:=A) (A2:=[]) (B1:=[]) (B2:=B) (by simpa using hA) (by simpa using hB) h (by simp)
 rw [List.append_nil,List.nil_append] at this
 rw [this]
 show sortV A []++sortV [] B=A++B
 rw [sortV_nil hB];rfl
theorem merge_lt {A B:List Vn} (hA:AscV A) (hB:AscV B) (h: ∀ y∈B, ∀ x∈A,befV y x=true):sortV A B=B++A:=by
 have:=merge_split (A1:=[]) (A2:=A) (B1:=B) (B2:=[]) (by simpa using hA) (by simpa using hB) (by simp) h
 rw [List.append_nil,List.nil_append] at this
 rw [this]
 show sortV [] B++sortV A []=B++A
 rw [sortV_nil hB];rfl
/-- One element merged into a list, from the front. -/
theorem merge_one {x:Vn} {B1 B2:List Vn} (hB:AscV (B1++B2)) (h1: ∀ y∈B1,befV y x=true) (h2: ∀ y∈B2,befV y x=false):sortV [x] (B1++B2)=B1++x::B2:=by
 obtain ⟨b1,b2,b3⟩:=ascV_app.1 hB
 have:=merge_split (A1:=[]) (A2:=[x]) (B1:=B1) (B2:=B2) (List.pairwise_singleton _ _) hB (by simp) (fun y hy z hz=>by rw [List.mem_singleton.1 hz];exact h1 y hy)
 rw [List.nil_append] at this
 rw [this,sortV_nil b1,merge_le (List.pairwise_singleton _ _) b2 (fun z hz y hy=>by rw [List.mem_singleton.1 hz];exact h2 y hy)]
 rfl
/-- One element merged into a list, from the back. -/
theorem merge_last {x:Vn} {A1 A2:List Vn} (hA:AscV (A1++A2)) (h1: ∀ y∈A1,befV x y=false) (h2: ∀ y∈A2,befV x y=true):sortV (A1++A2) [x]=A1++x::A2:=by
 obtain ⟨a1,a2,a3⟩:=ascV_app.1 hA
 have:=merge_split (A1:=A1) (A2:=A2) (B1:=[x]) (B2:=[]) hA (by rw [List.append_nil];exact List.pairwise_singleton _ _) (by simp) (fun y hy z hz=>by rw [List.mem_singleton.1 hy];exact h2 z hz)
 rw [List.append_nil] at this
 rw [this,merge_le a1 (List.pairwise_singleton _ _) (fun z hz y hy=>by rw [List.mem_singleton.1 hy];exact h1 z hz)]
 show A1++[x]++A2=_
 simp
theorem bef_trans {x y z:Vn} (h1:befV y x=false) (h2:befV z y=false):befV z x=false:=by
 rw [bef_not] at *;omega
theorem bef_lt {x y z:Vn} (h1:befV x y=true) (h2:befV z y=false):befV x z=true:=by
 rw [bef_not] at h2;rw [bef_iff] at *;omega
theorem bef_lt' {x y z:Vn} (h1:befV x y=true) (h2:befV x z=false):befV z y=true:=by
 rw [bef_not] at h2;rw [bef_iff] at *;omega
end Go.Proofs.Ytmgodadmafcliaa
