/- A stable sort by merging: symMerge merges two sorted neighbours. -/
import Derived.Test.YtmgodadmafcliaaRCoMa
import Derived.Test.YtmgodadmafcliaaRCoMb
set_option linter.unusedSimpArgs false
set_option linter.unusedVariables false
namespace Go.Proofs.Ytmgodadmafcliaa
open Go.RowKit Go.Avm
-- CON slices.symMergeCmpFunc[sketchstore/collector.entry] | symm_calls ?_ ?_ ?_ ?_ ?_ ?_ ?_ ?_ ?_ | 2
set_option maxRecDepth 100000 in set_option maxHeartbeats 12800000 in
theorem symm_go (k:Nat): ∀ {P A B S:List Vn} {a m b N:Nat},A.length+B.length≤k→P.length=a→a+A.length=m→m+B.length=b→b+S.length=N→0<A.length→0<B.length→N≤100000→AscV A→AscV B→MCalls Try.prog 151 [.row 5 ((P++A++B++S).map rowVn)] [.slo 0 5 0 N, .sc (.int .i64 a), .sc (.int .i64 m), .sc (.int .i64 b), .fn 92 []] (.tup []) [.row 5 ((P++sortV A B++S).map rowVn)]:=by
 induction k with
 | zero=>intro P A B S a m b N hk _ _ _ _ hA0 _ _ _ _;omega
 | succ k ih=>
   intro P A B S a m b N hk ha hAl hBl hS hA0 hB0 hN hA hB
   by_cases hA1:A.length=1
   ·obtain ⟨x,rfl⟩:=List.length_eq_one_iff.1 hA1
    exact symm_one ha (by simpa using hAl) hBl hS hB0 hN hB
   by_cases hB1:B.length=1
   ·obtain ⟨x,rfl⟩:=List.length_eq_one_iff.1 hB1
    exact symm_last ha hAl (by simpa using hBl) hS (by omega) hN hA
   obtain ⟨mid,hmid⟩: ∃ mid,mid=(a+b)/2:=⟨_,rfl⟩
   obtain ⟨n,hn⟩: ∃ n,n=mid+m:=⟨_,rfl⟩
   have hlen:((P++A++B++S).map rowVn).length=N:=by simp;omega
   have gA: ∀ (c:Nat) u,a≤c→A[c-a]? = some u→((P++A++B++S).map rowVn)[c]? = some (rowVn u):=fun c u h hu=>get_map rowVn (by
    have:=(List.getElem?_eq_some_iff.1 hu).1
    rw [List.append_assoc (P++A),mid_get (p:=P) (m:=A) (r:=B++S) (q:=c) (by omega) (by omega),ha];exact hu)
   have gB: ∀ (c:Nat) u,m≤c→B[c-m]? = some u→((P++A++B++S).map rowVn)[c]? = some (rowVn u):=fun c u h hu=>get_map rowVn (by
    have:=(List.getElem?_eq_some_iff.1 hu).1
    rw [mid_get (p:=P++A) (m:=B) (r:=S) (q:=c) (by simp;omega) (by simp;omega),show c-(P++A).length=c-m by simp;omega];exact hu)
   have hcut:=fun s s0 r0=>symm_cut (s:=s) (s0:=s0) (r0:=r0) hA hB hAl hBl hmid
   obtain ⟨s0,r0,hcase⟩: ∃ s0 r0,(m≤mid∧s0=a∧r0=m)∨(mid<m∧s0=mid+m-b∧r0=mid):=by
    by_cases h:m≤mid
    ·exact ⟨a,m, .inl ⟨h,rfl,rfl⟩⟩
    ·exact ⟨_,mid, .inr ⟨by omega,rfl,rfl⟩⟩
   have hc0:=hcase
   have hend: ∀ s,s0≤s→s≤r0→(s=s0∨ ∃ u v,A[s-1-a]? = some u∧B[mid-s]? = some v∧befV v u=false∧s0<s)→(s=r0∨ ∃ u v,A[s-a]? = some u∧B[mid-1-s]? = some v∧befV v u=true∧s<r0)→
     ∃ R1 R2,(((s<m∧m<n-s)∧MCalls Try.prog 157 [.row 5 ((P++A++B++S).map rowVn)] [.slo 0 5 0 N, .sc (.int .i64 s), .sc (.int .i64 m), .sc (.int .i64 ((n-s:Nat):Int)), .fn 92 []] (.tup []) [.row 5 (R1.map rowVn)])∨(¬ (s<m∧m<n-s)∧P++A++B++S=R1))∧
       (((a<s∧s<mid)∧MCalls Try.prog 151 [.row 5 (R1.map rowVn)] [.slo 0 5 0 N, .sc (.int .i64 a), .sc (.int .i64 s), .sc (.int .i64 mid), .fn 92 []] (.tup []) [.row 5 (R2.map rowVn)])∨(¬ (a<s∧s<mid)∧R1=R2))∧
       (((mid<n-s∧n-s<b)∧MCalls Try.prog 151 [.row 5 (R2.map rowVn)] [.slo 0 5 0 N, .sc (.int .i64 mid), .sc (.int .i64 ((n-s:Nat):Int)), .sc (.int .i64 b), .fn 92 []] (.tup []) [.row 5 ((P++sortV A B++S).map rowVn)])∨(¬ (mid<n-s∧n-s<b)∧R2=P++sortV A B++S)):=fun s hs1 hs2 hi1 hi2=>by
    obtain ⟨h1,h2⟩:=hcut s s0 r0 hc0 hs1 hs2 hi1 hi2
    have hsa:a≤s∧s≤m∧s≤mid∧mid-s≤B.length:=by rcases hc0 with ⟨q1,q2,q3⟩|⟨q1,q2,q3⟩<;>omega
    obtain ⟨A1,A2,eA,lA1⟩: ∃ A1 A2,A=A1++A2∧A1=A.take (s-a)∧A2=A.drop (s-a):=⟨_,_,(List.take_append_drop _ _).symm,rfl,rfl⟩
    obtain ⟨B1,B2,eB,lB1⟩: ∃ B1 B2,B=B1++B2∧B1=B.take (mid-s)∧B2=B.drop (mid-s):=⟨_,_,(List.take_append_drop _ _).symm,rfl,rfl⟩
    rw [← lA1.1, ← lB1.2] at h1
    rw [← lB1.1, ← lA1.2] at h2
    have n1:A1.length=s-a:=by rw [lA1.1,List.length_take];omega
    have n2:A2.length=m-s:=by rw [lA1.2,List.length_drop];omega
    have n3:B1.length=mid-s:=by rw [lB1.1,List.length_take];omega
    have n4:B2.length=b-(n-s):=by rw [lB1.2,List.length_drop];omega
    have hms:sortV A B=sortV A1 B1++sortV A2 B2:=by
     rw [eA] at hA;rw [eB] at hB
     rw [eA,eB];exact merge_split hA hB h1 h2
    rw [eA] at hA;rw [eB] at hB
    obtain ⟨p1,p2,_⟩:=ascV_app.1 hA
    obtain ⟨p3,p4,_⟩:=ascV_app.1 hB
    have n5:(sortV A1 B1).length=mid-a:=by rw [sortV_len];omega
    refine ⟨P++A1++B1++(A2++(B2++S)),P++sortV A1 B1++(A2++(B2++S)),?_,?_,?_⟩
    ·by_cases hc:s<m∧m<n-s
     ·refine .inl ⟨hc,?_⟩
      have:=rotate_calls (P:=P++A1) (A:=A2) (B:=B1) (S:=B2++S) (a:=s) (m:=m) (b:=n-s) (N:=N) (by rw [List.length_append];omega) (by omega) (by omega) (by rw [List.length_append];omega) (by omega) (by omega) hN
      rw [show P++A++B++S=P++A1++A2++B1++(B2++S) by rw [eA,eB];simp,show P++A1++B1++(A2++(B2++S))=P++A1++B1++A2++(B2++S) by simp]
      exact this
     ·refine .inr ⟨hc,?_⟩
      rw [eA,eB]
      by_cases hsm:s<m
      ·have:B1=[]:=List.eq_nil_of_length_eq_zero (by omega)
       rw [this];simp
      ·have:A2=[]:=List.eq_nil_of_length_eq_zero (by omega)
       rw [this];simp
    ·by_cases hc:a<s∧s<mid
     ·exact .inl ⟨hc,ih (P:=P) (A:=A1) (B:=B1) (S:=A2++(B2++S)) (by omega) ha (by omega) (by omega) (by simp only [List.length_append];omega) (by omega) (by omega) hN p1 p3⟩
     ·refine .inr ⟨hc,?_⟩
      congr 1
      by_cases hsm:a<s
      ·have:B1=[]:=List.eq_nil_of_length_eq_zero (by omega)
       rw [this];simp [sortV]
      ·have:A1=[]:=List.eq_nil_of_length_eq_zero (by omega)
       rw [this,sortV_nil p3];simp
    ·have eR:P++sortV A B++S=P++sortV A1 B1++sortV A2 B2++S:=by rw [hms];simp
     rw [eR]
     by_cases hc:mid<n-s∧n-s<b
     ·refine .inl ⟨hc,?_⟩
      have:=ih (P:=P++sortV A1 B1) (A:=A2) (B:=B2) (S:=S) (a:=mid) (m:=n-s) (b:=b) (N:=N) (by omega) (by rw [List.length_append];omega) (by omega) (by omega) (by omega) (by omega) (by omega) hN p2 p4
      rw [show P++sortV A1 B1++(A2++(B2++S))=P++sortV A1 B1++A2++B2++S by simp]
      exact this
     ·refine .inr ⟨hc,?_⟩
      by_cases hsm:mid<n-s
      ·have:B2=[]:=List.eq_nil_of_length_eq_zero (by omega)
       rw [this];simp [sortV]
      ·have:A2=[]:=List.eq_nil_of_length_eq_zero (by omega)
       rw [this,sortV_nil p4];simp
   have hs0r:a≤s0∧s0≤r0∧r0≤m∧r0≤mid∧mid-s0≤B.length∧n≤s0+b:=by rcases hc0 with ⟨q1,q2,q3⟩|⟨q1,q2,q3⟩<;>omega
   rcases hc0 with ⟨q1,q2,q3⟩|⟨q1,q2,q3⟩
   ·exact symm_walk1 hAl hBl (by omega) hN (by omega) (by omega) hmid hn hlen gA gB hend hs0r q1 q2 q3
   ·exact symm_walk2 hAl hBl (by omega) hN (by omega) (by omega) hmid hn hlen gA gB hend hs0r q1 (by omega) q3
theorem symm_calls {P A B S:List Vn} {a m b N:Nat} (ha:P.length=a) (hA:a+A.length=m) (hB:m+B.length=b) (hS:b+S.length=N) (hA0:0<A.length) (hB0:0<B.length) (hN:N≤100000) (h1:AscV A) (h2:AscV B):MCalls Try.prog 151 [.row 5 ((P++A++B++S).map rowVn)] [.slo 0 5 0 N, .sc (.int .i64 a), .sc (.int .i64 m), .sc (.int .i64 b), .fn 92 []] (.tup []) [.row 5 ((P++sortV A B++S).map rowVn)]:=
 symm_go _ (Nat.le_refl _) ha hA hB hS hA0 hB0 hN h1 h2
end Go.Proofs.Ytmgodadmafcliaa
