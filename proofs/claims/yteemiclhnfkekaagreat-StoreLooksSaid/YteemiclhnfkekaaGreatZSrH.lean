/- The reference's store: sizes of what Change and Store build (plain). -/
import Derived.Test.YteemiclhnfkekaaGreatZSrC
set_option linter.unusedSimpArgs false
set_option linter.unusedVariables false
namespace Go.Proofs.YteemiclhnfkekaaGreat
open Go.RowKit Go.eB
def yj (d:List Int):Prop:=d.length<=1024/\∀ z∈d,0<=z/\z<=255
def tI (l:List Pg):Prop:= ∀ p∈l,yj p.data
theorem Jf:yj []:=⟨ek _,fun z hz=>by simp at hz⟩
theorem A5 {a:Ar} {d:List Int} (ha:tI a.pages) (hd:yj d):tI (dG a d).1.pages:=by
 unfold dG;split
 ·exact ha
 ·split
  ·exact ha
  ·intro p hp;rcases lp.1 ((rE _ _ _).mem_iff.1 hp) with rfl|h
   ·exact hd
   ·exact ha p h
theorem DY {l:List Pg} {i:Int} (h:tI l):yj (fh l i).data:=by
 unfold fh;cases e:l[i.toNat]? with
 | none=>exact Jf
 | some p=>exact h p (fS e)
theorem L5 {a:Ar} {n:Int} (ha:tI a.pages):tI (dZ a n).1.pages:=by
 unfold dZ;split
 ·exact ha
 ·intro p hp;rcases RS hp with h|rfl
  ·exact ha p h
  ·exact DY ha
theorem DT (a:Ar) (n:Int):(dZ a n).1.pages.length=a.pages.length:=by
 unfold dZ;split
 ·rfl
 ·simp[gl]
theorem Jg (l:List (List Int)):∀ a:Ar,(∀ x∈l,yj x)->tI a.pages->tI (eZ a l).1.pages/\(eZ a l).1.pages.length<=a.pages.length+l.length/\(eZ a l).2.length=l.length:=by
 induction l with
 | nil=>intro a _ h;exact ⟨h,iU _,rfl⟩
 | cons x l ih=>
   intro a hx h;have h1:=ih (dG a x).1 (fun y hy=>hx y (by simp[hy])) (A5 h (hx x (by simp)));have h2:=oP a x;simp only[eZ,List.length_cons];exact ⟨h1.1,by omega,by omega⟩
theorem OI (l:List (List Int)):∀ (a:Ar) (b:List Bool) (o:List Int),(∀ x∈l,yj x)->tI a.pages->tI (iR a l b o).1.pages/\(iR a l b o).1.pages.length<=a.pages.length+l.length/\(iR a l b o).2.length<=l.length:=by
 induction l with
 | nil=>intro a b o _ h;cases b<;>exact ⟨h,iU _,ek _⟩
 | cons x l ih=>
   intro a b o hx h;cases b with
   | nil=>exact ⟨h,Nat.le_add_right _ _,ek _⟩
   | cons b bs=>
     rw[iR]
     split
     ·have h1:=ih (dZ a (o.headD 0)).1 bs o.tail (fun y hy=>hx y (by simp[hy])) (L5 h);have h2:=DT a (o.headD 0);simp only[List.length_cons];exact ⟨h1.1,by omega,by omega⟩
     ·have h1:=ih (dG a x).1 bs o.tail (fun y hy=>hx y (by simp[hy])) (A5 h (hx x (by simp)));have h2:=oP a x;simp only[List.length_cons];exact ⟨h1.1,by omega,by omega⟩
structure wD (i:Nat) (s:Sr):Prop where
 hb:s.binds.length<=i
 ho:s.objs.length<=i
 hv:∀ o∈s.objs,o.bu.length<=i/\∀ v∈o.bu,v.pages.length<=61/\v.size<=61
 hp:s.pins.length<=i
 hg:s.ar.pages.length<=61*i
 hd:tI s.ar.pages
 hc:0<=s.commit/\s.commit<=i
 hl:0<=s.last/\s.last<=i
 hz:1<=s.c.fF/\s.c.fF<=1024
theorem wD.up {i:Nat} {s:Sr} (h:wD i s):wD (i+1) s:=
 ⟨by have:=h.hb;omega,by have:=h.ho;omega,fun o ho=>⟨by have:=(h.hv o ho).1;omega,(h.hv o ho).2⟩,by have:=h.hp;omega,by have:=h.hg;omega,h.hd,⟨h.hc.1,by have:=h.hc.2;omega⟩,⟨h.hl.1,by have:=h.hl.2;omega⟩,h.hz⟩
def Sl (i:Nat) (l:List fE):Prop:=l.length<=i/\∀ v∈l,v.pages.length<=61/\v.size<=61
theorem Gc {i:Nat} {l:List fE} {v:fE} (h:Sl i l) (hv:v.pages.length<=61/\v.size<=61):Sl (i+1) (cQ l v).1:=by
 unfold cQ
 split
 ·exact ⟨ek _,fun v hv=>by simp at hv⟩
 ·split
  ·exact ⟨ek _,fun v hv=>by simp at hv⟩
  ·split
   ·exact ⟨by simp,fun w hw=>by rw[rG.1 hw];exact hv⟩
   ·rename_i u hu;have X0:=h.2 u (fS hu)
    split
    ·exact ⟨ek _,fun v hv=>by simp at hv⟩
    ·split
     ·refine ⟨by have:=h.1;simp only[bW,GV,List.length_cons,List.length_nil];omega,fun w hw=>?_⟩;rcases lS.1 hw with h1|h1
      ·rcases RS h1 with h2|rfl
       ·exact h.2 w h2
       ·exact X0
      ·rw[rG.1 h1];exact hv
     ·refine ⟨by have:=h.1;simp only[bW,List.length_cons,List.length_nil];omega,fun w hw=>?_⟩;rcases lS.1 hw with h1|h1
      ·exact h.2 w h1
      ·rw[rG.1 h1];exact hv
theorem Jh {i:Nat} {l:List fE} {c:Int} (h:Sl i l):Sl (i+1) (dY l c).1:=by
 unfold dY
 split
 ·exact ⟨ek _,fun v hv=>by simp at hv⟩
 ·split
  ·exact ⟨ek _,fun v hv=>by simp at hv⟩
  ·rename_i u hu;have X0:=h.2 u (fS hu)
   split
   ·exact ⟨ek _,fun v hv=>by simp at hv⟩
   ·split
    ·exact ⟨ek _,fun v hv=>by simp at hv⟩
    ·refine ⟨by have:=h.1;simp only[GV];omega,fun w hw=>?_⟩;rcases RS hw with h2|rfl
     ·exact h.2 w h2
     ·exact X0
theorem Ee {i:Nat} {s:Sr} (h:wD i s) (j:Int):Sl i (dm s.objs j).bu:=by
 unfold dm;cases e:s.objs[j.toNat]? with
 | none=>exact ⟨ek _,fun v hv=>by simp at hv⟩
 | some o=>exact h.hv o (fS e)
theorem ym {i:Nat} {s:Sr} (h:wD i s) {j:Int} {v:List fE} (hv:Sl (i+1) v):(dz s.objs j v).length<=i+1/\∀ o∈dz s.objs j v,o.bu.length<=i+1/\∀ v∈o.bu,v.pages.length<=61/\v.size<=61:=by
 refine ⟨by have:=h.ho;simp only[dz,GV];omega,fun o ho=>?_⟩;rcases RS ho with h2|rfl
 ·exact h.up.hv o h2
 ·exact hv
theorem gy (n:Int):(aO n).length<=61/\∀ z∈aO n,0<=z/\z<=255:=by
 have hl:(n/8%64%61).toNat<=61:=by omega
 refine ⟨by simp only[aO,dD,List.length_range];exact hl,fun z hz=>?_⟩;obtain ⟨i,hi,rfl⟩:=qq.1 hz;have:=List.mem_range.1 hi;unfold ld;split<;>omega
theorem nU (n sz:Int):(aR (aO n) sz).1.length<=61/\∀ x∈(aR (aO n) sz).1,yj x:=by
 have h:=gy n;exact ⟨by have:=uP (d:=aO n) (sz:=sz);omega,fun x hx=>⟨(oO x hx).1,fun z hz=>h.2 z ((oO x hx).2 z hz)⟩⟩
theorem Gd {i:Nat} {s:Sr} {m:ByteArray} {n:Int} (h:wD i s):wD (i+1) (cR s m (aO n)).1:=by
 have hs:=nU n s.c.fF;have ha:=Jg (aR (aO n) s.c.fF).1 s.ar hs.2 h.hd;have rW:=(gy n).1;unfold cR
 split
 ·exact h.up
 ·split
  ·exact h.up
  ·split
   ·exact h.up
   ·split
    ·exact h.up
    ·refine ⟨?_,?_,?_,?_,?_,ha.1,?_,?_,h.hz⟩
     ·have:=Ji s.binds m (s.last+1) (s.commit+1);have:=h.hb;simp only;omega
     ·have:=h.ho;simp only[bW,List.length_cons,List.length_nil];omega
     ·intro o ho;rcases lS.1 ho with h1|h1
      ·exact h.up.hv o h1
      ·rw[rG.1 h1];refine ⟨by simp,fun v hv=>?_⟩;rw[rG.1 hv];exact ⟨by simp only;omega,by simp only;omega⟩
     ·have:=h.hp;simp only;omega
     ·have:=h.hg;simp only;omega
     ·have:=h.hc;simp only;omega
     ·have:=h.hl;simp only;omega
theorem OJ {i:Nat} {s:Sr} {m:ByteArray} {n:Int} (h:wD i s):wD (i+1) (ji s m (aO n)).1:=by
 have hs:=nU n s.c.fF;have ha:=OI (aR (aO n) s.c.fF).1 s.ar (bB (bg s.ar (fO s m s.commit).2.1.pages) (aR (aO n) s.c.fF).1) (fO s m s.commit).2.1.pages hs.2 h.hd;have rW:=(gy n).1;unfold ji
 split
 ·exact h.up
 ·split
  ·exact h.up
  ·split
   ·exact h.up
   ·have hv:=ym h (j:=(fO s m s.commit).1) (Gc (Ee h (fO s m s.commit).1) (v:=⟨s.commit+1,0,(aO n).length,(iR s.ar (aR (aO n) s.c.fF).1 (bB (bg s.ar (fO s m s.commit).2.1.pages) (aR (aO n) s.c.fF).1) (fO s m s.commit).2.1.pages).2⟩) ⟨by simp only;omega,by simp only;omega⟩);refine ⟨?_,hv.1,hv.2,?_,?_,ha.1,?_,?_,h.hz⟩
    ·have:=h.hb;simp only;omega
    ·have:=h.hp;simp only;omega
    ·have:=h.hg;simp only;omega
    ·have:=h.hc;simp only;omega
    ·have:=h.hl;simp only;omega
theorem L6 {i:Nat} {s:Sr} {m:ByteArray} (h:wD i s):wD (i+1) (gq s m).1:=by
 unfold gq
 split
 ·exact h.up
 ·split
  ·exact h.up
  ·have hv:=ym h (j:=(fO s m s.commit).1) (Jh (c:=s.commit+1) (Ee h (fO s m s.commit).1));refine ⟨?_,hv.1,hv.2,?_,?_,h.hd,?_,?_,h.hz⟩
   ·have:=Ef s.binds m (s.commit+1);have:=h.hb;simp only;omega
   ·have:=h.hp;simp only;omega
   ·have:=h.hg;simp only;omega
   ·have:=h.hc;simp only;omega
   ·have:=h.hl;simp only;omega
theorem Ge {i:Nat} {s:Sr} {m k:ByteArray} (h:wD i s):wD (i+1) (bY s m k).1:=by
 unfold bY
 split
 ·exact h.up
 ·split
  ·exact h.up
  ·split
   ·exact h.up
   ·split
    ·exact h.up
    ·refine ⟨?_,h.up.ho,h.up.hv,h.up.hp,h.up.hg,h.hd,?_,h.up.hl,h.hz⟩
     ·have:=Eg s.binds m k (s.commit+1);have:=h.hb;simp only;omega
     ·have:=h.hc;simp only;omega
theorem OL {i:Nat} {s:Sr} {c:Int} (h:wD i s):wD (i+1) (ja s c).1:=by
 unfold ja
 split
 ·exact h.up
 ·split
  ·exact h.up
  ·exact ⟨h.up.hb,h.up.ho,h.up.hv,L2 h.hp,h.up.hg,h.hd,h.up.hc,h.up.hl,h.hz⟩
theorem Jj {i:Nat} {s:Sr} {c:Int} (h:wD i s):wD (i+1) (gW s c).1:=by
 unfold gW
 split
 ·exact h.up
 ·exact ⟨h.up.hb,h.up.ho,h.up.hv,L3 h.up.hp,h.up.hg,h.hd,h.up.hc,h.up.hl,h.hz⟩
theorem oQ {n lo hi:Int} (h1:lo<=n) (h2:n<=hi):mO n lo hi=true:=by
 simp only[mO,GX h1,GX h2,Bool.and_self]
theorem HL {p q r:Prop} [Decidable p] [Decidable q] [Decidable r] {a b c d lo hi:Int} (h:lo<=a/\a<=hi/\lo<=b/\b<=hi/\lo<=c/\c<=hi/\lo<=d/\d<=hi):mO (if p then a else if q then b else if r then c else d) lo hi=true:=by
 split
 ·exact oQ h.1 h.2.1
 ·split
  ·exact oQ h.2.2.1 h.2.2.2.1
  ·split
   ·exact oQ h.2.2.2.2.1 h.2.2.2.2.2.1
   ·exact oQ h.2.2.2.2.2.2.1 h.2.2.2.2.2.2.2
theorem OM (n:Int):qO (tw n)=true:=by
 simp only[qO,tw,jj];exact ⟨⟨⟨⟨⟨⟨oQ (by omega) (by omega),oQ (by omega) (by omega)⟩,HL (by decide)⟩,HL (by decide)⟩,HL (by decide)⟩,HL (by decide)⟩,oQ (by omega) (by omega)⟩
theorem OO (l:List Int) (i:Nat) (hi:i<=1000):0<=yU l i/\yU l i<=70000:=by
 unfold yU;split
 ·omega
 ·have:i/l.length<=i:=Nat.div_le_self _ _;generalize i/l.length=q at *;omega
end Go.Proofs.YteemiclhnfkekaaGreat
