/- The program's store beside the reference's (plain): the same results, the pages in another order. -/
import Derived.Test.YteemiclhnfkekaaGreatZChK
set_option linter.unusedSimpArgs false
set_option linter.unusedVariables false
namespace Go.Proofs.YteemiclhnfkekaaGreat
open Go.RowKit Go.fe
theorem Cg {l:List Pg} {a:Ar} {n:Int} (h:tV l a):(eO n l 0 = -1/\eO n a.pages 0 = -1)\/∃ (i j:Nat) (p:Pg),l[i]? = some p/\a.pages[j]? = some p/\p.num=n/\eO n l 0=(i:Int)/\fh l (i:Int)=p/\eO n a.pages 0=(j:Int)/\fh a.pages (j:Int)=p:=by
 rcases IQ (n:=n) h with ⟨h1,h2⟩|⟨i,j,p,h1,h2,h3,h4,h5⟩
 ·rcases gb n l 0 with ⟨g,_⟩|⟨k,q,g1,g2,_⟩
  ·exact .inl ⟨g,h2⟩
  ·exact absurd g2 (h1 q (fS g1))
 ·rcases gb n l 0 with ⟨_,g⟩|⟨k,q,g1,g2,g3,_⟩
  ·exact absurd h3 (g p (fS h1))
  ·have:=Ox h.nodup g1 h1 (g2.trans h3.symm);subst this;exact .inr ⟨k,j,p,h1,h2,h3,by rw[g3,kO],by simp[fh,h1],h4,h5⟩
theorem My {l:List Pg} {a:Ar} {c n:Int} (h:tV l a):eG ⟨c,l⟩ n=eG a n:=by
 unfold eG;rcases Cg (n:=n) h with ⟨h1,h2⟩|⟨i,j,p,_,_,_,h4,h5,h6,h7⟩
 ·simp only;rw[bC (by omega),bC (by omega)]
 ·simp only;rw[aE (by omega),aE (by omega),h4,h5,h6,h7]
theorem yu {l:List Pg} {a:Ar} {c:Int} {p:List Int} (h:tV l a):bh ⟨c,l⟩ p=bh a p:=Pr fun _ _=>by rw[My h]
theorem Mz {l:List Pg} {a:Ar} {n:Int} (h:tV l a):tV (dZ ⟨a.cap,l⟩ n).1.pages (dZ a n).1/\(dZ ⟨a.cap,l⟩ n).1.cap=a.cap/\(dZ a n).1.cap=a.cap:=by
 refine ⟨?_,tJ _ _,tJ _ _⟩;rcases Cg (n:=n) h with ⟨h1,h2⟩|⟨i,j,p,q1,q2,q3,h4,h5,h6,h7⟩
 ·unfold dZ;simp only;rw[bC (by omega),bC (by omega)];exact h
 ·have e:=(IU h q1 q2 q3 h6 h7).1
  have e2:(dZ ⟨a.cap,l⟩ n).1.pages=l.set i ⟨p.num,wr (p.refs+1),p.data⟩:=by
   unfold dZ gl;simp only;rw[aE (by omega),h4,h5,Int.toNat_natCast]
  rw[e2];exact e
theorem Bj {l:List Pg} {a:Ar} {d:List Int} (h:tV l a):tV (eP ⟨a.cap,l⟩ d).1.pages (dH a d).1/\(eP ⟨a.cap,l⟩ d).2=(dH a d).2/\(dH a d).1.cap=a.cap/\(eP ⟨a.cap,l⟩ d).1.cap=a.cap:=by
 have e1:(eP ⟨a.cap,l⟩ d).1.pages=(uI a.cap l d).1/\(eP ⟨a.cap,l⟩ d).2=(uI a.cap l d).2:=by
  unfold eP uI;simp only
  split
  ·exact ⟨rfl,rfl⟩
  ·split<;>exact ⟨rfl,rfl⟩
 obtain ⟨h1,h2,h3⟩:=FP (d:=d) h;exact ⟨by rw[e1.1];exact h1,by rw[e1.2];exact h2,h3,sA _ _⟩
theorem Ch {a:Ar} {c:Int} (h:a.cap=c):a=⟨c,a.pages⟩:=by subst h;rfl
theorem yJ:∀ (L:List (List Int)) {l:List Pg} {a:Ar},tV l a->tV (dN ⟨a.cap,l⟩ L).1.pages (eZ a L).1/\(dN ⟨a.cap,l⟩ L).2=(eZ a L).2
 | [],_,_,h=>⟨h,rfl⟩
 | d::L,l,a,h=>by
   obtain ⟨h1,h2,h3,h4⟩:=Bj (d:=d) h;obtain ⟨g1,g2⟩:=yJ L h1;rw[h3] at g1 g2;rw[<- Ch h4] at g1 g2;rw[dN,eZ];exact ⟨g1,by simp only;rw[g2,h2]⟩
theorem yL (a:Ar) (d:List Int) (b:Bool) (L:List (List Int)) (bs:List Bool) (o:List Int):∀ i,fq a (d::L) (b::bs) o (i+1)=((fq (m9 a d b (o.headD 0)).1 L bs o.tail i).1,(m9 a d b (o.headD 0)).2::(fq (m9 a d b (o.headD 0)).1 L bs o.tail i).2)
 | 0=>by
   have e:(o[0]?).getD 0=o.headD 0:=by cases o<;>rfl
   rw[fq,fq,fq,e];rfl
 | i+1=>by
   have e:(o[i+1]?).getD 0=(o.tail[i]?).getD 0:=by cases o<;>simp
   rw[fq,yL a d b L bs o i,e];rw[show (fq (m9 a d b (o.headD 0)).1 L bs o.tail (i+1))=_ from fq.eq_2 ..];simp
theorem yK:∀ (L:List (List Int)) (bs:List Bool) (o:List Int) {l:List Pg} {a:Ar},tV l a->bs.length=L.length->tV (fq ⟨a.cap,l⟩ L bs o L.length).1.pages (iT a L bs o).1/\(fq ⟨a.cap,l⟩ L bs o L.length).2=(iT a L bs o).2
 | [],bs,o,l,a,h,hb=>by
   have:bs=[]:=tY hb;subst this;exact ⟨h,rfl⟩
 | d::L,[],o,l,a,h,hb=>by simp at hb
 | d::L,b::bs,o,l,a,h,hb=>by
   rw[List.length_cons,yL,iT];simp only[List.length_cons,Nat.add_right_cancel_iff] at hb;cases b with
   | true=>
     obtain ⟨h1,h2,h3⟩:=Mz (n:=o.headD 0) h;obtain ⟨g1,g2⟩:=yK L bs o.tail h1 hb;rw[h3] at g1 g2;rw[<- Ch h2] at g1 g2;simp only[m9,jg];exact ⟨g1,by rw[g2]⟩
   | false=>
     obtain ⟨h1,h2,h3,h4⟩:=Bj (d:=d) h;obtain ⟨g1,g2⟩:=yK L bs o.tail h1 hb;rw[h3] at g1 g2;rw[<- Ch h4] at g1 g2;simp only[m9,pT,jc];exact ⟨g1,by rw[g2,h2]⟩
theorem Pb {l:List Pg} {a:Ar} {n:Int} (h:tV l a) (hr:∀ p∈a.pages,1<=p.refs/\p.refs<=1000000):tV (pF ⟨a.cap,l⟩ n).1.pages (b8 a n).1/\(b8 a n).1.cap=a.cap:=by
 have hcap:(b8 a n).1.cap=a.cap:=by
  unfold b8
  split
  ·rfl
  ·split<;>rfl
 refine ⟨?_,hcap⟩;rcases Cg (n:=n) h with ⟨h1,h2⟩|⟨i,j,p,q1,q2,q3,h4,h5,h6,h7⟩
 ·unfold pF b8;simp only;rw[bC (by omega),bC (by omega)];exact h
 ·have hp:=hr p (fS q2);have hw:wr (p.refs-1)=p.refs-1:=Ma (by omega) (by omega);obtain ⟨e1,e2⟩:=BS h q1 q2 q3 h6 h7;unfold pF;simp only;rw[aE (by omega),h4,h5,hw];rw[hw] at e1 e2;by_cases hz:p.refs-1=0
  ·rw[bC hz];have:=(e2 (by omega)).1;rw[<- mN] at this;exact this
  ·rw[aE hz];have:=(e1 (by omega)).1;simp only[gl,h5,Int.toNat_natCast];exact this
theorem EE:∀ (ps:List Int) {l:List Pg} {a:Ar} {L:List Int},tV l a->B5 a (ps++L)->(ps++L).length<=900000->tV (mB ⟨a.cap,l⟩ ps).pages (pN a ps)
 | [],_,_,_,h,_,_=>h
 | n::ps,l,a,L,h,hI,hl=>by
   simp only[List.cons_append,List.length_cons] at hI hl
   obtain ⟨h1,h2⟩:=Pb (n:=n) h fun p hp=>by
    have h3:=(hI.refs p hp)
    have h4:=List.count_le_length (a:=p.num) (l:=n::(ps++L));simp only[List.length_cons] at h4;omega
   have g:=EE ps h1 (HQ hI (by omega)) (by omega);rw[h2] at g;rw[mB,pN];have e:=DB ⟨a.cap,l⟩ n;rw[<- Ch (show (pF ⟨a.cap,l⟩ n).1.cap=a.cap from e)] at g;exact g
theorem tL (s:Sr) (n:ByteArray) (c:Int) (hv:eF s c=0):(eA s n c=(0,zeroV,8)/\(fR s n c).2.2=false)\/
  ∃ (j k:Nat) (o:Ob) (v:fE),eA s n c=((b9 n c s.binds).1,v,0)/\fR s n c=((j:Int),v,true)/\(b9 n c s.binds).2=true/\s.objs[j]? = some o/\cU (b9 n c s.binds).1 s.objs 0=(j:Int)/\o.id=(b9 n c s.binds).1/\o.bu[k]? = some v/\eL s.objs (b9 n c s.binds).1=o.bu:=by
 rcases gN s n c with ⟨e,h⟩|⟨j,k,o,v,q0,q1,q2,q3,q4,q5,q6,e⟩
 ·refine .inl ⟨?_,by rw[e]⟩;unfold eA;rw[aE (by simp[hv])];rcases h with h|⟨h1,h⟩
  ·rw[bC h]
  ·rw[aE (by simp[h1])];rcases h with h|⟨j,o,q1,q2,q3,q4⟩
   ·have e0:eL s.objs (b9 n c s.binds).1=[]:=by rw[eL,bC (show cU (b9 n c s.binds).1 s.objs 0<0 by omega)]
    rw[e0];exact bC rfl
   ·have:eL s.objs (b9 n c s.binds).1=o.bu:=by rw[eL,aE (by omega),q3];simp[dm,q1]
    rw[this,q4,bC rfl]
 ·have hvs:eL s.objs (b9 n c s.binds).1=o.bu:=by rw[eL,aE (by omega),q3];simp[dm,q1]
  have hid:o.id=(b9 n c s.binds).1:=by
   rcases jA (b9 n c s.binds).1 s.objs 0 with ⟨g,_⟩|⟨j',p,g1,g2,g3,_⟩
   ·omega
   ·rw[q3] at g3;have:j'=j:=by omega
    subst this;rw[q1] at g1;cases g1;exact g2
  refine .inr ⟨j,k,o,v,?_,e,q0,q1,q3,hid,q4,hvs⟩;unfold eA;rw[aE (by simp[hv]),aE (by simp[q0]),hvs,q6,aE (by simp)];simp[yh,q4]
theorem Inv.found {i:Nat} {s:Sr} {n:ByteArray} (h:Inv i s) (hl:(b9 n s.commit s.binds).2=true):(fR s n s.commit).2.2=true:=by
 obtain ⟨b,hb,h1,h2,h3⟩:=yb hl;obtain ⟨x,hx,g1,g2⟩:=h.opn b hb (h.mi.holds hb h2);obtain ⟨o,ho,UN⟩:=MF.1 hx;obtain ⟨v,hv,rfl⟩:=qu.1 UN;simp only at g1 g2;obtain ⟨j,hj⟩:=JE.1 ho;have Cm:=DG h.si.ids hj;rw[g1, <- h3] at Cm;have Fh:=h.si.com o ho v hv
 have hh:mg v.from_ v.to s.commit=true:=by
  unfold mg;rw[g2,GQ Fh.1];simp
 rcases gN s n s.commit with ⟨e,q⟩|⟨_,_,_,_,_,_,_,_,_,_,_,e⟩
 ·exfalso;rcases q with q|⟨_,q|⟨j',o',q1,q2,q3,q4⟩⟩
  ·rw[hl] at q;cases q
  ·omega
  ·have:j'=j:=by omega
   subst this;rw[hj] at q1;cases q1
   have key:∀ (l:List fE) (i:Nat),v∈l->(ga s.commit l i).2=true:=by
    intro l
    induction l with
    | nil=>intro i hm;cases hm
    | cons w l ih=>
      intro i hm;rw[ga]
      split
      ·rfl
      ·rename_i hw;rcases lp.1 hm with rfl|hm
       ·exact absurd hh hw
       ·exact ih (i+1) hm
   have:=key o.bu 0 hv;rw[q4] at this;cases this
 ·rw[e]
set_option maxRecDepth 100000
set_option maxHeartbeats 6400000
theorem JB {rows xs:List (List D)} {i:Nat} (hl:rows.length<=1000000) (hx0:0<xs.length) (hx:xs.length<=1000000) (hi:i<=rows.length):aF Tryz.prog 107 [.row 2 rows,.row 2 xs] [.cW 0 2 0 rows.length,i6 i,.cW 1 2 0 xs.length] (.cW 2 2 0 (rows.length+xs.length)) [.dead,.dead,.row 2 (rows.take i++xs++rows.drop i)]:=by
 have e1:((rows.length:Int)+(xs.length:Int)).toNat=rows.length+xs.length:=by omega
 have e2:((i:Int)+(xs.length:Int)).toNat=i+xs.length:=by omega
 have e3:((rows.length:Int)+(xs.length:Int)-(i:Int)).toNat=rows.length+xs.length-i:=by omega
 refine dL [1000,1001] [25,40,67,93] Tryz.func107 (by kernel_rfl) Tryz.ntmps107 rfl rfl ⟨rfl,rfl⟩ (by simp(disch:=omega)only[seval,go_sem,cI,List.replicate,l_2,l_1];rfl) ?_
 ((repeat'(first|(with_reducible refine cB ?_;intro hc;(try simp only[fH,reduceCtorEq] at hc);(try(exfalso;omega)))|(with_reducible refine aY 11 ?_;refine ay.bU 11 mix 9 rfl (.f 0 <| .f 1 <| .f 2 <| .f 3 <| .f 4 <| .f 5 <| .f 6 <| .f 7 <| .a <| .b 8 (.d) .e) (by kernel_rfl) ?_)|(with_reducible refine aY 15 ?_;refine ay.bU 15 mix 9 rfl (.f 0 <| .f 1 <| .f 2 <| .f 3 <| .f 4 <| .f 5 <| .f 6 <| .f 7 <| .a <| .b 8 (.d) .e) (by kernel_rfl) ?_)|(with_reducible refine cA ?_;first|refine aJ.D ?_|refine aJ.F (by simp only[seval,go_sem,eg,dJ];rfl) (by first|(simp only[seval,go_sem,e1,e2,e3,Int.toNat_natCast,bW,aj,cw,bQ,dx])) (by first|(simp only[seval,go_sem,e1,e2,e3,Int.toNat_natCast,bW,aj,cw,bQ,dx];with_reducible rfl)|(simp(disch:=omega)only[seval,go_sem,cI,e1,e2,e3,Int.toNat_natCast,bW,aj,cw,bQ,dx];with_reducible rfl)) ?_|refine aJ.A ?_)|(with_reducible first|exact aI.E|refine aI.B (by simp only[seval,go_sem,eg,dJ];rfl) ?_ ?_)|simp only[seval,go_sem,e1,e2,e3,Int.toNat_natCast,bW,aj,cw,bQ,dx]|((with_reducible refine au ?_);first|(with_reducible first|refine ah.overlaps (f:=169) (fn:=Tryz.f169) (t:=28) (tR:=4) (by simp only[seval,go_sem,e1,e2,e3,Int.toNat_natCast,bW,aj,cw,bQ,dx]) Tryz.func169 (by kernel_rfl) (by kernel_rfl) (by kernel_rfl) (by kernel_rfl) (by simp only[seval,go_sem,e1,e2,e3,Int.toNat_natCast,bW,aj,cw,bQ,dx];rfl) (by simp only[seval,go_sem,e1,e2,e3,Int.toNat_natCast,bW,aj,cw,bQ,dx];rfl) (by simp only[seval,go_sem,e1,e2,e3,Int.toNat_natCast,bW,aj,cw,bQ,dx];rfl) (by simp only[seval,go_sem,e1,e2,e3,Int.toNat_natCast,bW,aj,cw,bQ,dx];rfl) (by decide) (by simp only[seval,go_sem,e1,e2,e3,Int.toNat_natCast,bW,aj,cw,bQ,dx];rfl) (by decide) (by simp only[seval,go_sem,e1,e2,e3,Int.toNat_natCast,bW,aj,cw,bQ,dx];rfl) (by simp only[seval,go_sem,e1,e2,e3,Int.toNat_natCast,bW,aj,cw,bQ,dx];rfl) (by (try simp only[aj,dD,bW,List.length_cons,List.length_nil,cw,bQ,dx,splice,Nat.reduceMul]);omega) (by (try simp only[aj,dD,bW,List.length_cons,List.length_nil,cw,bQ,dx,splice,Nat.reduceMul]);omega) (dI (st:=[]) ?_))|(with_reducible refine KG ?_;with_reducible refine ah.copy (by simp only[seval,go_sem,e1,e2,e3,Int.toNat_natCast,bW,aj,cw,bQ,dx]) (by simp only[seval,go_sem,e1,e2,e3,Int.toNat_natCast,bW,aj,cw,bQ,dx];rfl) (by simp only[seval,go_sem,e1,e2,e3,Int.toNat_natCast,bW,aj,cw,bQ,dx];rfl) (by simp only[seval,go_sem,e1,e2,e3,Int.toNat_natCast,bW,aj,cw,bQ,dx];rfl) rfl (by simp only[seval,go_sem,e1,e2,e3,Int.toNat_natCast,bW,aj,cw,bQ,dx];rfl) (by simp only[seval,go_sem,e1,e2,e3,Int.toNat_natCast,bW,aj,cw,bQ,dx];rfl) (by simp(disch:=omega)only[seval,go_sem,cI,e1,e2,e3,Int.toNat_natCast,bW,aj,cw,bQ,dx];rfl) (by first|(simp(disch:=omega)only[seval,go_sem,cI,e1,e2,e3,Int.toNat_natCast,bW,aj,cw,bQ,dx,aj,dD,bW,List.length_cons,List.length_nil,cw,bQ,dx,splice,Nat.reduceMul];rfl)) (by (try simp only[aj,dD,bW,List.length_cons,List.length_nil,cw,bQ,dx,splice,Nat.reduceMul]);omega) ?_;refine dI (st:=[]) ?_)|(with_reducible refine PL ?_;with_reducible refine ah.cap (by simp only[seval,go_sem,e1,e2,e3,Int.toNat_natCast,bW,aj,cw,bQ,dx]) (by simp only[seval,go_sem,e1,e2,e3,Int.toNat_natCast,bW,aj,cw,bQ,dx];rfl) (by simp only[seval,go_sem,e1,e2,e3,Int.toNat_natCast,bW,aj,cw,bQ,dx];rfl) (by simp only[seval,go_sem,e1,e2,e3,Int.toNat_natCast,bW,aj,cw,bQ,dx];rfl) (by decide) (by simp only[seval,go_sem,e1,e2,e3,Int.toNat_natCast,bW,aj,cw,bQ,dx];rfl) (by (try simp only[aj,dD,bW,List.length_cons,List.length_nil,cw,bQ,dx,splice,Nat.reduceMul]);omega) (fun mC ZF=>?_);refine dI (st:=[]) ?_)|(with_reducible refine nM ?_;with_reducible refine ah.G9 (by simp only[seval,go_sem,e1,e2,e3,Int.toNat_natCast,bW,aj,cw,bQ,dx]) (by simp only[seval,go_sem,e1,e2,e3,Int.toNat_natCast,bW,aj,cw,bQ,dx];rfl) (by simp only[seval,go_sem,e1,e2,e3,Int.toNat_natCast,bW,aj,cw,bQ,dx];rfl) (by simp only[seval,go_sem,e1,e2,e3,Int.toNat_natCast,bW,aj,cw,bQ,dx];rfl) (by simp only[seval,go_sem,e1,e2,e3,Int.toNat_natCast,bW,aj,cw,bQ,dx];rfl) rfl rfl (by decide) (by simp only[seval,go_sem,e1,e2,e3,Int.toNat_natCast,bW,aj,cw,bQ,dx]) (by simp only[seval,go_sem,e1,e2,e3,Int.toNat_natCast,bW,aj,cw,bQ,dx]) (by decide) (by simp only[seval,go_sem,e1,e2,e3,Int.toNat_natCast,bW,aj,cw,bQ,dx]) (by simp only[seval,go_sem,e1,e2,e3,Int.toNat_natCast,bW,aj,cw,bQ,dx];rfl) (by simp only[seval,go_sem,e1,e2,e3,Int.toNat_natCast,bW,aj,cw,bQ,dx];rfl) (by simp only[seval,go_sem,e1,e2,e3,Int.toNat_natCast,bW,aj,cw,bQ,dx];rfl) (by (try simp only[aj,dD,bW,List.length_cons,List.length_nil,cw,bQ,dx,splice,Nat.reduceMul]);omega) (by (try simp only[aj,dD,bW,List.length_cons,List.length_nil,cw,bQ,dx,splice,Nat.reduceMul]);omega) (by (try simp only[aj,dD,bW,List.length_cons,List.length_nil,cw,bQ,dx,splice,Nat.reduceMul]);omega) (by (try simp only[aj,dD,bW,List.length_cons,List.length_nil,cw,bQ,dx,splice,Nat.reduceMul]);omega) (by (try simp only[aj,dD,bW,List.length_cons,List.length_nil,cw,bQ,dx,splice,Nat.reduceMul]);omega) ?_;refine dI (st:=[]) ?_)|(with_reducible refine isSlice ?_;with_reducible refine ah.wz (by simp only[seval,go_sem,e1,e2,e3,Int.toNat_natCast,bW,aj,cw,bQ,dx]) (by simp only[seval,go_sem,e1,e2,e3,Int.toNat_natCast,bW,aj,cw,bQ,dx];rfl) (by simp only[seval,go_sem,e1,e2,e3,Int.toNat_natCast,bW,aj,cw,bQ,dx];rfl) (by simp only[seval,go_sem,e1,e2,e3,Int.toNat_natCast,bW,aj,cw,bQ,dx];rfl) rfl (by decide) (by simp only[seval,go_sem,e1,e2,e3,Int.toNat_natCast,bW,aj,cw,bQ,dx];rfl) (by simp only[seval,go_sem,e1,e2,e3,Int.toNat_natCast,bW,aj,cw,bQ,dx];rfl) (by simp(disch:=omega)only[seval,go_sem,cI,e1,e2,e3,Int.toNat_natCast,bW,aj,cw,bQ,dx];rfl) (by simp(disch:=omega)only[seval,go_sem,cI,e1,e2,e3,Int.toNat_natCast,bW,aj,cw,bQ,dx];rfl) (by (try simp only[aj,dD,bW,List.length_cons,List.length_nil,cw,bQ,dx,splice,Nat.reduceMul]);omega) (by (try simp only[aj,dD,bW,List.length_cons,List.length_nil,cw,bQ,dx,splice,Nat.reduceMul]);omega) (by (try simp only[aj,dD,bW,List.length_cons,List.length_nil,cw,bQ,dx,splice,Nat.reduceMul]);omega) ?_;refine dI (st:=[]) ?_)|(with_reducible refine ah.R6 1000 (by simp only[seval,go_sem,e1,e2,e3,Int.toNat_natCast,bW,aj,cw,bQ,dx];rfl) (by simp only[seval,go_sem,e1,e2,e3,Int.toNat_natCast,bW,aj,cw,bQ,dx];rfl) ?_;refine dI (st:=[]) ?_))|(with_reducible refine aB ?_;refine fl (rs:=[.tmp 6]) (by with_unfolding_all rfl) rfl ?_<;>simp only[seval,go_sem]<;>(repeat'(with_reducible apply And.intro))<;>(try rfl)<;>(fail_if_success (with_reducible show False)))|(with_reducible refine aB ?_;(refine aC.take 6 40 (by simp only[seval,go_sem];rfl) (by simp only[seval,go_sem];rfl) (by (try simp only[aj,dD,bW,List.length_cons,List.length_nil,cw,bQ,dx,splice,Nat.reduceMul]);omega) (by first|(simp only[seval,go_sem])) (by simp only[seval,go_sem];rfl) ?_);(with_reducible refine aB ?_;refine aC.q rfl rfl (by simp only[seval,go_sem];rfl) (by decide) (by simp only[seval,go_sem];rfl) (by simp only[seval,go_sem];rfl) rfl ?_<;>(try simp only[seval,go_sem,e1,e2,e3,Int.toNat_natCast,bW,aj,cw,bQ,dx])<;>(repeat'(with_reducible apply And.intro))<;>(try rfl)))|(with_reducible first|refine aV (st:=[]) ?_|refine ai (by simp(disch:=omega)only[seval,go_sem,cI,e1,e2,e3,Int.toNat_natCast,bW,aj,cw,bQ,dx];rfl) ?_|refine cO (cL ?_) (cL ?_)))))
 ·have h:i=rows.length:=by omega
  subst h;simp
 ·omega
 ·refine Aj rows xs _ _ hi dx ?_;have h1:rows.length-i<=rows.length+mC-i:=by omega
  simp only[h1,jg,iU];omega
 ·exact Ak rows xs _ hi (by rw[aj];omega)
theorem EH {rows xs:List (List D)} {n m:Nat} {i:Int} (hn:rows.length=n) (hm:xs.length=m) (hl:n<=1000000) (hx0:0<m) (hx:m<=1000000) (h0:0<=i) (hi:i<=n):aF Tryz.prog 107 [.row 2 rows,.row 2 xs] [.cW 0 2 0 n,i6 i,.cW 1 2 0 m] (.cW 2 2 0 (n+m)) [.dead,.dead,.row 2 (rows.take i.toNat++xs++rows.drop i.toNat)]:=by
 subst hn hm;obtain ⟨i',rfl⟩:=M7 h0;exact JB (i:=i') hl hx0 hx (by omega)
set_option maxHeartbeats 3200000
theorem kM {rows:List (List D)} (hl:rows.length<=1000000):ak Tryz.prog 73 [.sl 2 rows] (.cW 0 2 0 rows.length) [.row 2 rows]:=by
 refine dP [] [5,7] Tryz.func73 rfl call73 rfl (by decide) (by decide) rfl rfl Tryz.ntmps73 (by simp(disch:=omega)only[seval,go_sem,cI,List.replicate,l_2,l_1];rfl) (by simp(disch:=omega)only[seval,go_sem,cI,l_2,l_1];rfl) ?_
 ((repeat'(first|(with_reducible first|refine ay.seq ?_|refine ay.skip ?_|refine ay.ret ?_|refine ah.nil ?_|refine bG ?_|refine eB ?_|refine ay.bE (by simp only[fk,eM];rfl) ?_)|((with_reducible refine au ?_);first|(with_reducible first|refine ah.step (by simp only[seval,go_sem];rfl) ?_|refine ah.step (by simp(disch:=omega)only[seval,go_sem,cI];rfl) ?_)|(with_reducible refine BG ?_;with_reducible refine ah.KD (by simp only[seval,go_sem]) (by simp only[seval,go_sem];rfl) (by simp only[seval,go_sem];rfl) (by simp only[seval,go_sem];rfl) (fun b hb=>?_)))|(with_reducible refine cg ?_;with_reducible refine ay.cond (by simp only[seval,go_sem];rfl) (cL ?_) (cL ?_))|(with_reducible refine cB ?_;intro hc;(try simp only[fH,reduceCtorEq] at hc);(try(exfalso;omega)))|(with_reducible refine aB ?_;refine aC.q rfl rfl (by simp only[seval,go_sem];rfl) (by decide) (by simp only[seval,go_sem];rfl) (by simp only[seval,go_sem];rfl) rfl ?_<;>(try simp only[seval,go_sem])<;>(repeat'(with_reducible apply And.intro))<;>(try rfl)))))
 ·have h0:rows=[]:=tY (hb hc);subst h0;(refine aC.fT 2 7 2 (by first|(simp only[seval,go_sem])) (by first|(simp only[seval,go_sem])) (by simp only[seval,go_sem];rfl) ?_);(with_reducible refine aB ?_;refine aC.q rfl rfl (by simp only[seval,go_sem];rfl) (by decide) (by simp only[seval,go_sem];rfl) (by simp only[seval,go_sem];rfl) rfl ?_<;>(try simp only[seval,go_sem])<;>(repeat'(with_reducible apply And.intro))<;>(try rfl))<;>simp
theorem Ci {l:List Pn} {v:Pn} {c h:Int} (h0:0<=h) (hv:l[h.toNat]? = some v):ak Tryz.prog 168 [i6 h, .ro [.sl 2 (l.map aW)], .ro [i6 c]] (.sc (.bool (decide (c<=v.commit)))) []:=by
 have fL:=get_map aW hv;have hlt:=(jL.1 hv).1;refine bR [] [] [.tmp 4] Tryz.func168 (by kernel_rfl) Tryz.ntmps168 rfl rfl rfl ⟨rfl,rfl⟩ (by simp(disch:=omega)only[seval,go_sem,cI,List.replicate,l_2,l_1];rfl) ?_;((repeat'(first|simp only[seval,go_sem,aW,fL,h0]|(with_reducible refine br ?_;refine dX mix (by kernel_rfl) ?_)|(with_reducible first|refine aV (st:=[]) ?_|refine dO (by simp(disch:=omega)only[seval,go_sem,cI,aW,fL,h0];rfl) ?_))))
theorem Cj {l:List Pn} {c:Int} (hl:l.length<=100000) (ok:Cn l):ak Tryz.prog 167 [i6 l.length, .fn 168 [.ro [.sl 2 (l.map aW)], .ro [i6 c]]] (i6 (gf c l:Nat)) []:=by
 refine bR [] [20] [.tmp 4] Tryz.func167 (by kernel_rfl) Tryz.ntmps167 rfl rfl rfl ⟨rfl,rfl⟩ (by simp(disch:=omega)only[seval,go_sem,cI,List.replicate,l_2,l_1];rfl) ?_;((repeat'(first|simp only[seval,go_sem]|(with_reducible refine aV (st:=[]) ?_))))
 (with_reducible refine ay.cX (fun (t:Nat×Nat)=>[(5,i6 t.1),(6,i6 t.2),(7,.any)]++aN 9 16) (fun (t:Nat×Nat)=>[(20,.dead)]) (fun (t:Nat×Nat)=>t.1<=t.2/\t.2<=l.length/\(∀ k q,k<t.1->l[k]? = some q->q.commit<c)/\(∀ k q,t.2<=k->l[k]? = some q->c<=q.commit)) (fun (t:Nat×Nat)=>t.2-t.1) ((0,l.length)) (⟨ek _,iU _,fun k q h=>by simp at h,fun k q h hq=>by have:=(jL.1 hq).1;simp at h;omega⟩) (by intro _;simp(disch:=omega)only[seval,go_sem,cI];rfl) (by simp only[seval,go_sem]) (fun t hI=>?_))
 obtain ⟨i,j⟩:=t;obtain ⟨h1,h2,h3,h4⟩:=hI;simp only at h1 h2 h3 h4;by_cases hlt:i<j
 ·obtain ⟨v,hv⟩:=aZ (show (i+j)/2<l.length by omega);have e1:(((i:Int)+(j:Int))/2).toNat=(i+j)/2:=by omega
  have Ve:l[(((i:Int)+(j:Int))/2).toNat]? = some v:=by rw[e1];exact hv
  have h00:(0:Int)<=((i:Int)+(j:Int))/2:=by omega
  ((repeat'(first|(with_reducible refine cB ?_;intro hc;(try simp only[fH,reduceCtorEq] at hc);(try(exfalso;omega)))|simp only[seval,go_sem]|((with_reducible refine bJ ?_);refine aq.c (Ci h00 Ve) ?_)|(with_reducible first|refine aD (st:=[]) ?_|refine aV (st:=[]) ?_|refine ai (by simp(disch:=omega)only[seval,go_sem,cI];rfl) ?_|refine cO (cL ?_) (cL ?_)))))
  ·(refine aP (((i+j)/2+1,j)) (by simp only[seval,go_sem];first|((repeat'(with_reducible apply And.intro))<;>first|rfl)) ?_ ?_<;>(try(omega)))
   all_goals try(simp only;omega)
   refine ⟨by simp only;omega,by simp only;omega,fun k q hk hq=>?_,fun k q hk hq=>h4 k q hk hq⟩;simp only at hk;rcases Pw k ((i+j)/2) with h|h
   ·exact Int.lt_trans (Hs ok.pM hq hv h) hc
   ·obtain rfl:k=(i+j)/2:=by omega
    rw[hv] at hq;cases hq;exact hc
  ·(refine aP ((i,(i+j)/2)) (by simp only[seval,go_sem];first|((repeat'(with_reducible apply And.intro))<;>first|rfl)) ?_ ?_<;>(try(omega)))
   all_goals try(simp only;omega)
   refine ⟨by simp only;omega,by simp only;omega,fun k q hk hq=>h3 k q hk hq,fun k q hk hq=>?_⟩;simp only at hk;rcases Pw ((i+j)/2) k with h|h
   ·exact Int.le_trans hc (Int.le_of_lt (Hs ok.pM hv hq h))
   ·obtain rfl:k=(i+j)/2:=by omega
    rw[hv] at hq;cases hq;exact hc
 ·((repeat'(first|simp only[seval,go_sem]|(with_reducible refine aV (st:=[]) ?_)|(with_reducible refine ai (by simp(disch:=omega)only[seval,go_sem,cI];rfl) ?_))))
  all_goals(rw[AE c l i (by omega) h3 (fun q hq=>h4 i q (by omega) hq)])
theorem jK {l:List Pn} {c:Int} (hl:l.length<=100000) (ok:Cn l):ak Tryz.prog 106 [.sl 2 (l.map aW),i6 c] (i6 (gf c l:Nat)) []:=by
 refine bR [] [2,3,8] [.tmp 4] Tryz.func106 (by kernel_rfl) Tryz.ntmps106 rfl rfl rfl ⟨rfl,rfl⟩ (by simp(disch:=omega)only[seval,go_sem,cI,List.replicate,l_2,l_1];rfl) ?_;((repeat'(first|simp only[seval,go_sem]|((with_reducible refine bJ ?_);refine aq.c (Cj ?_ ?_) ?_)|(with_reducible refine aD (st:=[]) ?_)|(with_reducible refine aV (st:=[]) ?_)))<;>(try((with_reducible assumption))))
theorem GM {l:List Pn} {c:Int} (hl:l.length<=100000):ak Tryz.prog 44 [.sl 2 (l.map aW),i6 c]
  (.cT [.cW 0 2 0 (kH l c).1.length,i6 (kH l c).2]) [.row 2 ((kH l c).1.map aW)]:=by
 refine dL [] [10,18,20,53,54] Tryz.func44 (by kernel_rfl) Tryz.ntmps44 rfl rfl ⟨rfl,rfl⟩ (by simp(disch:=omega)only[seval,go_sem,cI,List.replicate,l_2,l_1];rfl) ?_;have hle:=uF c l;by_cases hz:dK none l=0
 ·have ok:=oE hz;by_cases hn:gf c l<l.length
  ·obtain ⟨p,hp⟩:=aZ hn;have AA:=get_map aW hp;have hr:=ok.range p (fS hp);by_cases hpc:p.commit=c
   ·obtain ⟨f1,f2,_⟩:=FM ok hp hpc
    ((repeat'(first|(with_reducible refine cB ?_;intro hc;(try simp only[fH,reduceCtorEq] at hc);(try(exfalso;omega)))|simp only[seval,go_sem,aW,hz,AA,hpc]|((with_reducible refine bJ ?_);first|refine aq.c (gF ?_) ?_|refine aq.c (jK ?_ ?_) ?_|refine aq.n (kM ?_) ?_)|(with_reducible refine aD (st:=[]) ?_)|(with_reducible refine aB ?_;refine fl (rs:=[.tmp 4,.tmp 5]) (by with_unfolding_all rfl) rfl ?_<;>simp only[seval,go_sem]<;>(repeat'(with_reducible apply And.intro))<;>(try rfl)<;>(fail_if_success (with_reducible show False)))|(with_reducible refine aB ?_;(refine aC.fT 4 54 2 (by first|(simp only[seval,go_sem])) (by first|(simp only[seval,go_sem])) (by simp only[seval,go_sem];rfl) ?_);(with_reducible refine aB ?_;refine aC.q rfl rfl (by simp only[seval,go_sem];rfl) (by decide) (by simp only[seval,go_sem];rfl) (by simp only[seval,go_sem];rfl) rfl ?_<;>(try simp only[seval,go_sem,aW,hz,AA,hpc])<;>(repeat'(with_reducible apply And.intro))<;>(try rfl)))|(with_reducible first|refine aV (st:=[]) ?_|refine ai (by simp(disch:=omega)only[seval,go_sem,cI,aW,hz,AA,hpc];rfl) ?_|refine cO (cL ?_) (cL ?_))))<;>(try(first|(with_reducible assumption)|((with_reducible show (_:Nat)<=_);omega))))
    all_goals(try(with_reducible assumption))
    all_goals(by_cases hc0:c<0<;>simp[kH,hz,f1,f2,hc0,aW,qO]<;>(try omega))
    all_goals(try(split<;>(first|omega|(simp_all[aW,qO];done)|(simp_all[aW,qO];omega))))
   ·obtain ⟨f1,f2,_⟩:=tj (c:=c) ok (fun q hq=>by rw[hp] at hq;cases hq;exact hpc)
    ((repeat'(first|(with_reducible refine cB ?_;intro hc;(try simp only[fH,reduceCtorEq] at hc);(try(exfalso;omega)))|simp only[seval,go_sem,aW,hz,AA,hpc]|((with_reducible refine bJ ?_);first|refine aq.c (gF ?_) ?_|refine aq.c (jK ?_ ?_) ?_|refine aq.n (kM ?_) ?_)|((with_reducible refine au ?_);first|((with_reducible refine cq (st:=[]) 0 ?_);simp only[seval,go_sem,aW,hz,AA,hpc];refine bZ.n (EH ?_ ?_ ?_ ?_ ?_ ?_ ?_) ?_)|(with_reducible refine aD (st:=[]) ?_))|(with_reducible refine aB ?_;refine fl (rs:=[.tmp 4,.tmp 5]) (by with_unfolding_all rfl) rfl ?_<;>simp only[seval,go_sem]<;>(repeat'(with_reducible apply And.intro))<;>(try rfl)<;>(fail_if_success (with_reducible show False)))|(with_reducible refine aB ?_;(refine aC.fT 4 54 2 (by first|(simp only[seval,go_sem])) (by first|(simp only[seval,go_sem])) (by simp only[seval,go_sem];rfl) ?_);(with_reducible refine aB ?_;refine aC.q rfl rfl (by simp only[seval,go_sem];rfl) (by decide) (by simp only[seval,go_sem];rfl) (by simp only[seval,go_sem];rfl) rfl ?_<;>(try simp only[seval,go_sem,aW,hz,AA,hpc])<;>(repeat'(with_reducible apply And.intro))<;>(try rfl)))|(with_reducible first|refine aV (st:=[]) ?_|refine ai (by simp(disch:=omega)only[seval,go_sem,cI,aW,hz,AA,hpc];rfl) ?_|refine cO (cL ?_) (cL ?_))))<;>(try(first|(with_reducible assumption)|((with_reducible show (_:Int)<=_);omega)|((with_reducible show (_:Nat)<=_);omega))))
    all_goals(try(with_reducible assumption))
    all_goals(try(first|omega|(simp;done)|(simp;omega)))
    all_goals(by_cases hc0:c<0<;>simp[kH,hz,f1,f2,hc0,aW,qO]<;>(try omega))
    all_goals(try(split<;>(first|omega|(simp_all[aW,qO];done)|(simp_all[aW,qO];omega))))
  ·have R3:l[gf c l]? = none:=GV (by omega);obtain ⟨f1,f2,_⟩:=tj (c:=c) ok (fun q hq=>by rw[R3] at hq;cases hq)
   ((repeat'(first|(with_reducible refine cB ?_;intro hc;(try simp only[fH,reduceCtorEq] at hc);(try(exfalso;omega)))|simp only[seval,go_sem,hz,aW]|((with_reducible refine bJ ?_);first|refine aq.c (gF ?_) ?_|refine aq.c (jK ?_ ?_) ?_|refine aq.n (kM ?_) ?_)|((with_reducible refine au ?_);first|((with_reducible refine cq (st:=[]) 0 ?_);simp only[seval,go_sem,hz,aW];refine bZ.n (EH ?_ ?_ ?_ ?_ ?_ ?_ ?_) ?_)|(with_reducible refine aD (st:=[]) ?_))|(with_reducible refine aB ?_;refine fl (rs:=[.tmp 4,.tmp 5]) (by with_unfolding_all rfl) rfl ?_<;>simp only[seval,go_sem]<;>(repeat'(with_reducible apply And.intro))<;>(try rfl)<;>(fail_if_success (with_reducible show False)))|(with_reducible refine aB ?_;(refine aC.fT 4 54 2 (by first|(simp only[seval,go_sem])) (by first|(simp only[seval,go_sem])) (by simp only[seval,go_sem];rfl) ?_);(with_reducible refine aB ?_;refine aC.q rfl rfl (by simp only[seval,go_sem];rfl) (by decide) (by simp only[seval,go_sem];rfl) (by simp only[seval,go_sem];rfl) rfl ?_<;>(try simp only[seval,go_sem,hz,aW])<;>(repeat'(with_reducible apply And.intro))<;>(try rfl)))|(with_reducible first|refine aV (st:=[]) ?_|refine ai (by simp(disch:=omega)only[seval,go_sem,cI,hz,aW];rfl) ?_|refine cO (cL ?_) (cL ?_))))<;>(try(first|(with_reducible assumption)|((with_reducible show (_:Int)<=_);omega)|((with_reducible show (_:Nat)<=_);omega))))
   all_goals(try(with_reducible assumption))
   all_goals(try(first|omega|(simp;done)|(simp;omega)))
   all_goals(by_cases hc0:c<0<;>simp[kH,hz,f1,f2,hc0,aW,qO]<;>(try omega))
   all_goals(try(split<;>(first|omega|(simp_all[aW,qO];done)|(simp_all[aW,qO];omega))))
 ·((repeat'(first|simp only[seval,go_sem]|((with_reducible refine bJ ?_);refine aq.c (gF ?_) ?_)|(with_reducible refine aD (st:=[]) ?_)|(with_reducible refine aB ?_;(refine aC.fT 4 54 2 (by first|(simp only[seval,go_sem])) (by first|(simp only[seval,go_sem])) (by simp only[seval,go_sem];rfl) ?_);(with_reducible refine aB ?_;refine aC.q rfl rfl (by simp only[seval,go_sem];rfl) (by decide) (by simp only[seval,go_sem];rfl) (by simp only[seval,go_sem];rfl) rfl ?_<;>(try simp only[seval,go_sem])<;>(repeat'(with_reducible apply And.intro))<;>(try rfl)))|(with_reducible first|refine aV (st:=[]) ?_|refine ai (by simp(disch:=omega)only[seval,go_sem,cI];rfl) ?_)))<;>(try((with_reducible assumption))))
  all_goals simp[kH,hz]
theorem GN {l:List Pn} {c:Int} (hl:l.length<=100000):ak Tryz.prog 122 [.sl 2 (l.map aW),i6 c]
  (.cT [.cW 0 2 0 (jh l c).1.length,i6 (jh l c).2]) [.row 2 ((jh l c).1.map aW)]:=by
 refine dL [] [10,16,18,50] Tryz.func122 (by kernel_rfl) Tryz.ntmps122 rfl rfl ⟨rfl,rfl⟩ (by simp(disch:=omega)only[seval,go_sem,cI,List.replicate,l_2,l_1];rfl) ?_;have hle:=uF c l;by_cases hz:dK none l=0
 ·have ok:=oE hz;by_cases hn:gf c l<l.length
  ·obtain ⟨p,hp⟩:=aZ hn;have AA:=get_map aW hp;have hr:=ok.range p (fS hp);by_cases hpc:p.commit=c
   ·obtain ⟨_,_,f1,f2⟩:=FM ok hp hpc
    ((repeat'(first|(with_reducible refine cB ?_;intro hc;(try simp only[fH,reduceCtorEq] at hc);(try(exfalso;omega)))|simp only[seval,go_sem,aW,tZ,GX,hz,AA,hpc,hn]|((with_reducible refine bJ ?_);first|refine aq.c (gF ?_) ?_|refine aq.c (jK ?_ ?_) ?_|refine aq.n (kM ?_) ?_)|((with_reducible refine au ?_);first|((with_reducible refine cq (st:=[]) 0 ?_);simp only[seval,go_sem,aW,tZ,GX,hz,AA,hpc,hn];refine bZ.n (Mq ?_ ?_ ?_ ?_ ?_) ?_)|(with_reducible refine aD (st:=[]) ?_))|(with_reducible refine aB ?_;refine fl (rs:=[.tmp 4,.tmp 5]) (by with_unfolding_all rfl) rfl ?_<;>simp only[seval,go_sem]<;>(repeat'(with_reducible apply And.intro))<;>(try rfl)<;>(fail_if_success (with_reducible show False)))|(with_reducible first|refine aV (st:=[]) ?_|refine ai (by simp(disch:=omega)only[seval,go_sem,cI,aW,tZ,GX,hz,AA,hpc,hn];rfl) ?_|refine cO (cL ?_) (cL ?_))))<;>(try(first|(with_reducible assumption)|((with_reducible show (_:Int)<=_);omega)|((with_reducible show (_:Nat)<=_);omega))))
    all_goals(try(first|(with_reducible assumption)|omega))
    all_goals(try(first|omega|(simp;done)|(simp;omega)))
    all_goals(simp[jh,hz,f1,f2,aW,qO]<;>(try omega))
    all_goals(try(split<;>(first|omega|(simp_all[aW,qO,List.take_set_of_le,List.drop_set_of_lt];done))))
   ·obtain ⟨_,_,f1⟩:=tj (c:=c) ok (fun q hq=>by rw[hp] at hq;cases hq;exact hpc)
    ((repeat'(first|simp only[seval,go_sem,aW,hz,AA,hpc]|((with_reducible refine bJ ?_);first|refine aq.c (gF ?_) ?_|refine aq.c (jK ?_ ?_) ?_|refine aq.n (kM ?_) ?_)|(with_reducible refine aD (st:=[]) ?_)|(with_reducible refine aB ?_;(refine aC.fT 4 50 2 (by first|(simp only[seval,go_sem])) (by first|(simp only[seval,go_sem])) (by simp only[seval,go_sem];rfl) ?_);(with_reducible refine aB ?_;refine aC.q rfl rfl (by simp only[seval,go_sem];rfl) (by decide) (by simp only[seval,go_sem];rfl) (by simp only[seval,go_sem];rfl) rfl ?_<;>(try simp only[seval,go_sem,aW,hz,AA,hpc])<;>(repeat'(with_reducible apply And.intro))<;>(try rfl)))|(with_reducible first|refine aV (st:=[]) ?_|refine ai (by simp(disch:=omega)only[seval,go_sem,cI,aW,hz,AA,hpc];rfl) ?_)))<;>(try(first|(with_reducible assumption)|((with_reducible show (_:Nat)<=_);omega))))
    all_goals(try(first|(with_reducible assumption)|omega))
    all_goals(first|omega|(simp only[dD];omega)|simp[jh,hz,f1])
  ·have R3:l[gf c l]? = none:=GV (by omega);obtain ⟨_,_,f1⟩:=tj (c:=c) ok (fun q hq=>by rw[R3] at hq;cases hq)
   ((repeat'(first|simp only[seval,go_sem,hz,aW]|((with_reducible refine bJ ?_);first|refine aq.c (gF ?_) ?_|refine aq.c (jK ?_ ?_) ?_|refine aq.n (kM ?_) ?_)|(with_reducible refine aD (st:=[]) ?_)|(with_reducible refine aB ?_;(refine aC.fT 4 50 2 (by first|(simp only[seval,go_sem])) (by first|(simp only[seval,go_sem])) (by simp only[seval,go_sem];rfl) ?_);(with_reducible refine aB ?_;refine aC.q rfl rfl (by simp only[seval,go_sem];rfl) (by decide) (by simp only[seval,go_sem];rfl) (by simp only[seval,go_sem];rfl) rfl ?_<;>(try simp only[seval,go_sem,hz,aW])<;>(repeat'(with_reducible apply And.intro))<;>(try rfl)))|(with_reducible first|refine aV (st:=[]) ?_|refine ai (by simp(disch:=omega)only[seval,go_sem,cI,hz,aW];rfl) ?_)))<;>(try(first|(with_reducible assumption)|((with_reducible show (_:Nat)<=_);omega))))
   all_goals(try(first|(with_reducible assumption)|omega))
   all_goals(first|omega|(simp only[dD];omega)|simp[jh,hz,f1])
 ·((repeat'(first|simp only[seval,go_sem]|((with_reducible refine bJ ?_);refine aq.c (gF ?_) ?_)|(with_reducible refine aD (st:=[]) ?_)|(with_reducible refine aB ?_;(refine aC.fT 4 50 2 (by first|(simp only[seval,go_sem])) (by first|(simp only[seval,go_sem])) (by simp only[seval,go_sem];rfl) ?_);(with_reducible refine aB ?_;refine aC.q rfl rfl (by simp only[seval,go_sem];rfl) (by decide) (by simp only[seval,go_sem];rfl) (by simp only[seval,go_sem];rfl) rfl ?_<;>(try simp only[seval,go_sem])<;>(repeat'(with_reducible apply And.intro))<;>(try rfl)))|(with_reducible first|refine aV (st:=[]) ?_|refine ai (by simp(disch:=omega)only[seval,go_sem,cI];rfl) ?_)))<;>(try((with_reducible assumption))))
  all_goals simp[jh,hz]
theorem Mu {l:List Pn} {c:Int} (hl:l.length<=100000):ak Tryz.prog 44 [.sl 2 (l.map aW),i6 c]
  (.cT [.sl 2 ((kH l c).1.map aW),i6 (kH l c).2]) []:=by
 have h:=ak.freeze (GM (c:=c) hl);simpa[j5,nh,fB] using h
theorem Mv {l:List Pn} {c:Int} (hl:l.length<=100000):ak Tryz.prog 122 [.sl 2 (l.map aW),i6 c]
  (.cT [.sl 2 ((jh l c).1.map aW),i6 (jh l c).2]) []:=by
 have h:=ak.freeze (GN (c:=c) hl);simpa[j5,nh,fB] using h
end Go.Proofs.YteemiclhnfkekaaGreat
