/- The program's store beside the reference's: every operation gives what the reference gives. -/
import Derived.Test.YteemiclhnfkekaaGreatZStN
set_option linter.unusedSimpArgs false
set_option linter.unusedVariables false
namespace Go.Proofs.YteemiclhnfkekaaGreat
open Go.RowKit Go.fe Tryz
def hO (s:Sr) (pg:List Pg):List Go.fe.Obj:=(iP 1 2 3 s.c.tT s.c.qq s.c.nu s.c.fD s.c.kf s.c.com s.c.tU s.commit s.last s.ar.cap s.objs s.binds s.pins pg)
structure pO (i:Nat) (s:Sr) (pg:List Pg):Prop where
 inv:Inv i s
 ar:tV pg s.ar
theorem pO.len {i:Nat} {s:Sr} {pg:List Pg} (h:pO i s pg):pg.length=s.ar.pages.length:=h.ar.perm.length_eq
theorem pO.dat {i:Nat} {s:Sr} {pg:List Pg} (h:pO i s pg):∀ x∈pg,x.data.length<=1024/\∀ z∈x.data,0<=z/\z<=255:=fun x hx=>h.inv.b.hd x (h.ar.perm.mem_iff.1 hx)
theorem Gy {c:Cf} (h:qN c=true):8<=c.fD/\c.fD<=1024:=by
 obtain ⟨a1,a2,a3,a4,a5,a6,a7⟩:=c;simp only[qN,mO,jl,pP] at h;simp only;omega
theorem Gp {i:Nat} {s:Sr} {pg:List Pg} {m:ByteArray} {n:Int} (h:pO i s pg) (hi:i<=100):∃ mJ,pO (i+1) (cR s m (aO n)).1 mJ/\
  aF prog 32 (hO s pg) [.ref 0 0, .sc (.string m), .sl 1 ((aO n).map cF)] (.cT [.sc (.int .i64 (cR s m (aO n)).2.1), .sc (.int .i64 (cR s m (aO n)).2.2)]) (hO (cR s m (aO n)).1 mJ):=by
 have hv:=ya (m:=m) (n:=n) h.inv;have hb:=h.inv.b;have j8:=h.len;have rY:=(gy n).1;have hg:=hb.hg;have kQ:=hb.hb;have hc:=hb.hc;have hla:=hb.hl;have hsz:=Gy h.inv.cf;by_cases h1:bM m=false
 ·have e:cR s m (aO n)=(s,0,6):=by rw[cR,bC h1]
  rw[e] at hv ⊢;exact ⟨pg,⟨hv,h.ar⟩,OZ (by omega) (by omega) hsz h1⟩
 have h2:¬ 65536<((aO n).length:Int):=by omega
 by_cases h3:fK s m=true
 ·have e:cR s m (aO n)=(s,0,9):=by rw[cR,aE h1,aE h2,bC h3]
  rw[e] at hv ⊢;exact ⟨pg,⟨hv,h.ar⟩,RK (by omega) (by omega) hsz (by simpa using h1) h3⟩
 have pG:bM m=true:=by simpa using h1
 have vG:fK s m=false:=by simpa using h3
 by_cases h4:s.c.qq<=((i7 s.commit s.binds []).length:Int)
 ·have e:cR s m (aO n)=(s,0,14):=by rw[cR,aE h1,aE h2,aE h3,bC (.inl h4)]
  rw[e] at hv ⊢;exact ⟨pg,⟨hv,h.ar⟩,Mj (by omega) (by omega) hsz pG vG (by rw[tC];exact h4)⟩
 by_cases h5:s.c.com<=s.commit
 ·have e:cR s m (aO n)=(s,0,14):=by rw[cR,aE h1,aE h2,aE h3,bC (.inr (.inl h5))]
  rw[e] at hv ⊢;exact ⟨pg,⟨hv,h.ar⟩,Ml (by omega) (by omega) hsz pG vG (by rw[tC];exact h4) h5⟩
 by_cases h6:s.c.nu<(s.ar.pages.length:Int)+((aR (aO n) s.c.fD).1.length:Int)
 ·have e:cR s m (aO n)=(s,0,14):=by rw[cR,aE h1,aE h2,aE h3,bC (.inr (.inr h6))]
  rw[e] at hv ⊢;exact ⟨pg,⟨hv,h.ar⟩,Mm (by omega) (by omega) hsz pG vG (by omega) (by rw[tC];exact h4) h5 (by rw[j8];exact h6)⟩
 ·have e:cR s m (aO n)=({ s with commit:=s.commit+1,last:=s.last+1,objs:=s.objs++[⟨s.last+1,[⟨s.commit+1,0,(aO n).length,(eZ s.ar (aR (aO n) s.c.fD).1).2⟩]⟩],binds:=(dw s.binds m (s.last+1) (s.commit+1)).1,ar:=(eZ s.ar (aR (aO n) s.c.fD).1).1 },s.commit+1,0):=by
   rw[cR,aE h1,aE h2,aE h3,aE (by omega)]
  obtain ⟨g1,g2⟩:=yJ (aR (aO n) s.c.fD).1 h.ar;have gc:(eZ s.ar (aR (aO n) s.c.fD).1).1.cap=s.ar.cap:=(sx (aR (aO n) s.c.fD).1 h.inv.si.ar (fun d hd=>((nV n s.c.fD).2 d hd).1) (by rw[h.inv.si.cap];omega)).2
  have hk:=Qn (a1:=s.c.tT) (a2:=s.c.qq) (a3:=s.c.nu) (a4:=s.c.fD) (a5:=s.c.kf) (a6:=s.c.com) (a7:=s.c.tU) (com:=s.commit) (last:=s.last) (cap:=s.ar.cap) (os:=s.objs) (bs:=s.binds) (ps:=s.pins) (pg:=pg) (n:=m) (d:=aO n) (by omega) (by omega) hsz (by omega) hc.1 (by omega) hla.1 (by omega) (fun o ho=>by have:=(h.inv.si.Qd o ho).2;omega) pG vG (by rw[tC];exact h4) h5 (by rw[j8];exact h6);rw[g2] at hk;rw[e] at hv ⊢;refine ⟨_,⟨hv,g1⟩,?_⟩;simp only[hO];rw[gc];exact hk
theorem OV {i:Nat} {s:Sr} {pg:List Pg} {m:ByteArray} {n:Int} (h:pO i s pg) (hi:i<=100):∃ mJ,pO (i+1) (ji s m (aO n)).1 mJ/\
  aF prog 34 (hO s pg) [.ref 0 0, .sc (.string m), .sl 1 ((aO n).map cF)] (.cT [.sc (.int .i64 (ji s m (aO n)).2.1), .sc (.int .i64 (ji s m (aO n)).2.2)]) (hO (ji s m (aO n)).1 mJ):=by
 have hv:=HJ (m:=m) (n:=n) h.inv hi;have hb:=h.inv.b;have j8:=h.len;have rY:=gy n;have hg:=hb.hg;have kQ:=hb.hb;have hpi:=hb.hp;have hc:=hb.hc;have hla:=hb.hl;have hsz:=Gy h.inv.cf
 have hvs:eF s s.commit=0:=by
  unfold eF;rw[aE (by rw[oQ hc.1 (Nd _)];simp),aE (by simp)]
 have h2:¬ 65536<((aO n).length:Int):=by omega
 have Mx:∀ o∈s.objs,o.bu.length<=100000:=fun o ho=>by have:=(hb.hv o ho).1;omega
 rcases tL s m s.commit hvs with ⟨e1,e2⟩|⟨j,k,o,v,e1,e2,q0,q1,q2,q3,q4,q5⟩
 ·have e:ji s m (aO n)=(s,0,8):=by rw[ji,aE h2,bC e2]
  rw[e] at hv ⊢
  exact ⟨pg,⟨hv,h.ar⟩,RM (by omega) (by omega) Mx (by omega) (by
   show (eA s m s.commit).2.2≠0
   rw[e1];simp)⟩
 have Bw:=(hb.hv o (fS q1)).2 v (fS q4);have Eo:=h.dat;by_cases h5:s.c.com<=s.commit
 ·have e:ji s m (aO n)=(s,0,14):=by rw[ji,aE h2,aE (by rw[e2];simp),bC (.inl h5)]
  rw[e] at hv ⊢;exact ⟨pg,⟨hv,h.ar⟩,Mn (id:=(b9 m s.commit s.binds).1) (f:=v.from_) (t:=v.to) (s:=v.size) (p:=v.pages) (by omega) (by omega) Mx (by omega) hsz (by omega) Eo rY.2 (by omega) e1 h5⟩
 have hst:=yu (c:=s.ar.cap) (p:=v.pages) h.ar;by_cases h6:s.c.nu<(s.ar.pages.length:Int)+gj (bB (bh s.ar v.pages) (aR (aO n) s.c.fD).1)
 ·have e:ji s m (aO n)=(s,0,14):=by rw[ji,aE h2,aE (by rw[e2];simp),bC (.inr (by rw[e2];exact h6))]
  rw[e] at hv ⊢;exact ⟨pg,⟨hv,h.ar⟩,Mp (id:=(b9 m s.commit s.binds).1) (f:=v.from_) (t:=v.to) (s:=v.size) (p:=v.pages) (by omega) (by omega) Mx (by omega) hsz (by omega) Eo rY.2 (by omega) e1 h5 (by rw[hst,j8];exact h6)⟩
 ·have e:ji s m (aO n)=({ s with commit:=s.commit+1,objs:=dz s.objs (j:Int) (cQ o.bu ⟨s.commit+1,0,(aO n).length,(iT s.ar (aR (aO n) s.c.fD).1 (bB (bh s.ar v.pages) (aR (aO n) s.c.fD).1) v.pages).2⟩).1,ar:=(iT s.ar (aR (aO n) s.c.fD).1 (bB (bh s.ar v.pages) (aR (aO n) s.c.fD).1) v.pages).1 },s.commit+1,0):=by
   rw[ji,aE h2,aE (by rw[e2];simp),aE (by rw[e2];simp only;omega),e2];simp only[dm,Int.toNat_natCast,q1,Option.getD_some]
  have hsp:=nV n s.c.fD;have XW:∀ z∈v.pages,z∈gp s.objs:=fun z hz=>MF.2 ⟨o,fS q1,MF.2 ⟨v,fS q4,hz⟩⟩;have gc:(iT s.ar (aR (aO n) s.c.fD).1 (bB (bh s.ar v.pages) (aR (aO n) s.c.fD).1) v.pages).1.cap=s.ar.cap:=(tK (fun z=>(eG s.ar z).1) (aR (aO n) s.c.fD).1 h.inv.si.ar XW (fun d hd=>(hsp.2 d hd).1) (by rw[h.inv.si.cap];simp only[bh] at h6;omega) (by have:=hsp.1;have:=h.inv.VD hi;omega)).2;obtain ⟨g1,g2⟩:=yK (aR (aO n) s.c.fD).1 (bB (bh s.ar v.pages) (aR (aO n) s.c.fD).1) v.pages h.ar (jJ _ _)
  have hk:=Qm (a1:=s.c.tT) (a2:=s.c.qq) (a3:=s.c.nu) (a4:=s.c.fD) (a5:=s.c.kf) (a6:=s.c.com) (a7:=s.c.tU) (com:=s.commit) (last:=s.last) (cap:=s.ar.cap) (os:=s.objs) (bs:=s.binds) (ps:=s.pins) (pg:=pg) (n:=m) (d:=aO n) (id:=(b9 m s.commit s.binds).1) (f:=v.from_) (t:=v.to) (s:=v.size) (p:=v.pages) (by omega) (by omega) Mx (by omega) (fun o ho w hw=>by have:=(hb.hv o ho).2 w hw;omega) hsz (by omega) Eo rY.2 (by omega) e1 hc.1 (by omega) (by rw[q2];omega) h5 (by rw[hst,j8];exact h6);rw[hst,g2,q2,q5] at hk;rw[e] at hv ⊢;refine ⟨_,⟨hv,g1⟩,?_⟩;simp only[hO];rw[gc];exact hk
theorem Mh {i:Nat} {s:Sr} {pg:List Pg} {m:ByteArray} (h:pO i s pg) (hi:i<=100):pO (i+1) (gq s m).1 pg/\
  aF prog 35 (hO s pg) [.ref 0 0, .sc (.string m)] (.cT [.sc (.int .i64 (gq s m).2.1), .sc (.int .i64 (gq s m).2.2)]) (hO (gq s m).1 pg):=by
 have hv:=EB (m:=m) h.inv;have hb:=h.inv.b;have kQ:=hb.hb;have hc:=hb.hc;have Mx:∀ o∈s.objs,o.bu.length<=100000:=fun o ho=>by have:=(hb.hv o ho).1;omega
 have hvs:eF s s.commit=0:=by
  unfold eF;rw[aE (by rw[oQ hc.1 (Nd _)];simp),aE (by simp)]
 cases hl:(b9 m s.commit s.binds).2
 ·have e:gq s m=(s,0,8):=by
   rw[gq,bC];unfold fR;rw[bC (.inl hl)]
  rw[e] at hv ⊢;exact ⟨⟨hv,h.ar⟩,Rx (by omega) hl⟩
 ·have hf:=h.inv.found hl;by_cases h5:s.c.com<=s.commit
  ·have e:gq s m=(s,0,14):=by rw[gq,aE (by rw[hf];simp),bC h5]
   rw[e] at hv ⊢;exact ⟨⟨hv,h.ar⟩,Ow (by omega) hl h5⟩
  ·rcases tL s m s.commit hvs with ⟨e1,e2⟩|⟨j,k,o,v,e1,e2,q0,q1,q2,q3,q4,q5⟩
   ·rw[hf] at e2;cases e2
   have e:gq s m=({ s with commit:=s.commit+1,objs:=dz s.objs (j:Int) (dW o.bu (s.commit+1)).1,binds:=(bI s.binds m (s.commit+1)).1 },s.commit+1,0):=by
    rw[gq,aE (by rw[hf];simp),aE h5,e2];simp only[dm,Int.toNat_natCast,q1,Option.getD_some]
   have hk:=UL (a1:=s.c.tT) (a2:=s.c.qq) (a3:=s.c.nu) (a4:=s.c.fD) (a5:=s.c.kf) (a6:=s.c.com) (a7:=s.c.tU) (com:=s.commit) (last:=s.last) (cap:=s.ar.cap) (os:=s.objs) (bs:=s.binds) (ps:=s.pins) (pg:=pg) (n:=m) (id:=(b9 m s.commit s.binds).1) (by omega) Mx (fun o ho w hw=>by have:=(hb.hv o ho).2 w hw;omega) hc.1 (by omega) (by rw[<- hl]) (by rw[q2];omega) h5;rw[q2,q5] at hk;rw[e] at hv ⊢;exact ⟨⟨hv,h.ar⟩,hk⟩
theorem Gr {i:Nat} {s:Sr} {pg:List Pg} {m k:ByteArray} (h:pO i s pg) (hi:i<=100):pO (i+1) (bY s m k).1 pg/\
  aF prog 36 (hO s pg) [.ref 0 0, .sc (.string m), .sc (.string k)] (.cT [.sc (.int .i64 (bY s m k).2.1), .sc (.int .i64 (bY s m k).2.2)]) (hO (bY s m k).1 pg):=by
 have hv:=yG (n:=m) (m:=k) h.inv;have hb:=h.inv.b;have kQ:=hb.hb;have hc:=hb.hc;have hk:=zH (a1:=s.c.tT) (a2:=s.c.qq) (a3:=s.c.nu) (a4:=s.c.fD) (a5:=s.c.kf) (a6:=s.c.com) (a7:=s.c.tU) (com:=s.commit) (last:=s.last) (cap:=s.ar.cap) (os:=s.objs) (bs:=s.binds) (ps:=s.pins) (pg:=pg) (n:=m) (m:=k) (by omega) hc.1 (by omega)
 have e:∀ ar,bY ⟨s.c,s.commit,s.last,s.objs,s.binds,s.pins,ar⟩ m k=(⟨s.c,(bY s m k).1.commit,s.last,s.objs,(bY s m k).1.binds,s.pins,ar⟩,(bY s m k).2):=by
  intro ar;unfold bY;have e1:∀ x,fK ⟨s.c,s.commit,s.last,s.objs,s.binds,s.pins,ar⟩ x=fK s x:=fun _=>rfl;simp only[e1]
  repeat' split
  all_goals rfl
 rw[e ⟨s.ar.cap,pg⟩] at hk;have e2:=e s.ar;have e3:(⟨s.c,s.commit,s.last,s.objs,s.binds,s.pins,s.ar⟩:Sr)=s:=rfl;rw[e3] at e2;have e4:(bY s m k).1=⟨s.c,(bY s m k).1.commit,s.last,s.objs,(bY s m k).1.binds,s.pins,s.ar⟩:=congrArg Prod.fst e2;refine ⟨⟨hv,by rw[e4];exact h.ar⟩,?_⟩;rw[e4];exact hk
theorem OX {i:Nat} {s:Sr} {pg:List Pg} {c:Int} (h:pO i s pg) (hi:i<=100):pO (i+1) (ja s c).1 pg/\
  aF prog 12 (hO s pg) [.ref 0 0, .sc (.int .i64 c)] (.sc (.int .i64 (ja s c).2)) (hO (ja s c).1 pg):=by
 have hv:=HV (c:=c) h.inv;have hpi:=h.inv.b.hp;have hk:=GF (a1:=s.c.tT) (a2:=s.c.qq) (a3:=s.c.nu) (a4:=s.c.fD) (a5:=s.c.kf) (a6:=s.c.com) (a7:=s.c.tU) (com:=s.commit) (last:=s.last) (cap:=s.ar.cap) (os:=s.objs) (bs:=s.binds) (ps:=s.pins) (pg:=pg) (c:=c) (by omega)
 have e:∀ ar,ja ⟨s.c,s.commit,s.last,s.objs,s.binds,s.pins,ar⟩ c=(⟨s.c,s.commit,s.last,s.objs,s.binds,(ja s c).1.pins,ar⟩,(ja s c).2):=by
  intro ar;unfold ja;have e1:eF ⟨s.c,s.commit,s.last,s.objs,s.binds,s.pins,ar⟩ c=eF s c:=rfl;simp only[e1]
  repeat' split
  all_goals rfl
 rw[e ⟨s.ar.cap,pg⟩] at hk;have e2:=e s.ar;have e3:(⟨s.c,s.commit,s.last,s.objs,s.binds,s.pins,s.ar⟩:Sr)=s:=rfl;rw[e3] at e2;have e4:(ja s c).1=⟨s.c,s.commit,s.last,s.objs,s.binds,(ja s c).1.pins,s.ar⟩:=congrArg Prod.fst e2;refine ⟨⟨hv,by rw[e4];exact h.ar⟩,?_⟩;rw[e4];exact hk
theorem Jq {i:Nat} {s:Sr} {pg:List Pg} {c:Int} (h:pO i s pg) (hi:i<=100):pO (i+1) (gW s c).1 pg/\
  aF prog 51 (hO s pg) [.ref 0 0, .sc (.int .i64 c)] (.sc (.int .i64 (gW s c).2)) (hO (gW s c).1 pg):=by
 have hv:=Bh (c:=c) h.inv;have hpi:=h.inv.b.hp;have hk:=Ca (a1:=s.c.tT) (a2:=s.c.qq) (a3:=s.c.nu) (a4:=s.c.fD) (a5:=s.c.kf) (a6:=s.c.com) (a7:=s.c.tU) (com:=s.commit) (last:=s.last) (cap:=s.ar.cap) (os:=s.objs) (bs:=s.binds) (ps:=s.pins) (pg:=pg) (c:=c) (by omega);have YG:dK none s.pins=0:=A3 _ none h.inv.JL (by simp);rcases tP s c h.inv.JL with ⟨g1,e⟩|⟨g1,e⟩
 ·have e2:jh s.pins c=([],8):=by rw[jh,aE (by simp[YG]),aE (by rw[<- oU,g1];simp)]
  rw[e] at hv ⊢;simp only[qo,e2] at hk;exact ⟨⟨hv,h.ar⟩,hk⟩
 ·have e2:jh s.pins c=(gG c s.pins,0):=by rw[jh,aE (by simp[YG]),bC (by rw[<- oU,g1])]
  rw[e] at hv ⊢;simp only[qo,e2] at hk;exact ⟨⟨hv,h.ar⟩,hk⟩
theorem Js {i:Nat} {s:Sr} {pg:List Pg} (h:pO i s pg) (hi:i<=100):pO (i+1) (kL s).1 pg/\
  aF prog 53 (hO s pg) [.ref 0 0] (.sc (.int .i64 (kL s).2)) (hO (kL s).1 pg):=by
 have hpi:=h.inv.b.hp;have kQ:=h.inv.b.hb;exact ⟨⟨Bi h.inv,h.ar⟩,Cb (by omega) (by omega)⟩
theorem Gt {i:Nat} {s:Sr} {pg:List Pg} {id f:Int} (h:pO i s pg) (hi:i<=100):∃ mJ,pO (i+1) (dA s id f).1 mJ/\
  aF prog 56 (hO s pg) [.ref 0 0, .sc (.int .i64 id), .sc (.int .i64 f)] (.sc (.int .i64 (dA s id f).2)) (hO (dA s id f).1 mJ):=by
 have hv:=yH (id:=id) (f:=f) h.inv hi;have hb:=h.inv.b;have hpi:=hb.hp;have Mx:∀ o∈s.objs,o.bu.length<=100000:=fun o ho=>by have:=(hb.hv o ho).1;omega
 have hop:∀ o∈s.objs,∀ v∈o.bu,v.pages.length<=1000000:=fun o ho w hw=>by have:=(hb.hv o ho).2 w hw;omega
 have h8:∀ vs,(aS vs f).2.2≠0->(aS vs f).2.2=8:=fun vs hz=>by
  unfold aS at hz ⊢
  split at hz
  ·rename_i hq;rw[bC hq]
  ·exact absurd rfl hz
 rcases ri id s.objs with ⟨q1,q2,q3,q4,q5⟩|⟨j,o,q1,q2,q3,q4,q5,q6,q7,q8⟩
 ·have e:dA s id f=(s,8):=by rw[dA,bC (by omega)]
  rw[e] at hv ⊢;exact ⟨pg,⟨hv,h.ar⟩,LN Mx hop (by rw[q5,mV];simp)⟩
 by_cases h2:(aS o.bu f).2.2=0
 ·by_cases h3:(aS o.bu f).2.1.to=0\/dY (aS o.bu f).2.1.from_ (aS o.bu f).2.1.to s.pins=true
  ·have e:dA s id f=(s,17):=by rw[dA,aE (by omega),q3,q8,aE (by simp[h2]),bC h3]
   rw[e] at hv ⊢;exact ⟨pg,⟨hv,h.ar⟩,LO (by omega) Mx hop (by rw[q7];exact h2) (by rw[q7];exact h3)⟩
  ·have e:dA s id f=({ s with objs:=if (aS o.bu f).1.length=0 then ic s.objs (j:Int) else dz s.objs (j:Int) (aS o.bu f).1,ar:=pN s.ar (aS o.bu f).2.1.pages },0):=by
    rw[dA,aE (by omega),q3,q8,aE (by simp[h2]),aE h3]
   have vG:=h3;simp only[vM] at h3;have hk:=UM (a1:=s.c.tT) (a2:=s.c.qq) (a3:=s.c.nu) (a4:=s.c.fD) (a5:=s.c.kf) (a6:=s.c.com) (a7:=s.c.tU) (com:=s.commit) (last:=s.last) (cap:=s.ar.cap) (os:=s.objs) (bs:=s.binds) (ps:=s.pins) (pg:=pg) (id:=id) (f:=f) (by omega) Mx hop (by rw[q7];exact h2) (by rw[q7];exact h3.1) (by rw[q7];simpa using h3.2);rw[q7,q3] at hk;rcases lT f o.bu 0 with hx|⟨k,v,fL,hc,hx⟩
   ·rw[aS,bC (by omega)] at h2;cases h2
   rw[kO] at hx;have ev:(aS o.bu f).2.1=v:=by rw[aS,aE (by omega),hx,Int.toNat_natCast,fL];rfl
   have Vf:∃ L,(gp s.objs).Perm (v.pages++L):=by
    obtain ⟨A,B,hl,_,_,_⟩:=nR q1;have Sf:o.bu=o.bu.take k++v::o.bu.drop (k+1):=by rw[<- aH fL,JX]
    refine ⟨gp A++ia (o.bu.take k)++(ia (o.bu.drop (k+1))++gp B),?_⟩;rw[hl,mD,nS,Sf,nT];have e1:ia (v::o.bu.drop (k+1))=v.pages++ia (o.bu.drop (k+1)):=rfl;rw[<- Sf,e1];have:gp A++(ia (o.bu.take k)++(v.pages++ia (o.bu.drop (k+1)))++gp B)=(gp A++ia (o.bu.take k))++v.pages++(ia (o.bu.drop (k+1))++gp B):=by simp
    rw[this, <- lS v.pages];exact List.Perm.append_right _ SF
   obtain ⟨L,hL⟩:=Vf;have pZ:=h.inv.VD hi;have g:=EE v.pages h.ar (h.inv.si.ar.perm hL) (by rw[<- hL.length_eq];omega);rw[ev] at e hk;rw[e] at hv ⊢;refine ⟨_,⟨hv,g⟩,?_⟩;simp only[hO];rw[xK];exact hk
 ·have e:dA s id f=(s,8):=by rw[dA,aE (by omega),q3,q8,bC h2,h8 _ h2]
  rw[e] at hv ⊢;exact ⟨pg,⟨hv,h.ar⟩,LN Mx hop (by rw[q7];exact h2)⟩
set_option maxRecDepth 100000
set_option maxHeartbeats 3200000
def O7:List Int->Int
 | []=>0
 | z::l=>if z≠0 then z else O7 l
theorem EF {com f t s:Int} {p od bd pg:List (List D)} {ps:List Pn} (hl:ps.length<=100000):ak prog 127 [.agg [i6 com, .sl 2 od, .sl 4 bd, .sl 2 (ps.map aW), .sl 3 pg], .agg [i6 f,i6 t,i6 s, .sl 1 p]] (.sc (.bool (!(t==0) && !dY f t ps))) []:=by
 have hc:=kR (f:=f) (t:=t) hl;generalize dY f t ps=c at *;by_cases h:t=0
 ·subst h;refine bR [] [2,3,15] [.tmp 4] func127 (by kernel_rfl) ntmps127 rfl rfl rfl ⟨rfl,rfl⟩ (by simp(disch:=omega)only[seval,go_sem,cI,List.replicate,l_2,l_1];rfl) ?_;((repeat'(first|simp only[seval,go_sem]|((with_reducible refine au ?_);((with_reducible first|refine ah.step (by simp only[seval,go_sem];rfl) ?_);refine dI (st:=[16]) ?_))|(with_reducible first|refine aV (st:=[16]) ?_|refine ai (by simp(disch:=omega)only[seval,go_sem,cI];rfl) ?_))))
 ·have e:(t==0)=false:=by simpa using h
  cases c;all_goals refine bR [] [2,3,15] [.tmp 4] func127 (by kernel_rfl) ntmps127 rfl rfl rfl ⟨rfl,rfl⟩ (by simp(disch:=omega)only[seval,go_sem,cI,List.replicate,l_2,l_1];rfl) ?_
  all_goals((repeat'(first|simp only[seval,go_sem,e]|((with_reducible refine bJ ?_);refine aq.c (hc) ?_)|((with_reducible refine au ?_);first|(with_reducible refine aD (st:=[16]) ?_)|((with_reducible first|refine ah.step (by simp only[seval,go_sem,e];rfl) ?_);refine dI (st:=[16]) ?_))|(with_reducible first|refine aV (st:=[16]) ?_|refine ai (by simp(disch:=omega)only[seval,go_sem,cI,e];rfl) ?_))))
set_option maxHeartbeats 12800000
theorem vK {a b c d:Int} {p:List (List D)}:ak prog 180 [.agg [i6 a,i6 b,i6 c,i6 d, .sl 1 p]] (.agg [i6 a,i6 b]) []:=by
 refine bR [] [1,2] [.cell 2 219] func180 (by kernel_rfl) ntmps180 rfl rfl rfl ⟨rfl,rfl⟩ (by simp(disch:=omega)only[seval,go_sem,cI,List.replicate,l_2,l_1];rfl) ?_;((repeat'(first|simp only[seval,go_sem]|(with_reducible refine aV (st:=[]) ?_))))
theorem tQ {a b c d:Int}:ak prog 179 [.agg [i6 a,i6 b], .agg [i6 c,i6 d]] (.sc (.bool (HX a b c d))) []:=by
 refine bR [] [2,3] [.tmp 4] func179 (by kernel_rfl) ntmps179 rfl rfl rfl ⟨rfl,rfl⟩ (by simp(disch:=omega)only[seval,go_sem,cI,List.replicate,l_2,l_1];rfl) ?_
 ((repeat'(first|(with_reducible refine cB ?_;intro hc;(try simp only[fH,reduceCtorEq] at hc);(try(exfalso;omega)))|simp only[seval,go_sem]|((with_reducible refine au ?_);((with_reducible first|refine ah.step (by simp only[seval,go_sem];rfl) ?_|refine ah.step (by simp(disch:=omega)only[seval,go_sem,cI];rfl) ?_);refine dI (st:=[21,22]) ?_))|(with_reducible first|refine aV (st:=[21,22]) ?_|refine ai (by simp(disch:=omega)only[seval,go_sem,cI];rfl) ?_|refine dV ?_|refine And.intro ?_ ?_))))
 all_goals(unfold HX;by_cases h1:a<c<;>by_cases h2:a=c<;>by_cases h3:b<d<;>simp_all<;>omega)
theorem GK {id:Int} {l:List fE} {k:Nat} {v:fE} {a A:List Vn} (hv:l[k]? = some v) (hf:qT id (l.drop k) a=A):qT id (l.drop (k+1)) (E3 ⟨id,v⟩ a)=A:=by
 rw[aH hv] at hf;exact hf
theorem GL {l:List Ob} {k:Nat} {o:Ob} {a A:List Vn} (ho:l[k]? = some o) (hf:iV (l.drop k) a=A):iV (l.drop (k+1)) (qT o.id o.bu a)=A:=by
 rw[aH ho] at hf;exact hf
theorem O8 {k:Nat}:1000*(k+1)=1000*k+1000:=by omega
theorem EG {com:Int} {l:List Ob} {bd pn pg:List (List D)} (hl:l.length<=1000) (hv:∀ o∈l,o.bu.length<=1000):ak prog 126 [.agg [i6 com, .sl 2 (l.map aK), .sl 4 bd, .sl 2 pn, .sl 3 pg]] (.sl 5 ((iV l []).map dU)) []:=by
 generalize hA:iV l []=A;refine dL [] [1,42,43,54,60,61] func126 (by kernel_rfl) ntmps126 rfl rfl ⟨rfl,rfl⟩ (by simp(disch:=omega)only[seval,go_sem,cI,List.replicate,l_2,l_1];rfl) ?_;((repeat'(first|simp only[seval,go_sem]|(with_reducible refine aV (st:=[]) ?_))));all_goals(refine ay.bx 1 (by simp only[seval,go_sem];rfl) (by simp only[seval,go_sem];first|done|rfl) (by simp only[seval,go_sem];rfl) ?_)
 all_goals(refine ay.fT 3 43 5 (by first|(simp only[seval,go_sem])) (by first|(simp only[seval,go_sem])) (by simp only[seval,go_sem];rfl) ?_)
 all_goals(with_reducible refine ay.cX (fun (t:Nat×List Vn)=>[(4,i6 t.1),(3,.cW 43 5 0 t.2.length)]++aN 5 76) (fun (t:Nat×List Vn)=>[(43,.row 5 (t.2.map dU)),(42,.dead),(54,.dead),(60,.dead),(61,.dead)]) (fun (t:Nat×List Vn)=>t.1<=l.length/\t.2.length<=1000*t.1/\iV (l.drop t.1) t.2=A) (fun (t:Nat×List Vn)=>l.length-t.1) ((0,[])) (⟨ek _,by simp,by simpa using hA⟩) (by intro _;simp(disch:=omega)only[seval,go_sem,cI];rfl) (by simp only[seval,go_sem]) (fun t hI=>?_))
 all_goals
  obtain ⟨k,a⟩:=t;obtain ⟨hk,tW,hf⟩:=hI;simp only at hk tW hf;by_cases hlt:k<l.length
  ·obtain ⟨o,ho⟩:=aZ hlt;have ho':=get_map aK ho;have hvl:=hv o (fS ho);have h2:=GL ho hf;generalize hB:qT o.id o.bu a=B at h2;((repeat'(first|simp only[seval,go_sem,ho',aK]|(with_reducible refine aV (st:=[]) ?_)|(with_reducible refine ai (by simp(disch:=omega)only[seval,go_sem,cI,ho',aK];rfl) ?_))))
   all_goals(with_reducible refine ay.cX (fun (t:Nat×List Vn)=>[(5,i6 t.1),(3,.cW 43 5 0 t.2.length),(6,.any)]++aN 14 67) (fun (t:Nat×List Vn)=>[(43,.row 5 (t.2.map dU)),(42,.dead),(54,.dead),(60,.dead),(61,.dead)]) (fun (t:Nat×List Vn)=>t.1<=o.bu.length/\t.2.length<=1000*k+t.1/\qT o.id (o.bu.drop t.1) t.2=B) (fun (t:Nat×List Vn)=>o.bu.length-t.1) ((0,a)) (⟨ek _,by simpa using tW,by simpa using hB⟩) (by intro _;simp(disch:=omega)only[seval,go_sem,cI];rfl) (by simp only[seval,go_sem]) (fun t hI=>?_))
   all_goals
    obtain ⟨j,a2⟩:=t;obtain ⟨hj,X8,mK⟩:=hI;simp only at hj X8 mK;by_cases hlt2:j<o.bu.length
    ·obtain ⟨v,YH⟩:=aZ hlt2;have X9:=get_map aL YH;have h3:=GK YH mK;have hk1:=O8 (k:=k);have xU:(List.map dU a2++[[D.sc (Value.int IntKind.i64 o.id),D.sc (Value.int IntKind.i64 v.from_),D.sc (Value.int IntKind.i64 v.to),D.sc (Value.int IntKind.i64 v.size),D.sl 1 (List.map cN v.pages)]]).length=a2.length+1:=by simp
     have LS:(List.map dU a2++[[D.sc (Value.int IntKind.i64 o.id),D.sc (Value.int IntKind.i64 v.from_),D.sc (Value.int IntKind.i64 v.to),D.sc (Value.int IntKind.i64 v.size),D.sl 1 (List.map cN v.pages)]])=(fG a2 a2.length ⟨o.id,v⟩).map dU:=by rw[tX];simp[dU]
     (all_goals(try have hZ:=(And.intro ho' (And.intro X9 xU)));(repeat'(first|(with_reducible refine aY 8 ?_;(try(refine ay.bx 1 (by simp only[seval,go_sem,aK,aL,hZ];rfl) (by simp only[seval,go_sem,aK,aL,hZ];fail) (by simp only[seval,go_sem,aK,aL,hZ];rfl) ?_));refine ay.bU 8 mix 20 rfl (.f 0 <| .f 1 <| .f 3 <| .f 7 <| .f 9 <| .f 13 <| .r 2 <| .f 4 <| .f 5 <| .r 6 <| .r 8 <| .f 10 <| .f 11 <| .r 12 <| .f 14 <| .r 15 <| .a <| .b 16 (.a <| .b 17 (.a <| .b 18 (.f 19 <| .d) .e) .e) .e) (by kernel_rfl) ?_)|(with_reducible refine cA ?_;first|refine aJ.D ?_|refine aJ.F (by simp only[seval,go_sem,eg,dJ];rfl) (by first|(simp only[seval,go_sem,aK,aL,hZ])) (by first|(simp only[seval,go_sem,aK,aL,hZ];with_reducible rfl)|(simp(disch:=omega)only[seval,go_sem,cI,aK,aL,hZ];with_reducible rfl)) ?_|refine aJ.R (by simp only[seval,go_sem,eg,dJ];rfl) (by first|(refine .inl ?_;simp only[seval,go_sem,aK,aL,hZ];done)) (by first|(simp only[seval,go_sem,aK,aL,hZ];with_reducible rfl)) ?_|refine aJ.A ?_)|(with_reducible first|exact aI.E|refine aI.B (by simp only[seval,go_sem,eg,dJ];rfl) ?_ ?_)|simp only[seval,go_sem,aK,aL,hZ]|((with_reducible refine au ?_);((with_reducible first|refine ah.step (by simp only[seval,go_sem,aK,aL,hZ];rfl) ?_|refine ah.step (by simp(disch:=omega)only[seval,go_sem,cI,aK,aL,hZ];rfl) ?_);refine dI (st:=[]) ?_))|(with_reducible first|refine aV (st:=[]) ?_|refine ai (by simp(disch:=omega)only[seval,go_sem,cI,aK,aL,hZ];rfl) ?_)));all_goals(try clear hZ))
     all_goals(with_reducible refine ay.cX (fun (j2:Nat)=>[(6,i6 j2),(3,.cW 43 5 0 (a2.length+1))]++aN 47 34) (fun (j2:Nat)=>[(43,.row 5 ((fG a2 j2 ⟨o.id,v⟩).map dU)),(54,.dead),(60,.dead),(61,.dead)]) (fun (j2:Nat)=>j2<=a2.length/\gx (fun k=>yZ ⟨o.id,v⟩ (uX a2 k)) j2=gx (fun k=>yZ ⟨o.id,v⟩ (uX a2 k)) a2.length) (fun (j2:Nat)=>j2) (a2.length) (⟨iU _,rfl⟩) (by intro _;simp(disch:=omega)only[seval,go_sem,cI];rfl) (by simp only[seval,go_sem,LS];first|((repeat'(with_reducible apply And.intro))<;>first|omega)) (fun j2 hI=>?_))
     all_goals
      obtain ⟨hj2,hst⟩:=hI;have RG:∀ {R:Prop},(∀ B',gx (fun k=>yZ ⟨o.id,v⟩ (uX a2 k)) a2.length=j2->qT o.id (o.bu.drop (j+1)) (fG a2 j2 ⟨o.id,v⟩)=B'->B'=B->R)->gx (fun k=>yZ ⟨o.id,v⟩ (uX a2 k)) a2.length=j2->R:=fun r e=>r _ e rfl (by rw[<- h3,E3,e]);have vT:(fG a2 j2 ⟨o.id,v⟩).length=a2.length+1:=qt hj2;have dM:((fG a2 j2 ⟨o.id,v⟩).map dU).length=a2.length+1:=by rw[dD];exact vT
      rcases j2 with _|j2
      ·refine RG (fun B' e1 e2 e3=>?_) (by rw[<- hst];rfl);subst e3;((repeat'(first|simp only[seval,go_sem,dM]|(with_reducible refine br ?_;refine dX mix (by kernel_rfl) ?_)|(with_reducible first|refine aV (st:=[]) ?_|refine dO (by simp(disch:=omega)only[seval,go_sem,cI,dM];rfl) ?_|refine ai (by simp(disch:=omega)only[seval,go_sem,cI,dM];rfl) ?_))));all_goals(try(refine aP ((j+1,fG a2 0 ⟨o.id,v⟩)) (by simp only[seval,go_sem,vT];first|((repeat'(with_reducible apply And.intro))<;>first|rfl)) ?_ ?_<;>(try(omega))))
       all_goals(try exact ⟨by simp only;omega,by simp only[vT];omega,e2⟩)
      ·obtain ⟨y,hy⟩:=aZ (show j2<a2.length by omega);have g1:=get_map dU (Ct (x:=⟨o.id,v⟩) hj2);have g2:=get_map dU ((zN (x:=⟨o.id,v⟩) hj2).trans hy);have hsw:=congrArg (List.map dU) (wI (x:=⟨o.id,v⟩) hy);simp only[qO] at hsw;have ey:uX a2 j2=y:=by simp[uX,hy]
       rw[gx] at hst;simp only[ey,yZ] at hst;have e1:((j2+1:Nat):Int)-1=j2:=by omega
       simp only[dU] at hsw;generalize hR:fG a2 (j2+1) ⟨o.id,v⟩=RR at *;cases hb:HX o.id v.from_ y.id y.v.from_ with
       | true=>
         rw[hb,bC rfl] at hst;have g3:((List.map dU RR).set (j2+1) (dU y))[j2]? = some (dU y):=by rw[ua (by omega)];exact g2
         simp only[dU] at g3
         ((repeat'(first|(with_reducible refine aY 12 ?_;(try(refine ay.bx 1 (by simp only[seval,go_sem,g1,g2,g3,dU,hb,e1];rfl) (by simp only[seval,go_sem,g1,g2,g3,dU,hb,e1];fail) (by simp only[seval,go_sem,g1,g2,g3,dU,hb,e1];rfl) ?_));refine ay.bU 12 mix 18 rfl (.f 0 <| .f 1 <| .f 2 <| .f 3 <| .f 4 <| .f 5 <| .f 6 <| .f 7 <| .f 8 <| .f 10 <| .f 11 <| .f 12 <| .a <| .b 9 (.a <| .b 13 (.f 14 <| .a <| .b 15 (.f 16 <| .a <| .b 17 (.d) .e) .e) .e) <| .b 13 (.a <| .b 9 (.f 14 <| .a <| .b 15 (.f 16 <| .a <| .b 17 (.d) .e) .e) .e) .e) (by kernel_rfl) ?_)|(with_reducible refine cA ?_;first|refine aJ.D ?_|refine aJ.F (by simp only[seval,go_sem,eg,dJ];rfl) (by first|(simp only[seval,go_sem,g1,g2,g3,dU,hb,e1])) (by first|(simp only[seval,go_sem,g1,g2,g3,dU,hb,e1];with_reducible rfl)|(simp(disch:=omega)only[seval,go_sem,cI,g1,g2,g3,dU,hb,e1];with_reducible rfl)) ?_|refine aJ.A ?_)|(with_reducible first|exact aI.E|refine aI.B (by simp only[seval,go_sem,eg,dJ];rfl) ?_ ?_)|simp only[seval,go_sem,g1,g2,g3,dU,hb,e1]|((with_reducible refine au ?_);((with_reducible first|refine ah.step (by simp only[seval,go_sem,g1,g2,g3,dU,hb,e1];rfl) ?_);refine dI (st:=[]) ?_))|(with_reducible refine br ?_;refine dX mix (by kernel_rfl) ?_)|(with_reducible refine gQ ?_)|((with_reducible refine nA ?_);first|refine fO.c (vK) ?_|refine fO.c (tQ) ?_)|(with_reducible first|refine aV (st:=[]) ?_|refine dO (by simp(disch:=omega)only[seval,go_sem,cI,g1,g2,g3,dU,hb,e1];rfl) ?_|refine ai (by simp(disch:=omega)only[seval,go_sem,cI,g1,g2,g3,dU,hb,e1];rfl) ?_))))
         all_goals(try(refine aP (j2) (by simp only[seval,go_sem,hsw]) ?_ ?_<;>(try(omega))))
         all_goals(try exact ⟨by omega,hst⟩)
       | false=>
         rw[hb,aE (by decide)] at hst;refine RG (fun B' e4 e2 e3=>?_) hst.symm;subst e3
         ((repeat'(first|simp only[seval,go_sem,g1,g2,dU,e1,hb,dM]|(with_reducible refine br ?_;refine dX mix (by kernel_rfl) ?_)|(with_reducible refine gQ ?_)|((with_reducible refine nA ?_);first|refine fO.c (vK) ?_|refine fO.c (tQ) ?_)|(with_reducible first|refine aV (st:=[]) ?_|refine dO (by simp(disch:=omega)only[seval,go_sem,cI,g1,g2,dU,e1,hb,dM];rfl) ?_|refine ai (by simp(disch:=omega)only[seval,go_sem,cI,g1,g2,dU,e1,hb,dM];rfl) ?_))))
         all_goals(try(refine aP ((j+1,RR)) (by simp only[seval,go_sem,vT];first|((repeat'(with_reducible apply And.intro))<;>first|rfl)) ?_ ?_<;>(try(omega))))
         all_goals(try exact ⟨by simp only;omega,by simp only[vT];omega,e2⟩)
    ·rw[j9 (by omega)] at mK;have h3:a2=B:=mK;subst h3;((repeat'(first|simp only[seval,go_sem,ho',aK]|(with_reducible refine aV (st:=[]) ?_)|(with_reducible refine ai (by simp(disch:=omega)only[seval,go_sem,cI,ho',aK];rfl) ?_))));all_goals(try(refine aP ((k+1,a2)) (by simp only[seval,go_sem];first|((repeat'(with_reducible apply And.intro))<;>first|rfl)) ?_ ?_<;>(try(omega))))
     all_goals(try exact ⟨by simp only;omega,by simp only;omega,h2⟩)
  ·rw[j9 (by omega)] at hf;have h3:a=A:=hf;subst h3;have dM:(List.map dU a).length=a.length:=dD _
   ((repeat'(first|simp only[seval,go_sem,dM]|(with_reducible refine aB ?_;(refine aC.gu 43 (by simp only[seval,go_sem];rfl) (by simp only[seval,go_sem,dM];rfl) ?_);(with_reducible refine aB ?_;refine aC.q rfl rfl (by simp only[seval,go_sem];rfl) (by decide) (by simp only[seval,go_sem];rfl) (by simp only[seval,go_sem];rfl) rfl ?_<;>(try simp only[seval,go_sem,dM])<;>(repeat'(with_reducible apply And.intro))<;>(try rfl)))|(with_reducible first|refine aV (st:=[]) ?_|refine ai (by simp(disch:=omega)only[seval,go_sem,cI,dM];rfl) ?_))))
   all_goals(try exact lz (by rw[dM];omega))
set_option maxHeartbeats 6400000
theorem O9 {os:List Ob} (hl:(os.flatMap jk).length<=1000):∀ o∈os,o.bu.length<=1000:=fun o ho=>by
 obtain ⟨A,B,e⟩:=List.append_of_mem ho;subst e;rw[SK,RU] at hl;simp only[bW,jk,dD] at hl;omega
theorem yw {com:Int} {os:List Ob} {ps:List Pn} {bd pg:List (List D)} (ho:os.length<=1000) (hl:(os.flatMap jk).length<=1000) (hp:ps.length<=100000):ak prog 55 [.agg [i6 com,.sl 2 (os.map aK),.sl 4 bd,.sl 2 (ps.map aW),.sl 3 pg]] (.sl 2 ((kq ps (iV os [])).map gY)) []:=by
 have LS:=EG (com:=com) (bd:=bd) (pn:=ps.map aW) (pg:=pg) ho (O9 hl);have hel:(iV os []).length<=1000:=by rw[qj,Ba];simpa using hl
 generalize iV os []=E at *;generalize hG:kq ps E=G;refine dL [] [1,7,20,34,35] func55 (by kernel_rfl) ntmps55 rfl rfl ⟨rfl,rfl⟩ (by simp(disch:=omega)only[seval,go_sem,cI,List.replicate,l_2,l_1];rfl) ?_;((repeat'(first|simp only[seval,go_sem]|((with_reducible refine bJ ?_);refine aq.c (LS) ?_)|(with_reducible refine aD (st:=[]) ?_)|(with_reducible refine aV (st:=[]) ?_))));all_goals(refine ay.fT 3 35 2 (by first|(simp only[seval,go_sem])) (by first|(simp only[seval,go_sem])) (by simp only[seval,go_sem];rfl) ?_)
 all_goals(refine ay.bx 1 (by simp only[seval,go_sem];rfl) (by simp only[seval,go_sem];first|done|rfl) (by simp only[seval,go_sem];rfl) ?_)
 all_goals(with_reducible refine ay.cX (fun (t:Nat×List Vc)=>[(5,i6 t.1),(3,.cW 35 2 0 t.2.length)]++aN 8 28) (fun (t:Nat×List Vc)=>[(35,.row 2 (t.2.map gY)),(20,.dead),(34,.dead)]) (fun (t:Nat×List Vc)=>t.1<=E.length/\t.2.length<=t.1/\t.2++kq ps (E.drop t.1)=G) (fun (t:Nat×List Vc)=>E.length-t.1) ((0,[])) (⟨ek _,by simp,by simpa using hG⟩) (by intro _;simp(disch:=omega)only[seval,go_sem,cI];rfl) (by simp only[seval,go_sem]) (fun t hI=>?_))
 all_goals
  obtain ⟨k,a⟩:=t;obtain ⟨hk,tW,hf⟩:=hI;simp only at hk tW hf;by_cases hlt:k<E.length
  ·obtain ⟨x,hx⟩:=aZ hlt;have hx':=get_map dU hx;have Vg:=EF (com:=com) (f:=x.v.from_) (t:=x.v.to) (s:=x.v.size) (p:=x.v.pages.map cN) (od:=os.map aK) (bd:=bd) (pg:=pg) hp;rw[show (!(x.v.to==0) && !dY x.v.from_ x.v.to ps)=ql ps x.v from rfl] at Vg;rw[aH hx,kq] at hf;cases hg:ql ps x.v with
   | true=>
     rw[bC hg] at hf;rw[hg] at Vg
     ((repeat'(first|(with_reducible refine aY 7 ?_;(try(refine ay.bx 1 (by simp only[seval,go_sem,hx',dU];rfl) (by simp only[seval,go_sem,hx',dU];fail) (by simp only[seval,go_sem,hx',dU];rfl) ?_));refine ay.bU 7 mix 16 rfl (.f 0 <| .f 1 <| .f 2 <| .f 3 <| .f 4 <| .f 6 <| .f 7 <| .f 8 <| .f 9 <| .f 10 <| .a <| .b 5 (.a <| .b 11 (.a <| .b 12 (.a <| .b 13 (.a <| .b 14 (.f 15 <| .d) .e) .e) .e) .e) <| .b 11 (.a <| .b 5 (.a <| .b 12 (.a <| .b 13 (.a <| .b 14 (.f 15 <| .d) .e) .e) .e) .e) .e) (by kernel_rfl) ?_)|(with_reducible refine cA ?_;first|refine aJ.D ?_|refine aJ.F (by simp only[seval,go_sem,eg,dJ];rfl) (by first|(simp only[seval,go_sem,hx',dU])) (by first|(simp only[seval,go_sem,hx',dU];with_reducible rfl)|(simp(disch:=omega)only[seval,go_sem,cI,hx',dU];with_reducible rfl)) ?_|refine aJ.A ?_)|(with_reducible first|exact aI.E|refine aI.B (by simp only[seval,go_sem,eg,dJ];rfl) ?_ ?_)|simp only[seval,go_sem,hx',dU]|((with_reducible refine au ?_);((with_reducible first|refine ah.step (by simp only[seval,go_sem,hx',dU];rfl) ?_|refine ah.step (by simp(disch:=omega)only[seval,go_sem,cI,hx',dU];rfl) ?_);refine dI (st:=[]) ?_))|(with_reducible refine br ?_;refine dX mix (by kernel_rfl) ?_)|(with_reducible refine gQ ?_)|((with_reducible refine nA ?_);refine fO.c (Vg) ?_)|(with_reducible first|refine aV (st:=[]) ?_|refine dO (by simp(disch:=omega)only[seval,go_sem,cI,hx',dU];rfl) ?_|refine ai (by simp(disch:=omega)only[seval,go_sem,cI,hx',dU];rfl) ?_))))
     all_goals(try(refine aP ((k+1,a++[Jg x])) (by simp only[seval,go_sem,gY,Jg];first|((repeat'(with_reducible apply And.intro))<;>first|rfl|(simp[gY,Jg];done))) ?_ ?_<;>(try(omega))))
     all_goals(try exact ⟨by simp only;omega,by simp only[bW,List.length_cons,List.length_nil];omega,by simp only[lS,List.cons_append,List.nil_append];exact hf⟩)
   | false=>
     rw[aE (by rw[hg];decide)] at hf;rw[hg] at Vg
     ((repeat'(first|simp only[seval,go_sem,hx',dU]|(with_reducible refine br ?_;refine dX mix (by kernel_rfl) ?_)|(with_reducible refine gQ ?_)|((with_reducible refine nA ?_);refine fO.c (Vg) ?_)|(with_reducible first|refine aV (st:=[]) ?_|refine dO (by simp(disch:=omega)only[seval,go_sem,cI,hx',dU];rfl) ?_|refine ai (by simp(disch:=omega)only[seval,go_sem,cI,hx',dU];rfl) ?_))))
     all_goals(try(refine aP ((k+1,a)) (by simp only[seval,go_sem];first|((repeat'(with_reducible apply And.intro))<;>first|rfl)) ?_ ?_<;>(try(omega))))
     all_goals(try exact ⟨by simp only;omega,by simp only;omega,hf⟩)
  ·rw[j9 (by omega),kq,yP] at hf;subst hf;have dM:(List.map gY a).length=a.length:=dD _;have fm:(List.map gY a).take a.length=List.map gY a:=lz (by omega)
   ((repeat'(first|simp only[seval,go_sem,dM,fm]|(with_reducible refine aB ?_;(refine aC.gu 35 (by simp only[seval,go_sem];rfl) (by simp only[seval,go_sem,dM,fm];rfl) ?_);(with_reducible refine aB ?_;refine aC.q rfl rfl (by simp only[seval,go_sem];rfl) (by decide) (by simp only[seval,go_sem];rfl) (by simp only[seval,go_sem];rfl) rfl ?_<;>(try simp only[seval,go_sem,dM,fm])<;>(repeat'(with_reducible apply And.intro))<;>(try rfl)))|(with_reducible first|refine aV (st:=[]) ?_|refine ai (by simp(disch:=omega)only[seval,go_sem,cI,dM,fm];rfl) ?_))))
def zE:Nat->ByteArray
 | 0=>⟨#[97]⟩
 | 1=>⟨#[98]⟩
 | 2=>⟨#[99]⟩
 | 3=>⟨#[100]⟩
 | 4=> .empty
 | _=>⟨#[65]⟩
theorem qn (n:Int):([[D.sc (.string ⟨#[97]⟩)],[D.sc (.string ⟨#[98]⟩)],[D.sc (.string ⟨#[99]⟩)],[D.sc (.string ⟨#[100]⟩)],[D.sc (.string ⟨#[]⟩)],[D.sc (.string ⟨#[65]⟩)]]:List (List D))[(n/16%8%6).toNat]? = some [.sc (.string (zE (n/16%8%6).toNat))]:=by
 have h:(n/16%8%6).toNat<6:=by omega
 generalize (n/16%8%6).toNat=i at *
 match i,h with
 | 0,_=>rfl
 | 1,_=>rfl
 | 2,_=>rfl
 | 3,_=>rfl
 | 4,_=>rfl
 | 5,_=>rfl
def yx:Nat->ByteArray
 | 0=>⟨#[97]⟩
 | 1=>⟨#[98]⟩
 | 2=>⟨#[99]⟩
 | _=> .empty
theorem Pa (n:Int):([[D.sc (.string ⟨#[97]⟩)],[D.sc (.string ⟨#[98]⟩)],[D.sc (.string ⟨#[99]⟩)],[D.sc (.string ⟨#[]⟩)]]:List (List D))[(n/256%4).toNat]? = some [.sc (.string (yx (n/256%4).toNat))]:=by
 have h:(n/256%4).toNat<4:=by omega
 generalize (n/256%4).toNat=i at *
 match i,h with
 | 0,_=>rfl
 | 1,_=>rfl
 | 2,_=>rfl
 | 3,_=>rfl
def jf (n:Int):ByteArray:=if 0<n/2097152%16 then ko (n/16%8) else zE (n/16%8%6).toNat
theorem eV (n:Int):(0<n/2097152%16/\jf n=ko (n/16%8))\/(¬ 0<n/2097152%16/\jf n=zE (n/16%8%6).toNat):=by
 by_cases h:0<n/2097152%16
 ·exact .inl ⟨h,bC h⟩
 ·exact .inr ⟨h,aE h⟩
def B8 (s:Sr) (n:Int):Int:=if 0<s.pins.length/\0<n/4096%4 then ((s.pins[(n/256%16%(s.pins.length:Int)).toNat]?).map (·.commit)).getD 0 else n/256%16
def HT (s:Sr) (n:Int):Int×Int:=
 if 0<(kq s.pins (iV s.objs [])).length/\0<n/32768%4 then (((kq s.pins (iV s.objs []))[(n/256%8%((kq s.pins (iV s.objs [])).length:Int)).toNat]?).map fun v=>(v.obj,v.eo)).getD (0,0) else (n/256%8,n/2048%16)
def dB (s:Sr) (n:Int):Sr:=
 if n%16<3 then (cR s (jf n) (aO (n/32%65536))).1 else if n%16<7 then (ji s (jf n) (aO (n/32%65536))).1 else if n%16=7 then (gq s (jf n)).1 else
 if n%16=8 then (bY s (jf n) (yx (n/256%4).toNat)).1 else if n%16<11 then (ja s (s.commit-n/256%8/7*2)).1 else if n%16<13 then (gW s (B8 s n)).1 else if n%16=13 then (kL s).1 else (dA s (HT s n).1 (HT s n).2).1
theorem Gw {i:Nat} {s:Sr} {n:Int} (h:Inv i s) (hi:i<=100):Inv (i+1) (dB s n):=by
 unfold dB
 repeat' split
 ·exact ya h
 ·exact HJ h hi
 ·exact EB h
 ·exact yG h
 ·exact HV h
 ·exact Bh h
 ·exact Bi h
 ·exact yH h hi
def yE (l:List Int):Nat->Nat->Sr->Sr
 | 0,_,s=>s
 | k+1,i,s=>if i<=20/\i<l.length then yE l k (i+1) (dB s ((l[i]?).getD 0)) else s
def Jx (l:List Int):Sr:=yE l 20 1 (newR (sJ (yT l 0))).1
end Go.Proofs.YteemiclhnfkekaaGreat
