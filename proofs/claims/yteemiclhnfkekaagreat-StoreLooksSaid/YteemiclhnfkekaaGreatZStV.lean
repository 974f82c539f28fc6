/- The law's change of a store: the program's store stays beside the reference's. -/
import Derived.Test.YteemiclhnfkekaaGreatZStU
import Derived.Test.YteemiclhnfkekaaGreatZStUb
import Derived.Test.YteemiclhnfkekaaGreatZStUc
import Derived.Test.YteemiclhnfkekaaGreatZStU2
import Derived.Test.YteemiclhnfkekaaGreatZStUd
import Derived.Test.YteemiclhnfkekaaGreatZStUe
import Derived.Test.YteemiclhnfkekaaGreatZArB
import Derived.Test.YteemiclhnfkekaaGreatZStG
set_option maxRecDepth 100000
set_option maxHeartbeats 12800000
set_option linter.unusedSimpArgs false
set_option linter.unusedVariables false
namespace Go.Proofs.YteemiclhnfkekaaGreat
open Go.RowKit Go.eB
theorem Inv.ver {i:Nat} {s:Sr} (h:Inv i s) (hi:i<=100):∀ o∈s.objs,o.bu.length<=100/\∀ v∈o.bu,v.pages.length<=61:=fun o ho=>⟨by have:=(h.b.hv o ho).1;omega,fun v hv=>((h.b.hv o ho).2 v hv).1⟩
theorem Gy {i:Nat} {s:Sr} {m:ByteArray} {n:Int} (h:Inv i s) (hi:i<=100):ak Tryz.prog 47 [.agg (eS s),.sc (.string m),.sl 1 ((aO n).map cF)] (.cT [.agg (eS (cR s m (aO n)).1),.sc (.int .i64 (cR s m (aO n)).2.1),.sc (.int .i64 (cR s m (aO n)).2.2)]) []:=by
 have hb:=h.b;have o9:=(gy n).1;have h1:=hb.hb;have h2:=hb.ho;have h3:=hb.hg;have h4:=hb.hc;have h5:=hb.hl;exact zA (a1:=s.c.tV) (a2:=s.c.qI) (a3:=s.c.nu) (a4:=s.c.fF) (a5:=s.c.kf) (a6:=s.c.com) (a7:=s.c.tW) (com:=s.commit) (last:=s.last) (cap:=s.ar.cap) (os:=s.objs) (bs:=s.binds) (ps:=s.pins) (pg:=s.ar.pages) (n:=m) (d:=aO n) (by omega) (by omega) (by omega) (by omega) hb.hz.1 hb.hz.2 h4.1 (by omega) h5.1 (by omega)
theorem O8 {i:Nat} {s:Sr} {m:ByteArray} {n:Int} (h:Inv i s) (hi:i<=100):ak Tryz.prog 48 [.agg (eS s),.sc (.string m),.sl 1 ((aO n).map cF)] (.cT [.agg (eS (ji s m (aO n)).1),.sc (.int .i64 (ji s m (aO n)).2.1),.sc (.int .i64 (ji s m (aO n)).2.2)]) []:=by
 have hb:=h.b;have o9:=gy n;have h1:=hb.hb;have h2:=hb.ho;have h3:=hb.hg;have h4:=hb.hc;have hv:=h.ver hi
 exact Gb (a1:=s.c.tV) (a2:=s.c.qI) (a3:=s.c.nu) (a4:=s.c.fF) (a5:=s.c.kf) (a6:=s.c.com) (a7:=s.c.tW) (com:=s.commit) (last:=s.last) (cap:=s.ar.cap) (os:=s.objs) (bs:=s.binds) (ps:=s.pins) (pg:=s.ar.pages) (n:=m) (d:=aO n) (by omega) (by omega) (by omega) (by omega) hb.hz.1 hb.hz.2 h4.1 (by omega)
  (fun o ho=>⟨by have:=(hv o ho).1;omega,fun v w=>by have:=(hv o ho).2 v w;omega⟩) (fun p hp=>⟨by have:=(hb.hd p hp).1;omega,(hb.hd p hp).2⟩) o9.2
theorem Mq {i:Nat} {s:Sr} {m:ByteArray} (h:Inv i s) (hi:i<=100):ak Tryz.prog 49 [.agg (eS s), .sc (.string m)] (.cT [.agg (eS (gq s m).1), .sc (.int .i64 (gq s m).2.1), .sc (.int .i64 (gq s m).2.2)]) []:=by
 have hb:=h.b;have h1:=hb.hb;have h2:=hb.ho;have h4:=hb.hc;have hv:=h.ver hi;exact D0 (a1:=s.c.tV) (a2:=s.c.qI) (a3:=s.c.nu) (a4:=s.c.fF) (a5:=s.c.kf) (a6:=s.c.com) (a7:=s.c.tW) (com:=s.commit) (last:=s.last) (cap:=s.ar.cap) (os:=s.objs) (bs:=s.binds) (ps:=s.pins) (pg:=s.ar.pages) (n:=m) (by omega) (by omega) (fun o ho=>by have:=(hv o ho).1;omega) (fun o ho v w=>by have:=(hv o ho).2 v w;omega) h4.1 (by omega)
theorem Gz {i:Nat} {s:Sr} {m k:ByteArray} (h:Inv i s) (hi:i<=100):ak Tryz.prog 50 [.agg (eS s), .sc (.string m), .sc (.string k)] (.cT [.agg (eS (bY s m k).1), .sc (.int .i64 (bY s m k).2.1), .sc (.int .i64 (bY s m k).2.2)]) []:=by
 have hb:=h.b;have h1:=hb.hb;have h4:=hb.hc;exact F6 (a1:=s.c.tV) (a2:=s.c.qI) (a3:=s.c.nu) (a4:=s.c.fF) (a5:=s.c.kf) (a6:=s.c.com) (a7:=s.c.tW) (com:=s.commit) (last:=s.last) (cap:=s.ar.cap) (os:=s.objs) (bs:=s.binds) (ps:=s.pins) (pg:=s.ar.pages) (n:=m) (m:=k) (by omega) h4.1 (by omega)
theorem O9 {i:Nat} {s:Sr} {c:Int} (h:Inv i s) (hi:i<=100):ak Tryz.prog 13 [.agg (eS s), .sc (.int .i64 c)] (.cT [.agg (eS (ja s c).1), .sc (.int .i64 (ja s c).2)]) []:=
 F5 (a1:=s.c.tV) (a2:=s.c.qI) (a3:=s.c.nu) (a4:=s.c.fF) (a5:=s.c.kf) (a6:=s.c.com) (a7:=s.c.tW) (com:=s.commit) (last:=s.last) (cap:=s.ar.cap) (os:=s.objs) (bs:=s.binds) (ps:=s.pins) (pg:=s.ar.pages) (c:=c) (by have:=h.b.hp;omega)
theorem Jv {i:Nat} {s:Sr} {c:Int} (h:Inv i s) (hi:i<=100):ak Tryz.prog 52 [.agg (eS s), .sc (.int .i64 c)] (.cT [.agg (eS (gW s c).1), .sc (.int .i64 (gW s c).2)]) []:=
 B6 (a1:=s.c.tV) (a2:=s.c.qI) (a3:=s.c.nu) (a4:=s.c.fF) (a5:=s.c.kf) (a6:=s.c.com) (a7:=s.c.tW) (com:=s.commit) (last:=s.last) (cap:=s.ar.cap) (os:=s.objs) (bs:=s.binds) (ps:=s.pins) (pg:=s.ar.pages) (c:=c) (by have:=h.b.hp;omega)
theorem Jw {i:Nat} {s:Sr} (h:Inv i s) (hi:i<=100):ak Tryz.prog 54 [.agg (eS s)] (.cT [.agg (eS (kr s).1), .sc (.int .i64 (kr s).2)]) []:=
 wH (a1:=s.c.tV) (a2:=s.c.qI) (a3:=s.c.nu) (a4:=s.c.fF) (a5:=s.c.kf) (a6:=s.c.com) (a7:=s.c.tW) (com:=s.commit) (last:=s.last) (cap:=s.ar.cap) (os:=s.objs) (bs:=s.binds) (ps:=s.pins) (pg:=s.ar.pages) (by have:=h.b.hb;omega) (by have:=h.b.hp;omega)
theorem GD {i:Nat} {s:Sr} {id f:Int} (h:Inv i s) (hi:i<=100):ak Tryz.prog 57 [.agg (eS s), .sc (.int .i64 id), .sc (.int .i64 f)] (.cT [.agg (eS (dA s id f).1), .sc (.int .i64 (dA s id f).2)]) []:=by
 have hb:=h.b;have h2:=hb.ho;have h3:=hb.hg;have h6:=hb.hp;have hv:=h.ver hi;exact v7 (a1:=s.c.tV) (a2:=s.c.qI) (a3:=s.c.nu) (a4:=s.c.fF) (a5:=s.c.kf) (a6:=s.c.com) (a7:=s.c.tW) (com:=s.commit) (last:=s.last) (cap:=s.ar.cap) (os:=s.objs) (bs:=s.binds) (ps:=s.pins) (pg:=s.ar.pages) (id:=id) (eo:=f) (by omega) (fun o ho=>by have:=(hv o ho).1;omega) (fun o ho v w=>by have:=(hv o ho).2 v w;omega) (by omega) (by omega)
theorem Mr (s:Sr):ak Tryz.prog 28 [.agg (eS s)] (.agg (Qc (vA s))) []:=Eh (a1:=s.c.tV) (a2:=s.c.qI) (a3:=s.c.nu) (a4:=s.c.fF) (a5:=s.c.kf) (a6:=s.c.com) (a7:=s.c.tW) (com:=s.commit) (last:=s.last) (cap:=s.ar.cap) (os:=s.objs) (bs:=s.binds) (ps:=s.pins) (pg:=s.ar.pages)
theorem Bg (p:List Pn):∀ l:List Vn,(kn p l).length<=l.length
 | []=>iU _
 | x::l=>by
   have:=Bg p l;rw[kn]
   split<;>simp only[List.length_cons]<;>omega
theorem Ms {i:Nat} {s:Sr} (h:Inv i s) (hi:i<=100):ak Tryz.prog 55 [.agg (Qc (vA s))] (.sl 2 ((kn s.pins (iX s.objs [])).map gU)) []:=by
 have h2:=h.b.ho;have h6:=h.b.hp;have h7:=h.en;exact xR (com:=s.commit) (os:=s.objs) (ps:=s.pins) (bd:=s.binds.map ag) (pg:=s.ar.pages.map bt) (by omega) (by unfold gY at h7;omega) (by omega)
theorem GF {i:Nat} {s:Sr} {pg:List Pg} {n:Int} (h:pO i s pg) (hi:i<=100):∃ mJ,pO (i+1) (dB s n) mJ/\
  aF Tryz.prog 14 (hO s pg) [.ref 0 0, .agg (eS s), .sc (.int .i64 n)] (.cT [.agg (eS (dB s n)), .sc (.bool true)]) (hO (dB s n) mJ):=by
 have hc:=h.inv.b.hc;by_cases c1:n%16<3
 ·rw[show dB s n=(cR s (jf n) (aO (n/32%65536))).1 by rw[dB,bC c1]];obtain ⟨mJ,g1,g2⟩:=Gr (m:=jf n) (n:=n/32%65536) h hi;exact ⟨mJ,g1,Gv (by omega) g2 (Gy h.inv hi)⟩
 by_cases c2:n%16<7
 ·rw[show dB s n=(ji s (jf n) (aO (n/32%65536))).1 by rw[dB,aE c1,bC c2]];obtain ⟨mJ,g1,g2⟩:=O1 (m:=jf n) (n:=n/32%65536) h hi;exact ⟨mJ,g1,O7 (by omega) g2 (O8 h.inv hi)⟩
 by_cases c3:n%16=7
 ·rw[show dB s n=(gq s (jf n)).1 by rw[dB,aE c1,aE c2,bC c3]];obtain ⟨g1,g2⟩:=Mm (m:=jf n) h hi;exact ⟨pg,g1,Mn c3 g2 (Mq h.inv hi)⟩
 by_cases c4:n%16=8
 ·rw[show dB s n=(bY s (jf n) (yG (n/256%4).toNat)).1 by rw[dB,aE c1,aE c2,aE c3,bC c4]];obtain ⟨g1,g2⟩:=Gs (m:=jf n) (k:=yG (n/256%4).toNat) h hi;exact ⟨pg,g1,Gw c4 g2 (Gz h.inv hi)⟩
 by_cases c5:n%16<11
 ·rw[show dB s n=(ja s (s.commit-n/256%8/7*2)).1 by rw[dB,aE c1,aE c2,aE c3,aE c4,bC c5]];obtain ⟨g1,g2⟩:=O4 (c:=s.commit-n/256%8/7*2) h hi;exact ⟨pg,g1,O6 (by omega) hc.1 (by omega) g2 (O9 h.inv hi)⟩
 by_cases c6:n%16<13
 ·rw[show dB s n=(gW s (Ch s n)).1 by rw[dB,aE c1,aE c2,aE c3,aE c4,aE c5,bC c6]];obtain ⟨g1,g2⟩:=Jq (c:=Ch s n) h hi;exact ⟨pg,g1,Ju (by omega) (by have:=h.inv.b.hp;omega) g2 (Jv h.inv hi)⟩
 by_cases c7:n%16=13
 ·rw[show dB s n=(kr s).1 by rw[dB,aE c1,aE c2,aE c3,aE c4,aE c5,aE c6,bC c7]];obtain ⟨g1,g2⟩:=Jr h hi;exact ⟨pg,g1,Jt c7 g2 (Jw h.inv hi)⟩
 ·rw[show dB s n=(dA s (HP s n).1 (HP s n).2).1 by rw[dB,aE c1,aE c2,aE c3,aE c4,aE c5,aE c6,aE c7]];obtain ⟨mJ,g1,g2⟩:=Gt (id:=(HP s n).1) (f:=(HP s n).2) h hi;have UN:=Bg s.pins (iX s.objs []);rw[xU h.inv.si] at UN;have JQ:=h.inv.en;exact ⟨mJ,g1,Gx (by omega) (by rw[xU h.inv.si];omega) (Mr s) (Ms h.inv hi) g2 (GD h.inv hi)⟩
theorem GG:∃ f:Sr->List Pg->Int->List Pg,∀ (i:Nat) (s:Sr) (pg:List Pg) (n:Int),i<=100->pO i s pg->pO (i+1) (dB s n) (f s pg n)/\
  aF Tryz.prog 14 (hO s pg) [.ref 0 0, .agg (eS s), .sc (.int .i64 n)] (.cT [.agg (eS (dB s n)), .sc (.bool true)]) (hO (dB s n) (f s pg n)):=by
 have key:∀ x:Sr×List Pg×Int,∃ mJ,(∃ i,i<=100/\pO i x.1 x.2.1)->tT mJ (dB x.1 x.2.2).ar/\aF Tryz.prog 14 (hO x.1 x.2.1) [.ref 0 0,.agg (eS x.1),.sc (.int .i64 x.2.2)] (.cT [.agg (eS (dB x.1 x.2.2)),.sc (.bool true)]) (hO (dB x.1 x.2.2) mJ):=fun x=>by
  by_cases hx:∃ i,i<=100/\pO i x.1 x.2.1
  ·obtain ⟨i,hi,hS⟩:=hx;obtain ⟨mJ,g1,g2⟩:=GF (n:=x.2.2) hS hi;exact ⟨mJ,fun _=>⟨g1.ar,g2⟩⟩
  ·exact ⟨[],fun h=>absurd h hx⟩
 obtain ⟨f,hf⟩:=Classical.axiomOfChoice key;refine ⟨fun s pg n=>f (s,pg,n),fun i s pg n hi hS=>?_⟩;have:=hf (s,pg,n) ⟨i,hi,hS⟩;exact ⟨⟨Gu hS.inv hi,this.1⟩,this.2⟩
def sC (f:Sr->List Pg->Int->List Pg) (l:List Int):Nat->Nat->Sr->List Pg->List Pg
 | 0,_,_,pg=>pg
 | k+1,i,s,pg=>if i<=20/\i<l.length then sC f l k (i+1) (dB s ((l[i]?).getD 0)) (f s pg ((l[i]?).getD 0)) else pg
theorem Jx (l:List Int):∃ pg,pO 21 (Js l) pg/\ak Tryz.prog 8 [.sl 1 (l.map cO)] (.cT [.ref 0 0, .agg (eS (Js l)), .sc (.bool true)]) (hO (Js l) pg):=by
 obtain ⟨f,hf⟩:=GG;have ha0:=L4 (l:=l) (i:=0) (by omega);have Vx:=OO l 0 (by omega);have YG:=FN (n:=yU l 0) Vx.1 (by omega);have hok:=OM (yU l 0);obtain ⟨e0,hI0⟩:=RH hok (by have:=Gq hok;omega);have X9:ak Tryz.prog 41 [.agg (UH (tw (yU l 0)))] (.cT [.agg (eS (newR (tw (yU l 0))).1), .sc (.int .i64 (newR (tw (yU l 0))).2)]) []:=B5;have Sn:pO 1 (newR (tw (yU l 0))).1 []:=⟨hI0,by rw[e0];exact ⟨List.Perm.nil,List.Pairwise.nil⟩⟩
 have wF:ak Tryz.prog 31 [.agg (UH (tw (yU l 0)))] (.cT [.ref 0 0, .sc (.int .i64 0)]) (hO (newR (tw (yU l 0))).1 []):=by
  rw[e0];exact yt hok
 generalize hR:Js l=R;generalize hP:sC f l 20 1 (newR (tw (yU l 0))).1 []=PG;unfold Js at hR;rw[e0] at hR hP Sn wF X9;generalize tw (yU l 0)=CK at *;generalize yU l 0=K0 at *;refine ⟨PG,?_,?_⟩
 ·have key:∀ (k i:Nat) (s:Sr) (pg:List Pg),i+k<=21->pO i s pg->pO 21 (yH l k i s) (sC f l k i s pg):=by
   have up:∀ (m i:Nat) (s:Sr) (pg:List Pg),pO i s pg->pO (i+m) s pg:=by
    intro m
    induction m with
    | zero=>intro i s pg h;exact h
    | succ m ih=>intro i s pg h;exact ⟨(ih i s pg h).inv.up,h.ar⟩
   intro k
   induction k with
   | zero=>
     intro i s pg hi h;have:=up (21-i) i s pg h
     rwa [show i+(21-i)=21 by omega] at this
   | succ k ih=>
     intro i s pg hi h;rw[yH,sC]
     split
     ·exact ih (i+1) _ _ (by omega) (hf i s pg _ (by omega) h).1
     ·have:=up (21-i) i s pg h
      rwa [show i+(21-i)=21 by omega] at this
  have:=key 20 1 _ _ (by omega) Sn
  rwa [hR,hP] at this
 obtain ⟨a1,a2,a3,a4,a5,a6,a7⟩:=CK;simp only[UH,eS,hO] at YG X9 wF ⊢;simp only at hR hP Sn;refine dL [] [3,5,8,13,14,17,22,54,317,517,717] Tryz.func8 (by kernel_rfl) Tryz.ntmps8 rfl rfl ⟨rfl,rfl⟩ (by simp(disch:=omega)only[seval,go_sem,cI,List.replicate,l_2,l_1];rfl) ?_
 ((repeat'(first|simp only[seval,go_sem]|((with_reducible refine bJ ?_);first|refine aq.c (ha0) ?_|refine aq.c (YG) ?_|refine aq.n4 (wF) ?_|refine aq.c (X9) ?_)|((with_reducible refine au ?_);first|(with_reducible refine aD (st:=[]) ?_)|(with_reducible refine qp ?_;with_reducible refine ah.ptrEq (by simp only[seval,go_sem]) (by simp only[seval,go_sem];rfl) (by simp only[seval,go_sem];rfl) (by simp only[seval,go_sem];rfl) (by simp only[seval,go_sem];rfl) ?_;refine dI (st:=[]) ?_))|(with_reducible first|refine aV (st:=[]) ?_|refine ai (by simp(disch:=omega)only[seval,go_sem,cI];rfl) ?_))))
 all_goals(with_reducible refine ay.cX (fun (t:Nat×Sr×List Pg)=>[(0,.sl 1 (l.map cO)),(3,.ref 3 0),(6,.ref 17 0),(8,.ref 8 0),(10,i6 t.1),(1,.any),(2,.any),(4,.any),(5,.any),(7,.any),(9,.any)]++aN 11 52) (fun (t:Nat×Sr×List Pg)=>[(3,.box [i6 0,i6 0,i6 0,i6 0,i6 0,i6 0,i6 0,i6 0,i6 0,.sc (.slice none 0 0),.sc (.slice none 0 0),.sc (.slice none 0 0),i6 0,.sc (.slice none 0 0)]),(8,.box [i6 t.2.1.c.tV,i6 t.2.1.c.qI,i6 t.2.1.c.nu,i6 t.2.1.c.fF,i6 t.2.1.c.kf,i6 t.2.1.c.com,i6 t.2.1.c.tW,i6 t.2.1.commit,i6 t.2.1.last,.sl 2 (t.2.1.objs.map aK),.sl 4 (t.2.1.binds.map ag),.sl 2 (t.2.1.pins.map aW),i6 t.2.1.ar.cap,.sl 3 (t.2.1.ar.pages.map bt)]),(17,.box [i6 t.2.1.c.tV,i6 t.2.1.c.qI,i6 t.2.1.c.nu,i6 t.2.1.c.fF,i6 t.2.1.c.kf,i6 t.2.1.c.com,i6 t.2.1.c.tW,i6 t.2.1.commit,.mp 317,i6 t.2.1.last,.sl 4 (t.2.1.binds.map ag),.sl 2 (t.2.1.pins.map aW),.ref 517 0]),(317,.ext (xD (.int .i64) (fV t.2.1.objs))),(517,.box [i6 t.2.1.ar.cap,.mp 717]),(717,.ext (eO (.int .i64) (dR (c9 t.2.2)))),(5,.dead),(13,.dead),(14,.dead),(22,.dead),(54,.dead)]) (fun (t:Nat×Sr×List Pg)=>1<=t.1/\t.1<=21/\pO t.1 t.2.1 t.2.2/\yH l (21-t.1) t.1 t.2.1=R/\sC f l (21-t.1) t.1 t.2.1 t.2.2=PG) (fun (t:Nat×Sr×List Pg)=>21-t.1) ((1,⟨⟨a1,a2,a3,a4,a5,a6,a7⟩,0,0,[],[],[],⟨a3,[]⟩⟩,[])) (⟨iU _,(show (1:Nat)<=21 by decide),Sn,(by simp only[Nat.reduceSub];exact hR),(by simp only[Nat.reduceSub];exact hP)⟩) (by intro _;simp(disch:=omega)only[seval,go_sem,cI];rfl) (by simp only[seval,go_sem]) (fun t hI=>?_))
 all_goals
  obtain ⟨i,s,pg⟩:=t;obtain ⟨hi1,hi2,hsb,pH,mK⟩:=hI;simp only at hi1 hi2 hsb pH mK;by_cases hc:i<=20/\i<l.length
  ·obtain ⟨hc1,Pz⟩:=hc;obtain ⟨z,hz⟩:=aZ Pz;have yP:=get_map cO hz;rw[show 21-i=(21-(i+1))+1 by omega,yH,bC ⟨hc1,Pz⟩,hz] at pH;rw[show 21-i=(21-(i+1))+1 by omega,sC,bC ⟨hc1,Pz⟩,hz] at mK;simp only[Option.getD_some] at pH mK;obtain ⟨g1,g2⟩:=hf i s pg z (by omega) hsb;generalize dB s z=R' at *;generalize f s pg z=P' at *;clear hsb hR hP Sn hf;obtain ⟨⟨b1,b2,b3,b4,b5,b6,b7⟩,com,last,os,bs,ps,⟨cap,rp⟩⟩:=s;simp only[hO,eS] at g2
   (all_goals(try have hZ:=(And.intro yP (And.intro hc1 Pz)));(repeat'(first|(with_reducible refine aY 10 ?_;(try(refine ay.bx 5 (by simp only[seval,go_sem,cO,hZ];rfl) (by simp only[seval,go_sem,cO,hZ];fail) (by simp only[seval,go_sem,cO,hZ];rfl) ?_));refine ay.bU 10 mix 12 rfl (.f 0 <| .f 2 <| .f 3 <| .f 4 <| .r 5 <| .a <| .b 1 (.a <| .b 6 (.f 7 <| .f 8 <| .f 9 <| .a <| .b 10 (.f 11 <| .d) .e) .e) .e) (by kernel_rfl) ?_)|(with_reducible refine cA ?_;first|refine aJ.D ?_|refine aJ.F (by simp only[seval,go_sem,eg,dJ];rfl) (by first|(simp only[seval,go_sem,cO,hZ])) (by first|(simp only[seval,go_sem,cO,hZ];with_reducible rfl)|(simp(disch:=omega)only[seval,go_sem,cI,cO,hZ];with_reducible rfl)) ?_|refine aJ.R (by simp only[seval,go_sem,eg,dJ];rfl) (by first|(refine .inl ?_;simp only[seval,go_sem,cO,hZ];done)) (by first|(simp only[seval,go_sem,cO,hZ];with_reducible rfl)) ?_|refine aJ.A ?_)|(with_reducible first|exact aI.E|refine aI.B (by simp only[seval,go_sem,eg,dJ];rfl) ?_ ?_)|simp only[seval,go_sem,cO,hZ]|((with_reducible refine au ?_);first|((with_reducible first|refine ah.step (by simp only[seval,go_sem,cO,hZ];rfl) ?_);refine dI (st:=[]) ?_)|((with_reducible refine cq (st:=[]) 2 ?_);simp only[seval,go_sem,cO,hZ];refine b8.c (g2) ?_))|(with_reducible first|refine aV (st:=[]) ?_|refine ai (by simp(disch:=omega)only[seval,go_sem,cI,cO,hZ];rfl) ?_)));all_goals(try clear hZ))
   all_goals(try(refine aP ((i+1,R',P')) (by simp only[seval,go_sem];first|((repeat'(with_reducible apply And.intro))<;>first|rfl)) ?_ ?_<;>(try(omega))))
   all_goals(try exact ⟨by simp only;omega,by simp only;omega,g1,pH,mK⟩)
   all_goals done
  ·have e1:R=s:=by
    rw[<- pH];by_cases JN:i=21
    ·rw[JN];rfl
    ·rw[show 21-i=(21-(i+1))+1 by omega,yH,aE hc]
   have e2:PG=pg:=by
    rw[<- mK];by_cases JN:i=21
    ·rw[JN];rfl
    ·rw[show 21-i=(21-(i+1))+1 by omega,sC,aE hc]
   subst e1;subst e2;clear hsb hR hP Sn hf pH mK;have hsz:(Tryz.prog.types[33]'(by decide)).size=14:=by kernel_rfl
   obtain ⟨⟨b1,b2,b3,b4,b5,b6,b7⟩,com,last,os,bs,ps,⟨cap,rp⟩⟩:=R;simp only;by_cases Ey:i<=20
   ·have JN:¬ i<l.length:=fun h=>hc ⟨Ey,h⟩
    ((repeat'(first|(with_reducible refine aY 13 ?_;(try(refine ay.bx 5 (by simp only[seval,go_sem,Ey,JN];rfl) (by simp only[seval,go_sem,Ey,JN];fail) (by simp only[seval,go_sem,Ey,JN];rfl) ?_));refine ay.bU 13 mix 5 rfl (.f 0 <| .f 2 <| .a <| .b 1 (.a <| .b 3 (.f 4 <| .d) .e) .e) (by kernel_rfl) ?_)|(with_reducible refine cA ?_;first|refine aJ.D ?_|refine aJ.F (by simp only[seval,go_sem,eg,dJ];rfl) (by first|(simp only[seval,go_sem,Ey,JN])) (by first|(simp only[seval,go_sem,Ey,JN];with_reducible rfl)) ?_|refine aJ.A ?_)|(with_reducible first|exact aI.E|refine aI.B (by simp only[seval,go_sem,eg,dJ];rfl) ?_ ?_)|simp only[seval,go_sem,Ey,JN]|((with_reducible refine au ?_);((with_reducible first|refine ah.step (by simp only[seval,go_sem,Ey,JN];rfl) ?_);refine dI (st:=[]) ?_))|(with_reducible first|refine aV (st:=[]) ?_|refine ai (by simp(disch:=omega)only[seval,go_sem,cI,Ey,JN];rfl) ?_))))
    all_goals(with_reducible refine aB ?_;refine GQ [17,317,517,717] (rs:=[.tmp 2,.cell 3 33,.tmp 4]) (by with_unfolding_all rfl) rfl (by with_unfolding_all rfl) ?_<;>simp only[seval,go_sem,hsz,List.take_succ_cons,List.take_zero,List.take_nil]<;>(repeat'(with_reducible apply And.intro))<;>(try rfl))
    all_goals done
   ·((repeat'(first|(with_reducible refine aY 13 ?_;(try(refine ay.bx 5 (by simp only[seval,go_sem,Ey];rfl) (by simp only[seval,go_sem,Ey];fail) (by simp only[seval,go_sem,Ey];rfl) ?_));refine ay.bU 13 mix 5 rfl (.f 0 <| .f 2 <| .a <| .b 1 (.a <| .b 3 (.f 4 <| .d) .e) .e) (by kernel_rfl) ?_)|(with_reducible refine cA ?_;first|refine aJ.D ?_|refine aJ.F (by simp only[seval,go_sem,eg,dJ];rfl) (by first|(simp only[seval,go_sem,Ey])) (by first|(simp only[seval,go_sem,Ey];with_reducible rfl)) ?_|refine aJ.A ?_)|(with_reducible first|exact aI.E|refine aI.B (by simp only[seval,go_sem,eg,dJ];rfl) ?_ ?_)|simp only[seval,go_sem,Ey]|((with_reducible refine au ?_);((with_reducible first|refine ah.step (by simp only[seval,go_sem,Ey];rfl) ?_);refine dI (st:=[]) ?_))|(with_reducible first|refine aV (st:=[]) ?_|refine ai (by simp(disch:=omega)only[seval,go_sem,cI,Ey];rfl) ?_))))
    all_goals(with_reducible refine aB ?_;refine GQ [17,317,517,717] (rs:=[.tmp 2,.cell 3 33,.tmp 4]) (by with_unfolding_all rfl) rfl (by with_unfolding_all rfl) ?_<;>simp only[seval,go_sem,hsz,List.take_succ_cons,List.take_zero,List.take_nil]<;>(repeat'(with_reducible apply And.intro))<;>(try rfl))
    all_goals done
end Go.Proofs.YteemiclhnfkekaaGreat
namespace Go.Proofs.YteemiclhnfkekaaGreat
open Go.RowKit Go.eB Go.ChangeShapes Go.WideShapes Go.ChangeAt
theorem Mt {i:Nat} {s:Sr} {pg:List Pg} {c:Int} (h:pO i s pg) (hi:i<=100):aF Tryz.prog 15 (hO s pg) [.ref 0 0,i6 c] (.cT [.sl 1 ((jL s c).1.map eE),i6 (jL s c).2]) (hO s pg):=by
 have h1:=h.inv.b.hb;have h2:=h.inv.b.hp;rw[<- wK];exact Ca (a1:=s.c.tV) (a2:=s.c.qI) (a3:=s.c.nu) (a4:=s.c.fF) (a5:=s.c.kf) (a6:=s.c.com) (a7:=s.c.tW) (com:=s.commit) (last:=s.last) (cap:=s.ar.cap) (os:=s.objs) (bs:=s.binds) (ps:=s.pins) (pg:=pg) (c:=c) (by omega) (by omega)
theorem GH {i:Nat} {s:Sr} {pg:List Pg} {n:ByteArray} {c:Int} (h:pO i s pg) (hi:i<=100):aF Tryz.prog 19 (hO s pg) [.ref 0 0, .sc (.string n),i6 c] (.cT [i6 (dy s n c).1,i6 (dy s n c).2.1,i6 (dy s n c).2.2]) (hO s pg):=by
 have h1:=h.inv.b.hb;have h2:=h.inv.b.hp;have hv:=h.inv.ver hi;obtain ⟨e1,e2,e3⟩:=Br s n c;rw[<- e1, <- e2, <- e3];exact yo (a1:=s.c.tV) (a2:=s.c.qI) (a3:=s.c.nu) (a4:=s.c.fF) (a5:=s.c.kf) (a6:=s.c.com) (a7:=s.c.tW) (com:=s.commit) (last:=s.last) (cap:=s.ar.cap) (os:=s.objs) (bs:=s.binds) (ps:=s.pins) (pg:=pg) (n:=n) (c:=c) (by omega) (by omega) (fun o ho=>by have:=(hv o ho).1;omega)
theorem Pa {i:Nat} {s:Sr} {pg:List Pg} {n:ByteArray} {c:Int} (h:pO i s pg) (hi:i<=100):aF Tryz.prog 17 (hO s pg) [.ref 0 0, .sc (.string n),i6 c] (.cT [.sl 1 ((iW s n c).1.map cF),i6 (iW s n c).2]) (hO s pg):=by
 have h1:=h.inv.b.hb;have h2:=h.inv.b.hp;have h3:=h.inv.b.hg;have j8:=h.len;have hv:=h.inv.ver hi;rw[<- HZ n c h.ar];exact vE (a1:=s.c.tV) (a2:=s.c.qI) (a3:=s.c.nu) (a4:=s.c.fF) (a5:=s.c.kf) (a6:=s.c.com) (a7:=s.c.tW) (com:=s.commit) (last:=s.last) (cap:=s.ar.cap) (os:=s.objs) (bs:=s.binds) (ps:=s.pins) (pg:=pg) (n:=n) (c:=c) (by omega) (by omega) (fun o ho=>⟨by have:=(hv o ho).1;omega,fun v w=>by have:=(hv o ho).2 v w;omega⟩) (fun x hx=>(h.dat x hx).1) (by omega)
theorem Jy {i:Nat} {s:Sr} {c:Int} (h:Inv i s) (hi:i<=100):ak Tryz.prog 16 [.agg (eS s),i6 c] (.cT [.sl 1 ((jL s c).1.map eE),i6 (jL s c).2]) []:=by
 have h1:=h.b.hb;have h2:=h.b.hp;exact Bp (a1:=s.c.tV) (a2:=s.c.qI) (a3:=s.c.nu) (a4:=s.c.fF) (a5:=s.c.kf) (a6:=s.c.com) (a7:=s.c.tW) (com:=s.commit) (last:=s.last) (cap:=s.ar.cap) (os:=s.objs) (bs:=s.binds) (ps:=s.pins) (pg:=s.ar.pages) (c:=c) (by omega) (by omega)
theorem Ez {i:Nat} {s:Sr} {n:ByteArray} {c:Int} (h:Inv i s) (hi:i<=100):ak Tryz.prog 20 [.agg (eS s), .sc (.string n),i6 c] (.cT [i6 (dy s n c).1,i6 (dy s n c).2.1,i6 (dy s n c).2.2]) []:=by
 have h1:=h.b.hb;have h2:=h.b.hp;have h3:=h.b.ho;have hv:=h.ver hi;exact wI (a1:=s.c.tV) (a2:=s.c.qI) (a3:=s.c.nu) (a4:=s.c.fF) (a5:=s.c.kf) (a6:=s.c.com) (a7:=s.c.tW) (com:=s.commit) (last:=s.last) (cap:=s.ar.cap) (os:=s.objs) (bs:=s.binds) (ps:=s.pins) (pg:=s.ar.pages) (n:=n) (c:=c) (by omega) (by omega) (fun o ho=>by have:=(hv o ho).1;omega) (by omega)
theorem Mu {i:Nat} {s:Sr} {n:ByteArray} {c:Int} (h:Inv i s) (hi:i<=100):ak Tryz.prog 18 [.agg (eS s), .sc (.string n),i6 c] (.cT [.sl 1 ((iW s n c).1.map cF),i6 (iW s n c).2]) []:=by
 have h1:=h.b.hb;have h2:=h.b.hp;have h3:=h.b.ho;have h4:=h.b.hg;have hv:=h.ver hi;exact Cw (a1:=s.c.tV) (a2:=s.c.qI) (a3:=s.c.nu) (a4:=s.c.fF) (a5:=s.c.kf) (a6:=s.c.com) (a7:=s.c.tW) (com:=s.commit) (last:=s.last) (cap:=s.ar.cap) (os:=s.objs) (bs:=s.binds) (ps:=s.pins) (pg:=s.ar.pages) (n:=n) (c:=c) (by omega) (by omega) (fun o ho=>⟨by have:=(hv o ho).1;omega,fun v w=>by have:=(hv o ho).2 v w;omega⟩) (by omega) (by omega) (fun x hx=>(h.b.hd x hx).1)
theorem dQ (l:List Int):((strOfNums l).toList==(strOfNums l).toList)=true:=dc _
theorem GI {i:Nat} {s:Sr} {c:Int} (h:Inv i s):(jL s c).1.length<=i:=by
 rw[<- wK];unfold n9;have h1:=h.b.hb
 split
 ·simp
 ·have:=GJ c s.binds;simp only;omega
theorem Jz {i:Nat} {s:Sr} {n:ByteArray} {c:Int} (h:Inv i s):(iW s n c).1.length<=100000/\∀ z∈(iW s n c).1,0<=z/\z<=255:=by
 have hdl:∀ m,(eH s.ar m).1.length<=1024/\∀ z∈(eH s.ar m).1,0<=z/\z<=255:=fun m=>by
  rcases uU m s.ar.pages with ⟨h1,_⟩|⟨j,p,h1,h2,h3,h4,_⟩
  ·simp[eH,h1]
  ·rw[eH,aE (by rw[h3];omega),h4];exact h.b.hd p (fS h1)
 unfold iW
 split
 ·simp
 ·rcases gK s n c with ⟨e,_⟩|⟨j,k,o,v,_,q1,q2,q3,q4,q5,q6,e⟩
  ·rw[e];simp
  ·rw[e];simp only[Bool.true_eq_false,jd];have Bq:=((h.b.hv o (fS q1)).2 v (fS q4)).1;refine ⟨?_,fun z hz=>?_⟩
   ·have:=B1 (fun m=>(eH s.ar m).1) 1024 v.pages (fun m _=>(hdl m).1);have e2:qT (bg s.ar v.pages)=v.pages.flatMap fun m=>(eH s.ar m).1:=by simp[qT,bg,List.flatMap]
    rw[e2];omega
   ·obtain ⟨x,hx,hzx⟩:=List.mem_flatten.1 hz;obtain ⟨m,_,rfl⟩:=qq.1 hx;exact (hdl m).2 z hzx
theorem nc {i:Nat} {s:Sr} {pg:List Pg} {n:ByteArray} {c:Int} (h:pO i s pg) (hi:i<=100):aF Tryz.prog 10 (hO s pg) [.ref 0 0, .agg (eS s), .sc (.string n),i6 c] (.sc (.bool true)) (hO s pg):=by
 have k1:=Mt (c:=c) h hi;have k2:=GH (n:=n) (c:=c) h hi;have k3:=Pa (n:=n) (c:=c) h hi;have r1:=Jy (c:=c) h.inv hi;have r2:=Ez (n:=n) (c:=c) h.inv hi;have r3:=Mu (n:=n) (c:=c) h.inv hi;have hnl:=GI (c:=c) h.inv;have hrl:=(Jz (n:=n) (c:=c) h.inv).1;generalize jL s c=A at *;generalize dy s n c=B at *;generalize iW s n c=C at *;obtain ⟨an,ae⟩:=A;obtain ⟨bo,bf,be⟩:=B;obtain ⟨cd,ce⟩:=C;clear h;obtain ⟨⟨a1,a2,a3,a4,a5,a6,a7⟩,com,last,os,bs,ps,⟨cap,rp⟩⟩:=s;simp only[hO,eS] at *;refine dP [1000,1001,1002,1003] [5,27,33,40,48,56,63] Tryz.func10 rfl call10 rfl (by decide) (by decide) (by first|rfl) (by first|(simp only[seval,go_sem,List.all_cons,List.all_nil,EL,List.length_cons,List.length_nil];done)) Tryz.ntmps10 (by simp(disch:=omega)only[seval,go_sem,cI,List.replicate,l_2,l_1];rfl) (by simp(disch:=omega)only[seval,go_sem,cI,l_2,l_1];rfl) ?_
 ((repeat'(first|(with_reducible first|refine ay.seq ?_|refine ay.block ?_|refine ay.skip ?_|refine ah.nil ?_|refine bG ?_|refine ay.bE (by simp only[fk,eN];rfl) ?_)|((with_reducible refine au ?_);first|(with_reducible refine ah.step (by simp only[seval,go_sem,rH,bA,dQ];rfl) ?_)|((with_reducible refine cy ?_);first|((with_reducible (refine ah.dE (by simp only[seval,go_sem,rH,bA,dQ];rfl) (by simp only[seval,go_sem,rH,bA,dQ];rfl) ?_));first|refine bN.c [] (r1) (by simp only[seval,go_sem,rH,bA,dQ];rfl) ?_|refine bN.c [] (r2) (by simp only[seval,go_sem,rH,bA,dQ];rfl) ?_|refine bN.c [] (r3) (by simp only[seval,go_sem,rH,bA,dQ];rfl) ?_)|(with_reducible (first|(refine ah.cK (dst:=_) [] (by simp only[seval,go_sem,rH,bA,dQ];rfl) (by simp only[seval,go_sem,rH,bA,dQ];rfl) (k1) (by simp only[seval,go_sem,rH,bA,dQ]) (by simp only[seval,go_sem,rH,bA,dQ]) (by simp only[seval,go_sem,rH,bA,dQ];rfl) ?_)|(refine ah.cK (dst:=_) [] (by simp only[seval,go_sem,rH,bA,dQ];rfl) (by simp only[seval,go_sem,rH,bA,dQ];rfl) (k2) (by simp only[seval,go_sem,rH,bA,dQ]) (by simp only[seval,go_sem,rH,bA,dQ]) (by simp only[seval,go_sem,rH,bA,dQ];rfl) ?_)|(refine ah.cK (dst:=_) [] (by simp only[seval,go_sem,rH,bA,dQ];rfl) (by simp only[seval,go_sem,rH,bA,dQ];rfl) (k3) (by simp only[seval,go_sem,rH,bA,dQ]) (by simp only[seval,go_sem,rH,bA,dQ]) (by simp only[seval,go_sem,rH,bA,dQ];rfl) ?_))))|(with_reducible refine ah.step (by simp(disch:=omega)only[seval,go_sem,cI,rH,bA,dQ];rfl) ?_))|(with_reducible refine cg ?_;with_reducible refine ay.cond (by simp only[seval,go_sem,rH,bA,dQ];rfl) (cL ?_) (cL ?_))|(with_reducible refine cB ?_;intro hc;(try simp only[fG,reduceCtorEq] at hc);(try(exfalso;omega))))))
 all_goals(with_reducible refine ay.sX (fun (k:Nat)=>[(23,.sc (.int .i64 k)),(8,.any),(103,.any),(104,.any),(105,.any),(106,.any),(107,.any),(108,.any),(109,.any),(110,.any),(111,.any),(112,.any),(113,.any),(114,.any),(115,.any),(116,.any),(117,.any)]) (fun (k:Nat)=>[]) (fun (k:Nat)=>k<=an.length) (fun (k:Nat)=>an.length-k) (0) (ek _) (by intro _;simp(disch:=omega)only[seval,go_sem,cI];rfl) (by intro _;simp(disch:=omega)only[seval,go_sem,cI];rfl) (by (refine bL ?_);(try simp only[seval,go_sem])) (by (refine bX ?_);(try simp only[seval,go_sem])) (fun k hI=>?_))
 all_goals
  by_cases hlt:k<an.length
  ·obtain ⟨o,ho⟩:=aZ hlt;have ho':=get_map eE ho
   ((repeat'(first|(with_reducible first|refine ay.seq ?_|refine ay.block ?_|refine ay.skip ?_|refine ah.nil ?_|refine bz.nil ?_|refine bG ?_|refine dg ?_|refine gn ?_|refine ay.bE (by simp only[fk,eN];rfl) ?_)|((with_reducible refine au ?_);(with_reducible first|refine ah.step (by simp only[seval,go_sem,ho',eE,rH];rfl) ?_|refine ah.step (by simp(disch:=omega)only[seval,go_sem,cI,ho',eE,rH];rfl) ?_))|((with_reducible refine gD ?_);(with_reducible first|refine bz.step (by simp only[seval,go_sem,ho',eE,rH];rfl) ?_|refine bz.step (by simp(disch:=omega)only[seval,go_sem,cI,ho',eE,rH];rfl) ?_))|(with_reducible refine cg ?_;with_reducible refine ay.cond (by simp only[seval,go_sem,ho',eE,rH];rfl) (cL ?_) (cL ?_))|(with_reducible refine cB ?_;intro hc;(try simp only[fG,reduceCtorEq] at hc);(try(exfalso;omega)))|(with_reducible refine br ?_;refine ay.iK mix (by kernel_rfl) (by simp only[fk,eN];rfl) ?_))))
   all_goals(try(refine Hq (k+1) (by (refine bL ?_);(try simp only[seval,go_sem]);first|((repeat'(with_reducible apply And.intro))<;>first|rfl)) (by (refine bX ?_);(try simp only[seval,go_sem])) ?_ ?_<;>(try(omega))))
   all_goals done
  ·((repeat'(first|(with_reducible first|refine ay.seq ?_|refine ay.exit ?_|refine ay.ret ?_|refine ah.nil ?_|refine bG ?_|refine iN ?_|refine eT ?_|refine jU ?_|refine ay.bE (by simp only[fk,eN];rfl) ?_)|((with_reducible refine au ?_);(with_reducible first|refine ah.step (by simp only[seval,go_sem];rfl) ?_|refine ah.step (by simp(disch:=omega)only[seval,go_sem,cI];rfl) ?_))|(with_reducible refine cg ?_;with_reducible refine ay.cond (by simp only[seval,go_sem];rfl) (cL ?_) (cL ?_))|(with_reducible refine cB ?_;intro hc;(try simp only[fG,reduceCtorEq] at hc);(try(exfalso;omega)))|(with_reducible refine aB ?_;refine aC.q rfl rfl (by simp only[seval,go_sem];rfl) (by decide) (by simp only[seval,go_sem];rfl) (by simp only[seval,go_sem];rfl) rfl ?_<;>(try simp only[seval,go_sem])<;>(repeat'(with_reducible apply And.intro))<;>(try rfl)))))
   all_goals done
theorem uS {l:List Int} {n c:Int}:ak Tryz.prog 3 [.sl 1 (l.map cO),i6 n,i6 c] (.sc (.bool true)) []:=by
 obtain ⟨pg,hS,hrun⟩:=Jx l;generalize Js l=S at *;have Fi:=hS.inv.b.hc;have hnk:=gJ (n:=n%8);have k1:=nc (n:=kq (n%8)) (c:=S.commit) hS (by omega);have k2:=nc (n:=kq (n%8)) (c:=n/8%16-1) hS (by omega);have k3:=nc (n:=⟨#[122,122]⟩) (c:=S.commit) hS (by omega);have k4:=nc (n:=kq (n%8)) (c:=c) hS (by omega);have hkn:=zD;generalize kq (n%8)=NM at *;clear hS;obtain ⟨⟨a1,a2,a3,a4,a5,a6,a7⟩,com,last,os,bs,ps,⟨cap,rp⟩⟩:=S;simp only[hO,eS] at *;refine bR [] [8,13,21,27,36,43,50,53,313,513,713] [.tmp 6] Tryz.func3 (by kernel_rfl) Tryz.ntmps3 rfl rfl rfl ⟨rfl,rfl⟩ (by simp(disch:=omega)only[seval,go_sem,cI,List.replicate,l_2,l_1];rfl) ?_
 ((repeat'(first|simp only[seval,go_sem]|((with_reducible refine bJ ?_);first|refine aq.n4 (hrun) ?_|refine aq.c (hnk) ?_|refine aq.c (hkn) ?_)|((with_reducible refine au ?_);first|((with_reducible refine cq (st:=[36,43,50,53]) 2 ?_);simp only[seval,go_sem];first|refine b8.c (k1) ?_|refine b8.c (k2) ?_|refine b8.c (k3) ?_|refine b8.c (k4) ?_)|(with_reducible refine aD (st:=[36,43,50,53]) ?_))|(with_reducible first|refine aV (st:=[36,43,50,53]) ?_|refine ai (by simp(disch:=omega)only[seval,go_sem,cI];rfl) ?_))))
 all_goals done
theorem yI:ownKnob Tryz.prog.godebug=none:=by kernel_rfl
theorem wh:laidOutB Tryz.prog=true:=by kernel_rfl
theorem tP (os:Os) (started:os.Started) (H:Type) (enc:TypeId×Value->H):
  ReturnsInHanded {} Tryz.checked os 3 .any (Rows.storeLooksSpec.pre6 enc Tryz.prog Tryz.f3 Rows.storeLooksRow.domain false) (Rows.storeLooksSpec.post enc Tryz.prog Tryz.f3 false true false false):=by
 refine returnsInHanded_of_change (C:=Tryz.checked) yI started (by kernel_rfl) Tryz.func3
  (ChangeSpec.witness6 (enc:=enc) (C:=Tryz.checked) false ⟨#[], #[.slice none 0 0, .int .i64 0, .int .i64 0],[]⟩ 8 (by kernel_rfl) (by kernel_rfl) (by kernel_rfl) (by kernel_rfl)) ?_
 intro W base args ds gs before Vd hW hcnd _;have hval:∀ (j:Nat) t v,Tryz.f3.params[j]? = some t->args[j]? = some v->Value.okWide Tryz.prog W .any base t v:=Vd;have V2:=hW;obtain ⟨p,q,hA0,hV,rfl,hfz,qX⟩:=hW;have hA:DataW.TrodAll enc Tryz.prog W 0 (fun _=>true) true Tryz.f3.params.toList args.toList ds p:=hA0;rw[Tryz.params3] at hA hval;obtain ⟨v0,vs0,d0,ds0,p0,q0,hargs,rfl,rfl,h0,r0⟩:=trodAll_cons hA;obtain ⟨v1,vs1,d1,ds1,p1,q1,rfl,rfl,rfl,h1,r1⟩:=trodAll_cons r0;obtain ⟨v2,Y0,d2,ds2,p2,q2,rfl,rfl,rfl,h2,r2⟩:=trodAll_cons r1;obtain ⟨rfl,rfl,rfl⟩:=trodAll_nil r2;obtain rfl:args = #[v0,v1,v2]:=by cases args;simp_all
 obtain ⟨a0,x0,w0,l0⟩:=Kn Tryz.underlying22 Tryz.underlying3 (by kernel_rfl) (hval 0 22 v0 rfl rfl) h0;obtain ⟨a1,x1,w1⟩:=G4 Tryz.underlying3 (hval 1 3 v1 rfl rfl) h1;obtain ⟨a2,x2,w2⟩:=G4 Tryz.underlying3 (hval 2 3 v2 rfl rfl) h2;exact Km (xs:=[.sl 1 (a0.map fun z=>[.sc (.int .i64 z)]),.sc (.int .i64 a1),.sc (.int .i64 a2)]) V2 rfl wh (by kernel_rfl) (fun gs' h=>by subst h;rfl) rfl Tryz.underlying4 (by simp only[RL];exact ⟨_,_,rfl,x0,⟨_,_,rfl,x1,⟨_,_,rfl,x2,rfl⟩⟩⟩) (uS)
theorem wj:Rows.storeLooksRow.holds Tryz.pinned (OpenSpec.ofChange Rows.storeLooksSpec):=
 OpenClaim.holds_of_wide 3 Tryz.f3 rfl rfl rfl rfl rfl rfl rfl ⟨rfl,rfl,rfl,rfl,rfl⟩ rfl rfl rfl rfl rfl (by kernel_rfl) Tryz.func3 (by kernel_rfl)
  (of_decide_eq_true (by kernel_rfl)) (by unfold Func.isWrapper;first|(rw[bC (by decide +kernel)];kernel_rfl)|(rw[aE (by decide +kernel)];exact ⟨rfl,rfl⟩))
  (fun os started H enc _=>tP os started H enc)
theorem storeLooks_holds:Rows.StoreLooksSaid:=wj
end Go.Proofs.YteemiclhnfkekaaGreat
