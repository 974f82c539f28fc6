/- The store's invariants (plain): sizes, chains, directory, pins; every operation of the reference keeps them. -/
import Derived.Test.YteemiclhnfkekaaGreatZCoV
import Derived.Test.YteemiclhnfkekaaGreatZStE
import Derived.Test.YteemiclhnfkekaaGreatZStO
import Derived.Test.YteemiclhnfkekaaGreatZStN
import Derived.Test.YteemiclhnfkekaaGreatZStD
import Derived.Test.YteemiclhnfkekaaGreatZCoA
set_option linter.unusedSimpArgs false
set_option linter.unusedVariables false
namespace Go.Proofs.YteemiclhnfkekaaGreat
open Go.RowKit Go.eB Go.Proofs.Tryz
theorem OV {i:Nat} {s:Sr} (h:wD i s):∀ x∈gY s,x.v.pages.length<=61:=fun x hx=>by
 obtain ⟨o,ho,UM⟩:=MG.1 hx;obtain ⟨v,hv,rfl⟩:=qq.1 UM;exact ((h.hv o ho).2 v hv).1
theorem Em (l:List fE) (v:fE):(cQ l v).1.length<=l.length+1:=by
 unfold cQ
 split
 ·exact ek _
 ·split
  ·exact ek _
  ·split
   ·simp
   ·split
    ·exact ek _
    ·split
     ·simp
     ·simp
theorem Gm (l:List fE) (c:Int):(dY l c).1.length<=l.length:=by
 unfold dY
 split
 ·exact ek _
 ·split
  ·exact ek _
  ·split
   ·exact ek _
   ·split
    ·exact ek _
    ·simp
theorem En {l:List Ob} {j:Int} {v:List fE} {k:Nat} (h:v.length<=(dm l j).bu.length+k):((dz l j v).flatMap jo).length<=(l.flatMap jo).length+k:=by
 unfold dz;cases e:l[j.toNat]? with
 | none=>
   rw[List.set_eq_of_length_le (List.getElem?_eq_none_iff.1 e)];omega
 | some o=>
   have hg:dm l j=o:=by simp[dm,e]
   rw[hg] at h ⊢;obtain ⟨A,B,hl,_,hs,_⟩:=nR e;rw[hs]
   conv=>rhs;rw[hl]
   simp only[SB,RW,bW,jo,dD];omega
structure Inv (i:Nat) (s:Sr):Prop where
 b:wD i s
 si:wC s
 en:(gY s).length<=i
 mi:MI s.binds (s.commit+1) (s.last+1)
 opn:∀ b∈s.binds,b.to=0->∃ x∈gY s,x.id=b.obj/\x.v.to=0
 JM:Co s.pins
 OW:∀ p∈s.pins,p.commit<=s.commit
 cf:qO s.c=true
theorem Inv.up {i:Nat} {s:Sr} (h:Inv i s):Inv (i+1) s:=⟨h.b.up,h.si,by have:=h.en;omega,h.mi,h.opn,h.JM,h.OW,h.cf⟩
theorem Inv.VI {i:Nat} {s:Sr} (h:Inv i s) (hi:i<=100):(gp s.objs).length<=10309:=by
 rw[<- I8];have h1:=B1 (fun x:Vn=>x.v.pages) 61 (gY s) (OV h.b);have h2:=h.en;unfold LN;omega
theorem Cc {c o:Int} (hc:1<=c) (ho:1<=o):MI [] c o:=⟨⟨by simp,List.Pairwise.nil,List.Pairwise.nil⟩,by simp,by simp,hc,ho⟩
theorem RH {c:Cf} (hc:qO c=true) (hz:1<=c.fF/\c.fF<=1024):newR c=(⟨c,0,0,[],[],[],⟨c.nu,[]⟩⟩,0)/\Inv 1 (newR c).1:=by
 have e:newR c=(⟨c,0,0,[],[],[],⟨c.nu,[]⟩⟩,0):=by rw[newR,aE (by rw[hc];decide)]
 refine ⟨e,?_⟩;rw[e];exact ⟨⟨by simp,by simp,by simp,by simp,by simp,by intro p hp;simp at hp,by simp,by simp,hz⟩,⟨List.Pairwise.nil,by simp,by simp,by simp,⟨List.Pairwise.nil,by simp,by simp[gp]⟩,rfl⟩,by simp[gY],Cc (by simp) (by simp),by simp,⟨by simp,List.Pairwise.nil⟩,by simp,hc⟩
theorem zF (s:Sr) (n:ByteArray) (d:List Int):(∃ e,cR s n d=(s,0,e))\/(bM n=true/\fM s n=false/\((iV s.commit s.binds []).length:Int)<s.c.qI/\s.commit<s.c.com/\(s.ar.pages.length:Int)+((aR d s.c.fF).1.length:Int)<=s.c.nu/\
  cR s n d=({ s with commit:=s.commit+1,last:=s.last+1,objs:=s.objs++[⟨s.last+1,[⟨s.commit+1,0,d.length,(eZ s.ar (aR d s.c.fF).1).2⟩]⟩],binds:=(dw s.binds n (s.last+1) (s.commit+1)).1,ar:=(eZ s.ar (aR d s.c.fF).1).1 },s.commit+1,0)):=by
 by_cases h1:bM n=false
 ·exact .inl ⟨6,by rw[cR,bC h1]⟩
 by_cases h2:65536<(d.length:Int)
 ·exact .inl ⟨11,by rw[cR,aE h1,bC h2]⟩
 by_cases h3:fM s n=true
 ·exact .inl ⟨9,by rw[cR,aE h1,aE h2,bC h3]⟩
 by_cases h4:s.c.qI<=((iV s.commit s.binds []).length:Int)\/s.c.com<=s.commit\/s.c.nu<(s.ar.pages.length:Int)+((aR d s.c.fF).1.length:Int)
 ·exact .inl ⟨14,by rw[cR,aE h1,aE h2,aE h3,bC h4]⟩
 refine .inr ⟨by simpa using h1,by simpa using h3,by omega,by omega,by omega,by rw[cR,aE h1,aE h2,aE h3,aE h4]⟩
theorem Jl {l:List Bd} {n:ByteArray} {o c:Int} {b:Bd} (h:b∈(dw l n o c).1):b=⟨n,o,c,0⟩\/b∈l:=by
 unfold dw at h
 repeat' split at h
 all_goals(try(cases h;done))
 exact lg.1 h
theorem Ba (s:Sr) (o:Ob):(s.objs++[o]).flatMap jo=gY s++jo o:=by simp[gY]
theorem yz {i:Nat} {s:Sr} {m:ByteArray} {n:Int} (h:Inv i s):Inv (i+1) (cR s m (aO n)).1:=by
 have hB:=Gd (m:=m) (n:=n) h.b;have hI:=Oy (m:=m) (n:=n) h.si h.b;rcases zF s m (aO n) with ⟨e,he⟩|⟨_,_,_,_,_,he⟩
 ·rw[he];exact h.up
 rw[he] at hB hI ⊢;have hc:=h.b.hc;have hl:=h.b.hl;refine ⟨hB,hI,?_,?_,fun b hb h0=>?_,h.JM,fun p hp=>by have:=h.OW p hp;simp only;omega,h.cf⟩
 ·show ((s.objs++[_]).flatMap jo).length<=_;rw[Ba,bW];have:=h.en;simp[jo];omega
 ·simp only;by_cases hz:(dw s.binds m (s.last+1) (s.commit+1)).2=0
  ·obtain ⟨g1,g2,g3,g4⟩:=OX h.mi (o:=s.last+1) (by omega) (fun b hb e=>by have:=h.mi.ob b hb;omega) hz;exact ⟨g1,g2,fun b hb=>by rcases g3 b hb with g|g<;>omega,by omega,by omega⟩
  ·rw[Jm hz];exact Cc (by omega) (by omega)
 ·simp only[gY];rw[Ba];rcases Jl hb with rfl|hb
  ·exact ⟨_,List.mem_append_right _ (rG.2 rfl),rfl,rfl⟩
  ·obtain ⟨x,hx,h1,h2⟩:=h.opn b hb h0;exact ⟨x,List.mem_append_left _ hx,h1,h2⟩
theorem Gn (s:Sr) (n:ByteArray) (d:List Int):(∃ e,ji s n d=(s,0,e))\/((fO s n s.commit).2.2=true/\s.commit<s.c.com/\(s.ar.pages.length:Int)+gj (bB (bg s.ar (fO s n s.commit).2.1.pages) (aR d s.c.fF).1)<=s.c.nu/\
  ji s n d=({ s with commit:=s.commit+1,objs:=dz s.objs (fO s n s.commit).1 (cQ (dm s.objs (fO s n s.commit).1).bu ⟨s.commit+1,0,d.length,(iR s.ar (aR d s.c.fF).1 (bB (bg s.ar (fO s n s.commit).2.1.pages) (aR d s.c.fF).1) (fO s n s.commit).2.1.pages).2⟩).1,ar:=(iR s.ar (aR d s.c.fF).1 (bB (bg s.ar (fO s n s.commit).2.1.pages) (aR d s.c.fF).1) (fO s n s.commit).2.1.pages).1 },s.commit+1,0)):=by
 by_cases h1:65536<(d.length:Int)
 ·exact .inl ⟨11,by rw[ji,bC h1]⟩
 by_cases h2:(fO s n s.commit).2.2=false
 ·exact .inl ⟨8,by rw[ji,aE h1,bC h2]⟩
 by_cases h3:s.c.com<=s.commit\/s.c.nu<(s.ar.pages.length:Int)+gj (bB (bg s.ar (fO s n s.commit).2.1.pages) (aR d s.c.fF).1)
 ·exact .inl ⟨14,by rw[ji,aE h1,aE h2,bC h3]⟩
 exact .inr ⟨by simpa using h2,by omega,by omega,by rw[ji,aE h1,aE h2,aE h3]⟩
theorem Bb {l:List Ob} {j:Nat} {o:Ob} {vs:List fE} (hj:l[j]? = some o):∃ A B,l.flatMap jo=A++jo o++B/\(dz l (j:Int) vs).flatMap jo=A++vs.map (fun v=>⟨o.id,v⟩)++B/\(vO (l.map (·.id))->∀ x,x∈A\/x∈B->x.id≠o.id):=by
 obtain ⟨A,B,hl,hA,aG,_⟩:=nR hj;have zZ:dm l (j:Int)=o:=by simp[dm,hj]
 refine ⟨A.flatMap jo,B.flatMap jo,?_,?_,fun RI x hx=>?_⟩
 ·conv=>lhs;rw[hl]
  simp
 ·rw[dz,zZ,Int.toNat_natCast,aG];simp[jo]
 ·rw[hl] at RI;simp only[vN,fk] at RI;obtain ⟨a1,a2,a3⟩:=JF.1 RI;have a4:=(M9.1 a2).1;rcases hx with hx|hx
  ·obtain ⟨p,hp,hq⟩:=MG.1 hx;obtain ⟨v,_,rfl⟩:=qq.1 hq;have:=a3 p.id (List.mem_map_of_mem hp) o.id (by simp);simp only;omega
  ·obtain ⟨p,hp,hq⟩:=MG.1 hx;obtain ⟨v,_,rfl⟩:=qq.1 hq;have:=a4 p.id (List.mem_map_of_mem hp);simp only;omega
theorem HN {i:Nat} {s:Sr} {m:ByteArray} {n:Int} (h:Inv i s) (hi:i<=100):Inv (i+1) (ji s m (aO n)).1:=by
 have hB:=OJ (m:=m) (n:=n) h.b;have hI:=XK (m:=m) (n:=n) h.si h.b (h.VI hi);rcases Gn s m (aO n) with ⟨e,he⟩|⟨hv,_,_,he⟩
 ·rw[he];exact h.up
 rw[he] at hB hI ⊢;have hc:=h.b.hc;have hl:=h.b.hl;obtain ⟨j,k,o,v,hj,hk,hh,e⟩:=uL hv;rw[e] at hB hI ⊢;simp only at hB hI ⊢;have zZ:dm s.objs (j:Int)=o:=by simp[dm,hj]
 rw[zZ] at hB hI ⊢;generalize iR s.ar (aR (aO n) s.c.fF).1 (bB (bg s.ar v.pages) (aR (aO n) s.c.fF).1) v.pages=P at *;have ho:=fS hj;obtain ⟨pre,u,JJ⟩:=sg hk;have hok:=h.si.ok o ho;have LJ:=h.si.com o ho;rw[JJ] at hok LJ;have VD:=LJ u (by simp)
 have e2:cQ o.bu ⟨s.commit+1,0,(aO n).length,P.2⟩=(pre++[k8 u (s.commit+1)]++[⟨s.commit+1,0,(aO n).length,P.2⟩],0):=by
  rw[JJ];exact vq hok (by omega) (by omega) (by omega)
 obtain ⟨A,B,a1,a2,a3⟩:=Bb (vs:=(cQ o.bu ⟨s.commit+1,0,(aO n).length,P.2⟩).1) hj;refine ⟨hB,hI,?_,?_,fun b hb h0=>?_,h.JM,fun p hp=>by have:=h.OW p hp;simp only;omega,h.cf⟩
 ·show ((dz s.objs (j:Int) _).flatMap jo).length<=_;refine JU (En (k:=1) (by rw[zZ];exact Em _ _)) ?_;have:=h.en;unfold gY at this;omega
 ·exact ⟨h.mi.vb,fun b hb=>by have:=h.mi.lt b hb;simp only;omega,h.mi.ob,by simp only;omega,by simp only;omega⟩
 ·simp only[gY];obtain ⟨x,hx,h1,h2⟩:=h.opn b hb h0;rw[a2];have hx':x∈A++jo o++B:=by rw[<- a1];exact hx
  simp only[lS] at hx';rcases hx' with (hx'|hx')|hx'
  ·exact ⟨x,by simp[hx'],h1,h2⟩
  ·obtain ⟨w,_,rfl⟩:=qq.1 hx';refine ⟨⟨o.id,⟨s.commit+1,0,(aO n).length,P.2⟩⟩,?_,h1,rfl⟩;rw[e2];simp
  ·exact ⟨x,by simp[hx'],h1,h2⟩
theorem Jn {l:List Bd} (h:VB l) {i j:Nat} {a b:Bd} (ha:l[i]? = some a) (hb:l[j]? = some b) (h1:a.to=0) (h2:b.to=0) (e:a.name=b.name):i=j:=by
 obtain ⟨hi,rfl⟩:=jM.1 ha;obtain ⟨hj,rfl⟩:=jM.1 hb;have hp:=JR.1 h.pG;rcases SF i j with g|g|g
 ·rcases hp i j hi hj g with q|⟨_,q,_⟩
  ·rw[e,iE] at q;cases q
  ·exact absurd h1 q
 ·exact g
 ·rcases hp j i hj hi g with q|⟨_,q,_⟩
  ·rw[e,iE] at q;cases q
  ·exact absurd h2 q
theorem Mg {l:List Bd} (h:VB l) {i j:Nat} {a b:Bd} (ha:l[i]? = some a) (hb:l[j]? = some b) (h1:a.to=0) (h2:b.to=0) (e:a.obj=b.obj):i=j:=by
 obtain ⟨hi,rfl⟩:=jM.1 ha;obtain ⟨hj,rfl⟩:=jM.1 hb;have hp:=JR.1 h.dup;rcases SF i j with g|g|g
 ·exact absurd ⟨e,by unfold xN;rw[h1,h2];rfl⟩ (hp i j hi hj g)
 ·exact g
 ·exact absurd ⟨e.symm,by unfold xN;rw[h1,h2];rfl⟩ (hp j i hj hi g)
theorem Eo {l:List Bd} {n:ByteArray} {c o:Int} (h:MI l c o) {b:Bd} (hb:b∈(bI l n c).1) (h0:b.to=0):b∈l/\∀ a∈l,a.to=0->a.name=n->a.obj≠b.obj:=by
 unfold bI at hb
 repeat' split at hb
 all_goals(try(cases hb;done))
 rename_i h6 h7;obtain ⟨d,hd,hp⟩:=k9 h6;have hbd:=fR hd;simp only[gP,jj,nX] at hp;simp only[vZ,hbd] at hb;obtain ⟨j,hj⟩:=JD.1 hb;rw[List.getElem?_set] at hj;have hc:=h.c1
 split at hj
 ·split at hj
  ·cases hj;simp only at h0;omega
  ·cases hj
 ·rename_i hne;refine ⟨fS hj,fun a ha ha0 hn e=>?_⟩;obtain ⟨k,hk⟩:=JD.1 ha;have e1:=Jn h.vb hk hd ha0 hp.2 (hn.trans (lP.1 hp.1).symm);have e2:=Mg h.vb hk hj ha0 h0 e;omega
theorem Ep {l:List Bd} {n m:ByteArray} {c o:Int} (h:MI l c o) {b:Bd} (hb:b∈(bH l n m c).1) (h0:b.to=0):∃ a∈l,a.to=0/\a.obj=b.obj:=by
 unfold bH at hb
 repeat' split at hb
 all_goals(try(cases hb;done))
 rename_i h6 h8 h7;obtain ⟨d,hd,hp⟩:=k9 h6;have hbd:=fR hd;simp only[gP,jj,nX] at hp;simp only[vZ,hbd] at hb;have hc:=h.c1;rcases lg.1 hb with rfl|hb
 ·exact ⟨d,fS hd,hp.2,rfl⟩
 ·rcases iB hb with hb|rfl
  ·exact ⟨b,hb,h0,rfl⟩
  ·simp only at h0;omega
theorem Er (s:Sr) (n:ByteArray):(∃ e,gq s n=(s,0,e))\/((fO s n s.commit).2.2=true/\s.commit<s.c.com/\
  gq s n=({ s with commit:=s.commit+1,objs:=dz s.objs (fO s n s.commit).1 (dY (dm s.objs (fO s n s.commit).1).bu (s.commit+1)).1,binds:=(bI s.binds n (s.commit+1)).1 },s.commit+1,0)):=by
 by_cases h1:(fO s n s.commit).2.2=false
 ·exact .inl ⟨8,by rw[gq,bC h1]⟩
 by_cases h2:s.c.com<=s.commit
 ·exact .inl ⟨14,by rw[gq,aE h1,bC h2]⟩
 exact .inr ⟨by simpa using h1,by omega,by rw[gq,aE h1,aE h2]⟩
theorem yA {n:ByteArray} {c:Int}:∀ {l:List Bd},(b9 n c l).2=true->∃ b∈l,b.name=n/\eX b.eo b.to c=true/\(b9 n c l).1=b.obj
 | [],h=>by cases h
 | x::l,h=>by
   rw[b9] at h ⊢
   split at h
   ·rename_i hx;rw[bC hx];rw[jj] at hx;exact ⟨x,by simp,lP.1 hx.1,hx.2,rfl⟩
   ·rename_i hx;rw[aE hx];obtain ⟨b,hb,h1,h2,h3⟩:=yA h;exact ⟨b,by simp[hb],h1,h2,h3⟩
theorem MI.holds {l:List Bd} {c o:Int} (h:MI l (c+1) o) {b:Bd} (hb:b∈l) (hh:eX b.eo b.to c=true):b.to=0:=by
 have:=h.lt b hb;simp only[eX,jj,vP,pQ,nX] at hh;omega
theorem Es {i:Nat} {s:Sr} {m:ByteArray} (h:Inv i s):Inv (i+1) (gq s m).1:=by
 have hB:=L6 (m:=m) h.b;have hI:=UL (m:=m) h.si h.b;rcases Er s m with ⟨e,he⟩|⟨hv,_,he⟩
 ·rw[he];exact h.up
 rw[he] at hB hI ⊢;have hc:=h.b.hc;have hl:=h.b.hl
 have hmi:MI (bI s.binds m (s.commit+1)).1 (s.commit+1+1) (s.last+1):=by
  by_cases hz:(bI s.binds m (s.commit+1)).2=0
  ·obtain ⟨g1,g2,g3,g4⟩:=Jo h.mi hz;exact ⟨g1,g2,g3,by omega,by omega⟩
  ·rw[Et hz];exact Cc (by omega) (by omega)
 rcases gK s m s.commit with ⟨e,_⟩|⟨j,k,o,v,q0,q1,q2,q3,q4,q5,q6,e⟩
 ·rw[e] at hv;cases hv
 rw[e] at hB hI ⊢;simp only at hB hI ⊢;have zZ:dm s.objs (j:Int)=o:=by simp[dm,q1]
 rw[zZ] at hB hI ⊢;obtain ⟨b0,hb0,hn0,hh0,X7⟩:=yA q0
 have hid:o.id=(b9 m s.commit s.binds).1:=by
  rcases jH (b9 m s.commit s.binds).1 s.objs 0 with ⟨g,_⟩|⟨j',p,g1,g2,g3,_⟩
  ·omega
  ·rw[q3] at g3;have:j'=j:=by omega
   subst this;rw[q1] at g1;cases g1;exact g2
 obtain ⟨A,B,a1,a2,a3⟩:=Bb (vs:=(dY o.bu (s.commit+1)).1) q1;refine ⟨hB,hI,?_,hmi,fun b hb h0=>?_,h.JM,fun p hp=>by have:=h.OW p hp;simp only;omega,h.cf⟩
 ·show ((dz s.objs (j:Int) _).flatMap jo).length<=_;refine JU (En (k:=0) (by rw[zZ];exact Gm _ _)) ?_;have:=h.en;unfold gY at this;omega
 ·simp only[gY];obtain ⟨rW,hne⟩:=Eo h.mi hb h0;obtain ⟨x,hx,h1,h2⟩:=h.opn b rW h0;have X8:=hne b0 hb0 (h.mi.holds hb0 hh0) hn0;rw[a2];have hx':x∈A++jo o++B:=by rw[<- a1];exact hx
  simp only[lS] at hx';rcases hx' with (hx'|hx')|hx'
  ·exact ⟨x,by simp[hx'],h1,h2⟩
  ·obtain ⟨w,_,rfl⟩:=qq.1 hx';simp only at h1;exact absurd (X7.symm.trans (hid.symm.trans h1)) X8
  ·exact ⟨x,by simp[hx'],h1,h2⟩
theorem zG (s:Sr) (n m:ByteArray):(∃ e,bY s n m=(s,0,e))\/(bM m=true/\fM s n=true/\fM s m=false/\s.commit<s.c.com/\bY s n m=({ s with commit:=s.commit+1,binds:=(bH s.binds n m (s.commit+1)).1 },s.commit+1,0)):=by
 by_cases h1:bM m=false
 ·exact .inl ⟨6,by rw[bY,bC h1]⟩
 by_cases h2:fM s n=false
 ·exact .inl ⟨8,by rw[bY,aE h1,bC h2]⟩
 by_cases h3:fM s m=true
 ·exact .inl ⟨9,by rw[bY,aE h1,aE h2,bC h3]⟩
 by_cases h4:s.c.com<=s.commit
 ·exact .inl ⟨14,by rw[bY,aE h1,aE h2,aE h3,bC h4]⟩
 exact .inr ⟨by simpa using h1,by simpa using h2,by simpa using h3,by omega,by rw[bY,aE h1,aE h2,aE h3,aE h4]⟩
theorem yB {i:Nat} {s:Sr} {n m:ByteArray} (h:Inv i s):Inv (i+1) (bY s n m).1:=by
 have hB:=Ge (m:=n) (k:=m) h.b;have hI:=renameI (m:=n) (k:=m) h.si;rcases zG s n m with ⟨e,he⟩|⟨_,_,_,_,he⟩
 ·rw[he];exact h.up
 rw[he] at hB hI ⊢;have hc:=h.b.hc;have hl:=h.b.hl;refine ⟨hB,hI,by have:=h.en;simp only[gY] at this ⊢;omega,?_,fun b hb h0=>?_,h.JM,fun p hp=>by have:=h.OW p hp;simp only;omega,h.cf⟩
 ·simp only;by_cases hz:(bH s.binds n m (s.commit+1)).2=0
  ·obtain ⟨g1,g2,g3,g4⟩:=Jp h.mi hz;exact ⟨g1,g2,g3,by omega,by omega⟩
  ·rw[Eu hz];exact Cc (by omega) (by omega)
 ·obtain ⟨a,ha,ha0,e⟩:=Ep h.mi hb h0;rw[<- e];exact h.opn a ha ha0
theorem Gp (s:Sr) (c:Int):(∃ e,e≠0/\ja s c=(s,e))\/(eG s c=0/\iL s.pins 0<s.c.kf/\ja s c=({ s with pins:=(kJ s.pins c).1 },0)):=by
 by_cases h1:eG s c=0
 ·by_cases h2:s.c.kf<=iL s.pins 0
  ·exact .inl ⟨14,by decide,by rw[ja,aE (by simp[h1]),bC h2]⟩
  ·exact .inr ⟨h1,by omega,by rw[ja,aE (by simp[h1]),aE h2]⟩
 ·exact .inl ⟨eG s c,h1,by rw[ja,bC h1]⟩
theorem OY {s:Sr} {c:Int} (h:eG s c=0):0<=c/\c<=s.commit:=by
 unfold eG at h
 split at h
 ·cases h
 ·rename_i hr;simp only[mO,Bool.and_eq_false_iff,Ph,vQ,Decidable.not_not] at hr;exact hr
theorem HO {i:Nat} {s:Sr} {c:Int} (h:Inv i s):Inv (i+1) (ja s c).1:=by
 have hB:=OL (c:=c) h.b;have hI:=XM (c:=c) h.si;rcases Gp s c with ⟨e,_,he⟩|⟨hv,_,he⟩
 ·rw[he];exact h.up
 rw[he] at hB hI ⊢;have hr:=OY hv;refine ⟨hB,hI,by have:=h.en;simp only[gY] at this ⊢;omega,h.mi,h.opn,?_,fun p hp=>?_,h.cf⟩
 ·simp only;unfold kJ
  repeat' split
  ·exact ⟨by simp,List.Pairwise.nil⟩
  ·exact ⟨by simp,List.Pairwise.nil⟩
  ·exact ⟨by simp,List.Pairwise.nil⟩
  ·rename_i hf;exact D6 hr.1 h.JM (by simpa using hf)
 ·simp only at hp ⊢;unfold kJ at hp
  repeat' split at hp
  all_goals(try(cases hp;done))
  rcases uO hp with e|hp
  ·omega
  ·exact h.OW p hp
theorem oT (c:Int):∀ l:List Pn,fz l c=qm c l
 | []=>rfl
 | p::l=>by
   have ih:=oT c l;unfold fz at ih ⊢;rw[List.any_cons,ih,qm];by_cases h:p.commit=c<;>simp[h]
theorem Ev {c:Int}:∀ {l:List Pn},Co l->Co (gF c l)/\∀ p∈gF c l,∃ q∈l,q.commit=p.commit
 | [],h=>⟨⟨by simp[gF],by simp[gF]⟩,by simp[gF]⟩
 | x::l,h=>by
   obtain ⟨h1,h2⟩:=h.tail;obtain ⟨g1,g2⟩:=Ev (c:=c) h1;have hx:=h.range x (by simp)
   have key:∀ y:Pn,y.commit=x.commit->1<=y.count->y.count<=1024->Co (y::gF c l)/\∀ p∈y::gF c l,∃ q∈x::l,q.commit=p.commit:=fun y e1 e2 e3=>by
    refine ⟨⟨fun p hp=>?_,M9.2 ⟨fun p hp=>?_,g1.pG⟩⟩,fun p hp=>?_⟩
    ·rcases lp.1 hp with rfl|hp
     ·omega
     ·exact g1.range p hp
    ·obtain ⟨q,hq,e⟩:=g2 p hp;have:=h2 q hq;omega
    ·rcases lp.1 hp with rfl|hp
     ·exact ⟨x,by simp,e1.symm⟩
     ·obtain ⟨q,hq,e⟩:=g2 p hp;exact ⟨q,by simp[hq],e⟩
   have key2:Co (gF c l)/\∀ p∈gF c l,∃ q∈x::l,q.commit=p.commit:=⟨g1,fun p hp=>by
    obtain ⟨q,hq,e⟩:=g2 p hp
    exact ⟨q,by simp[hq],e⟩⟩
   rw[gF]
   split
   ·split
    ·exact key ⟨x.commit,x.count-1⟩ rfl (by simp only;omega) (by simp only;omega)
    ·exact key2
   ·split
    ·exact key x rfl (by omega) (by omega)
    ·exact key2
theorem tO (s:Sr) (c:Int) (h:Co s.pins):(fz s.pins c=false/\gW s c=(s,8))\/(fz s.pins c=true/\gW s c=({ s with pins:=gF c s.pins },0)):=by
 have hv:dK none s.pins=0:=A0 _ none h (by simp);cases h1:fz s.pins c
 ·exact .inl ⟨rfl,by rw[gW,bC h1]⟩
 ·refine .inr ⟨rfl,?_⟩;rw[gW,aE (by simp[h1]),jh,aE (by simp[hv]),bC (by rw[<- oT];exact h1)]
theorem Bc {i:Nat} {s:Sr} {c:Int} (h:Inv i s):Inv (i+1) (gW s c).1:=by
 have hB:=Jj (c:=c) h.b;have hI:=Rv (c:=c) h.si;rcases tO s c h.JM with ⟨_,he⟩|⟨_,he⟩
 ·rw[he];exact h.up
 rw[he] at hB hI ⊢;obtain ⟨g1,g2⟩:=Ev (c:=c) h.JM;refine ⟨hB,hI,by have:=h.en;simp only[gY] at this ⊢;omega,h.mi,h.opn,g1,fun p hp=>?_,h.cf⟩;obtain ⟨q,hq,e⟩:=g2 p hp;have:=h.OW q hq;simp only;omega
def kr (s:Sr):Sr×Int:=({ s with binds:=ga s.pins s.binds },(s.binds.length:Int)-((ga s.pins s.binds).length:Int))
theorem Be {i:Nat} {s:Sr} (h:Inv i s):Inv (i+1) (kr s).1:=by
 have hm:∀ b∈ga s.pins s.binds,b∈s.binds:=fun b hb=>(List.mem_filter.1 hb).1;have hl:=Ew s.pins s.binds;refine ⟨⟨by have:=h.b.hb;simp only[kr];omega,h.b.up.ho,h.b.up.hv,h.b.up.hp,h.b.up.hg,h.b.hd,h.b.up.hc,h.b.up.hl,h.b.hz⟩,HB h.si rfl (Nc _) rfl rfl rfl,by have:=h.en;simp only[gY,kr] at this ⊢;omega,?_,fun b hb h0=>h.opn b (hm b hb) h0,h.JM,h.OW,h.cf⟩;exact ⟨Mh h.mi.vb,fun b hb=>h.mi.lt b (hm b hb),fun b hb=>h.mi.ob b (hm b hb),h.mi.c1,h.mi.o1⟩
theorem zH {s:Sr} (id f:Int):(∃ e,e≠0/\dA s id f=(s,e))\/∃ x∈gY s,x.id=id/\x.v.from_=f/\qi s.pins x.v=true:=by
 unfold dA;by_cases h1:cU id s.objs 0<0
 ·exact .inl ⟨8,by decide,by rw[bC h1]⟩
 rw[aE h1];rcases jH id s.objs 0 with ⟨g,_⟩|⟨j,o,g1,g2,g3,_⟩
 ·omega
 rw[kO] at g3;have zZ:dm s.objs (j:Int)=o:=by simp[dm,g1]
 rw[g3,zZ];by_cases h2:(aS o.bu f).2.2=0
 ·rw[aE (by simp[h2])];by_cases h3:(aS o.bu f).2.1.to=0\/dW (aS o.bu f).2.1.from_ (aS o.bu f).2.1.to s.pins=true
  ·exact .inl ⟨17,by decide,by rw[bC h3]⟩
  ·refine .inr ?_;rcases mB f o.bu 0 with h|⟨k,v,hv,hc,h⟩
   ·rw[aS,bC (by omega)] at h2;cases h2
   ·rw[kO] at h;have e:(aS o.bu f).2.1=v:=by rw[aS,aE (by omega),h,Int.toNat_natCast,hv];rfl
    rw[e] at h3;simp only[vQ] at h3;refine ⟨⟨o.id,v⟩,MG.2 ⟨o,fS g1,List.mem_map_of_mem (fS hv)⟩,g2,hc,?_⟩;simp only[qi,jj,Pp,yX,ne_eq];exact ⟨h3.1,by simpa using h3.2⟩
 ·exact .inl ⟨_,h2,by rw[bC h2]⟩
theorem Cd (s:Sr) (id f:Int):(dA s id f).1.binds=s.binds/\(dA s id f).1.commit=s.commit/\(dA s id f).1.last=s.last/\(dA s id f).1.pins=s.pins/\(dA s id f).1.c=s.c:=by
 unfold dA
 repeat' split
 all_goals exact ⟨rfl,rfl,rfl,rfl,rfl⟩
theorem yC {i:Nat} {s:Sr} {id f:Int} (h:Inv i s) (hi:i<=100):Inv (i+1) (dA s id f).1:=by
 rcases zH (s:=s) id f with ⟨e,_,he⟩|⟨x,hx,e1,e2,hg⟩
 ·rw[he];exact h.up
 obtain ⟨s',g1,g2,g3,g4,g5⟩:=FZ h.si h.b (h.VI hi) hx hg;obtain ⟨r1,r2,r3,r4,r5⟩:=Cd s id f;rw[e1,e2] at g1;rw[g1] at r1 r2 r3 r4 r5 ⊢;simp only at r1 r2 r3 r4 r5 ⊢;obtain ⟨L,R,Si⟩:=List.append_of_mem hx;have JQ:=g5 L R Si
 have hto:x.v.to≠0:=by
  simp only[qi,jj,Pp,yX,ne_eq] at hg;exact hg.1
 refine ⟨g3.up,g2,?_,by rw[r1,r2,r3];exact h.mi,fun b hb h0=>?_,by rw[r4];exact h.JM,by rw[r4,r2];exact h.OW,by rw[r5];exact h.cf⟩
 ·have:=h.en;rw[JQ];rw[Si] at this;simp only[bW,List.length_cons] at this ⊢;omega
 ·rw[r1] at hb;obtain ⟨y,hy,q1,q2⟩:=h.opn b hb h0;refine ⟨y,?_,q1,q2⟩;rw[Si] at hy;rw[JQ];simp only[lS,lp] at hy ⊢;rcases hy with hy|rfl|hy
  ·exact .inl hy
  ·exact absurd q2 hto
  ·exact .inr hy
theorem Ce {l:List Pg} {a:Ar} {n:Int} (h:tT l a):(eP n l 0 = -1/\eP n a.pages 0 = -1)\/∃ (i j:Nat) (p:Pg),l[i]? = some p/\a.pages[j]? = some p/\p.num=n/\eP n l 0=(i:Int)/\fh l (i:Int)=p/\eP n a.pages 0=(j:Int)/\fh a.pages (j:Int)=p:=by
 rcases H8 (n:=n) h with ⟨h1,h2⟩|⟨i,j,p,h1,h2,h3,h4,h5⟩
 ·rcases gb n l 0 with ⟨g,_⟩|⟨k,q,g1,g2,_⟩
  ·exact .inl ⟨g,h2⟩
  ·exact absurd g2 (h1 q (fS g1))
 ·rcases gb n l 0 with ⟨_,g⟩|⟨k,q,g1,g2,g3,_⟩
  ·exact absurd h3 (g p (fS h1))
  ·have:=M5 h.nodup g1 h1 (g2.trans h3.symm);subst this;exact .inr ⟨k,j,p,h1,h2,h3,by rw[g3,kO],by simp[fh,h1],h4,h5⟩
theorem Mi {l:List Pg} {a:Ar} {c n:Int} (h:tT l a):eH ⟨c,l⟩ n=eH a n:=by
 unfold eH;rcases Ce (n:=n) h with ⟨h1,h2⟩|⟨i,j,p,_,_,_,h4,h5,h6,h7⟩
 ·simp only;rw[bC (by omega),bC (by omega)]
 ·simp only;rw[aE (by omega),aE (by omega),h4,h5,h6,h7]
theorem wL {l:List Pg} {a:Ar} {c:Int} {p:List Int} (h:tT l a):bg ⟨c,l⟩ p=bg a p:=Pe fun _ _=>by rw[Mi h]
theorem Mj {l:List Pg} {a:Ar} {n:Int} (h:tT l a):tT (dZ ⟨a.cap,l⟩ n).1.pages (dZ a n).1/\(dZ ⟨a.cap,l⟩ n).1.cap=a.cap/\(dZ a n).1.cap=a.cap:=by
 refine ⟨?_,tG _ _,tG _ _⟩;rcases Ce (n:=n) h with ⟨h1,h2⟩|⟨i,j,p,q1,q2,q3,h4,h5,h6,h7⟩
 ·unfold dZ;simp only;rw[bC (by omega),bC (by omega)];exact h
 ·have e:=(H9 h q1 q2 q3 h6 h7).1
  have e2:(dZ ⟨a.cap,l⟩ n).1.pages=l.set i ⟨p.num,wr (p.refs+1),p.data⟩:=by
   unfold dZ gl;simp only;rw[aE (by omega),h4,h5,Int.toNat_natCast]
  rw[e2];exact e
theorem Bf {l:List Pg} {a:Ar} {d:List Int} (h:tT l a):tT (eR ⟨a.cap,l⟩ d).1.pages (dG a d).1/\(eR ⟨a.cap,l⟩ d).2=(dG a d).2/\(dG a d).1.cap=a.cap/\(eR ⟨a.cap,l⟩ d).1.cap=a.cap:=by
 have e1:(eR ⟨a.cap,l⟩ d).1.pages=(tY a.cap l d).1/\(eR ⟨a.cap,l⟩ d).2=(tY a.cap l d).2:=by
  unfold eR tY;simp only
  split
  ·exact ⟨rfl,rfl⟩
  ·split<;>exact ⟨rfl,rfl⟩
 obtain ⟨h1,h2,h3⟩:=E3 (d:=d) h;exact ⟨by rw[e1.1];exact h1,by rw[e1.2];exact h2,h3,sw _ _⟩
theorem Cg {a:Ar} {c:Int} (h:a.cap=c):a=⟨c,a.pages⟩:=by subst h;rfl
theorem yD:∀ (L:List (List Int)) {l:List Pg} {a:Ar},tT l a->tT (dN ⟨a.cap,l⟩ L).1.pages (eZ a L).1/\(dN ⟨a.cap,l⟩ L).2=(eZ a L).2
 | [],_,_,h=>⟨h,rfl⟩
 | d::L,l,a,h=>by
   obtain ⟨h1,h2,h3,h4⟩:=Bf (d:=d) h;obtain ⟨g1,g2⟩:=yD L h1;rw[h3] at g1 g2;rw[<- Cg h4] at g1 g2;rw[dN,eZ];exact ⟨g1,by simp only;rw[g2,h2]⟩
theorem yE (a:Ar) (d:List Int) (b:Bool) (L:List (List Int)) (bs:List Bool) (o:List Int):∀ i,fq a (d::L) (b::bs) o (i+1)=((fq (m8 a d b (o.headD 0)).1 L bs o.tail i).1,(m8 a d b (o.headD 0)).2::(fq (m8 a d b (o.headD 0)).1 L bs o.tail i).2)
 | 0=>by
   have e:(o[0]?).getD 0=o.headD 0:=by cases o<;>rfl
   rw[fq,fq,fq,e];rfl
 | i+1=>by
   have e:(o[i+1]?).getD 0=(o.tail[i]?).getD 0:=by cases o<;>simp
   rw[fq,yE a d b L bs o i,e];rw[show (fq (m8 a d b (o.headD 0)).1 L bs o.tail (i+1))=_ from fq.eq_2 ..];simp
theorem yF:∀ (L:List (List Int)) (bs:List Bool) (o:List Int) {l:List Pg} {a:Ar},tT l a->bs.length=L.length->tT (fq ⟨a.cap,l⟩ L bs o L.length).1.pages (iR a L bs o).1/\(fq ⟨a.cap,l⟩ L bs o L.length).2=(iR a L bs o).2
 | [],bs,o,l,a,h,hb=>by
   have:bs=[]:=uc hb;subst this;exact ⟨h,rfl⟩
 | d::L,[],o,l,a,h,hb=>by simp at hb
 | d::L,b::bs,o,l,a,h,hb=>by
   rw[List.length_cons,yE,iR];simp only[List.length_cons,Nat.add_right_cancel_iff] at hb;cases b with
   | true=>
     obtain ⟨h1,h2,h3⟩:=Mj (n:=o.headD 0) h;obtain ⟨g1,g2⟩:=yF L bs o.tail h1 hb;rw[h3] at g1 g2;rw[<- Cg h2] at g1 g2;simp only[m8,jg];exact ⟨g1,by rw[g2]⟩
   | false=>
     obtain ⟨h1,h2,h3,h4⟩:=Bf (d:=d) h;obtain ⟨g1,g2⟩:=yF L bs o.tail h1 hb;rw[h3] at g1 g2;rw[<- Cg h4] at g1 g2;simp only[m8,pT,jd];exact ⟨g1,by rw[g2,h2]⟩
theorem OZ {l:List Pg} {a:Ar} {n:Int} (h:tT l a) (hr:∀ p∈a.pages,1<=p.refs/\p.refs<=1000000):tT (pF ⟨a.cap,l⟩ n).1.pages (bZ a n).1/\(bZ a n).1.cap=a.cap:=by
 have hcap:(bZ a n).1.cap=a.cap:=by
  unfold bZ
  split
  ·rfl
  ·split<;>rfl
 refine ⟨?_,hcap⟩;rcases Ce (n:=n) h with ⟨h1,h2⟩|⟨i,j,p,q1,q2,q3,h4,h5,h6,h7⟩
 ·unfold pF bZ;simp only;rw[bC (by omega),bC (by omega)];exact h
 ·have hp:=hr p (fS q2);have hw:wr (p.refs-1)=p.refs-1:=LD (by omega) (by omega);obtain ⟨e1,e2⟩:=Bt h q1 q2 q3 h6 h7;unfold pF;simp only;rw[aE (by omega),h4,h5,hw];rw[hw] at e1 e2;by_cases hz:p.refs-1=0
  ·rw[bC hz];have:=(e2 (by omega)).1;rw[<- mN] at this;exact this
  ·rw[aE hz];have:=(e1 (by omega)).1;simp only[gl,h5,Int.toNat_natCast];exact this
theorem Ex:∀ (ps:List Int) {l:List Pg} {a:Ar} {L:List Int},tT l a->B0 a (ps++L)->(ps++L).length<=900000->tT (mH ⟨a.cap,l⟩ ps).pages (pN a ps)
 | [],_,_,_,h,_,_=>h
 | n::ps,l,a,L,h,hI,hl=>by
   simp only[List.cons_append,List.length_cons] at hI hl
   obtain ⟨h1,h2⟩:=OZ (n:=n) h fun p hp=>by
    have h3:=(hI.refs p hp)
    have h4:=List.count_le_length (a:=p.num) (l:=n::(ps++L));simp only[List.length_cons] at h4;omega
   have g:=Ex ps h1 (Hx hI (by omega)) (by omega);rw[h2] at g;rw[mH,pN];have e:=Ek ⟨a.cap,l⟩ n;rw[<- Cg (show (pF ⟨a.cap,l⟩ n).1.cap=a.cap from e)] at g;exact g
theorem sK (s:Sr) (n:ByteArray) (c:Int) (hv:eG s c=0):(er s n c=(0,zeroV,8)/\(fO s n c).2.2=false)\/
  ∃ (j k:Nat) (o:Ob) (v:fE),er s n c=((b9 n c s.binds).1,v,0)/\fO s n c=((j:Int),v,true)/\(b9 n c s.binds).2=true/\s.objs[j]? = some o/\cU (b9 n c s.binds).1 s.objs 0=(j:Int)/\o.id=(b9 n c s.binds).1/\o.bu[k]? = some v/\eM s.objs (b9 n c s.binds).1=o.bu:=by
 rcases gK s n c with ⟨e,h⟩|⟨j,k,o,v,q0,q1,q2,q3,q4,q5,q6,e⟩
 ·refine .inl ⟨?_,by rw[e]⟩;unfold er;rw[aE (by simp[hv])];rcases h with h|⟨h1,h⟩
  ·rw[bC h]
  ·rw[aE (by simp[h1])];rcases h with h|⟨j,o,q1,q2,q3,q4⟩
   ·have e0:eM s.objs (b9 n c s.binds).1=[]:=by rw[eM,bC (show cU (b9 n c s.binds).1 s.objs 0<0 by omega)]
    rw[e0];exact bC rfl
   ·have:eM s.objs (b9 n c s.binds).1=o.bu:=by rw[eM,aE (by omega),q3];simp[dm,q1]
    rw[this,q4,bC rfl]
 ·have hvs:eM s.objs (b9 n c s.binds).1=o.bu:=by rw[eM,aE (by omega),q3];simp[dm,q1]
  have hid:o.id=(b9 n c s.binds).1:=by
   rcases jH (b9 n c s.binds).1 s.objs 0 with ⟨g,_⟩|⟨j',p,g1,g2,g3,_⟩
   ·omega
   ·rw[q3] at g3;have:j'=j:=by omega
    subst this;rw[q1] at g1;cases g1;exact g2
  refine .inr ⟨j,k,o,v,?_,e,q0,q1,q3,hid,q4,hvs⟩;unfold er;rw[aE (by simp[hv]),aE (by simp[q0]),hvs,q6,aE (by simp)];simp[yg,q4]
theorem Inv.found {i:Nat} {s:Sr} {n:ByteArray} (h:Inv i s) (hl:(b9 n s.commit s.binds).2=true):(fO s n s.commit).2.2=true:=by
 obtain ⟨b,hb,h1,h2,h3⟩:=yA hl;obtain ⟨x,hx,g1,g2⟩:=h.opn b hb (h.mi.holds hb h2);obtain ⟨o,ho,UM⟩:=MG.1 hx;obtain ⟨v,hv,rfl⟩:=qq.1 UM;simp only at g1 g2;obtain ⟨j,hj⟩:=JD.1 ho;have Cn:=DX h.si.ids hj;rw[g1, <- h3] at Cn;have Fi:=h.si.com o ho v hv
 have hh:me v.from_ v.to s.commit=true:=by
  unfold me;rw[g2,GX Fi.1];simp
 rcases gK s n s.commit with ⟨e,q⟩|⟨_,_,_,_,_,_,_,_,_,_,_,e⟩
 ·exfalso;rcases q with q|⟨_,q|⟨j',o',q1,q2,q3,q4⟩⟩
  ·rw[hl] at q;cases q
  ·omega
  ·have:j'=j:=by omega
   subst this;rw[hj] at q1;cases q1
   have key:∀ (l:List fE) (i:Nat),v∈l->(gf s.commit l i).2=true:=by
    intro l
    induction l with
    | nil=>intro i hm;cases hm
    | cons w l ih=>
      intro i hm;rw[gf]
      split
      ·rfl
      ·rename_i hw;rcases lp.1 hm with rfl|hm
       ·exact absurd hh hw
       ·exact ih (i+1) hm
   have:=key o.bu 0 hv;rw[q4] at this;cases this
 ·rw[e]
def hO (s:Sr) (pg:List Pg):List Go.eB.Obj:=(iT 1 2 3 s.c.tV s.c.qI s.c.nu s.c.fF s.c.kf s.c.com s.c.tW s.commit s.last s.ar.cap s.objs s.binds s.pins pg)
structure pO (i:Nat) (s:Sr) (pg:List Pg):Prop where
 inv:Inv i s
 ar:tT pg s.ar
theorem pO.len {i:Nat} {s:Sr} {pg:List Pg} (h:pO i s pg):pg.length=s.ar.pages.length:=h.ar.perm.length_eq
theorem pO.dat {i:Nat} {s:Sr} {pg:List Pg} (h:pO i s pg):∀ x∈pg,x.data.length<=1024/\∀ z∈x.data,0<=z/\z<=255:=fun x hx=>h.inv.b.hd x (h.ar.perm.mem_iff.1 hx)
theorem Gq {c:Cf} (h:qO c=true):8<=c.fF/\c.fF<=1024:=by
 obtain ⟨a1,a2,a3,a4,a5,a6,a7⟩:=c;simp only[qO,mO,jj,pQ] at h;simp only;omega
theorem Gr {i:Nat} {s:Sr} {pg:List Pg} {m:ByteArray} {n:Int} (h:pO i s pg) (hi:i<=100):∃ mJ,pO (i+1) (cR s m (aO n)).1 mJ/\
  aF prog 32 (hO s pg) [.ref 0 0, .sc (.string m), .sl 1 ((aO n).map cF)] (.cT [.sc (.int .i64 (cR s m (aO n)).2.1), .sc (.int .i64 (cR s m (aO n)).2.2)]) (hO (cR s m (aO n)).1 mJ):=by
 have hv:=yz (m:=m) (n:=n) h.inv;have hb:=h.inv.b;have j8:=h.len;have rW:=(gy n).1;have hg:=hb.hg;have kQ:=hb.hb;have hc:=hb.hc;have hla:=hb.hl;have hsz:=Gq h.inv.cf;by_cases h1:bM m=false
 ·have e:cR s m (aO n)=(s,0,6):=by rw[cR,bC h1]
  rw[e] at hv ⊢;exact ⟨pg,⟨hv,h.ar⟩,OQ (by omega) (by omega) hsz h1⟩
 have h2:¬ 65536<((aO n).length:Int):=by omega
 by_cases h3:fM s m=true
 ·have e:cR s m (aO n)=(s,0,9):=by rw[cR,aE h1,aE h2,bC h3]
  rw[e] at hv ⊢;exact ⟨pg,⟨hv,h.ar⟩,RE (by omega) (by omega) hsz (by simpa using h1) h3⟩
 have pJ:bM m=true:=by simpa using h1
 have vD:fM s m=false:=by simpa using h3
 by_cases h4:s.c.qI<=((iV s.commit s.binds []).length:Int)
 ·have e:cR s m (aO n)=(s,0,14):=by rw[cR,aE h1,aE h2,aE h3,bC (.inl h4)]
  rw[e] at hv ⊢;exact ⟨pg,⟨hv,h.ar⟩,L7 (by omega) (by omega) hsz pJ vD (by rw[sJ];exact h4)⟩
 by_cases h5:s.c.com<=s.commit
 ·have e:cR s m (aO n)=(s,0,14):=by rw[cR,aE h1,aE h2,aE h3,bC (.inr (.inl h5))]
  rw[e] at hv ⊢;exact ⟨pg,⟨hv,h.ar⟩,L8 (by omega) (by omega) hsz pJ vD (by rw[sJ];exact h4) h5⟩
 by_cases h6:s.c.nu<(s.ar.pages.length:Int)+((aR (aO n) s.c.fF).1.length:Int)
 ·have e:cR s m (aO n)=(s,0,14):=by rw[cR,aE h1,aE h2,aE h3,bC (.inr (.inr h6))]
  rw[e] at hv ⊢;exact ⟨pg,⟨hv,h.ar⟩,L9 (by omega) (by omega) hsz pJ vD (by omega) (by rw[sJ];exact h4) h5 (by rw[j8];exact h6)⟩
 ·have e:cR s m (aO n)=({ s with commit:=s.commit+1,last:=s.last+1,objs:=s.objs++[⟨s.last+1,[⟨s.commit+1,0,(aO n).length,(eZ s.ar (aR (aO n) s.c.fF).1).2⟩]⟩],binds:=(dw s.binds m (s.last+1) (s.commit+1)).1,ar:=(eZ s.ar (aR (aO n) s.c.fF).1).1 },s.commit+1,0):=by
   rw[cR,aE h1,aE h2,aE h3,aE (by omega)]
  obtain ⟨g1,g2⟩:=yD (aR (aO n) s.c.fF).1 h.ar;have gc:(eZ s.ar (aR (aO n) s.c.fF).1).1.cap=s.ar.cap:=(r9 (aR (aO n) s.c.fF).1 h.inv.si.ar (fun d hd=>((nU n s.c.fF).2 d hd).1) (by rw[h.inv.si.cap];omega)).2
  have hk:=Qh (a1:=s.c.tV) (a2:=s.c.qI) (a3:=s.c.nu) (a4:=s.c.fF) (a5:=s.c.kf) (a6:=s.c.com) (a7:=s.c.tW) (com:=s.commit) (last:=s.last) (cap:=s.ar.cap) (os:=s.objs) (bs:=s.binds) (ps:=s.pins) (pg:=pg) (n:=m) (d:=aO n) (by omega) (by omega) hsz (by omega) hc.1 (by omega) hla.1 (by omega) (fun o ho=>by have:=(h.inv.si.Qa o ho).2;omega) pJ vD (by rw[sJ];exact h4) h5 (by rw[j8];exact h6);rw[g2] at hk;rw[e] at hv ⊢;refine ⟨_,⟨hv,g1⟩,?_⟩;simp only[hO];rw[gc];exact hk
theorem O1 {i:Nat} {s:Sr} {pg:List Pg} {m:ByteArray} {n:Int} (h:pO i s pg) (hi:i<=100):∃ mJ,pO (i+1) (ji s m (aO n)).1 mJ/\
  aF prog 34 (hO s pg) [.ref 0 0, .sc (.string m), .sl 1 ((aO n).map cF)] (.cT [.sc (.int .i64 (ji s m (aO n)).2.1), .sc (.int .i64 (ji s m (aO n)).2.2)]) (hO (ji s m (aO n)).1 mJ):=by
 have hv:=HN (m:=m) (n:=n) h.inv hi;have hb:=h.inv.b;have j8:=h.len;have rW:=gy n;have hg:=hb.hg;have kQ:=hb.hb;have hpi:=hb.hp;have hc:=hb.hc;have hla:=hb.hl;have hsz:=Gq h.inv.cf
 have hvs:eG s s.commit=0:=by
  unfold eG;rw[aE (by rw[oQ hc.1 (Nc _)];simp),aE (by simp)]
 have h2:¬ 65536<((aO n).length:Int):=by omega
 have Ml:∀ o∈s.objs,o.bu.length<=100000:=fun o ho=>by have:=(hb.hv o ho).1;omega
 rcases sK s m s.commit hvs with ⟨e1,e2⟩|⟨j,k,o,v,e1,e2,q0,q1,q2,q3,q4,q5⟩
 ·have e:ji s m (aO n)=(s,0,8):=by rw[ji,aE h2,bC e2]
  rw[e] at hv ⊢
  exact ⟨pg,⟨hv,h.ar⟩,RF (by omega) (by omega) Ml (by omega) (by
   show (er s m s.commit).2.2≠0
   rw[e1];simp)⟩
 have Bq:=(hb.hv o (fS q1)).2 v (fS q4);have Ed:=h.dat;by_cases h5:s.c.com<=s.commit
 ·have e:ji s m (aO n)=(s,0,14):=by rw[ji,aE h2,aE (by rw[e2];simp),bC (.inl h5)]
  rw[e] at hv ⊢;exact ⟨pg,⟨hv,h.ar⟩,Mb (id:=(b9 m s.commit s.binds).1) (f:=v.from_) (t:=v.to) (s:=v.size) (p:=v.pages) (by omega) (by omega) Ml (by omega) hsz (by omega) Ed rW.2 (by omega) e1 h5⟩
 have hst:=wL (c:=s.ar.cap) (p:=v.pages) h.ar;by_cases h6:s.c.nu<(s.ar.pages.length:Int)+gj (bB (bg s.ar v.pages) (aR (aO n) s.c.fF).1)
 ·have e:ji s m (aO n)=(s,0,14):=by rw[ji,aE h2,aE (by rw[e2];simp),bC (.inr (by rw[e2];exact h6))]
  rw[e] at hv ⊢;exact ⟨pg,⟨hv,h.ar⟩,Mc (id:=(b9 m s.commit s.binds).1) (f:=v.from_) (t:=v.to) (s:=v.size) (p:=v.pages) (by omega) (by omega) Ml (by omega) hsz (by omega) Ed rW.2 (by omega) e1 h5 (by rw[hst,j8];exact h6)⟩
 ·have e:ji s m (aO n)=({ s with commit:=s.commit+1,objs:=dz s.objs (j:Int) (cQ o.bu ⟨s.commit+1,0,(aO n).length,(iR s.ar (aR (aO n) s.c.fF).1 (bB (bg s.ar v.pages) (aR (aO n) s.c.fF).1) v.pages).2⟩).1,ar:=(iR s.ar (aR (aO n) s.c.fF).1 (bB (bg s.ar v.pages) (aR (aO n) s.c.fF).1) v.pages).1 },s.commit+1,0):=by
   rw[ji,aE h2,aE (by rw[e2];simp),aE (by rw[e2];simp only;omega),e2];simp only[dm,Int.toNat_natCast,q1,Option.getD_some]
  have hsp:=nU n s.c.fF;have XL:∀ z∈v.pages,z∈gp s.objs:=fun z hz=>MG.2 ⟨o,fS q1,MG.2 ⟨v,fS q4,hz⟩⟩;have gc:(iR s.ar (aR (aO n) s.c.fF).1 (bB (bg s.ar v.pages) (aR (aO n) s.c.fF).1) v.pages).1.cap=s.ar.cap:=(tH (fun z=>(eH s.ar z).1) (aR (aO n) s.c.fF).1 h.inv.si.ar XL (fun d hd=>(hsp.2 d hd).1) (by rw[h.inv.si.cap];simp only[bg] at h6;omega) (by have:=hsp.1;have:=h.inv.VI hi;omega)).2;obtain ⟨g1,g2⟩:=yF (aR (aO n) s.c.fF).1 (bB (bg s.ar v.pages) (aR (aO n) s.c.fF).1) v.pages h.ar (jJ _ _)
  have hk:=Qi (a1:=s.c.tV) (a2:=s.c.qI) (a3:=s.c.nu) (a4:=s.c.fF) (a5:=s.c.kf) (a6:=s.c.com) (a7:=s.c.tW) (com:=s.commit) (last:=s.last) (cap:=s.ar.cap) (os:=s.objs) (bs:=s.binds) (ps:=s.pins) (pg:=pg) (n:=m) (d:=aO n) (id:=(b9 m s.commit s.binds).1) (f:=v.from_) (t:=v.to) (s:=v.size) (p:=v.pages) (by omega) (by omega) Ml (by omega) (fun o ho w hw=>by have:=(hb.hv o ho).2 w hw;omega) hsz (by omega) Ed rW.2 (by omega) e1 hc.1 (by omega) (by rw[q2];omega) h5 (by rw[hst,j8];exact h6);rw[hst,g2,q2,q5] at hk;rw[e] at hv ⊢;refine ⟨_,⟨hv,g1⟩,?_⟩;simp only[hO];rw[gc];exact hk
theorem Mm {i:Nat} {s:Sr} {pg:List Pg} {m:ByteArray} (h:pO i s pg) (hi:i<=100):pO (i+1) (gq s m).1 pg/\
  aF prog 35 (hO s pg) [.ref 0 0, .sc (.string m)] (.cT [.sc (.int .i64 (gq s m).2.1), .sc (.int .i64 (gq s m).2.2)]) (hO (gq s m).1 pg):=by
 have hv:=Es (m:=m) h.inv;have hb:=h.inv.b;have kQ:=hb.hb;have hc:=hb.hc;have Ml:∀ o∈s.objs,o.bu.length<=100000:=fun o ho=>by have:=(hb.hv o ho).1;omega
 have hvs:eG s s.commit=0:=by
  unfold eG;rw[aE (by rw[oQ hc.1 (Nc _)];simp),aE (by simp)]
 cases hl:(b9 m s.commit s.binds).2
 ·have e:gq s m=(s,0,8):=by
   rw[gq,bC];unfold fO;rw[bC (.inl hl)]
  rw[e] at hv ⊢;exact ⟨⟨hv,h.ar⟩,RG (by omega) hl⟩
 ·have hf:=h.inv.found hl;by_cases h5:s.c.com<=s.commit
  ·have e:gq s m=(s,0,14):=by rw[gq,aE (by rw[hf];simp),bC h5]
   rw[e] at hv ⊢;exact ⟨⟨hv,h.ar⟩,OS (by omega) hl h5⟩
  ·rcases sK s m s.commit hvs with ⟨e1,e2⟩|⟨j,k,o,v,e1,e2,q0,q1,q2,q3,q4,q5⟩
   ·rw[hf] at e2;cases e2
   have e:gq s m=({ s with commit:=s.commit+1,objs:=dz s.objs (j:Int) (dY o.bu (s.commit+1)).1,binds:=(bI s.binds m (s.commit+1)).1 },s.commit+1,0):=by
    rw[gq,aE (by rw[hf];simp),aE h5,e2];simp only[dm,Int.toNat_natCast,q1,Option.getD_some]
   have hk:=U7 (a1:=s.c.tV) (a2:=s.c.qI) (a3:=s.c.nu) (a4:=s.c.fF) (a5:=s.c.kf) (a6:=s.c.com) (a7:=s.c.tW) (com:=s.commit) (last:=s.last) (cap:=s.ar.cap) (os:=s.objs) (bs:=s.binds) (ps:=s.pins) (pg:=pg) (n:=m) (id:=(b9 m s.commit s.binds).1) (by omega) Ml (fun o ho w hw=>by have:=(hb.hv o ho).2 w hw;omega) hc.1 (by omega) (by rw[<- hl]) (by rw[q2];omega) h5;rw[q2,q5] at hk;rw[e] at hv ⊢;exact ⟨⟨hv,h.ar⟩,hk⟩
theorem Gs {i:Nat} {s:Sr} {pg:List Pg} {m k:ByteArray} (h:pO i s pg) (hi:i<=100):pO (i+1) (bY s m k).1 pg/\
  aF prog 36 (hO s pg) [.ref 0 0, .sc (.string m), .sc (.string k)] (.cT [.sc (.int .i64 (bY s m k).2.1), .sc (.int .i64 (bY s m k).2.2)]) (hO (bY s m k).1 pg):=by
 have hv:=yB (n:=m) (m:=k) h.inv;have hb:=h.inv.b;have kQ:=hb.hb;have hc:=hb.hc;have hk:=zE (a1:=s.c.tV) (a2:=s.c.qI) (a3:=s.c.nu) (a4:=s.c.fF) (a5:=s.c.kf) (a6:=s.c.com) (a7:=s.c.tW) (com:=s.commit) (last:=s.last) (cap:=s.ar.cap) (os:=s.objs) (bs:=s.binds) (ps:=s.pins) (pg:=pg) (n:=m) (m:=k) (by omega) hc.1 (by omega)
 have e:∀ ar,bY ⟨s.c,s.commit,s.last,s.objs,s.binds,s.pins,ar⟩ m k=(⟨s.c,(bY s m k).1.commit,s.last,s.objs,(bY s m k).1.binds,s.pins,ar⟩,(bY s m k).2):=by
  intro ar;unfold bY;have e1:∀ x,fM ⟨s.c,s.commit,s.last,s.objs,s.binds,s.pins,ar⟩ x=fM s x:=fun _=>rfl;simp only[e1]
  repeat' split
  all_goals rfl
 rw[e ⟨s.ar.cap,pg⟩] at hk;have e2:=e s.ar;have e3:(⟨s.c,s.commit,s.last,s.objs,s.binds,s.pins,s.ar⟩:Sr)=s:=rfl;rw[e3] at e2;have e4:(bY s m k).1=⟨s.c,(bY s m k).1.commit,s.last,s.objs,(bY s m k).1.binds,s.pins,s.ar⟩:=congrArg Prod.fst e2;refine ⟨⟨hv,by rw[e4];exact h.ar⟩,?_⟩;rw[e4];exact hk
theorem O4 {i:Nat} {s:Sr} {pg:List Pg} {c:Int} (h:pO i s pg) (hi:i<=100):pO (i+1) (ja s c).1 pg/\
  aF prog 12 (hO s pg) [.ref 0 0, .sc (.int .i64 c)] (.sc (.int .i64 (ja s c).2)) (hO (ja s c).1 pg):=by
 have hv:=HO (c:=c) h.inv;have hpi:=h.inv.b.hp;have hk:=Gl (a1:=s.c.tV) (a2:=s.c.qI) (a3:=s.c.nu) (a4:=s.c.fF) (a5:=s.c.kf) (a6:=s.c.com) (a7:=s.c.tW) (com:=s.commit) (last:=s.last) (cap:=s.ar.cap) (os:=s.objs) (bs:=s.binds) (ps:=s.pins) (pg:=pg) (c:=c) (by omega)
 have e:∀ ar,ja ⟨s.c,s.commit,s.last,s.objs,s.binds,s.pins,ar⟩ c=(⟨s.c,s.commit,s.last,s.objs,s.binds,(ja s c).1.pins,ar⟩,(ja s c).2):=by
  intro ar;unfold ja;have e1:eG ⟨s.c,s.commit,s.last,s.objs,s.binds,s.pins,ar⟩ c=eG s c:=rfl;simp only[e1]
  repeat' split
  all_goals rfl
 rw[e ⟨s.ar.cap,pg⟩] at hk;have e2:=e s.ar;have e3:(⟨s.c,s.commit,s.last,s.objs,s.binds,s.pins,s.ar⟩:Sr)=s:=rfl;rw[e3] at e2;have e4:(ja s c).1=⟨s.c,s.commit,s.last,s.objs,s.binds,(ja s c).1.pins,s.ar⟩:=congrArg Prod.fst e2;refine ⟨⟨hv,by rw[e4];exact h.ar⟩,?_⟩;rw[e4];exact hk
theorem Jq {i:Nat} {s:Sr} {pg:List Pg} {c:Int} (h:pO i s pg) (hi:i<=100):pO (i+1) (gW s c).1 pg/\
  aF prog 51 (hO s pg) [.ref 0 0, .sc (.int .i64 c)] (.sc (.int .i64 (gW s c).2)) (hO (gW s c).1 pg):=by
 have hv:=Bc (c:=c) h.inv;have hpi:=h.inv.b.hp;have hk:=B8 (a1:=s.c.tV) (a2:=s.c.qI) (a3:=s.c.nu) (a4:=s.c.fF) (a5:=s.c.kf) (a6:=s.c.com) (a7:=s.c.tW) (com:=s.commit) (last:=s.last) (cap:=s.ar.cap) (os:=s.objs) (bs:=s.binds) (ps:=s.pins) (pg:=pg) (c:=c) (by omega);have YF:dK none s.pins=0:=A0 _ none h.inv.JM (by simp);rcases tO s c h.inv.JM with ⟨g1,e⟩|⟨g1,e⟩
 ·have e2:jh s.pins c=([],8):=by rw[jh,aE (by simp[YF]),aE (by rw[<- oT,g1];simp)]
  rw[e] at hv ⊢;simp only[qn,e2] at hk;exact ⟨⟨hv,h.ar⟩,hk⟩
 ·have e2:jh s.pins c=(gF c s.pins,0):=by rw[jh,aE (by simp[YF]),bC (by rw[<- oT,g1])]
  rw[e] at hv ⊢;simp only[qn,e2] at hk;exact ⟨⟨hv,h.ar⟩,hk⟩
theorem Jr {i:Nat} {s:Sr} {pg:List Pg} (h:pO i s pg) (hi:i<=100):pO (i+1) (kr s).1 pg/\
  aF prog 53 (hO s pg) [.ref 0 0] (.sc (.int .i64 (kr s).2)) (hO (kr s).1 pg):=by
 have hpi:=h.inv.b.hp;have kQ:=h.inv.b.hb;exact ⟨⟨Be h.inv,h.ar⟩,B9 (by omega) (by omega)⟩
theorem Gt {i:Nat} {s:Sr} {pg:List Pg} {id f:Int} (h:pO i s pg) (hi:i<=100):∃ mJ,pO (i+1) (dA s id f).1 mJ/\
  aF prog 56 (hO s pg) [.ref 0 0, .sc (.int .i64 id), .sc (.int .i64 f)] (.sc (.int .i64 (dA s id f).2)) (hO (dA s id f).1 mJ):=by
 have hv:=yC (id:=id) (f:=f) h.inv hi;have hb:=h.inv.b;have hpi:=hb.hp;have Ml:∀ o∈s.objs,o.bu.length<=100000:=fun o ho=>by have:=(hb.hv o ho).1;omega
 have hop:∀ o∈s.objs,∀ v∈o.bu,v.pages.length<=1000000:=fun o ho w hw=>by have:=(hb.hv o ho).2 w hw;omega
 have h8:∀ vs,(aS vs f).2.2≠0->(aS vs f).2.2=8:=fun vs hz=>by
  unfold aS at hz ⊢
  split at hz
  ·rename_i hq;rw[bC hq]
  ·exact absurd rfl hz
 rcases rz id s.objs with ⟨q1,q2,q3,q4,q5⟩|⟨j,o,q1,q2,q3,q4,q5,q6,q7,q8⟩
 ·have e:dA s id f=(s,8):=by rw[dA,bC (by omega)]
  rw[e] at hv ⊢;exact ⟨pg,⟨hv,h.ar⟩,Me Ml hop (by rw[q5,m9];simp)⟩
 by_cases h2:(aS o.bu f).2.2=0
 ·by_cases h3:(aS o.bu f).2.1.to=0\/dW (aS o.bu f).2.1.from_ (aS o.bu f).2.1.to s.pins=true
  ·have e:dA s id f=(s,17):=by rw[dA,aE (by omega),q3,q8,aE (by simp[h2]),bC h3]
   rw[e] at hv ⊢;exact ⟨pg,⟨hv,h.ar⟩,Mf (by omega) Ml hop (by rw[q7];exact h2) (by rw[q7];exact h3)⟩
  ·have e:dA s id f=({ s with objs:=if (aS o.bu f).1.length=0 then ic s.objs (j:Int) else dz s.objs (j:Int) (aS o.bu f).1,ar:=pN s.ar (aS o.bu f).2.1.pages },0):=by
    rw[dA,aE (by omega),q3,q8,aE (by simp[h2]),aE h3]
   have vD:=h3;simp only[vQ] at h3;have hk:=U8 (a1:=s.c.tV) (a2:=s.c.qI) (a3:=s.c.nu) (a4:=s.c.fF) (a5:=s.c.kf) (a6:=s.c.com) (a7:=s.c.tW) (com:=s.commit) (last:=s.last) (cap:=s.ar.cap) (os:=s.objs) (bs:=s.binds) (ps:=s.pins) (pg:=pg) (id:=id) (f:=f) (by omega) Ml hop (by rw[q7];exact h2) (by rw[q7];exact h3.1) (by rw[q7];simpa using h3.2);rw[q7,q3] at hk;rcases mB f o.bu 0 with hx|⟨k,v,fL,hc,hx⟩
   ·rw[aS,bC (by omega)] at h2;cases h2
   rw[kO] at hx;have ev:(aS o.bu f).2.1=v:=by rw[aS,aE (by omega),hx,Int.toNat_natCast,fL];rfl
   have U9:∃ L,(gp s.objs).Perm (v.pages++L):=by
    obtain ⟨A,B,hl,_,_,_⟩:=nR q1;have Sg:o.bu=o.bu.take k++v::o.bu.drop (k+1):=by rw[<- aH fL,JS]
    refine ⟨gp A++ia (o.bu.take k)++(ia (o.bu.drop (k+1))++gp B),?_⟩;rw[hl,mD,nT,Sg,nS];have e1:ia (v::o.bu.drop (k+1))=v.pages++ia (o.bu.drop (k+1)):=rfl;rw[<- Sg,e1];have:gp A++(ia (o.bu.take k)++(v.pages++ia (o.bu.drop (k+1)))++gp B)=(gp A++ia (o.bu.take k))++v.pages++(ia (o.bu.drop (k+1))++gp B):=by simp
    rw[this, <- lR v.pages];exact List.Perm.append_right _ Sv
   obtain ⟨L,hL⟩:=U9;have pS:=h.inv.VI hi;have g:=Ex v.pages h.ar (h.inv.si.ar.perm hL) (by rw[<- hL.length_eq];omega);rw[ev] at e hk;rw[e] at hv ⊢;refine ⟨_,⟨hv,g⟩,?_⟩;simp only[hO];rw[xS];exact hk
 ·have e:dA s id f=(s,8):=by rw[dA,aE (by omega),q3,q8,bC h2,h8 _ h2]
  rw[e] at hv ⊢;exact ⟨pg,⟨hv,h.ar⟩,Me Ml hop (by rw[q7];exact h2)⟩
def zI:Nat->ByteArray
 | 0=>⟨#[97]⟩
 | 1=>⟨#[98]⟩
 | 2=>⟨#[99]⟩
 | 3=>⟨#[100]⟩
 | 4=> .empty
 | _=>⟨#[65]⟩
theorem qo (n:Int):([[D.sc (.string ⟨#[97]⟩)],[D.sc (.string ⟨#[98]⟩)],[D.sc (.string ⟨#[99]⟩)],[D.sc (.string ⟨#[100]⟩)],[D.sc (.string ⟨#[]⟩)],[D.sc (.string ⟨#[65]⟩)]]:List (List D))[(n/16%8%6).toNat]? = some [.sc (.string (zI (n/16%8%6).toNat))]:=by
 have h:(n/16%8%6).toNat<6:=by omega
 generalize (n/16%8%6).toNat=i at *
 match i,h with
 | 0,_=>rfl
 | 1,_=>rfl
 | 2,_=>rfl
 | 3,_=>rfl
 | 4,_=>rfl
 | 5,_=>rfl
def yG:Nat->ByteArray
 | 0=>⟨#[97]⟩
 | 1=>⟨#[98]⟩
 | 2=>⟨#[99]⟩
 | _=> .empty
theorem O5 (n:Int):([[D.sc (.string ⟨#[97]⟩)],[D.sc (.string ⟨#[98]⟩)],[D.sc (.string ⟨#[99]⟩)],[D.sc (.string ⟨#[]⟩)]]:List (List D))[(n/256%4).toNat]? = some [.sc (.string (yG (n/256%4).toNat))]:=by
 have h:(n/256%4).toNat<4:=by omega
 generalize (n/256%4).toNat=i at *
 match i,h with
 | 0,_=>rfl
 | 1,_=>rfl
 | 2,_=>rfl
 | 3,_=>rfl
def jf (n:Int):ByteArray:=if 0<n/2097152%16 then kq (n/16%8) else zI (n/16%8%6).toNat
theorem eW (n:Int):(0<n/2097152%16/\jf n=kq (n/16%8))\/(¬ 0<n/2097152%16/\jf n=zI (n/16%8%6).toNat):=by
 by_cases h:0<n/2097152%16
 ·exact .inl ⟨h,bC h⟩
 ·exact .inr ⟨h,aE h⟩
def Ch (s:Sr) (n:Int):Int:=if 0<s.pins.length/\0<n/4096%4 then ((s.pins[(n/256%16%(s.pins.length:Int)).toNat]?).map (·.commit)).getD 0 else n/256%16
def HP (s:Sr) (n:Int):Int×Int:=
 if 0<(kn s.pins (iX s.objs [])).length/\0<n/32768%4 then (((kn s.pins (iX s.objs []))[(n/256%8%((kn s.pins (iX s.objs [])).length:Int)).toNat]?).map fun v=>(v.obj,v.eo)).getD (0,0) else (n/256%8,n/2048%16)
def dB (s:Sr) (n:Int):Sr:=
 if n%16<3 then (cR s (jf n) (aO (n/32%65536))).1 else if n%16<7 then (ji s (jf n) (aO (n/32%65536))).1 else if n%16=7 then (gq s (jf n)).1 else
 if n%16=8 then (bY s (jf n) (yG (n/256%4).toNat)).1 else if n%16<11 then (ja s (s.commit-n/256%8/7*2)).1 else if n%16<13 then (gW s (Ch s n)).1 else if n%16=13 then (kr s).1 else (dA s (HP s n).1 (HP s n).2).1
theorem Gu {i:Nat} {s:Sr} {n:Int} (h:Inv i s) (hi:i<=100):Inv (i+1) (dB s n):=by
 unfold dB
 repeat' split
 ·exact yz h
 ·exact HN h hi
 ·exact Es h
 ·exact yB h
 ·exact HO h
 ·exact Bc h
 ·exact Be h
 ·exact yC h hi
def yH (l:List Int):Nat->Nat->Sr->Sr
 | 0,_,s=>s
 | k+1,i,s=>if i<=20/\i<l.length then yH l k (i+1) (dB s ((l[i]?).getD 0)) else s
def Js (l:List Int):Sr:=yH l 20 1 (newR (tw (yU l 0))).1
end Go.Proofs.YteemiclhnfkekaaGreat
