/- StoreLooks: Names, Version and Read at any commit answer as the reference does. -/
import Derived.Test.YteemiclhnfkekaaGreatZStG
set_option linter.unusedSimpArgs false
set_option linter.unusedVariables false
set_option maxRecDepth 100000
set_option maxHeartbeats 12800000
namespace Go.Proofs.YteemiclhnfkekaaGreat
open Go.RowKit Go.fe Go.ChangeShapes Go.WideShapes Go.ChangeAt
theorem Ms {i:Nat} {s:Sr} {pg:List Pg} {c:Int} (h:pO i s pg) (hi:i<=100):aF Tryz.prog 15 (hO s pg) [.ref 0 0,i6 c] (.cT [.sl 1 ((j0 s c).1.map eE),i6 (j0 s c).2]) (hO s pg):=by
 have h1:=h.inv.b.hb;have h2:=h.inv.b.hp;rw[<- yt];exact B9 (a1:=s.c.tT) (a2:=s.c.qq) (a3:=s.c.nu) (a4:=s.c.fD) (a5:=s.c.kf) (a6:=s.c.com) (a7:=s.c.tU) (com:=s.commit) (last:=s.last) (cap:=s.ar.cap) (os:=s.objs) (bs:=s.binds) (ps:=s.pins) (pg:=pg) (c:=c) (by omega) (by omega)
theorem Gz {i:Nat} {s:Sr} {pg:List Pg} {n:ByteArray} {c:Int} (h:pO i s pg) (hi:i<=100):aF Tryz.prog 19 (hO s pg) [.ref 0 0, .sc (.string n),i6 c] (.cT [i6 (dy s n c).1,i6 (dy s n c).2.1,i6 (dy s n c).2.2]) (hO s pg):=by
 have h1:=h.inv.b.hb;have h2:=h.inv.b.hp;have hv:=h.inv.ver hi;obtain ⟨e1,e2,e3⟩:=B7 s n c;rw[<- e1, <- e2, <- e3];exact yy (a1:=s.c.tT) (a2:=s.c.qq) (a3:=s.c.nu) (a4:=s.c.fD) (a5:=s.c.kf) (a6:=s.c.com) (a7:=s.c.tU) (com:=s.commit) (last:=s.last) (cap:=s.ar.cap) (os:=s.objs) (bs:=s.binds) (ps:=s.pins) (pg:=pg) (n:=n) (c:=c) (by omega) (by omega) (fun o ho=>by have:=(hv o ho).1;omega)
theorem O1 {i:Nat} {s:Sr} {pg:List Pg} {n:ByteArray} {c:Int} (h:pO i s pg) (hi:i<=100):aF Tryz.prog 17 (hO s pg) [.ref 0 0, .sc (.string n),i6 c] (.cT [.sl 1 ((jb s n c).1.map cF),i6 (jb s n c).2]) (hO s pg):=by
 have h1:=h.inv.b.hb;have h2:=h.inv.b.hp;have h3:=h.inv.b.hg;have j8:=h.len;have hv:=h.inv.ver hi;rw[<- Jn n c h.ar];exact vH (a1:=s.c.tT) (a2:=s.c.qq) (a3:=s.c.nu) (a4:=s.c.fD) (a5:=s.c.kf) (a6:=s.c.com) (a7:=s.c.tU) (com:=s.commit) (last:=s.last) (cap:=s.ar.cap) (os:=s.objs) (bs:=s.binds) (ps:=s.pins) (pg:=pg) (n:=n) (c:=c) (by omega) (by omega) (fun o ho=>⟨by have:=(hv o ho).1;omega,fun v w=>by have:=(hv o ho).2 v w;omega⟩) (fun x hx=>(h.dat x hx).1) (by omega)
theorem Jy {i:Nat} {s:Sr} {c:Int} (h:Inv i s) (hi:i<=100):ak Tryz.prog 16 [.agg (eS s),i6 c] (.cT [.sl 1 ((j0 s c).1.map eE),i6 (j0 s c).2]) []:=by
 have h1:=h.b.hb;have h2:=h.b.hp;exact B6 (a1:=s.c.tT) (a2:=s.c.qq) (a3:=s.c.nu) (a4:=s.c.fD) (a5:=s.c.kf) (a6:=s.c.com) (a7:=s.c.tU) (com:=s.commit) (last:=s.last) (cap:=s.ar.cap) (os:=s.objs) (bs:=s.binds) (ps:=s.pins) (pg:=s.ar.pages) (c:=c) (by omega) (by omega)
theorem Ez {i:Nat} {s:Sr} {n:ByteArray} {c:Int} (h:Inv i s) (hi:i<=100):ak Tryz.prog 20 [.agg (eS s), .sc (.string n),i6 c] (.cT [i6 (dy s n c).1,i6 (dy s n c).2.1,i6 (dy s n c).2.2]) []:=by
 have h1:=h.b.hb;have h2:=h.b.hp;have h3:=h.b.ho;have hv:=h.ver hi;exact yq (a1:=s.c.tT) (a2:=s.c.qq) (a3:=s.c.nu) (a4:=s.c.fD) (a5:=s.c.kf) (a6:=s.c.com) (a7:=s.c.tU) (com:=s.commit) (last:=s.last) (cap:=s.ar.cap) (os:=s.objs) (bs:=s.binds) (ps:=s.pins) (pg:=s.ar.pages) (n:=n) (c:=c) (by omega) (by omega) (fun o ho=>by have:=(hv o ho).1;omega) (by omega)
theorem Mt {i:Nat} {s:Sr} {n:ByteArray} {c:Int} (h:Inv i s) (hi:i<=100):ak Tryz.prog 18 [.agg (eS s), .sc (.string n),i6 c] (.cT [.sl 1 ((jb s n c).1.map cF),i6 (jb s n c).2]) []:=by
 have h1:=h.b.hb;have h2:=h.b.hp;have h3:=h.b.ho;have h4:=h.b.hg;have hv:=h.ver hi;exact Ex (a1:=s.c.tT) (a2:=s.c.qq) (a3:=s.c.nu) (a4:=s.c.fD) (a5:=s.c.kf) (a6:=s.c.com) (a7:=s.c.tU) (com:=s.commit) (last:=s.last) (cap:=s.ar.cap) (os:=s.objs) (bs:=s.binds) (ps:=s.pins) (pg:=s.ar.pages) (n:=n) (c:=c) (by omega) (by omega) (fun o ho=>⟨by have:=(hv o ho).1;omega,fun v w=>by have:=(hv o ho).2 v w;omega⟩) (by omega) (by omega) (fun x hx=>(h.b.hd x hx).1)
theorem dQ (l:List Int):((strOfNums l).toList==(strOfNums l).toList)=true:=dc _
theorem GD {i:Nat} {s:Sr} {c:Int} (h:Inv i s):(j0 s c).1.length<=i:=by
 rw[<- yt];unfold oR;have h1:=h.b.hb
 split
 ·simp
 ·have:=F4 c s.binds;simp only;omega
theorem Jz {i:Nat} {s:Sr} {n:ByteArray} {c:Int} (h:Inv i s):(jb s n c).1.length<=100000/\∀ z∈(jb s n c).1,0<=z/\z<=255:=by
 have hdl:∀ m,(eG s.ar m).1.length<=1024/\∀ z∈(eG s.ar m).1,0<=z/\z<=255:=fun m=>by
  rcases uU m s.ar.pages with ⟨h1,_⟩|⟨j,p,h1,h2,h3,h4,_⟩
  ·simp[eG,h1]
  ·rw[eG,aE (by rw[h3];omega),h4];exact h.b.hd p (fS h1)
 unfold jb
 split
 ·simp
 ·rcases gN s n c with ⟨e,_⟩|⟨j,k,o,v,_,q1,q2,q3,q4,q5,q6,e⟩
  ·rw[e];simp
  ·rw[e];simp only[Bool.true_eq_false,jc];have Bw:=((h.b.hv o (fS q1)).2 v (fS q4)).1;refine ⟨?_,fun z hz=>?_⟩
   ·have:=BZ (fun m=>(eG s.ar m).1) 1024 v.pages (fun m _=>(hdl m).1);have e2:rD (bh s.ar v.pages)=v.pages.flatMap fun m=>(eG s.ar m).1:=by simp[rD,bh,List.flatMap]
    rw[e2];omega
   ·obtain ⟨x,hx,hzx⟩:=List.mem_flatten.1 hz;obtain ⟨m,_,rfl⟩:=qu.1 hx;exact (hdl m).2 z hzx
theorem nc {i:Nat} {s:Sr} {pg:List Pg} {n:ByteArray} {c:Int} (h:pO i s pg) (hi:i<=100):aF Tryz.prog 10 (hO s pg) [.ref 0 0, .agg (eS s), .sc (.string n),i6 c] (.sc (.bool true)) (hO s pg):=by
 have k1:=Ms (c:=c) h hi;have k2:=Gz (n:=n) (c:=c) h hi;have k3:=O1 (n:=n) (c:=c) h hi;have r1:=Jy (c:=c) h.inv hi;have r2:=Ez (n:=n) (c:=c) h.inv hi;have r3:=Mt (n:=n) (c:=c) h.inv hi;have hnl:=GD (c:=c) h.inv;have hrl:=(Jz (n:=n) (c:=c) h.inv).1;generalize j0 s c=A at *;generalize dy s n c=B at *;generalize jb s n c=C at *;obtain ⟨an,ae⟩:=A;obtain ⟨bo,bf,be⟩:=B;obtain ⟨cd,ce⟩:=C;clear h;obtain ⟨⟨a1,a2,a3,a4,a5,a6,a7⟩,com,last,os,bs,ps,⟨cap,rp⟩⟩:=s;simp only[hO,eS] at *;refine dP [1000,1001,1002,1003] [5,27,33,40,48,56,63] Tryz.func10 rfl call10 rfl (by decide) (by decide) (by first|rfl) (by first|(simp only[seval,go_sem,List.all_cons,List.all_nil,EK,List.length_cons,List.length_nil];done)) Tryz.ntmps10 (by simp(disch:=omega)only[seval,go_sem,cI,List.replicate,l_2,l_1];rfl) (by simp(disch:=omega)only[seval,go_sem,cI,l_2,l_1];rfl) ?_
 ((repeat'(first|(with_reducible first|refine ay.seq ?_|refine ay.block ?_|refine ay.skip ?_|refine ah.nil ?_|refine bG ?_|refine ay.bE (by simp only[fk,eM];rfl) ?_)|((with_reducible refine au ?_);first|(with_reducible refine ah.step (by simp only[seval,go_sem,rF,bA,dQ];rfl) ?_)|((with_reducible refine cy ?_);first|((with_reducible (refine ah.dE (by simp only[seval,go_sem,rF,bA,dQ];rfl) (by simp only[seval,go_sem,rF,bA,dQ];rfl) ?_));first|refine bN.c [] (r1) (by simp only[seval,go_sem,rF,bA,dQ];rfl) ?_|refine bN.c [] (r2) (by simp only[seval,go_sem,rF,bA,dQ];rfl) ?_|refine bN.c [] (r3) (by simp only[seval,go_sem,rF,bA,dQ];rfl) ?_)|(with_reducible (first|(refine ah.cK (dst:=_) [] (by simp only[seval,go_sem,rF,bA,dQ];rfl) (by simp only[seval,go_sem,rF,bA,dQ];rfl) (k1) (by simp only[seval,go_sem,rF,bA,dQ]) (by simp only[seval,go_sem,rF,bA,dQ]) (by simp only[seval,go_sem,rF,bA,dQ];rfl) ?_)|(refine ah.cK (dst:=_) [] (by simp only[seval,go_sem,rF,bA,dQ];rfl) (by simp only[seval,go_sem,rF,bA,dQ];rfl) (k2) (by simp only[seval,go_sem,rF,bA,dQ]) (by simp only[seval,go_sem,rF,bA,dQ]) (by simp only[seval,go_sem,rF,bA,dQ];rfl) ?_)|(refine ah.cK (dst:=_) [] (by simp only[seval,go_sem,rF,bA,dQ];rfl) (by simp only[seval,go_sem,rF,bA,dQ];rfl) (k3) (by simp only[seval,go_sem,rF,bA,dQ]) (by simp only[seval,go_sem,rF,bA,dQ]) (by simp only[seval,go_sem,rF,bA,dQ];rfl) ?_))))|(with_reducible refine ah.step (by simp(disch:=omega)only[seval,go_sem,cI,rF,bA,dQ];rfl) ?_))|(with_reducible refine cg ?_;with_reducible refine ay.cond (by simp only[seval,go_sem,rF,bA,dQ];rfl) (cL ?_) (cL ?_))|(with_reducible refine cB ?_;intro hc;(try simp only[fH,reduceCtorEq] at hc);(try(exfalso;omega))))))
 all_goals(with_reducible refine ay.sS (fun (k:Nat)=>[(23,.sc (.int .i64 k)),(8,.any),(103,.any),(104,.any),(105,.any),(106,.any),(107,.any),(108,.any),(109,.any),(110,.any),(111,.any),(112,.any),(113,.any),(114,.any),(115,.any),(116,.any),(117,.any)]) (fun (k:Nat)=>[]) (fun (k:Nat)=>k<=an.length) (fun (k:Nat)=>an.length-k) (0) (ek _) (by intro _;simp(disch:=omega)only[seval,go_sem,cI];rfl) (by intro _;simp(disch:=omega)only[seval,go_sem,cI];rfl) (by (refine bL ?_);(try simp only[seval,go_sem])) (by (refine bX ?_);(try simp only[seval,go_sem])) (fun k hI=>?_))
 all_goals
  by_cases hlt:k<an.length
  ·obtain ⟨o,ho⟩:=aZ hlt;have ho':=get_map eE ho
   ((repeat'(first|(with_reducible first|refine ay.seq ?_|refine ay.block ?_|refine ay.skip ?_|refine ah.nil ?_|refine bz.nil ?_|refine bG ?_|refine dh ?_|refine gn ?_|refine ay.bE (by simp only[fk,eM];rfl) ?_)|((with_reducible refine au ?_);(with_reducible first|refine ah.step (by simp only[seval,go_sem,ho',eE,rF];rfl) ?_|refine ah.step (by simp(disch:=omega)only[seval,go_sem,cI,ho',eE,rF];rfl) ?_))|((with_reducible refine gE ?_);(with_reducible first|refine bz.step (by simp only[seval,go_sem,ho',eE,rF];rfl) ?_|refine bz.step (by simp(disch:=omega)only[seval,go_sem,cI,ho',eE,rF];rfl) ?_))|(with_reducible refine cg ?_;with_reducible refine ay.cond (by simp only[seval,go_sem,ho',eE,rF];rfl) (cL ?_) (cL ?_))|(with_reducible refine cB ?_;intro hc;(try simp only[fH,reduceCtorEq] at hc);(try(exfalso;omega)))|(with_reducible refine br ?_;refine ay.iL mix (by kernel_rfl) (by simp only[fk,eM];rfl) ?_))))
   all_goals(try(refine Hq (k+1) (by (refine bL ?_);(try simp only[seval,go_sem]);first|((repeat'(with_reducible apply And.intro))<;>first|rfl)) (by (refine bX ?_);(try simp only[seval,go_sem])) ?_ ?_<;>(try(omega))))
   all_goals done
  ·((repeat'(first|(with_reducible first|refine ay.seq ?_|refine ay.exit ?_|refine ay.ret ?_|refine ah.nil ?_|refine bG ?_|refine iN ?_|refine eR ?_|refine jU ?_|refine ay.bE (by simp only[fk,eM];rfl) ?_)|((with_reducible refine au ?_);(with_reducible first|refine ah.step (by simp only[seval,go_sem];rfl) ?_|refine ah.step (by simp(disch:=omega)only[seval,go_sem,cI];rfl) ?_))|(with_reducible refine cg ?_;with_reducible refine ay.cond (by simp only[seval,go_sem];rfl) (cL ?_) (cL ?_))|(with_reducible refine cB ?_;intro hc;(try simp only[fH,reduceCtorEq] at hc);(try(exfalso;omega)))|(with_reducible refine aB ?_;refine aC.q rfl rfl (by simp only[seval,go_sem];rfl) (by decide) (by simp only[seval,go_sem];rfl) (by simp only[seval,go_sem];rfl) rfl ?_<;>(try simp only[seval,go_sem])<;>(repeat'(with_reducible apply And.intro))<;>(try rfl)))))
   all_goals done
theorem uT {l:List Int} {n c:Int}:ak Tryz.prog 3 [.sl 1 (l.map cN),i6 n,i6 c] (.sc (.bool true)) []:=by
 obtain ⟨pg,hS,hrun⟩:=Jw l;generalize Jx l=S at *;have Fh:=hS.inv.b.hc;have hnk:=gH (n:=n%8);have k1:=nc (n:=ko (n%8)) (c:=S.commit) hS (by omega);have k2:=nc (n:=ko (n%8)) (c:=n/8%16-1) hS (by omega);have k3:=nc (n:=⟨#[122,122]⟩) (c:=S.commit) hS (by omega);have k4:=nc (n:=ko (n%8)) (c:=c) hS (by omega);have hkn:=zG;generalize ko (n%8)=NM at *;clear hS;obtain ⟨⟨a1,a2,a3,a4,a5,a6,a7⟩,com,last,os,bs,ps,⟨cap,rp⟩⟩:=S;simp only[hO,eS] at *;refine bR [] [8,13,21,27,36,43,50,53,313,513,713] [.tmp 6] Tryz.func3 (by kernel_rfl) Tryz.ntmps3 rfl rfl rfl ⟨rfl,rfl⟩ (by simp(disch:=omega)only[seval,go_sem,cI,List.replicate,l_2,l_1];rfl) ?_
 ((repeat'(first|simp only[seval,go_sem]|((with_reducible refine bJ ?_);first|refine aq.n4 (hrun) ?_|refine aq.c (hnk) ?_|refine aq.c (hkn) ?_)|((with_reducible refine au ?_);first|((with_reducible refine cq (st:=[36,43,50,53]) 2 ?_);simp only[seval,go_sem];first|refine bZ.c (k1) ?_|refine bZ.c (k2) ?_|refine bZ.c (k3) ?_|refine bZ.c (k4) ?_)|(with_reducible refine aD (st:=[36,43,50,53]) ?_))|(with_reducible first|refine aV (st:=[36,43,50,53]) ?_|refine ai (by simp(disch:=omega)only[seval,go_sem,cI];rfl) ?_))))
 all_goals done
theorem yF:ownKnob Tryz.prog.godebug=none:=by kernel_rfl
theorem wj:laidOutB Tryz.prog=true:=by kernel_rfl
theorem tO (os:Os) (started:os.Started) (H:Type) (enc:TypeId×Value->H):
  ReturnsInHanded {} Tryz.checked os 3 .any (Rows.storeLooksSpec.pre6 enc Tryz.prog Tryz.f3 Rows.storeLooksRow.domain false) (Rows.storeLooksSpec.post enc Tryz.prog Tryz.f3 false true false false):=by
 refine returnsInHanded_of_change (C:=Tryz.checked) yF started (by kernel_rfl) Tryz.func3
  (ChangeSpec.witness6 (enc:=enc) (C:=Tryz.checked) false ⟨#[], #[.slice none 0 0, .int .i64 0, .int .i64 0],[]⟩ 8 (by kernel_rfl) (by kernel_rfl) (by kernel_rfl) (by kernel_rfl)) ?_
 intro W base args ds gs before Vd hW hcnd _;have hval:∀ (j:Nat) t v,Tryz.f3.params[j]? = some t->args[j]? = some v->Value.okWide Tryz.prog W .any base t v:=Vd;have VZ:=hW;obtain ⟨p,q,hA0,hV,rfl,hfz,qU⟩:=hW;have hA:DataW.TrodAll enc Tryz.prog W 0 (fun _=>true) true Tryz.f3.params.toList args.toList ds p:=hA0;rw[Tryz.params3] at hA hval;obtain ⟨v0,vs0,d0,ds0,p0,q0,hargs,rfl,rfl,h0,r0⟩:=trodAll_cons hA;obtain ⟨v1,vs1,d1,ds1,p1,q1,rfl,rfl,rfl,h1,r1⟩:=trodAll_cons r0;obtain ⟨v2,Y0,d2,ds2,p2,q2,rfl,rfl,rfl,h2,r2⟩:=trodAll_cons r1;obtain ⟨rfl,rfl,rfl⟩:=trodAll_nil r2;obtain rfl:args = #[v0,v1,v2]:=by cases args;simp_all
 obtain ⟨a0,x0,w0,l0⟩:=Kv Tryz.underlying22 Tryz.underlying3 (by kernel_rfl) (hval 0 22 v0 rfl rfl) h0;obtain ⟨a1,x1,w1⟩:=G4 Tryz.underlying3 (hval 1 3 v1 rfl rfl) h1;obtain ⟨a2,x2,w2⟩:=G4 Tryz.underlying3 (hval 2 3 v2 rfl rfl) h2;exact Ku (xs:=[.sl 1 (a0.map fun z=>[.sc (.int .i64 z)]),.sc (.int .i64 a1),.sc (.int .i64 a2)]) VZ rfl wj (by kernel_rfl) (fun gs' h=>by subst h;rfl) rfl Tryz.underlying4 (by simp only[RL];exact ⟨_,_,rfl,x0,⟨_,_,rfl,x1,⟨_,_,rfl,x2,rfl⟩⟩⟩) (uT)
theorem wk:Rows.storeLooksRow.holds Tryz.pinned (OpenSpec.ofChange Rows.storeLooksSpec):=
 OpenClaim.holds_of_wide 3 Tryz.f3 rfl rfl rfl rfl rfl rfl rfl ⟨rfl,rfl,rfl,rfl,rfl⟩ rfl rfl rfl rfl rfl (by kernel_rfl) Tryz.func3 (by kernel_rfl)
  (of_decide_eq_true (by kernel_rfl)) (by unfold Func.isWrapper;first|(rw[bC (by decide +kernel)];kernel_rfl)|(rw[aE (by decide +kernel)];exact ⟨rfl,rfl⟩))
  (fun os started H enc _=>tO os started H enc)
theorem storeLooks_holds:Rows.StoreLooksSaid:=wk
end Go.Proofs.YteemiclhnfkekaaGreat
