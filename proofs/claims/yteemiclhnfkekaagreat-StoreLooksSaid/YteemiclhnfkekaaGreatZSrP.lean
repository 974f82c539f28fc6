/- The reference's store (layers 14 to 19): what its functions compute (plain). -/
import Derived.Test.YteemiclhnfkekaaGreatZAuP
import Derived.Test.YteemiclhnfkekaaGreatZDiF
set_option linter.unusedSimpArgs false
set_option linter.unusedVariables false
namespace Go.Proofs.YteemiclhnfkekaaGreat
open Go.RowKit Go.fe Tryz
structure Ar where
 cap:Int
 pages:List Pg
structure Sr where
 c:Cf
 commit:Int
 last:Int
 objs:List Ob
 binds:List Bd
 pins:List Pn
 ar:Ar
def dAr (a:Ar):List D:=[.sc (.int .i64 a.cap), .sl 3 (a.pages.map bt)]
def eS (s:Sr):List D:=[.sc (.int .i64 s.c.tT),.sc (.int .i64 s.c.qq),.sc (.int .i64 s.c.nu),.sc (.int .i64 s.c.fD),.sc (.int .i64 s.c.kf),.sc (.int .i64 s.c.com),.sc (.int .i64 s.c.tU),.sc (.int .i64 s.commit),.sc (.int .i64 s.last),.sl 2 (s.objs.map aK),.sl 4 (s.binds.map ag),.sl 2 (s.pins.map aW),.sc (.int .i64 s.ar.cap),.sl 3 (s.ar.pages.map bt)]
def fh (l:List Pg) (i:Int):Pg:=(l[i.toNat]?).getD ⟨0,0,[]⟩
def ju (l:List Pg):Nat->Int->Int
 | 0,n=>n
 | k+1,n=>if eO n l 0<0 then n else ju l k (n+1)
def gO (l:List Pg):Int:=ju l (l.length+1) 1
def tI (x:Pg) (l:List Pg):List Pg:=fG l (gx (fun k=>decide (x.num<(fh l k).num)) l.length) x
def dH (a:Ar) (d:List Int):Ar×Int×Int:=
 if 1024<(d.length:Int) then (a,0,11) else if a.cap<=(a.pages.length:Int) then (a,0,14) else (⟨a.cap,tI ⟨gO a.pages,1,d⟩ a.pages⟩,gO a.pages,0)
def gl (l:List Pg) (i:Int) (r:Int):List Pg:=l.set i.toNat ⟨(fh l i).num,r,(fh l i).data⟩
def dZ (a:Ar) (n:Int):Ar×Int:=if eO n a.pages 0<0 then (a,8) else (⟨a.cap,gl a.pages (eO n a.pages 0) (wr ((fh a.pages (eO n a.pages 0)).refs+1))⟩,0)
def ic {α:Type} (l:List α) (i:Int):List α:=l.take i.toNat++l.drop (i.toNat+1)
def b8 (a:Ar) (n:Int):Ar×Bool×Int:=
 if eO n a.pages 0<0 then (a,false,8) else
 if 0<wr ((fh a.pages (eO n a.pages 0)).refs-1) then (⟨a.cap,gl a.pages (eO n a.pages 0) (wr ((fh a.pages (eO n a.pages 0)).refs-1))⟩,false,0) else (⟨a.cap,ic a.pages (eO n a.pages 0)⟩,true,0)
def eG (a:Ar) (n:Int):List Int×Int:=if eO n a.pages 0<0 then ([],8) else ((fh a.pages (eO n a.pages 0)).data,0)
def chunks (sz:Nat):Nat->List Int->List (List Int)
 | 0,_=>[]
 | k+1,l=>if l.length=0 then [] else l.take sz::chunks sz k (l.drop sz)
def aR (b:List Int) (sz:Int):List (List Int)×Int:=if sz<1\/1024<sz then ([],5) else (chunks sz.toNat b.length b,0)
def bB:List (List Int)->List (List Int)->List Bool
 | _,[]=>[]
 | [],_::l=>false::bB [] l
 | o::os,x::l=>decide (o=x)::bB os l
def newR (c:Cf):Sr×Int:=if qN c=false then (⟨⟨0,0,0,0,0,0,0⟩,0,0,[],[],[],⟨0,[]⟩⟩,5) else (⟨c,0,0,[],[],[],⟨c.nu,[]⟩⟩,0)
def fz (l:List Pn) (c:Int):Bool:=l.any fun p=>p.commit==c
def eF (s:Sr) (c:Int):Int:=if mO c 0 s.commit=false then 5 else if c≠s.commit/\fz s.pins c=false then 17 else 0
def dm (l:List Ob) (i:Int):Ob:=(l[i.toNat]?).getD ⟨0,[]⟩
def yh (l:List fE) (i:Int):fE:=(l[i.toNat]?).getD zeroV
def fR (s:Sr) (n:ByteArray) (c:Int):Int×fE×Bool:=
 if (b9 n c s.binds).2=false\/cU (b9 n c s.binds).1 s.objs 0<0 then (0,zeroV,false) else
 if (ga c (dm s.objs (cU (b9 n c s.binds).1 s.objs 0)).bu 0).2=false then (0,zeroV,false) else
 (cU (b9 n c s.binds).1 s.objs 0,yh (dm s.objs (cU (b9 n c s.binds).1 s.objs 0)).bu (ga c (dm s.objs (cU (b9 n c s.binds).1 s.objs 0)).bu 0).1,true)
def bh (a:Ar) (l:List Int):List (List Int):=l.map fun n=>(eG a n).1
def fK (s:Sr) (n:ByteArray):Bool:=(b9 n s.commit s.binds).2
def eZ:Ar->List (List Int)->Ar×List Int
 | a,[]=>(a,[])
 | a,d::l=>((eZ (dH a d).1 l).1,(dH a d).2.1::(eZ (dH a d).1 l).2)
def dz (l:List Ob) (i:Int) (v:List fE):List Ob:=l.set i.toNat ⟨(dm l i).id,v⟩
def gj:List Bool->Int
 | []=>0
 | b::l=>if b=true then gj l else gj l+1
def iT:Ar->List (List Int)->List Bool->List Int->Ar×List Int
 | a,d::l,b::bs,o=>if b=true then ((iT (dZ a (o.headD 0)).1 l bs o.tail).1,o.headD 0::(iT (dZ a (o.headD 0)).1 l bs o.tail).2) else ((iT (dH a d).1 l bs o.tail).1,(dH a d).2.1::(iT (dH a d).1 l bs o.tail).2)
 | a,_,_,_=>(a,[])
def gq (s:Sr) (n:ByteArray):Sr×Int×Int:=
 if (fR s n s.commit).2.2=false then (s,0,8) else if s.c.com<=s.commit then (s,0,14) else
 ({ s with commit:=s.commit+1,objs:=dz s.objs (fR s n s.commit).1 (dW (dm s.objs (fR s n s.commit).1).bu (s.commit+1)).1,binds:=(bI s.binds n (s.commit+1)).1 },s.commit+1,0)
def ja (s:Sr) (c:Int):Sr×Int:=if eF s c≠0 then (s,eF s c) else if s.c.kf<=iJ s.pins 0 then (s,14) else ({ s with pins:=(kH s.pins c).1 },0)
def gW (s:Sr) (c:Int):Sr×Int:=if fz s.pins c=false then (s,8) else ({ s with pins:=(jh s.pins c).1 },0)
def bY (s:Sr) (n m:ByteArray):Sr×Int×Int:=
 if bM m=false then (s,0,6) else if fK s n=false then (s,0,8) else if fK s m=true then (s,0,9) else if s.c.com<=s.commit then (s,0,14) else
 ({ s with commit:=s.commit+1,binds:=(bH s.binds n m (s.commit+1)).1 },s.commit+1,0)
def cR (s:Sr) (n:ByteArray) (d:List Int):Sr×Int×Int:=
 if bM n=false then (s,0,6) else if 65536<(d.length:Int) then (s,0,11) else if fK s n=true then (s,0,9) else
 if s.c.qq<=((i7 s.commit s.binds []).length:Int)\/s.c.com<=s.commit\/s.c.nu<(s.ar.pages.length:Int)+((aR d s.c.fD).1.length:Int) then (s,0,14) else
 ({ s with commit:=s.commit+1,last:=s.last+1,objs:=s.objs++[⟨s.last+1,[⟨s.commit+1,0,d.length,(eZ s.ar (aR d s.c.fD).1).2⟩]⟩],binds:=(dw s.binds n (s.last+1) (s.commit+1)).1,ar:=(eZ s.ar (aR d s.c.fD).1).1 },s.commit+1,0)
def ji (s:Sr) (n:ByteArray) (d:List Int):Sr×Int×Int:=
 if 65536<(d.length:Int) then (s,0,11) else if (fR s n s.commit).2.2=false then (s,0,8) else
 if s.c.com<=s.commit\/s.c.nu<(s.ar.pages.length:Int)+gj (bB (bh s.ar (fR s n s.commit).2.1.pages) (aR d s.c.fD).1) then (s,0,14) else
 ({ s with commit:=s.commit+1,objs:=dz s.objs (fR s n s.commit).1 (cQ (dm s.objs (fR s n s.commit).1).bu ⟨s.commit+1,0,d.length,(iT s.ar (aR d s.c.fD).1 (bB (bh s.ar (fR s n s.commit).2.1.pages) (aR d s.c.fD).1) (fR s n s.commit).2.1.pages).2⟩).1,ar:=(iT s.ar (aR d s.c.fD).1 (bB (bh s.ar (fR s n s.commit).2.1.pages) (aR d s.c.fD).1) (fR s n s.commit).2.1.pages).1 },s.commit+1,0)
def pN:Ar->List Int->Ar
 | a,[]=>a
 | a,n::l=>pN (b8 a n).1 l
def dA (s:Sr) (id eo:Int):Sr×Int:=
 if cU id s.objs 0<0 then (s,8) else if (aS (dm s.objs (cU id s.objs 0)).bu eo).2.2≠0 then (s,(aS (dm s.objs (cU id s.objs 0)).bu eo).2.2) else
 if (aS (dm s.objs (cU id s.objs 0)).bu eo).2.1.to=0\/dY (aS (dm s.objs (cU id s.objs 0)).bu eo).2.1.from_ (aS (dm s.objs (cU id s.objs 0)).bu eo).2.1.to s.pins=true then (s,17) else
 ({ s with objs:=if (aS (dm s.objs (cU id s.objs 0)).bu eo).1.length=0 then ic s.objs (cU id s.objs 0) else dz s.objs (cU id s.objs 0) (aS (dm s.objs (cU id s.objs 0)).bu eo).1,ar:=pN s.ar (aS (dm s.objs (cU id s.objs 0)).bu eo).2.1.pages },0)
def yT (l:List Int) (i:Nat):Int:=if l.length=0 then (i:Int)%65536 else ((l[i%l.length]?).getD 0)%65536+((i/l.length:Nat):Int)
def lg (n:Int) (i:Nat):Int:=if ((i%16:Nat):Int)=n/512%16 then n%256 else (i:Int)
def aO (n:Int):List Int:=(List.range (n/8%64%61).toNat).map (lg n)
def OY (s:Sr) (n:Int):Sr:=
 if n%8=0\/n%8=1 then (cR s (ko (n/8)) (aO n)).1 else if n%8=2\/n%8=3 then (ji s (ko (n/8)) (aO n)).1 else if n%8=4 then (gq s (ko (n/8))).1 else
 if n%8=5 then (bY s (ko (n/8)) (ko (n/32))).1 else if n%8=6 then (ja s s.commit).1 else
 if s.pins.length=0 then s else (gW s (((s.pins[(n/8%(s.pins.length:Int)).toNat]?).map (·.commit)).getD 0)).1
def HU (l:List Int):Nat->Nat->Sr->Sr
 | 0,_,s=>s
 | k+1,i,s=>if i<=12/\i<l.length then HU l k (i+1) (OY s (yT l i)) else s
def X0 (l:List Int):Sr:=HU l 12 1 (newR (sJ (yT l 0))).1
def vC (s:Sr):Dm:=⟨s.commit,s.objs,s.binds,s.pins,s.ar.pages⟩
set_option maxRecDepth 100000
set_option maxHeartbeats 12800000
theorem m7 {c n:Int} {l:List Pg} (hl:l.length<=100000):ak prog 172 [.agg [i6 c, .sl 3 (l.map bt)],i6 n] (i6 (eO n l 0)) []:=by
 refine bR [] [2] [.tmp 4] func172 (by kernel_rfl) ntmps172 rfl rfl rfl ⟨rfl,rfl⟩ (by simp(disch:=omega)only[seval,go_sem,cI,List.replicate,l_2,l_1];rfl) ?_;((repeat'(first|simp only[seval,go_sem]|(with_reducible refine aV (st:=[]) ?_))));all_goals(with_reducible refine ay.cX (fun (k:Nat)=>[(5,i6 k),(4,.any)]++aN 6 16) (fun (k:Nat)=>[]) (fun (k:Nat)=>k<=l.length/\eO n (l.drop k) k=eO n l 0) (fun (k:Nat)=>l.length-k) (0) (⟨ek _,rfl⟩) (by intro _;simp(disch:=omega)only[seval,go_sem,cI];rfl) (by simp only[seval,go_sem]) (fun k hI=>?_))
 all_goals obtain ⟨hk,hf⟩:=hI
 by_cases hlt:k<l.length
 focus
  obtain ⟨o,ho⟩:=aZ hlt;have ho':=get_map bt ho;rw[aH ho,eO] at hf;by_cases hc:o.num=n
  focus
   rw[bC hc] at hf;rw[<- hf];have hZ:=ho'
  rotate_left 1
  ·rw[aE hc] at hf;((repeat'(first|simp only[seval,go_sem,ho',bt]|(with_reducible refine aV (st:=[]) ?_)|(with_reducible refine ai (by simp(disch:=omega)only[seval,go_sem,cI,ho',bt];rfl) ?_))));all_goals(try(refine aP (k+1) (by simp only[seval,go_sem];first|((repeat'(with_reducible apply And.intro))<;>first|rfl)) ?_ ?_<;>(try(omega))))
   all_goals(try exact ⟨by omega,hf⟩)
 rotate_left 1
 focus
  rw[j9 (by omega),eO] at hf;rw[<- hf];have hZ:=ek 0
 rotate_left 1;all_goals((repeat'(first|simp only[seval,go_sem,bt,hZ]|(with_reducible refine aV (st:=[]) ?_)|(with_reducible refine ai (by simp(disch:=omega)only[seval,go_sem,cI,bt,hZ];rfl) ?_))))
theorem oN (n:Int) (l:List Pg):(eO n l 0 = -1)\/∃ (j:Nat) (p:Pg),l[j]? = some p/\j<l.length/\eO n l 0=(j:Int)/\fh l (eO n l 0)=p:=by
 rcases gb n l 0 with ⟨h,_⟩|⟨j,p,h1,h2,h3,_⟩
 ·exact .inl h
 ·rw[kO] at h3;exact .inr ⟨j,p,h1,(jL.1 h1).1,h3,by simp[fh,h3,h1]⟩
theorem Eg {c n:Int} {l:List Pg} (hl:l.length<=100000) (hd:∀ p∈l,p.data.length<=1000000):ak prog 142 [.agg [i6 c, .sl 3 (l.map bt)],i6 n] (.cT [.sl 1 ((eG ⟨c,l⟩ n).1.map cF),i6 (eG ⟨c,l⟩ n).2]) []:=by
 have yW:=m7 (c:=c) (n:=n) hl;rcases oN n l with h|⟨j,p,h1,h2,h3,h4⟩
 ·have e:eG ⟨c,l⟩ n=([],8):=by simp[eG,h]
  rw[e];rw[h] at yW;refine dL [] [2,9,18] func142 (by kernel_rfl) ntmps142 rfl rfl ⟨rfl,rfl⟩ (by simp(disch:=omega)only[seval,go_sem,cI,List.replicate,l_2,l_1];rfl) ?_
  ((repeat'(first|simp only[seval,go_sem]|((with_reducible refine bJ ?_);refine aq.c (yW) ?_)|(with_reducible refine aD (st:=[]) ?_)|(with_reducible refine aB ?_;refine fl (rs:=[.tmp 4,.tmp 5]) (by with_unfolding_all rfl) rfl ?_<;>simp only[seval,go_sem]<;>(repeat'(with_reducible apply And.intro))<;>(try rfl))|(with_reducible first|refine aV (st:=[]) ?_|refine ai (by simp(disch:=omega)only[seval,go_sem,cI];rfl) ?_))))
 ·have e:eG ⟨c,l⟩ n=(p.data,0):=by rw[eG,aE (by rw[h3];omega),h4]
  rw[e];rw[h3] at yW;have pG:=get_map bt h1;have hdl:=hd p (fS h1);refine dL [] [2,9,18] func142 (by kernel_rfl) ntmps142 rfl rfl ⟨rfl,rfl⟩ (by simp(disch:=omega)only[seval,go_sem,cI,List.replicate,l_2,l_1];rfl) ?_
  ((repeat'(first|simp only[seval,go_sem,pG,bt]|((with_reducible refine bJ ?_);refine aq.c (yW) ?_)|(with_reducible refine aD (st:=[]) ?_)|(with_reducible refine aB ?_;(refine aC.gu 18 (by simp only[seval,go_sem];rfl) (by simp only[seval,go_sem,pG,bt];rfl) ?_);(with_reducible refine aB ?_;refine aC.q rfl rfl (by simp only[seval,go_sem];rfl) (by decide) (by simp only[seval,go_sem];rfl) (by simp only[seval,go_sem];rfl) rfl ?_<;>(try simp only[seval,go_sem,pG,bt])<;>(repeat'(with_reducible apply And.intro))<;>(try rfl)))|(with_reducible first|refine aV (st:=[]) ?_|refine ai (by simp(disch:=omega)only[seval,go_sem,cI,pG,bt];rfl) ?_))))
  all_goals(try simp)
theorem gZ (n:Int):IntKind.i64.wrap n=wr n:=rfl
theorem En {c n:Int} {l:List Pg} (hl:l.length<=100000):ak prog 117 [.agg [i6 c, .sl 3 (l.map bt)],i6 n] (.cT [.agg [i6 (dZ ⟨c,l⟩ n).1.cap, .sl 3 ((dZ ⟨c,l⟩ n).1.pages.map bt)],i6 (dZ ⟨c,l⟩ n).2]) []:=by
 have yW:=m7 (c:=c) (n:=n) hl;rcases oN n l with h|⟨j,p,h1,h2,h3,h4⟩
 ·have e:dZ ⟨c,l⟩ n=(⟨c,l⟩,8):=by simp[dZ,h]
  rw[e];rw[h] at yW;refine dL [] [2,4,10,16] func117 (by kernel_rfl) ntmps117 rfl rfl ⟨rfl,rfl⟩ (by simp(disch:=omega)only[seval,go_sem,cI,List.replicate,l_2,l_1];rfl) ?_
  ((repeat'(first|simp only[seval,go_sem]|((with_reducible refine bJ ?_);refine aq.c (yW) ?_)|(with_reducible refine aD (st:=[]) ?_)|(with_reducible refine aB ?_;refine fl (rs:=[.cell 4 31,.tmp 5]) (by with_unfolding_all rfl) rfl ?_<;>simp only[seval,go_sem]<;>(repeat'(with_reducible apply And.intro))<;>(try rfl))|(with_reducible first|refine aV (st:=[]) ?_|refine ai (by simp(disch:=omega)only[seval,go_sem,cI];rfl) ?_))))
 ·have e:dZ ⟨c,l⟩ n=(⟨c,l.set j ⟨p.num,wr (p.refs+1),p.data⟩⟩,0):=by
   simp only[dZ];rw[aE (by rw[h3];omega),gl,h4,h3,Int.toNat_natCast]
  rw[e];rw[h3] at yW;have pG:=get_map bt h1;refine dL [] [2,4,10,16] func117 (by kernel_rfl) ntmps117 rfl rfl ⟨rfl,rfl⟩ (by simp(disch:=omega)only[seval,go_sem,cI,List.replicate,l_2,l_1];rfl) ?_
  ((repeat'(first|simp only[seval,go_sem,pG,bt,gZ]|((with_reducible refine bJ ?_);refine aq.c (yW) ?_)|(with_reducible refine aD (st:=[]) ?_)|(with_reducible refine aB ?_;(refine aC.gu 16 (by simp only[seval,go_sem];rfl) (by simp only[seval,go_sem,pG,bt,gZ];rfl) ?_);(with_reducible refine aB ?_;refine aC.q rfl (by with_unfolding_all (show iq _ _ [.cell 4 31,.tmp 5]=_);simp only[seval,go_sem];rfl) (by simp only[seval,go_sem];rfl) (by decide) (by simp only[seval,go_sem];rfl) (by simp only[seval,go_sem];rfl) rfl ?_<;>(try simp only[seval,go_sem,pG,bt,gZ])<;>(repeat'(with_reducible apply And.intro))<;>(try rfl)))|(with_reducible first|refine aV (st:=[]) ?_|refine ai (by simp(disch:=omega)only[seval,go_sem,cI,pG,bt,gZ];rfl) ?_))))
  all_goals(try(first|(simp[bt,qO];done)|exact lz (by simp)))
theorem Gj {c n:Int} {l:List Pg} (hl:l.length<=100000):ak prog 134 [.agg [i6 c, .sl 3 (l.map bt)],i6 n] (.cT [.agg [i6 (b8 ⟨c,l⟩ n).1.cap, .sl 3 ((b8 ⟨c,l⟩ n).1.pages.map bt)], .sc (.bool (b8 ⟨c,l⟩ n).2.1),i6 (b8 ⟨c,l⟩ n).2.2]) []:=by
 have yW:=m7 (c:=c) (n:=n) hl;rcases oN n l with h|⟨j,p,h1,h2,h3,h4⟩
 ·have e:b8 ⟨c,l⟩ n=(⟨c,l⟩,false,8):=by simp[b8,h]
  rw[e];rw[h] at yW;refine dL [] [2,4,11,17,45] func134 (by kernel_rfl) ntmps134 rfl rfl ⟨rfl,rfl⟩ (by simp(disch:=omega)only[seval,go_sem,cI,List.replicate,l_2,l_1];rfl) ?_
  ((repeat'(first|simp only[seval,go_sem]|((with_reducible refine bJ ?_);refine aq.c (yW) ?_)|(with_reducible refine aD (st:=[]) ?_)|(with_reducible refine aB ?_;refine fl (rs:=[.cell 4 31,.tmp 5,.tmp 6]) (by with_unfolding_all rfl) rfl ?_<;>simp only[seval,go_sem]<;>(repeat'(with_reducible apply And.intro))<;>(try rfl))|(with_reducible first|refine aV (st:=[]) ?_|refine ai (by simp(disch:=omega)only[seval,go_sem,cI];rfl) ?_))))
 ·rw[h3] at yW;have pG:=get_map bt h1;have QJ:∀ r,((l.map bt).set j [.sc (.int .i64 p.num), .sc (.int .i64 r), .sl 1 (p.data.map cF)])[j]? = some [.sc (.int .i64 p.num), .sc (.int .i64 r), .sl 1 (p.data.map cF)]:=fun r=>tZ (by rw[dD];exact h2);have hls:∀ r,((l.map bt).set j [.sc (.int .i64 p.num), .sc (.int .i64 r), .sl 1 (p.data.map cF)]).length=l.length:=fun r=>by simp
  have aae:=hls (wr (p.refs-1));by_cases hw:0<wr (p.refs-1)
  ·have e:b8 ⟨c,l⟩ n=(⟨c,l.set j ⟨p.num,wr (p.refs-1),p.data⟩⟩,false,0):=by
    simp only[b8];rw[aE (by rw[h3];omega),h4,bC hw,gl,h4,h3,Int.toNat_natCast]
   rw[e];refine dL [] [2,4,11,17,45] func134 (by kernel_rfl) ntmps134 rfl rfl ⟨rfl,rfl⟩ (by simp(disch:=omega)only[seval,go_sem,cI,List.replicate,l_2,l_1];rfl) ?_
   ((repeat'(first|simp only[seval,go_sem,bt,gZ,pG,QJ]|((with_reducible refine bJ ?_);refine aq.c (yW) ?_)|(with_reducible refine aD (st:=[]) ?_)|(with_reducible refine aB ?_;(refine aC.gu 17 (by simp only[seval,go_sem];rfl) (by simp only[seval,go_sem,bt,gZ,pG,QJ];rfl) ?_);(with_reducible refine aB ?_;refine aC.q rfl (by with_unfolding_all (show iq _ _ [.cell 4 31,.tmp 5,.tmp 6]=_);simp only[seval,go_sem];rfl) (by simp only[seval,go_sem];rfl) (by decide) (by simp only[seval,go_sem];rfl) (by simp only[seval,go_sem];rfl) rfl ?_<;>(try simp only[seval,go_sem,bt,gZ,pG,QJ])<;>(repeat'(with_reducible apply And.intro))<;>(try rfl)))|(with_reducible first|refine aV (st:=[]) ?_|refine ai (by simp(disch:=omega)only[seval,go_sem,cI,bt,gZ,pG,QJ];rfl) ?_))))
   all_goals(try(first|(simp[bt,qO];done)|exact lz (by simp)))
  ·have e:b8 ⟨c,l⟩ n=(⟨c,ic l (j:Int)⟩,true,0):=by
    simp only[b8];rw[aE (by rw[h3];omega),h4,aE hw,h3]
   rw[e];refine dL [] [2,4,11,17,45] func134 (by kernel_rfl) ntmps134 rfl rfl ⟨rfl,rfl⟩ (by simp(disch:=omega)only[seval,go_sem,cI,List.replicate,l_2,l_1];rfl) ?_
   have ht1:List.take (l.length-(j+1)) (List.drop (j+1) ((l.map bt).set j [.sc (.int .i64 p.num), .sc (.int .i64 (wr (p.refs-1))), .sl 1 (p.data.map cF)]))=(l.drop (j+1)).map bt:=by
    rw[List.drop_set_of_lt (by omega), <- RY];exact lz (by simp)
   have ht2:List.take j ((l.map bt).set j [.sc (.int .i64 p.num), .sc (.int .i64 (wr (p.refs-1))), .sl 1 (p.data.map cF)])=(l.take j).map bt:=by
    rw[List.take_set_of_le (by omega),Qy]
   have j8:((l.drop (j+1)).map bt).length=l.length-(j+1):=by simp
   have fm:∀ X,List.take (j+(l.length-(j+1))) ((l.take j).map bt++(l.drop (j+1)).map bt++X)=(ic l (j:Int)).map bt:=fun X=>by
    rw[SG (by simp;omega),lz (by simp;omega),ic,Int.toNat_natCast,vO]
   have hle:∀ X,j+(l.length-(j+1))<=((l.take j).map bt++(l.drop (j+1)).map bt++X).length:=fun X=>by
    rw[bW,bW,dD,dD,cw,bQ];omega
   (all_goals(try have hZ:=(And.intro pG (And.intro QJ (And.intro ht1 (And.intro ht2 (And.intro j8 (And.intro fm hle)))))));(repeat'(first|(with_reducible refine aY 8 ?_;refine ay.bU 8 mix 14 rfl (.f 0 <| .f 2 <| .f 3 <| .f 4 <| .f 5 <| .f 6 <| .f 7 <| .f 8 <| .a <| .b 1 (.a <| .b 9 (.a <| .b 10 (.a <| .b 11 (.f 12 <| .f 13 <| .d) .e) .e) .e) <| .b 9 (.a <| .b 1 (.a <| .b 10 (.a <| .b 11 (.f 12 <| .f 13 <| .d) .e) .e) .e) .e) (by kernel_rfl) ?_)|(with_reducible refine cA ?_;first|refine aJ.D ?_|refine aJ.F (by simp only[seval,go_sem,eg,dJ];rfl) (by first|(simp only[seval,go_sem,bt,gZ,hZ])) (by first|(simp only[seval,go_sem,bt,gZ,hZ];with_reducible rfl)|(simp(disch:=omega)only[seval,go_sem,cI,bt,gZ,hZ];with_reducible rfl)) ?_|refine aJ.A ?_)|(with_reducible first|exact aI.E|refine aI.B (by simp only[seval,go_sem,eg,dJ];rfl) ?_ ?_)|simp only[seval,go_sem,bt,gZ,hZ]|((with_reducible refine bJ ?_);refine aq.c (yW) ?_)|((with_reducible refine au ?_);first|(with_reducible refine aD (st:=[]) ?_)|((with_reducible first|refine ah.step (by simp only[seval,go_sem,bt,gZ,hZ];rfl) ?_);refine dI (st:=[]) ?_)|(with_reducible refine nM ?_;with_reducible refine ah.uw (by simp only[seval,go_sem,bt,gZ,hZ]) (by simp only[seval,go_sem,bt,gZ,hZ];rfl) (by simp only[seval,go_sem,bt,gZ,hZ];rfl) (by simp only[seval,go_sem,bt,gZ,hZ];rfl) rfl (by decide) (by decide) (by decide) (by simp only[seval,go_sem,bt,gZ,hZ];rfl) (by simp only[seval,go_sem,bt,gZ,hZ];rfl) (by simp(disch:=omega)only[seval,go_sem,cI,bt,gZ,hZ];rfl) (by (try simp only[aj,dD,bW,List.length_cons,List.length_nil,cw,bQ,dx,splice,Nat.reduceMul]);omega) (by (try simp only[aj,dD,bW,List.length_cons,List.length_nil,cw,bQ,dx,splice,Nat.reduceMul]);omega) ?_;refine dI (st:=[]) ?_))|(with_reducible refine aB ?_;(refine aC.gu 17 (by simp only[seval,go_sem];rfl) (by simp only[seval,go_sem,bt,gZ,hZ];rfl) ?_);(with_reducible refine aB ?_;refine aC.q rfl (by with_unfolding_all (show iq _ _ [.cell 4 31,.tmp 5,.tmp 6]=_);simp only[seval,go_sem];rfl) (by simp only[seval,go_sem];rfl) (by decide) (by simp only[seval,go_sem];rfl) (by simp only[seval,go_sem];rfl) rfl ?_<;>(try simp only[seval,go_sem,bt,gZ,hZ])<;>(repeat'(with_reducible apply And.intro))<;>(try rfl)))|(with_reducible first|refine aV (st:=[]) ?_|refine ai (by simp(disch:=omega)only[seval,go_sem,cI,bt,gZ,hZ];rfl) ?_))))
theorem EX (m:Nat):∀ l:List Int,(∀ i:Nat,1<=i->i<=m->(i:Int)∈l)->m<=l.length:=by
 induction m with
 | zero=>intro _ _;exact ek _
 | succ m ih=>
   intro l h
   have h1:=ih (l.filter (fun x=>x != ((m+1:Nat):Int))) (fun i a b=>by
    rw[List.mem_filter]
    exact ⟨h i a (by omega),by simp;omega⟩)
   have h2:(l.filter (fun x=>x != ((m+1:Nat):Int))).length<l.length:=by
    rw[List.length_filter_lt_length_iff_exists];exact ⟨((m+1:Nat):Int),h (m+1) (by omega) (by omega),by simp⟩
   omega
theorem wG {n:Int} {l:List Pg} (h:¬ eO n l 0<0):n∈l.map (·.num):=by
 rcases gb n l 0 with ⟨h1,_⟩|⟨j,p,h1,h2,_⟩
 ·omega
 ·exact qu.2 ⟨p,fS h1,h2⟩
theorem uV {l:List Pg} {k:Nat} (hk:k<=l.length) (hf:ju l (l.length+1-k) (1+k)=gO l):(eO (1+(k:Int)) l 0<0->gO l=1+k)/\(¬ eO (1+(k:Int)) l 0<0->ju l (l.length+1-(k+1)) (1+((k+1:Nat):Int))=gO l):=by
 rw[show l.length+1-k=(l.length-k)+1 by omega,ju] at hf;refine ⟨fun h=>by rw[bC h] at hf;exact hf.symm,fun h=>?_⟩;rw[aE h] at hf;rw[show l.length+1-(k+1)=l.length-k by omega,show (1+((k+1:Nat):Int))=1+(k:Int)+1 by omega];exact hf
theorem tH {c:Int} {l:List Pg} {d:List Int} (hl:l.length<=100000) (hd:d.length<=1000000):ak prog 114 [.agg [i6 c,.sl 3 (l.map bt)],.sl 1 (d.map cF)] (.cT [.agg [i6 (dH ⟨c,l⟩ d).1.cap,.sl 3 ((dH ⟨c,l⟩ d).1.pages.map bt)],i6 (dH ⟨c,l⟩ d).2.1,i6 (dH ⟨c,l⟩ d).2.2]) []:=by
 by_cases c1:1024<(d.length:Int)
 ·have e:dH ⟨c,l⟩ d=(⟨c,l⟩,0,11):=by rw[dH,bC c1]
  rw[e];refine dL [] [2,4,8,24,30,34,36,37] func114 (by kernel_rfl) ntmps114 rfl rfl ⟨rfl,rfl⟩ (by simp(disch:=omega)only[seval,go_sem,cI,List.replicate,l_2,l_1];rfl) ?_;((repeat'(first|simp only[seval,go_sem]|(with_reducible refine aB ?_;refine fl (rs:=[.cell 4 31,.tmp 5,.tmp 6]) (by with_unfolding_all rfl) rfl ?_<;>simp only[seval,go_sem]<;>(repeat'(with_reducible apply And.intro))<;>(try rfl))|(with_reducible first|refine aV (st:=[]) ?_|refine ai (by simp(disch:=omega)only[seval,go_sem,cI];rfl) ?_))))
 by_cases c2:c<=(l.length:Int)
 ·have e:dH ⟨c,l⟩ d=(⟨c,l⟩,0,14):=by rw[dH,aE c1];exact bC c2
  rw[e];refine dL [] [2,4,8,24,30,34,36,37] func114 (by kernel_rfl) ntmps114 rfl rfl ⟨rfl,rfl⟩ (by simp(disch:=omega)only[seval,go_sem,cI,List.replicate,l_2,l_1];rfl) ?_;((repeat'(first|simp only[seval,go_sem]|(with_reducible refine aB ?_;refine fl (rs:=[.cell 4 31,.tmp 5,.tmp 6]) (by with_unfolding_all rfl) rfl ?_<;>simp only[seval,go_sem]<;>(repeat'(with_reducible apply And.intro))<;>(try rfl))|(with_reducible first|refine aV (st:=[]) ?_|refine ai (by simp(disch:=omega)only[seval,go_sem,cI];rfl) ?_))))
 have e:dH ⟨c,l⟩ d=(⟨c,tI ⟨gO l,1,d⟩ l⟩,gO l,0):=by rw[dH,aE c1];exact aE c2
 rw[e];simp only;generalize hN:gO l=N;have VI:ju l (l.length+1) 1=N:=hN;have yW:=fun m=>m7 (c:=c) (n:=m) hl;refine dL [] [2,4,8,24,30,34,36,37] func114 (by kernel_rfl) ntmps114 rfl rfl ⟨rfl,rfl⟩ (by simp(disch:=omega)only[seval,go_sem,cI,List.replicate,l_2,l_1];rfl) ?_;((repeat'(first|simp only[seval,go_sem]|(with_reducible refine aV (st:=[]) ?_)|(with_reducible refine ai (by simp(disch:=omega)only[seval,go_sem,cI];rfl) ?_))));all_goals(refine ay.bx 2 (by simp only[seval,go_sem];rfl) (by simp only[seval,go_sem];first|done|rfl) (by simp only[seval,go_sem];rfl) ?_)
 all_goals(with_reducible refine ay.cX (fun (k:Nat)=>[(7,i6 (1+k))]++aN 22 6) (fun (k:Nat)=>[(24,.dead)]) (fun (k:Nat)=>k<=l.length/\ju l (l.length+1-k) (1+k)=N/\∀ i:Nat,1<=i->i<=k->(i:Int)∈l.map (·.num)) (fun (k:Nat)=>l.length+1-k) (0) (⟨ek _,by simpa using VI,by omega⟩) (by intro _;simp(disch:=omega)only[seval,go_sem,cI];rfl) (by simp only[seval,go_sem]) (fun k hI=>?_))
 all_goals
  obtain ⟨hk,hf,hmem⟩:=hI;obtain ⟨g1,g2⟩:=uV hk (hf.trans hN.symm);rw[hN] at g1 g2;have hic:=yW (1+(k:Int));by_cases hp:eO (1+(k:Int)) l 0<0
  ·have Sn:=g1 hp;generalize eO (1+(k:Int)) l 0=z at hic hp;have xU:(List.map bt l++[[D.sc (.int .i64 (1+(k:Int))),D.sc (.int .i64 1),D.sl 1 (d.map cF)]]).length=l.length+1:=by simp
   have LS:(List.map bt l++[[D.sc (.int .i64 (1+(k:Int))),D.sc (.int .i64 1),D.sl 1 (d.map cF)]])=(fG l l.length ⟨1+k,1,d⟩).map bt:=by rw[tX];simp[bt]
   ((repeat'(first|(with_reducible refine aY 9 ?_;refine ay.bU 9 mix 7 rfl (.f 0 <| .a <| .b 1 (.a <| .b 2 (.a <| .b 3 (.a <| .b 4 (.a <| .b 5 (.f 6 <| .d) .e) .e) .e) <| .b 3 (.a <| .b 2 (.a <| .b 4 (.a <| .b 5 (.f 6 <| .d) .e) .e) <| .b 4 (.a <| .b 2 (.a <| .b 5 (.f 6 <| .d) .e) .e) .e) .e) <| .b 3 (.a <| .b 1 (.a <| .b 2 (.a <| .b 4 (.a <| .b 5 (.f 6 <| .d) .e) .e) <| .b 4 (.a <| .b 2 (.a <| .b 5 (.f 6 <| .d) .e) .e) .e) <| .b 4 (.a <| .b 1 (.a <| .b 2 (.a <| .b 5 (.f 6 <| .d) .e) .e) .e) .e) .e) (by kernel_rfl) ?_)|(with_reducible refine cA ?_;first|refine aJ.D ?_|refine aJ.F (by simp only[seval,go_sem,eg,dJ];rfl) (by first|(simp only[seval,go_sem,xU])) (by first|(simp only[seval,go_sem,xU];with_reducible rfl)) ?_|refine aJ.A ?_)|(with_reducible first|exact aI.E|refine aI.B (by simp only[seval,go_sem,eg,dJ];rfl) ?_ ?_)|simp only[seval,go_sem,xU]|((with_reducible refine bJ ?_);(refine aq.c (hic) ?_;simp only[seval,go_sem,xU];(fail_if_success (with_reducible refine xq ?_))))|((with_reducible refine au ?_);first|(with_reducible refine ah.gu 30 (by simp only[seval,go_sem,xU];rfl) (by simp only[seval,go_sem,xU];rfl) ?_;refine dI (st:=[]) ?_)|(with_reducible refine aD (st:=[]) ?_)|((with_reducible first|refine ah.step (by simp only[seval,go_sem,xU];rfl) ?_|refine ah.step (by simp(disch:=omega)only[seval,go_sem,cI,xU];rfl) ?_);refine dI (st:=[]) ?_))|(with_reducible first|refine aV (st:=[]) ?_|refine ai (by simp(disch:=omega)only[seval,go_sem,cI,xU];rfl) ?_))))
   all_goals(with_reducible refine ay.cX (fun (j2:Nat)=>[(10,i6 j2),(9,.cW 37 3 0 (l.length+1))]++aN 41 34) (fun (j2:Nat)=>[(37,.row 3 ((fG l j2 ⟨1+k,1,d⟩).map bt))]) (fun (j2:Nat)=>j2<=l.length/\gx (fun i=>decide (1+(k:Int)<(fh l i).num)) j2=gx (fun i=>decide (1+(k:Int)<(fh l i).num)) l.length) (fun (j2:Nat)=>j2) (l.length) (⟨iU _,rfl⟩) (by intro _;simp(disch:=omega)only[seval,go_sem,cI];rfl) (by simp only[seval,go_sem,LS];first|((repeat'(with_reducible apply And.intro))<;>first|omega)) (fun j2 hI=>?_))
   all_goals
    obtain ⟨hj2,hst⟩:=hI;have hins:gx (fun i=>decide (1+(k:Int)<(fh l i).num)) l.length=j2->tI ⟨N,1,d⟩ l=fG l j2 ⟨1+k,1,d⟩:=fun h=>by rw[Sn,tI,h]
    have vT:(fG l j2 (⟨1+k,1,d⟩:Pg)).length=l.length+1:=qt hj2;have dM:((fG l j2 (⟨1+k,1,d⟩:Pg)).map bt).length=l.length+1:=by rw[dD];exact vT
    have fm:((fG l j2 (⟨1+k,1,d⟩:Pg)).map bt).take (l.length+1)=(fG l j2 (⟨1+k,1,d⟩:Pg)).map bt:=lz (by rw[dM];exact iU _);rcases j2 with _|j2
    ·rw[hins (by rw[<- hst];rfl),Sn]
     ((repeat'(first|simp only[seval,go_sem,dM,fm]|(with_reducible refine br ?_;refine dX mix (by kernel_rfl) ?_)|(with_reducible refine aB ?_;(refine aC.gu 37 (by simp only[seval,go_sem];rfl) (by simp only[seval,go_sem,dM,fm];rfl) ?_);(with_reducible refine aB ?_;refine aC.q rfl (by with_unfolding_all (show iq _ _ [.cell 4 31,.tmp 5,.tmp 6]=_);simp only[seval,go_sem];rfl) (by simp only[seval,go_sem];rfl) (by decide) (by simp only[seval,go_sem];rfl) (by simp only[seval,go_sem];rfl) rfl ?_<;>(try simp only[seval,go_sem,dM,fm])<;>(repeat'(with_reducible apply And.intro))<;>(try rfl)))|(with_reducible first|refine aV (st:=[]) ?_|refine dO (by simp(disch:=omega)only[seval,go_sem,cI,dM,fm];rfl) ?_))))
    ·obtain ⟨y,hy⟩:=aZ (show j2<l.length by omega);have g1:=get_map bt (Ct (x:=(⟨1+k,1,d⟩:Pg)) hj2);have g2:=get_map bt ((zN (x:=(⟨1+k,1,d⟩:Pg)) hj2).trans hy);have hsw:=congrArg (List.map bt) (wI (x:=(⟨1+k,1,d⟩:Pg)) hy);simp only[qO] at hsw;have ey:fh l (j2:Int)=y:=by simp[fh,hy]
     rw[gx] at hst;rw[ey] at hst;have e1:((j2+1:Nat):Int)-1=j2:=by omega
     have g3:((List.map bt (fG l (j2+1) (⟨1+k,1,d⟩:Pg))).set (j2+1) (bt y))[j2]? = some (bt y):=by rw[ua (by omega)];exact g2
     simp only[bt] at g3;simp only[bt] at hsw;generalize hR:fG l (j2+1) (⟨1+k,1,d⟩:Pg)=RR at *;by_cases hb:1+(k:Int)<y.num
     ·rw[bC (GQ hb)] at hst
      ((repeat'(first|(with_reducible refine aY 13 ?_;refine ay.bU 13 mix 18 rfl (.f 0 <| .f 1 <| .f 2 <| .f 3 <| .f 4 <| .f 5 <| .f 6 <| .f 7 <| .f 8 <| .f 10 <| .f 11 <| .f 12 <| .a <| .b 9 (.a <| .b 13 (.f 14 <| .a <| .b 15 (.f 16 <| .a <| .b 17 (.d) .e) .e) .e) <| .b 13 (.a <| .b 9 (.f 14 <| .a <| .b 15 (.f 16 <| .a <| .b 17 (.d) .e) .e) .e) .e) (by kernel_rfl) ?_)|(with_reducible refine cA ?_;first|refine aJ.D ?_|refine aJ.F (by simp only[seval,go_sem,eg,dJ];rfl) (by first|(simp only[seval,go_sem,g1,g2,g3,bt,e1])) (by first|(simp only[seval,go_sem,g1,g2,g3,bt,e1];with_reducible rfl)|(simp(disch:=omega)only[seval,go_sem,cI,g1,g2,g3,bt,e1];with_reducible rfl)) ?_|refine aJ.A ?_)|(with_reducible first|exact aI.E|refine aI.B (by simp only[seval,go_sem,eg,dJ];rfl) ?_ ?_)|simp only[seval,go_sem,g1,g2,g3,bt,e1]|((with_reducible refine au ?_);((with_reducible first|refine ah.step (by simp only[seval,go_sem,g1,g2,g3,bt,e1];rfl) ?_);refine dI (st:=[]) ?_))|(with_reducible refine br ?_;refine dX mix (by kernel_rfl) ?_)|(with_reducible first|refine aV (st:=[]) ?_|refine dO (by simp(disch:=omega)only[seval,go_sem,cI,g1,g2,g3,bt,e1];rfl) ?_|refine ai (by simp(disch:=omega)only[seval,go_sem,cI,g1,g2,g3,bt,e1];rfl) ?_))))
      all_goals(try(refine aP (j2) (by simp only[seval,go_sem,hsw]) ?_ ?_<;>(try(omega))))
      all_goals(try exact ⟨by omega,hst⟩)
     ·rw[aE (by simp[hb])] at hst;rw[hins hst.symm,Sn]
      ((repeat'(first|simp only[seval,go_sem,g1,g2,bt,e1,dM,fm]|(with_reducible refine br ?_;refine dX mix (by kernel_rfl) ?_)|(with_reducible refine aB ?_;(refine aC.gu 37 (by simp only[seval,go_sem];rfl) (by simp only[seval,go_sem,g1,g2,bt,e1,dM,fm];rfl) ?_);(with_reducible refine aB ?_;refine aC.q rfl (by with_unfolding_all (show iq _ _ [.cell 4 31,.tmp 5,.tmp 6]=_);simp only[seval,go_sem];rfl) (by simp only[seval,go_sem];rfl) (by decide) (by simp only[seval,go_sem];rfl) (by simp only[seval,go_sem];rfl) rfl ?_<;>(try simp only[seval,go_sem,g1,g2,bt,e1,dM,fm])<;>(repeat'(with_reducible apply And.intro))<;>(try rfl)))|(with_reducible first|refine aV (st:=[]) ?_|refine dO (by simp(disch:=omega)only[seval,go_sem,cI,g1,g2,bt,e1,dM,fm];rfl) ?_))))
  ·have h3:=g2 hp;have hm:=wG hp
   have hk2:k+1<=l.length:=by
    have hm2:∀ i:Nat,1<=i->i<=k+1->(i:Int)∈l.map (·.num):=fun i a b=>by
     by_cases e:i=k+1
     ·subst e;rw[show ((k+1:Nat):Int)=1+(k:Int) by omega];exact hm
     ·exact hmem i a (by omega)
    have:=EX (k+1) _ hm2
    rwa [dD] at this
   generalize eO (1+(k:Int)) l 0=z at hic hp;((repeat'(first|simp only[seval,go_sem]|((with_reducible refine bJ ?_);refine aq.c (hic) ?_)|(with_reducible first|refine aD (st:=[]) ?_|refine aV (st:=[]) ?_|refine ai (by simp(disch:=omega)only[seval,go_sem,cI];rfl) ?_))));all_goals(try(refine aP (k+1) (by simp only[seval,go_sem];first|((repeat'(with_reducible apply And.intro))<;>first|rfl)) ?_ ?_<;>(try(omega))))
   all_goals(try exact ⟨hk2,h3,fun i a b=>by
     by_cases e:i=k+1
     ·subst e;rw[show ((k+1:Nat):Int)=1+(k:Int) by omega];exact hm
     ·exact hmem i a (by omega)⟩)
end Go.Proofs.YteemiclhnfkekaaGreat
