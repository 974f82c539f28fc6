/- Chain: IndexFunc and Remove of the program, RemoveVersion of the reference, ints of the law. -/
import Derived.Test.YteemiclhnfkekaaGreatZStE
set_option linter.unusedSimpArgs false
set_option linter.unusedVariables false
set_option maxRecDepth 100000
set_option maxHeartbeats 3200000
namespace Go.Proofs.YteemiclhnfkekaaGreat
open Go.RowKit Go.fe Tryz
theorem zw {v:fE} {c:Int}:ak prog 182 [.agg [i6 v.from_,i6 v.to,i6 v.size, .sl 1 (v.pages.map cN)], .ro [i6 c]] (.sc (.bool (decide (v.from_=c)))) []:=by
 refine bR [] [2] [.tmp 3] func182 (by kernel_rfl) ntmps182 rfl rfl rfl ⟨rfl,rfl⟩ (by simp(disch:=omega)only[seval,go_sem,cI,List.replicate,l_2,l_1];rfl) ?_;((repeat'(first|simp only[seval,go_sem]|(with_reducible refine aV (st:=[]) ?_)|(with_reducible refine ai (by simp(disch:=omega)only[seval,go_sem,cI];rfl) ?_))))
theorem tq {vs:List fE} {c:Int} (hl:vs.length<=100000):ak prog 181 [.sl 4 (vs.map aL), .fn 182 [.ro [i6 c]]] (i6 (lu c vs 0)) []:=by
 refine bR [] [16] [.tmp 4] func181 (by kernel_rfl) ntmps181 rfl rfl rfl ⟨rfl,rfl⟩ (by simp(disch:=omega)only[seval,go_sem,cI,List.replicate,l_2,l_1];rfl) ?_;((repeat'(first|simp only[seval,go_sem]|(with_reducible refine aV (st:=[]) ?_))));(with_reducible refine ay.cX (fun (k:Nat)=>[(8,i6 k),(4,.any),(5,.any)]++aN 9 10) (fun (k:Nat)=>[(16,.dead)]) (fun (k:Nat)=>k<=vs.length/\lu c (vs.drop k) k=lu c vs 0) (fun (k:Nat)=>vs.length-k) (0) (⟨ek _,rfl⟩) (by intro _;simp(disch:=omega)only[seval,go_sem,cI];rfl) (by simp only[seval,go_sem]) (fun k hI=>?_));obtain ⟨hk,hf⟩:=hI;by_cases hlt:k<vs.length
 ·obtain ⟨v,hv⟩:=aZ hlt;have fL:=get_map aL hv
  ((repeat'(first|(with_reducible refine cB ?_;intro hc;(try simp only[fH,reduceCtorEq] at hc);(try(exfalso;omega)))|simp only[seval,go_sem,fL,aL]|((with_reducible refine bJ ?_);refine aq.c (zw) ?_)|(with_reducible first|refine aD (st:=[]) ?_|refine aV (st:=[]) ?_|refine ai (by simp(disch:=omega)only[seval,go_sem,cI,fL,aL];rfl) ?_|refine cO (cL ?_) (cL ?_)))))
  all_goals(try(refine aP (k+1) ?_ ?_ ?_<;>(first|(with_reducible refine lD ?_<;>simp only[seval,go_sem]<;>(repeat'(with_reducible apply And.intro))<;>(try rfl))|skip)<;>(try(omega))))
  ·rw[<- hf,aH hv];simp[lu, *]
  ·refine ⟨by omega,?_⟩;rw[<- hf,aH hv];simp[lu, *]
 ·((repeat'(first|simp only[seval,go_sem]|(with_reducible refine aV (st:=[]) ?_)|(with_reducible refine ai (by simp(disch:=omega)only[seval,go_sem,cI];rfl) ?_))))
  all_goals(rw[<- hf,j9 (by omega)];simp[lu])
theorem BQ {vs:List fE} {c:Int} (hl:vs.length<=100000) (hp:∀ v∈vs,v.pages.length<=1000000):ak prog 128 [.sl 4 (vs.map aL),i6 c]
  (.cT [.cW 0 4 0 (aS vs c).1.length, .agg (aL (aS vs c).2.1),i6 (aS vs c).2.2]) [.row 4 ((aS vs c).1.map aL)]:=by
 refine dL [] [3,5,9,11,14,26] func128 (by kernel_rfl) ntmps128 rfl rfl ⟨rfl,rfl⟩ (by simp(disch:=omega)only[seval,go_sem,cI,List.replicate,l_2,l_1];rfl) ?_;rcases lT c vs 0 with h|⟨j,v,hv,hc,h⟩
 ·((repeat'(first|simp only[seval,go_sem,h]|((with_reducible refine bJ ?_);first|refine aq.n (jM ?_ ?_) ?_|refine aq.c (tq ?_) ?_)|(with_reducible refine aD (st:=[]) ?_)|(with_reducible refine aB ?_;(refine aC.fT 4 26 4 (by first|(simp only[seval,go_sem])) (by first|(simp only[seval,go_sem])) (by simp only[seval,go_sem];rfl) ?_);(with_reducible refine aB ?_;refine aC.q rfl (by with_unfolding_all (show iq _ _ [.tmp 4,.cell 5 105,.tmp 6]=_);simp only[seval,go_sem];rfl) (by simp only[seval,go_sem];rfl) (by decide) (by simp only[seval,go_sem];rfl) (by simp only[seval,go_sem];rfl) rfl ?_<;>(try simp only[seval,go_sem,h])<;>(repeat'(with_reducible apply And.intro))<;>(try rfl)))|(with_reducible first|refine aV (st:=[]) ?_|refine ai (by simp(disch:=omega)only[seval,go_sem,cI,h];rfl) ?_)))<;>(try((with_reducible assumption))))
  all_goals simp[aS,h,zeroV,aL]
  all_goals(first|exact j3.cons (nW.refl _) (j3.cons (nW.refl _) (j3.cons (nW.refl _) (j3.cons (nW.nil _) j3.nil)))|(simp[qP,zO];done))
 ·rw[kO] at h;have fL:=get_map aL hv;have hj:=(jL.1 hv).1;have hj0:¬ ((j:Int)<0):=by omega
  have e:aS vs c=(vs.take j++vs.drop (j+1),v,0):=by
   rw[aS,aE (by omega),h,Int.toNat_natCast,hv];rfl
  rw[e];simp only[aL]
  ((repeat'(first|(with_reducible refine aY 6 ?_;refine ay.bU 6 mix 9 rfl (.f 0 <| .f 1 <| .f 2 <| .f 3 <| .a <| .b 4 (.f 6 <| .a <| .b 5 (.a <| .b 7 (.f 8 <| .d) .e) .e) <| .b 5 (.a <| .b 4 (.f 6 <| .a <| .b 7 (.f 8 <| .d) .e) .e) .e) (by kernel_rfl) ?_)|(with_reducible refine cA ?_;first|refine aJ.D ?_|refine aJ.F (by simp only[seval,go_sem,eg,dJ];rfl) (by first|(simp only[seval,go_sem,aL,h,fL])) (by first|(simp only[seval,go_sem,aL,h,fL];with_reducible rfl)|(simp(disch:=omega)only[seval,go_sem,cI,aL,h,fL];with_reducible rfl)) ?_|refine aJ.A ?_)|(with_reducible first|exact aI.E|refine aI.B (by simp only[seval,go_sem,eg,dJ];rfl) ?_ ?_)|simp only[seval,go_sem,aL,h,fL]|((with_reducible refine bJ ?_);first|refine aq.n (jM ?_ ?_) ?_|refine aq.c (tq ?_) ?_)|((with_reducible refine au ?_);first|((with_reducible refine cq (st:=[]) 0 ?_);simp only[seval,go_sem,aL,h,fL];refine bZ.n (LM ?_ ?_ ?_ ?_ ?_) ?_)|(with_reducible refine aD (st:=[]) ?_)|((with_reducible first|refine ah.step (by simp only[seval,go_sem,aL,h,fL];rfl) ?_);refine dI (st:=[]) ?_))|(with_reducible refine aB ?_;refine fl (rs:=[.tmp 4,.cell 5 105,.tmp 6]) (by with_unfolding_all rfl) rfl ?_<;>simp only[seval,go_sem]<;>(repeat'(with_reducible apply And.intro))<;>(try rfl))|(with_reducible first|refine aV (st:=[]) ?_|refine ai (by simp(disch:=omega)only[seval,go_sem,cI,aL,h,fL];rfl) ?_)))<;>(try(first|(with_reducible assumption)|((with_reducible show (_:Int)<=_);omega)|((with_reducible show (_:Nat)<=_);omega))))
  all_goals(first|exact j3.refl _|exact lQ _|rfl|(simp;done)|(simp;omega)|omega)
theorem oF {vs:List fE} {c:Int} (hl:vs.length<=100000) (hp:∀ v∈vs,v.pages.length<=1000000):ak prog 128 [.sl 4 (vs.map aL),i6 c]
  (.cT [.sl 4 ((aS vs c).1.map aL), .agg (aL (aS vs c).2.1),i6 (aS vs c).2.2]) []:=by
 have h:=ak.freeze (BQ (c:=c) hl hp);simpa[j5,nh,fB,zP] using h
set_option maxHeartbeats 6400000
theorem Rx {a1 a2 a3 a4 a5 a6 a7 com last cap:Int} {os:List Ob} {bs:List Bd} {ps:List Pn} {pg:List Pg} {n:ByteArray} (hb:bs.length<=100000) (h:(b9 n com bs).2=false):aF prog 35 (iP 1 2 3 a1 a2 a3 a4 a5 a6 a7 com last cap os bs ps pg) [.ref 0 0,.sc (.string n)] (.cT [i6 0,i6 8]) (iP 1 2 3 a1 a2 a3 a4 a5 a6 a7 com last cap os bs ps pg):=by
 have hlk:=lR (l:=bs) (n:=n) (c:=com) hb;rw[h] at hlk;refine bR [1000,1001,1002,1003] [18,24,48,62] [.tmp 4,.tmp 5] func35 (by kernel_rfl) ntmps35 rfl rfl rfl (by first|simp only[seval,go_sem,lH]) (by simp(disch:=omega)only[seval,go_sem,cI,List.replicate,l_2,l_1];rfl) ?_;((repeat'(first|simp only[seval,go_sem]|(with_reducible refine br ?_;refine dX mix (by kernel_rfl) ?_)|(with_reducible refine gQ ?_)|((with_reducible refine nA ?_);refine fO.c (hlk) ?_)|(with_reducible refine aV (st:=[]) ?_))));all_goals done
theorem Ow {a1 a2 a3 a4 a5 a6 a7 com last cap:Int} {os:List Ob} {bs:List Bd} {ps:List Pn} {pg:List Pg} {n:ByteArray} (hb:bs.length<=100000) (h:(b9 n com bs).2=true) (d1:a6<=com):aF prog 35 (iP 1 2 3 a1 a2 a3 a4 a5 a6 a7 com last cap os bs ps pg) [.ref 0 0,.sc (.string n)] (.cT [i6 0,i6 14]) (iP 1 2 3 a1 a2 a3 a4 a5 a6 a7 com last cap os bs ps pg):=by
 have hlk:=lR (l:=bs) (n:=n) (c:=com) hb;rw[h] at hlk;refine bR [1000,1001,1002,1003] [18,24,48,62] [.tmp 4,.tmp 5] func35 (by kernel_rfl) ntmps35 rfl rfl rfl (by first|simp only[seval,go_sem,lH]) (by simp(disch:=omega)only[seval,go_sem,cI,List.replicate,l_2,l_1];rfl) ?_;((repeat'(first|simp only[seval,go_sem,d1]|((with_reducible refine au ?_);((with_reducible refine cq (st:=[]) 2 ?_);simp only[seval,go_sem,d1];refine bZ.c (gC) ?_))|(with_reducible refine br ?_;refine dX mix (by kernel_rfl) ?_)|(with_reducible refine gQ ?_)|((with_reducible refine nA ?_);refine fO.c (hlk) ?_)|(with_reducible refine aV (st:=[]) ?_))));all_goals done
theorem UL {a1 a2 a3 a4 a5 a6 a7 com last cap:Int} {os:List Ob} {bs:List Bd} {ps:List Pn} {pg:List Pg} {n:ByteArray} {id:Int} (hb:bs.length<=100000) (hv:∀ o∈os,o.bu.length<=100000) (Bw:∀ o∈os,∀ v∈o.bu,v.pages.length<=1000000) (vP:0<=com) (hrb:com<=1000000) (hl:b9 n com bs=(id,true)) (Cm:¬ cU id os 0<0) (d1:¬ a6<=com):
  aF prog 35 (iP 1 2 3 a1 a2 a3 a4 a5 a6 a7 com last cap os bs ps pg) [.ref 0 0, .sc (.string n)] (.cT [i6 (com+1),i6 0]) (iP 1 2 3 a1 a2 a3 a4 a5 a6 a7 (com+1) last cap ((dz os (cU id os 0) (dW (eL os id) (com+1)).1)) ((bI bs n (com+1)).1) ps pg):=by
 have hlk:=lR (l:=bs) (n:=n) (c:=com) hb;rw[hl] at hlk;have Yr:=BR (l:=bs) (n:=n) (c:=com+1) hb;rcases ri id os with ⟨q1,_⟩|⟨j,o,q1,q2,q3,q4,q5,q6,q7,q8⟩
 ·exact absurd (show cU id os 0<0 by rw[q1];omega) Cm
 rw[q3,q7];have wR:=HY (vs:=o.bu) (c:=com+1) (hv o (fS q1)) (Bw o (fS q1));have fN:=q5 (dW o.bu (com+1)).1;generalize dW o.bu (com+1)=CV at *;obtain ⟨cv,ce⟩:=CV;generalize bI bs n (com+1)=UB at *;obtain ⟨ub,ue⟩:=UB;simp only at wR fN Yr hlk ⊢;refine bR [1000,1001,1002,1003] [18,24,48,62] [.tmp 4,.tmp 5] func35 (by kernel_rfl) ntmps35 rfl rfl rfl (by first|simp only[seval,go_sem,lH]) (by simp(disch:=omega)only[seval,go_sem,cI,List.replicate,l_2,l_1];rfl) ?_
 ((repeat'(first|(with_reducible exact jt)|(with_reducible refine aY 7 ?_;with_reducible apply ay.pR;refine ay.bU 7 mix 20 rfl (.f 0 <| .f 1 <| .f 2 <| .f 4 <| .f 5 <| .f 6 <| .f 7 <| .f 9 <| .f 11 <| .f 12 <| .f 13 <| .a <| .b 3 (.a <| .b 8 (.a <| .b 10 (.a <| .b 14 (.a <| .b 15 (.f 16 <| .f 17 <| .f 18 <| .a <| .b 19 (.d) .e) .e) .e) <| .b 14 (.a <| .b 10 (.a <| .b 15 (.f 16 <| .f 17 <| .f 18 <| .a <| .b 19 (.d) .e) .e) .e) .e) <| .b 14 (.a <| .b 8 (.a <| .b 10 (.a <| .b 15 (.f 16 <| .f 17 <| .f 18 <| .a <| .b 19 (.d) .e) .e) .e) .e) .e) <| .b 8 (.a <| .b 3 (.a <| .b 10 (.a <| .b 14 (.a <| .b 15 (.f 16 <| .f 17 <| .f 18 <| .a <| .b 19 (.d) .e) .e) .e) <| .b 14 (.a <| .b 10 (.a <| .b 15 (.f 16 <| .f 17 <| .f 18 <| .a <| .b 19 (.d) .e) .e) .e) .e) <| .b 10 (.a <| .b 3 (.a <| .b 14 (.a <| .b 15 (.f 16 <| .f 17 <| .f 18 <| .a <| .b 19 (.d) .e) .e) .e) <| .b 14 (.a <| .b 3 (.a <| .b 15 (.f 16 <| .f 17 <| .f 18 <| .a <| .b 19 (.d) .e) .e) <| .b 15 (.f 16 <| .f 17 <| .f 18 <| .a <| .b 3 (.a <| .b 19 (.d) .e) .e) .e) .e) <| .b 14 (.a <| .b 3 (.a <| .b 10 (.a <| .b 15 (.f 16 <| .f 17 <| .f 18 <| .a <| .b 19 (.d) .e) .e) .e) <| .b 10 (.a <| .b 3 (.a <| .b 15 (.f 16 <| .f 17 <| .f 18 <| .a <| .b 19 (.d) .e) .e) <| .b 15 (.f 16 <| .f 17 <| .f 18 <| .a <| .b 3 (.a <| .b 19 (.d) .e) .e) .e) .e) .e) <| .b 14 (.a <| .b 3 (.a <| .b 8 (.a <| .b 10 (.a <| .b 15 (.f 16 <| .f 17 <| .f 18 <| .a <| .b 19 (.d) .e) .e) .e) .e) <| .b 8 (.a <| .b 3 (.a <| .b 10 (.a <| .b 15 (.f 16 <| .f 17 <| .f 18 <| .a <| .b 19 (.d) .e) .e) .e) <| .b 10 (.a <| .b 3 (.a <| .b 15 (.f 16 <| .f 17 <| .f 18 <| .a <| .b 19 (.d) .e) .e) <| .b 15 (.f 16 <| .f 17 <| .f 18 <| .a <| .b 3 (.a <| .b 19 (.d) .e) .e) .e) .e) .e) .e) (by kernel_rfl) ?_)|(with_reducible refine aY 8 ?_;with_reducible apply ay.pR;refine ay.bU 8 mix 17 rfl (.f 0 <| .f 1 <| .f 2 <| .f 3 <| .f 5 <| .f 6 <| .f 7 <| .f 8 <| .a <| .b 4 (.a <| .b 9 (.a <| .b 10 (.f 11 <| .f 12 <| .f 13 <| .f 14 <| .f 15 <| .a <| .b 16 (.d) .e) .e) .e) <| .b 9 (.a <| .b 4 (.a <| .b 10 (.f 11 <| .f 12 <| .f 13 <| .f 14 <| .f 15 <| .a <| .b 16 (.d) .e) .e) .e) .e) (by kernel_rfl) ?_)|(with_reducible refine cA ?_;first|refine aJ.D ?_|refine aJ.Fn (by simp only[seval,go_sem,eg,dJ];rfl) (by first|(simp only[seval,go_sem,d1,q4,fN];with_reducible rfl)) ?_|refine aJ.F (by simp only[seval,go_sem,eg,dJ];rfl) (by first|(simp only[seval,go_sem,d1,q4,fN])) (by first|(simp only[seval,go_sem,d1,q4,fN];with_reducible rfl)) ?_|refine aJ.A ?_)|(with_reducible first|exact aI.E|refine aI.B (by simp only[seval,go_sem,eg,dJ];rfl) ?_ ?_)|simp only[seval,go_sem,d1,q4,fN]|((with_reducible refine bJ ?_);first|refine aq.c (wR) ?_|refine aq.c (Yr) ?_)|((with_reducible refine au ?_);first|((with_reducible refine cq (st:=[]) 2 ?_);simp only[seval,go_sem,d1,q4,fN];refine bZ.c (gC) ?_)|(with_reducible refine aD (st:=[]) ?_)|((with_reducible first|refine ah.step (by simp only[seval,go_sem,d1,q4,fN];rfl) ?_);refine dI (st:=[]) ?_)|(with_reducible refine gA ?_;with_reducible refine ah.lookup (by simp only[seval,go_sem,d1,q4,fN]) (by simp only[seval,go_sem,d1,q4,fN];rfl) (by simp only[seval,go_sem,d1,q4,fN];rfl) (by simp only[seval,go_sem,d1,q4,fN];rfl) (by simp only[seval,go_sem,d1,q4,fN];rfl) (by simp only[seval,go_sem,d1,q4,fN];rfl) (by simp only[seval,go_sem,d1,q4,fN];rfl) (by simp only[seval,go_sem,d1,q4,fN];rfl) (by simp only[seval,go_sem,d1,q4,fN];rfl) (by simp only[seval,go_sem,d1,q4,fN]) (by simp only[seval,go_sem,d1,q4,fN];rfl) (by simp only[seval,go_sem,d1,q4,fN];rfl) ?_;refine dI (st:=[]) ?_)|(with_reducible refine kS ?_;with_reducible refine ah.mapUpdate (by simp only[seval,go_sem,d1,q4,fN]) (by simp only[seval,go_sem,d1,q4,fN];rfl) (by simp only[seval,go_sem,d1,q4,fN];rfl) (by simp only[seval,go_sem,d1,q4,fN];rfl) (by simp only[seval,go_sem,d1,q4,fN];rfl) (by simp only[seval,go_sem,d1,q4,fN];rfl) (by simp only[seval,go_sem,d1,q4,fN];rfl) (by simp only[seval,go_sem,d1,q4,fN];rfl) (by simp only[seval,go_sem,d1,q4,fN]) (by simp only[seval,go_sem,d1,q4,fN];rfl) (by simp only[seval,go_sem,d1,q4,fN]) (by simp only[seval,go_sem,d1,q4,fN];rfl) ?_;refine dI (st:=[]) ?_))|(with_reducible refine br ?_;refine dX mix (by kernel_rfl) ?_)|(with_reducible refine gQ ?_)|((with_reducible refine nA ?_);refine fO.c (hlk) ?_)|(with_reducible first|refine aV (st:=[]) ?_|refine ai (by simp(disch:=omega)only[seval,go_sem,cI,d1,q4,fN];rfl) ?_))))
 all_goals done
def mB:Ar->List Int->Ar
 | a,[]=>a
 | a,n::l=>mB (pF a n).1 l
theorem xC (n:Int):∀ (l:List Int) (a:Ar),mB a (l++[n])=(pF (mB a l) n).1
 | [],_=>rfl
 | x::l,a=>by rw[List.cons_append,mB,xC n l,mB]
theorem DB (a:Ar) (n:Int):(pF a n).1.cap=a.cap:=by
 unfold pF
 split
 ·rfl
 ·split<;>rfl
theorem AH:∀ (l:List Int) (a:Ar),(mB a l).cap=a.cap
 | [],_=>rfl
 | x::l,a=>by rw[mB];exact (AH l _).trans (DB a x)
def VC (s:Sr) (id f:Int):Sr×Int:=
 if (aS (eL s.objs id) f).2.2≠0 then (s,8) else if (aS (eL s.objs id) f).2.1.to=0\/dY (aS (eL s.objs id) f).2.1.from_ (aS (eL s.objs id) f).2.1.to s.pins=true then (s,17) else
 ({ s with objs:=if (aS (eL s.objs id) f).1.length=0 then ic s.objs (cU id s.objs 0) else dz s.objs (cU id s.objs 0) (aS (eL s.objs id) f).1,ar:=mB s.ar (aS (eL s.objs id) f).2.1.pages },0)
theorem mV (c:Int):aS [] c=([],zeroV,8):=rfl
theorem LN {a1 a2 a3 a4 a5 a6 a7 com last cap:Int} {os:List Ob} {bs:List Bd} {ps:List Pn} {pg:List Pg} {id f:Int} (hv:∀ o∈os,o.bu.length<=100000) (Bw:∀ o∈os,∀ v∈o.bu,v.pages.length<=1000000) (h:(aS (eL os id) f).2.2≠0):aF prog 56 (iP 1 2 3 a1 a2 a3 a4 a5 a6 a7 com last cap os bs ps pg) [.ref 0 0,i6 id,i6 f] (i6 8) (iP 1 2 3 a1 a2 a3 a4 a5 a6 a7 com last cap os bs ps pg):=by
 rcases ri id os with ⟨q1,q2,q3,q4,q5⟩|⟨j,o,q1,q2,q3,q4,q5,q6,q7,q8⟩
 ·have hrm:=oF (vs:=[]) (c:=f) (by simp) (by simp);rw[mV] at hrm;simp only[eM,aL,zeroV] at hrm;have hrm:=aF.args hrm (j3.cons (nW.nil 4) (j3.refl _));refine bR [1000,1001,1002,1003] [8,20,38,52] [.tmp 6] func56 (by kernel_rfl) ntmps56 rfl rfl rfl (by first|simp only[seval,go_sem,lH]) (by simp(disch:=omega)only[seval,go_sem,cI,List.replicate,l_2,l_1];rfl) ?_
  ((repeat'(first|simp only[seval,go_sem,q3]|((with_reducible refine bJ ?_);refine aq.c (hrm) ?_)|((with_reducible refine au ?_);first|(with_reducible refine aD (st:=[]) ?_)|(with_reducible refine gA ?_;with_reducible refine ah.lookup (by simp only[seval,go_sem,q3]) (by simp only[seval,go_sem,q3];rfl) (by simp only[seval,go_sem,q3];rfl) (by simp only[seval,go_sem,q3];rfl) (by simp only[seval,go_sem,q3];rfl) (by simp only[seval,go_sem,q3];rfl) (by simp only[seval,go_sem,q3];rfl) (by simp only[seval,go_sem,q3];rfl) (by simp only[seval,go_sem,q3];rfl) (by simp only[seval,go_sem,q3]) (by simp only[seval,go_sem,q3];rfl) (by simp only[seval,go_sem,q3];rfl) ?_;refine dI (st:=[]) ?_))|(with_reducible first|refine aV (st:=[]) ?_|refine ai (by simp(disch:=omega)only[seval,go_sem,cI,q3];rfl) ?_))))
  all_goals done
 ·have hrm:=oF (vs:=o.bu) (c:=f) (hv o (fS q1)) (Bw o (fS q1));rw[q7] at h;generalize aS o.bu f=X at *;obtain ⟨x,⟨vf,vt,vs,vp⟩,e⟩:=X;simp only[aL] at hrm h;refine bR [1000,1001,1002,1003] [8,20,38,52] [.tmp 6] func56 (by kernel_rfl) ntmps56 rfl rfl rfl (by first|simp only[seval,go_sem,lH]) (by simp(disch:=omega)only[seval,go_sem,cI,List.replicate,l_2,l_1];rfl) ?_
  ((repeat'(first|simp only[seval,go_sem,q4,h]|((with_reducible refine bJ ?_);refine aq.c (hrm) ?_)|((with_reducible refine au ?_);first|(with_reducible refine aD (st:=[]) ?_)|(with_reducible refine gA ?_;with_reducible refine ah.lookup (by simp only[seval,go_sem,q4,h]) (by simp only[seval,go_sem,q4,h];rfl) (by simp only[seval,go_sem,q4,h];rfl) (by simp only[seval,go_sem,q4,h];rfl) (by simp only[seval,go_sem,q4,h];rfl) (by simp only[seval,go_sem,q4,h];rfl) (by simp only[seval,go_sem,q4,h];rfl) (by simp only[seval,go_sem,q4,h];rfl) (by simp only[seval,go_sem,q4,h];rfl) (by simp only[seval,go_sem,q4,h]) (by simp only[seval,go_sem,q4,h];rfl) (by simp only[seval,go_sem,q4,h];rfl) ?_;refine dI (st:=[]) ?_))|(with_reducible first|refine aV (st:=[]) ?_|refine ai (by simp(disch:=omega)only[seval,go_sem,cI,q4,h];rfl) ?_))))
  all_goals done
theorem LO {a1 a2 a3 a4 a5 a6 a7 com last cap:Int} {os:List Ob} {bs:List Bd} {ps:List Pn} {pg:List Pg} {id f:Int} (hp:ps.length<=100000) (hv:∀ o∈os,o.bu.length<=100000) (Bw:∀ o∈os,∀ v∈o.bu,v.pages.length<=1000000) (h:(aS (eL os id) f).2.2=0) (h2:(aS (eL os id) f).2.1.to=0\/dY (aS (eL os id) f).2.1.from_ (aS (eL os id) f).2.1.to ps=true):aF prog 56 (iP 1 2 3 a1 a2 a3 a4 a5 a6 a7 com last cap os bs ps pg) [.ref 0 0,i6 id,i6 f] (i6 17) (iP 1 2 3 a1 a2 a3 a4 a5 a6 a7 com last cap os bs ps pg):=by
 rcases ri id os with ⟨q1,q2,q3,q4,q5⟩|⟨j,o,q1,q2,q3,q4,q5,q6,q7,q8⟩
 ·rw[q5,mV] at h;simp at h
 ·have hrm:=oF (vs:=o.bu) (c:=f) (hv o (fS q1)) (Bw o (fS q1));rw[q7] at h h2;generalize aS o.bu f=X at *;obtain ⟨x,⟨vf,vt,vs,vp⟩,e⟩:=X;simp only[aL] at hrm h h2;subst h;have lF:=lN (l:=ps) (f:=vf) (t:=vt) hp;by_cases h3:vt=0
  ·subst h3;refine bR [1000,1001,1002,1003] [8,20,38,52] [.tmp 6] func56 (by kernel_rfl) ntmps56 rfl rfl rfl (by first|simp only[seval,go_sem,lH]) (by simp(disch:=omega)only[seval,go_sem,cI,List.replicate,l_2,l_1];rfl) ?_
   ((repeat'(first|simp only[seval,go_sem,q4]|((with_reducible refine bJ ?_);refine aq.c (hrm) ?_)|((with_reducible refine au ?_);first|(with_reducible refine aD (st:=[]) ?_)|(with_reducible refine gA ?_;with_reducible refine ah.lookup (by simp only[seval,go_sem,q4]) (by simp only[seval,go_sem,q4];rfl) (by simp only[seval,go_sem,q4];rfl) (by simp only[seval,go_sem,q4];rfl) (by simp only[seval,go_sem,q4];rfl) (by simp only[seval,go_sem,q4];rfl) (by simp only[seval,go_sem,q4];rfl) (by simp only[seval,go_sem,q4];rfl) (by simp only[seval,go_sem,q4];rfl) (by simp only[seval,go_sem,q4]) (by simp only[seval,go_sem,q4];rfl) (by simp only[seval,go_sem,q4];rfl) ?_;refine dI (st:=[]) ?_))|(with_reducible refine br ?_;refine dX mix (by kernel_rfl) ?_)|(with_reducible first|refine aV (st:=[]) ?_|refine dO (by simp(disch:=omega)only[seval,go_sem,cI,q4];rfl) ?_|refine ai (by simp(disch:=omega)only[seval,go_sem,cI,q4];rfl) ?_))))
   all_goals done
  ·rw[h2.resolve_left h3] at lF;refine bR [1000,1001,1002,1003] [8,20,38,52] [.tmp 6] func56 (by kernel_rfl) ntmps56 rfl rfl rfl (by first|simp only[seval,go_sem,lH]) (by simp(disch:=omega)only[seval,go_sem,cI,List.replicate,l_2,l_1];rfl) ?_
   ((repeat'(first|simp only[seval,go_sem,q4,h3]|((with_reducible refine bJ ?_);refine aq.c (hrm) ?_)|((with_reducible refine au ?_);first|(with_reducible refine aD (st:=[]) ?_)|(with_reducible refine gA ?_;with_reducible refine ah.lookup (by simp only[seval,go_sem,q4,h3]) (by simp only[seval,go_sem,q4,h3];rfl) (by simp only[seval,go_sem,q4,h3];rfl) (by simp only[seval,go_sem,q4,h3];rfl) (by simp only[seval,go_sem,q4,h3];rfl) (by simp only[seval,go_sem,q4,h3];rfl) (by simp only[seval,go_sem,q4,h3];rfl) (by simp only[seval,go_sem,q4,h3];rfl) (by simp only[seval,go_sem,q4,h3];rfl) (by simp only[seval,go_sem,q4,h3]) (by simp only[seval,go_sem,q4,h3];rfl) (by simp only[seval,go_sem,q4,h3];rfl) ?_;refine dI (st:=[]) ?_))|(with_reducible refine br ?_;refine dX mix (by kernel_rfl) ?_)|(with_reducible refine gQ ?_)|((with_reducible refine nA ?_);refine fO.c (lF) ?_)|(with_reducible first|refine aV (st:=[]) ?_|refine dO (by simp(disch:=omega)only[seval,go_sem,cI,q4,h3];rfl) ?_|refine ai (by simp(disch:=omega)only[seval,go_sem,cI,q4,h3];rfl) ?_))))
   all_goals done
theorem UM {a1 a2 a3 a4 a5 a6 a7 com last cap:Int} {os:List Ob} {bs:List Bd} {ps:List Pn} {pg:List Pg} {id f:Int} (hp:ps.length<=100000) (hv:∀ o∈os,o.bu.length<=100000) (Bw:∀ o∈os,∀ v∈o.bu,v.pages.length<=1000000) (h:(aS (eL os id) f).2.2=0) (h2:¬ (aS (eL os id) f).2.1.to=0) (h3:dY (aS (eL os id) f).2.1.from_ (aS (eL os id) f).2.1.to ps=false):
  aF prog 56 (iP 1 2 3 a1 a2 a3 a4 a5 a6 a7 com last cap os bs ps pg) [.ref 0 0,i6 id,i6 f] (i6 0) (iP 1 2 3 a1 a2 a3 a4 a5 a6 a7 com last cap ((if (aS (eL os id) f).1.length=0 then ic os (cU id os 0) else dz os (cU id os 0) (aS (eL os id) f).1)) bs ps ((mB ⟨cap,pg⟩ (aS (eL os id) f).2.1.pages).pages)):=by
 rcases ri id os with ⟨q1,q2,q3,q4,q5⟩|⟨j,o,q1,q2,q3,q4,q5,q6,q7,q8⟩
 ·rw[q5,mV] at h;simp at h
 ·have hrm:=oF (vs:=o.bu) (c:=f) (hv o (fS q1)) (Bw o (fS q1))
  have XG:(aS o.bu f).2.1.pages.length<=1000000:=by
   rcases lT f o.bu 0 with h|⟨i,v,fL,hc,h⟩
   ·simp[aS,h,zeroV]
   ·rw[kO] at h;rw[aS,aE (by omega),h,Int.toNat_natCast,fL];exact Bw o (fS q1) v (fS fL)
  have fN:=q5 (aS o.bu f).1;rw[q7] at h h2 h3 ⊢;rw[q3];generalize aS o.bu f=X at *;obtain ⟨x,⟨vf,vt,vs,vp⟩,e⟩:=X;simp only[aL] at hrm h h2 h3 fN XG ⊢;subst h;have lF:=lN (l:=ps) (f:=vf) (t:=vt) hp;rw[h3] at lF;refine bR [1000,1001,1002,1003] [8,20,38,52] [.tmp 6] func56 (by kernel_rfl) ntmps56 rfl rfl rfl (by first|simp only[seval,go_sem,lH]) (by simp(disch:=omega)only[seval,go_sem,cI,List.replicate,l_2,l_1];rfl) ?_
  ((repeat'(first|simp only[seval,go_sem,q4,h2]|((with_reducible refine bJ ?_);refine aq.c (hrm) ?_)|((with_reducible refine au ?_);first|(with_reducible refine aD (st:=[]) ?_)|(with_reducible refine gA ?_;with_reducible refine ah.lookup (by simp only[seval,go_sem,q4,h2]) (by simp only[seval,go_sem,q4,h2];rfl) (by simp only[seval,go_sem,q4,h2];rfl) (by simp only[seval,go_sem,q4,h2];rfl) (by simp only[seval,go_sem,q4,h2];rfl) (by simp only[seval,go_sem,q4,h2];rfl) (by simp only[seval,go_sem,q4,h2];rfl) (by simp only[seval,go_sem,q4,h2];rfl) (by simp only[seval,go_sem,q4,h2];rfl) (by simp only[seval,go_sem,q4,h2]) (by simp only[seval,go_sem,q4,h2];rfl) (by simp only[seval,go_sem,q4,h2];rfl) ?_;refine dI (st:=[]) ?_))|(with_reducible refine br ?_;refine dX mix (by kernel_rfl) ?_)|(with_reducible refine gQ ?_)|((with_reducible refine nA ?_);refine fO.c (lF) ?_)|(with_reducible first|refine aV (st:=[]) ?_|refine dO (by simp(disch:=omega)only[seval,go_sem,cI,q4,h2];rfl) ?_|refine ai (by simp(disch:=omega)only[seval,go_sem,cI,q4,h2];rfl) ?_))))
  all_goals(with_reducible refine ay.cX (fun (i:Nat)=>[(43,i6 i),(11,.any)]++aN 44 10) (fun (i:Nat)=>[(1003,.ext (eN (.int .i64) (dR (c9 (mB ⟨cap,pg⟩ (vp.take i)).pages)))),(52,.dead)]) (fun (i:Nat)=>i<=vp.length) (fun (i:Nat)=>vp.length-i) (0) (ek _) (by intro _;simp(disch:=omega)only[seval,go_sem,cI];rfl) (by simp only[seval,go_sem,List.take_zero,mB]) (fun i hI=>?_))
  all_goals
   by_cases hlt:i<vp.length
   ·obtain ⟨m,hm⟩:=aZ hlt;have hm':=get_map cN hm;have fm:vp.take (i+1)=vp.take i++[m]:=by rw[H7,hm];rfl
    have hac:=AH (vp.take i) ⟨cap,pg⟩;have wF:=xC m (vp.take i) ⟨cap,pg⟩;rw[<- fm] at wF;generalize mB ⟨cap,pg⟩ (vp.take i)=Y at *;obtain ⟨yc,yl⟩:=Y;simp only at hac wF ⊢;subst hac;have MS:=ES (cap:=yc) (l:=yl) (n:=m);have MT:(mB ⟨yc,pg⟩ (vp.take (i+1))).pages=(pF ⟨yc,yl⟩ m).1.pages:=by rw[wF]
    ((repeat'(first|simp only[seval,go_sem,hm',cN]|((with_reducible refine au ?_);((with_reducible refine cq (st:=[]) 1 ?_);simp only[seval,go_sem,hm',cN];refine bZ.c (MS) ?_))|(with_reducible first|refine aV (st:=[]) ?_|refine ai (by simp(disch:=omega)only[seval,go_sem,cI,hm',cN];rfl) ?_))))
    all_goals(try(refine aP (i+1) (by simp only[seval,go_sem,MT];first|((repeat'(with_reducible apply And.intro))<;>first|rfl)) ?_ ?_<;>(try(omega))))
    all_goals done
   ·have e1:i=vp.length:=by omega
    subst e1;rw[Na];by_cases hx:x.length=0
    ·simp only[hx,jg]
     ((repeat'(first|simp only[seval,go_sem,hx,q6]|((with_reducible refine au ?_);(with_reducible refine Cs ?_;with_reducible refine ah.Ix (by simp only[seval,go_sem,hx,q6]) (by simp only[seval,go_sem,hx,q6];rfl) (by simp only[seval,go_sem,hx,q6];rfl) (by simp only[seval,go_sem,hx,q6];rfl) (by simp only[seval,go_sem,hx,q6];rfl) (by simp only[seval,go_sem,hx,q6];rfl) (by simp only[seval,go_sem,hx,q6];rfl) (by simp only[seval,go_sem,hx,q6];rfl) (by simp only[seval,go_sem,hx,q6]) (by simp only[seval,go_sem,hx,q6];rfl) ?_;refine dI (st:=[]) ?_))|(with_reducible first|refine aV (st:=[]) ?_|refine ai (by simp(disch:=omega)only[seval,go_sem,cI,hx,q6];rfl) ?_))))
     all_goals done
    ·simp only[hx,jc]
     ((repeat'(first|simp only[seval,go_sem,hx,fN]|((with_reducible refine au ?_);(with_reducible refine kS ?_;with_reducible refine ah.mapUpdate (by simp only[seval,go_sem,hx,fN]) (by simp only[seval,go_sem,hx,fN];rfl) (by simp only[seval,go_sem,hx,fN];rfl) (by simp only[seval,go_sem,hx,fN];rfl) (by simp only[seval,go_sem,hx,fN];rfl) (by simp only[seval,go_sem,hx,fN];rfl) (by simp only[seval,go_sem,hx,fN];rfl) (by simp only[seval,go_sem,hx,fN];rfl) (by simp only[seval,go_sem,hx,fN]) (by simp only[seval,go_sem,hx,fN];rfl) (by simp only[seval,go_sem,hx,fN]) (by simp only[seval,go_sem,hx,fN];rfl) ?_;refine dI (st:=[]) ?_))|(with_reducible first|refine aV (st:=[]) ?_|refine ai (by simp(disch:=omega)only[seval,go_sem,cI,hx,fN];rfl) ?_))))
     all_goals done
structure tV (l:List Pg) (a:Ar):Prop where
 perm:l.Perm a.pages
 pM:vL (a.pages.map (·.num))
theorem oG {l:List Pg} (h:vL (l.map (·.num))):(l.map (·.num)).Nodup:=h.imp fun {a b} hab=>by omega
theorem tV.nodup {l:List Pg} {a:Ar} (h:tV l a):(l.map (·.num)).Nodup:=(h.perm.map _).nodup_iff.2 (oG h.pM)
theorem DC (n:Int) (l:List Pg):eO n l 0<0↔∀ p∈l,p.num≠n:=by
 rcases gb n l 0 with ⟨h1,h2⟩|⟨j,p,h1,h2,h3,_⟩
 ·exact ⟨fun _=>h2,fun _=>by omega⟩
 ·exact ⟨fun h=>by omega,fun h=>absurd h2 (h p (fS h1))⟩
theorem AJ {n:Int} {l m:List Pg} (h:l.Perm m):(eO n l 0<0)=(eO n m 0<0):=by
 rw[DC,DC];exact propext ⟨fun q p hp=>q p (h.mem_iff.2 hp),fun q p hp=>q p (h.mem_iff.1 hp)⟩
theorem xD {l m:List Pg} (h:l.Perm m):gO l=gO m:=by
 have key:∀ k n,ju l k n=ju m k n:=by
  intro k
  induction k with
  | zero=>intro n;rfl
  | succ k ih=>
    intro n;rw[ju,ju,ih];by_cases hq:eO n l 0<0
    ·rw[bC hq,bC (by rw[<- AJ h];exact hq)]
    ·rw[aE hq,aE (by rw[<- AJ h];exact hq)]
 unfold gO;rw[h.length_eq,key]
def tr (n r:Int) (l:List Pg):List Pg:=l.map fun p=>if p.num=n then ⟨p.num,r,p.data⟩ else p
theorem xF {n r:Int} {l m:List Pg} (h:l.Perm m):(tr n r l).Perm (tr n r m):=h.map _
theorem AK {n r:Int} {l:List Pg}:(tr n r l).map (·.num)=l.map (·.num):=by
 unfold tr;rw[Ia];refine Pr fun p _=>?_;simp only[Function.comp]
 split<;>rfl
theorem xH {n r:Int}:∀ {l:List Pg},(∀ p∈l,p.num≠n)->tr n r l=l
 | [],_=>rfl
 | p::l,h=>by
   show (if p.num=n then _ else p)::tr n r l=_;rw[aE (h p (by simp)),xH fun q hq=>h q (by simp[hq])]
theorem nQ {r:Int}:∀ {l:List Pg} {j:Nat} {p:Pg},(l.map (·.num)).Nodup->l[j]? = some p->l.set j ⟨p.num,r,p.data⟩=tr p.num r l
 | [],_,_,_,h=>by simp at h
 | q::l,0,p,hn,h=>by
   simp only[dJ,fF] at h;subst h;rw[fk,Nb] at hn;show _::l=(if q.num=q.num then _ else q)::tr q.num r l;rw[bC rfl,xH fun x hx e=>hn.1 (qu.2 ⟨x,hx,e⟩)]
 | q::l,j+1,p,hn,h=>by
   rw[fk,Nb] at hn;have hp:l[j]? = some p:=by simpa using h
   show q::l.set j _=(if q.num=p.num then _ else q)::tr p.num r l;rw[aE fun e=>hn.1 (qu.2 ⟨p,fS hp,e.symm⟩),nQ hn.2 hp]
def vl (n:Int) (l:List Pg):List Pg:=l.filter fun p=> !decide (p.num=n)
theorem FN {n:Int} {l:List Pg} (h:∀ p∈l,p.num≠n):vl n l=l:=List.filter_eq_self.2 fun p hp=>by simp[h p hp]
theorem FO {n:Int} {l m:List Pg} (h:l.Perm m):(vl n l).Perm (vl n m):=h.filter _
theorem uH:∀ {l:List Pg} {j:Nat} {p:Pg},(l.map (·.num)).Nodup->l[j]? = some p->l.eraseIdx j=vl p.num l
 | [],_,_,_,h=>by simp at h
 | q::l,0,p,hn,h=>by
   simp only[dJ,fF] at h;subst h;rw[fk,Nb] at hn;show l=vl q.num (q::l);unfold vl;rw[List.filter_cons_of_neg (by simp)];exact (FN fun x hx e=>hn.1 (qu.2 ⟨x,hx,e⟩)).symm
 | q::l,j+1,p,hn,h=>by
   rw[fk,Nb] at hn;have hp:l[j]? = some p:=by simpa using h
   show q::l.eraseIdx j=vl p.num (q::l);rw[uH hn.2 hp];unfold vl;rw[List.filter_cons_of_pos (by simpa using fun e=>hn.1 (qu.2 ⟨p,fS hp,e.symm⟩))]
def uI (cap:Int) (l:List Pg) (d:List Int):List Pg×Int×Int:=
 if 1024<(d.length:Int) then (l,0,11) else if cap<=(l.length:Int) then (l,0,14) else (l++[⟨gO l,1,d⟩],gO l,0)
theorem FP {l:List Pg} {a:Ar} {d:List Int} (h:tV l a):tV (uI a.cap l d).1 (dH a d).1/\(uI a.cap l d).2=(dH a d).2/\(dH a d).1.cap=a.cap:=by
 unfold uI dH;rw[h.perm.length_eq]
 split
 ·exact ⟨h,rfl,rfl⟩
 ·split
  ·exact ⟨h,rfl,rfl⟩
  ·have hf:=xI a.pages;refine ⟨⟨?_,AO h.pM hf⟩,by rw[xD h.perm],rfl⟩;rw[xD h.perm];refine List.Perm.trans ?_ (rH _ _ _).symm;exact (h.perm.append_right _).trans SF
theorem Ox {l:List Pg} {i j:Nat} {x y:Pg} (h:(l.map (·.num)).Nodup) (hx:l[i]? = some x) (hy:l[j]? = some y) (e:x.num=y.num):i=j:=by
 have h1:(l.map (·.num))[i]? = some x.num:=by rw[wH,hx];rfl
 have h2:(l.map (·.num))[j]? = some x.num:=by rw[wH,hy,e];rfl
 obtain ⟨hi,e1⟩:=jL.1 h1;obtain ⟨hj,e2⟩:=jL.1 h2;exact (List.getElem_inj h).1 (e1.trans e2.symm)
theorem IQ {l:List Pg} {a:Ar} {n:Int} (h:tV l a):((∀ p∈l,p.num≠n)/\eO n a.pages 0 = -1)\/∃ (i j:Nat) (p:Pg),l[i]? = some p/\a.pages[j]? = some p/\p.num=n/\eO n a.pages 0=(j:Int)/\fh a.pages (j:Int)=p:=by
 rcases gb n a.pages 0 with ⟨h1,h2⟩|⟨j,p,h1,h2,h3,_⟩
 ·exact .inl ⟨fun p hp=>h2 p (h.perm.mem_iff.1 hp),h1⟩
 ·obtain ⟨i,hi⟩:=JE.1 (h.perm.mem_iff.2 (fS h1));exact .inr ⟨i,j,p,hi,h1,h2,by rw[h3];simp,by simp[fh,h1]⟩
theorem IU {l:List Pg} {a:Ar} {n:Int} {i j:Nat} {p:Pg} (h:tV l a) (h1:l[i]? = some p) (h2:a.pages[j]? = some p) (h3:p.num=n) (h4:eO n a.pages 0=(j:Int)) (h5:fh a.pages (j:Int)=p):
  tV (l.set i ⟨p.num,wr (p.refs+1),p.data⟩) (dZ a n).1/\(dZ a n).2=0/\(dZ a n).1.cap=a.cap:=by
 have e:dZ a n=(⟨a.cap,a.pages.set j ⟨p.num,wr (p.refs+1),p.data⟩⟩,0):=by
  unfold dZ gl;rw[aE (by omega),h4,h5,Int.toNat_natCast]
 rw[e,nQ h.nodup h1,nQ (oG h.pM) h2];exact ⟨⟨xF h.perm,by simp only;rw[AK];exact h.pM⟩,rfl,rfl⟩
theorem BS {l:List Pg} {a:Ar} {n:Int} {i j:Nat} {p:Pg} (h:tV l a) (h1:l[i]? = some p) (h2:a.pages[j]? = some p) (h3:p.num=n) (h4:eO n a.pages 0=(j:Int)) (h5:fh a.pages (j:Int)=p):
  (0<wr (p.refs-1)->tV (l.set i ⟨p.num,wr (p.refs-1),p.data⟩) (b8 a n).1/\(b8 a n).2=(false,0))/\
  (¬ 0<wr (p.refs-1)->tV (l.eraseIdx i) (b8 a n).1/\(b8 a n).2=(true,0)):=by
 refine ⟨fun hq=>?_,fun hq=>?_⟩
 ·have e:b8 a n=(⟨a.cap,a.pages.set j ⟨p.num,wr (p.refs-1),p.data⟩⟩,false,0):=by
   simp only[b8,gl];rw[aE (by omega),h4,h5,bC hq,Int.toNat_natCast]
  rw[e,nQ h.nodup h1,nQ (oG h.pM) h2];exact ⟨⟨xF h.perm,by simp only;rw[AK];exact h.pM⟩,rfl⟩
 ·have e:b8 a n=(⟨a.cap,ic a.pages (j:Int)⟩,true,0):=by
   simp only[b8];rw[aE (by omega),h4,h5,aE hq]
  rw[e,mN,uH h.nodup h1,uH (oG h.pM) h2];refine ⟨⟨FO h.perm,?_⟩,rfl⟩;exact h.pM.sublist ((List.filter_sublist).map _)
end Go.Proofs.YteemiclhnfkekaaGreat
