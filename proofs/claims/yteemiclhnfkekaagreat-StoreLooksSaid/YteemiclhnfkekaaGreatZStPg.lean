/- The program's pages walked: Split, Shared, Join. -/
import Derived.Test.YteemiclhnfkekaaGreatZArM
set_option linter.unusedSimpArgs false
set_option linter.unusedVariables false
set_option maxRecDepth 100000
set_option maxHeartbeats 6400000
namespace Go.Proofs.YteemiclhnfkekaaGreat
open Go.RowKit Go.eB Go.Proofs.Tryz
theorem OT {n S:Nat} (hS:0<S) (i:Nat):((i:Int)<yV n S)↔i*S<n:=by
 have h1:=Nat.div_add_mod n S;have h2:=Nat.mod_lt n hS
 have e:yV n S=((n/S+(if n%S=0 then 0 else 1):Nat):Int):=by
  unfold yV;rw[<- Int.natCast_emod, <- Int.natCast_ediv];by_cases h:n%S=0
  ·rw[aE (by omega),bC h];omega
  ·rw[bC (by omega),aE h];omega
 rw[e,Int.ofNat_lt];generalize n/S=q at *;generalize n%S=r at *;rcases SF i q with h|h|h
 ·have:(i+1)*S<=q*S:=M8 S h;rw[sN,Nat.mul_comm q S] at this;constructor<;>intro _<;>(try split)<;>omega
 ·subst h;rw[Nat.mul_comm i S]
  split<;>constructor<;>intro _<;>omega
 ·have:(q+1)*S<=i*S:=M8 S h;rw[sN,Nat.mul_comm q S] at this
  split<;>constructor<;>intro _<;>omega
theorem yy {n sz p lo up hi:Int} (h1:IntKind.i64.wrap (p*sz)=lo) (hp:0<=p/\p<=1000) (h2:IntKind.i64.wrap ((p+1)*sz)=up) (h3:(up<=n/\hi=up)\/(n<up/\hi=n)):ak prog 149 [i6 n,i6 sz,i6 p] (.sc (.complex .f64 (floatOfInt .f64 lo) (floatOfInt .f64 hi))) []:=by
 have hpa:=hp.1;have hpb:=hp.2;rcases h3 with ⟨h,rfl⟩|⟨h,rfl⟩
 focus
  have hmn:(if n<hi then n else hi)=hi:=aE (by omega);have hZ:=(And.intro h1 (And.intro h2 (And.intro hmn (And.intro hpa hpb))))
 rotate_left 1
 focus
  have hmn:(if hi<up then hi else up)=hi:=bC h;have hZ:=(And.intro h1 (And.intro h2 (And.intro hmn (And.intro hpa hpb))))
 rotate_left 1;all_goals(refine bR [] [] [.tmp 6] func149 (by kernel_rfl) ntmps149 rfl rfl rfl ⟨rfl,rfl⟩ (by simp(disch:=omega)only[seval,go_sem,cI,List.replicate,l_2,l_1];rfl) ?_)
 all_goals((repeat'(first|simp only[seval,go_sem,hZ]|((with_reducible refine au ?_);first|(with_reducible refine IU ?_;with_reducible refine ah.Zu underlying3 underlying195 (by simp only[seval,go_sem,hZ]) (by simp only[seval,go_sem,hZ];rfl) (by simp only[seval,go_sem,hZ];rfl) ?_;refine dI (st:=[]) ?_)|(with_reducible refine ah.Lp (by simp only[seval,go_sem,hZ]) (by simp only[seval,go_sem,hZ];rfl) (by simp only[seval,go_sem,hZ];rfl) (by simp only[seval,go_sem,hZ];rfl) ?_;refine dI (st:=[]) ?_))|(with_reducible first|refine aV (st:=[]) ?_|refine ai (by simp(disch:=omega)only[seval,go_sem,cI,hZ];rfl) ?_))))
theorem Cb {a b:List Int} (ha:∀ z∈a,0<=z/\z<=255) (hb:∀ z∈b,0<=z/\z<=255):ak prog 158 [.sl 1 (a.map cF), .sl 1 (b.map cF)] (.sc (.bool (decide (a=b)))) []:=by
 have VE:=yf ha hb;refine bR [] [] [.tmp 4] func158 (by kernel_rfl) ntmps158 rfl rfl rfl ⟨rfl,rfl⟩ (by simp(disch:=omega)only[seval,go_sem,cI,List.replicate,l_2,l_1];rfl) ?_;((repeat'(first|simp only[seval,go_sem,bA,VE]|(with_reducible refine aV (st:=[]) ?_)|(with_reducible refine ai (by simp(disch:=omega)only[seval,go_sem,cI,bA,VE];rfl) ?_))))
theorem gI {b:List Int} {sz:Int} (hb:b.length<=200) (h1:8<=sz) (h2:sz<=1024):ak prog 81 [.sl 1 (b.map cF),i6 sz] (.cT [.sl 1 ((aR b sz).1.map bP),i6 (aR b sz).2]) []:=by
 have e:aR b sz=(chunks sz.toNat b.length b,0):=by rw[aR,aE (by omega)]
 rw[e];obtain ⟨S,rfl⟩:=M7 (show 0<=sz by omega);simp only[Int.toNat_natCast];generalize hC:chunks S b.length b=C;have BD:=CA (a:=b.length) (b:=(S:Int)) (by omega) (by omega) ⟨by omega,by omega⟩
 have hK0:((0:Nat):Int)<=yV b.length S:=by
  unfold yV;have:0<=(b.length:Int)/(S:Int):=Int.ediv_nonneg (by omega) (by omega)
  split<;>omega
 have hK:=OT (n:=b.length) (S:=S) (by omega);generalize yV b.length S=K at *;refine dL [] [15,29,31,40,41,42,60] func81 (by kernel_rfl) ntmps81 rfl rfl ⟨rfl,rfl⟩ (by simp(disch:=omega)only[seval,go_sem,cI,List.replicate,l_2,l_1];rfl) ?_;((repeat'(first|simp only[seval,go_sem]|((with_reducible refine bJ ?_);refine aq.c (BD) ?_)|(with_reducible first|refine aD (st:=[]) ?_|refine aV (st:=[]) ?_|refine ai (by simp(disch:=omega)only[seval,go_sem,cI];rfl) ?_))));all_goals(refine ay.fT 8 60 1 (by first|(simp only[seval,go_sem])) (by first|(simp only[seval,go_sem])) (by simp only[seval,go_sem];rfl) ?_)
 all_goals(with_reducible refine ay.cX (fun (t:Nat×List (List Int))=>[(22,i6 t.1),(8,.cW 60 1 0 t.2.length),(9,.any),(10,.any)]++aN 23 21) (fun (t:Nat×List (List Int))=>[(60,.row 1 (t.2.map bP)),(29,.dead),(31,.dead),(40,.dead),(41,.dead),(42,.dead)]) (fun (t:Nat×List (List Int))=>(t.1:Int)<=K/\t.1<=b.length/\t.2.length=t.1/\t.2++chunks S b.length (b.drop (t.1*S))=C) (fun (t:Nat×List (List Int))=>b.length-t.1) ((0,[])) (⟨hK0,ek _,rfl,by simpa using hC⟩) (by intro _;simp(disch:=omega)only[seval,go_sem,cI];rfl) (by simp only[seval,go_sem]) (fun t hI=>?_))
 all_goals
  obtain ⟨i,a⟩:=t;obtain ⟨hiK,hib,tU,hf⟩:=hI;simp only at hiK hib tU hf ⊢;have dM:(a.map bP).length=a.length:=dD _;by_cases hlt:(i:Int)<K
  ·have hi:=(hK i).1 hlt;have hmul:i*S+S=(i+1)*S:=by rw[sN,Qu]
   have hiS:i<=i*S:=Nat.le_mul_of_pos_right i (by omega);have hw1:IntKind.i64.wrap ((i:Int)*(S:Int))=((i*S:Nat):Int):=by rw[<- Int.natCast_mul,IntKind.wrap_i64];omega
   have YE:IntKind.i64.wrap (((i:Int)+1)*(S:Int))=(((i+1)*S:Nat):Int):=by
    rw[show ((i:Int)+1)=((i+1:Nat):Int) by omega, <- Int.natCast_mul,IntKind.wrap_i64];omega
   rw[vw (by omega) hi,hmul] at hf;generalize hlo:i*S=lo at *;generalize VA:(i+1)*S=up at *;by_cases hc:up<=b.length
   ·have hsp:=yy (n:=b.length) (sz:=S) (p:=i) (lo:=lo) (up:=up) (hi:=up) hw1 (by omega) YE (.inl ⟨by omega,rfl⟩);have hts:((b.map cF).take up).drop lo=((b.drop lo).take S).map cF:=by rw[Qt,RZ, <- hmul,List.drop_take,Sy]
    have j8:(((b.drop lo).take S).map cF).length=S:=by simp;omega
    have fm:(((b.drop lo).take S).map cF).take S=((b.drop lo).take S).map cF:=lu (by rw[j8];omega);have UI:=mT (P:=prog) (s:=195) (t:=3) (a:=((lo:Nat):Int)) underlying195 underlying3 (by omega) (by omega);have X6:=mT (P:=prog) (s:=195) (t:=3) (a:=((up:Nat):Int)) underlying195 underlying3 (by omega) (by omega)
    (all_goals(try have hZ:=(And.intro hts (And.intro j8 (And.intro fm (And.intro dM (And.intro UI X6))))));(repeat'(first|simp only[seval,go_sem,Int.toNat_natCast,hZ]|((with_reducible refine bJ ?_);(refine aq.c (hsp) ?_;simp only[seval,go_sem,Int.toNat_natCast,hZ];(fail_if_success (with_reducible refine xI ?_))))|((with_reducible refine au ?_);first|(with_reducible refine aD (st:=[]) ?_)|(with_reducible refine ah.P0 (by simp only[seval,go_sem,Int.toNat_natCast,hZ]) (by simp only[seval,go_sem,Int.toNat_natCast,hZ];rfl) (by simp only[seval,go_sem,Int.toNat_natCast,hZ];rfl) ?_;refine dI (st:=[]) ?_)|(with_reducible refine ah.P3 (by simp only[seval,go_sem,Int.toNat_natCast,hZ]) (by simp only[seval,go_sem,Int.toNat_natCast,hZ];rfl) (by simp only[seval,go_sem,Int.toNat_natCast,hZ];rfl) ?_;refine dI (st:=[]) ?_)|(with_reducible refine ah.gu 40 (by simp only[seval,go_sem,Int.toNat_natCast,hZ];rfl) (by simp only[seval,go_sem,Int.toNat_natCast,hZ];rfl) ?_;refine dI (st:=[]) ?_))|(with_reducible first|refine aV (st:=[]) ?_|refine ai (by simp(disch:=omega)only[seval,go_sem,cI,Int.toNat_natCast,hZ];rfl) ?_)));all_goals(try clear hZ))
    all_goals(try((refine kN ((i+1,a++[(b.drop lo).take S])) (cZ.wJ 42 60 (by decide) (by first|(simp only[seval,go_sem])) (by simp only[seval,go_sem];rfl) (cZ.Bn (by simp only[seval,go_sem,bP,vN,fk,eN,bW,List.length_cons,List.length_nil];first|((repeat'(with_reducible apply And.intro))<;>first|rfl)))) ?_ ?_)<;>(try(omega))))
    all_goals(try exact ⟨by simp only;omega,by simp only;omega,by simp only[bW,List.length_cons,List.length_nil];omega,by simp only[lR,List.cons_append,List.nil_append,VA];exact hf⟩)
    all_goals done
   ·have hsp:=yy (n:=b.length) (sz:=S) (p:=i) (lo:=lo) (up:=up) (hi:=b.length) hw1 (by omega) YE (.inr ⟨by omega,rfl⟩);have hts:(b.map cF).drop lo=((b.drop lo).take S).map cF:=by rw[Qt,RZ,lu (by simp;omega)]
    have j8:(((b.drop lo).take S).map cF).length=b.length-lo:=by simp;omega
    have fm:(((b.drop lo).take S).map cF).take (b.length-lo)=((b.drop lo).take S).map cF:=lu (by rw[j8];omega);have UI:=mT (P:=prog) (s:=195) (t:=3) (a:=((lo:Nat):Int)) underlying195 underlying3 (by omega) (by omega);have X6:=mT (P:=prog) (s:=195) (t:=3) (a:=(b.length:Int)) underlying195 underlying3 (by omega) (by omega)
    (all_goals(try have hZ:=(And.intro hts (And.intro j8 (And.intro fm (And.intro dM (And.intro UI X6))))));(repeat'(first|simp only[seval,go_sem,Int.toNat_natCast,hZ]|((with_reducible refine bJ ?_);(refine aq.c (hsp) ?_;simp only[seval,go_sem,Int.toNat_natCast,hZ];(fail_if_success (with_reducible refine xI ?_))))|((with_reducible refine au ?_);first|(with_reducible refine aD (st:=[]) ?_)|(with_reducible refine ah.P0 (by simp only[seval,go_sem,Int.toNat_natCast,hZ]) (by simp only[seval,go_sem,Int.toNat_natCast,hZ];rfl) (by simp only[seval,go_sem,Int.toNat_natCast,hZ];rfl) ?_;refine dI (st:=[]) ?_)|(with_reducible refine ah.P3 (by simp only[seval,go_sem,Int.toNat_natCast,hZ]) (by simp only[seval,go_sem,Int.toNat_natCast,hZ];rfl) (by simp only[seval,go_sem,Int.toNat_natCast,hZ];rfl) ?_;refine dI (st:=[]) ?_)|(with_reducible refine ah.gu 40 (by simp only[seval,go_sem,Int.toNat_natCast,hZ];rfl) (by simp only[seval,go_sem,Int.toNat_natCast,hZ];rfl) ?_;refine dI (st:=[]) ?_))|(with_reducible first|refine aV (st:=[]) ?_|refine ai (by simp(disch:=omega)only[seval,go_sem,cI,Int.toNat_natCast,hZ];rfl) ?_)));all_goals(try clear hZ))
    all_goals(try((refine kN ((i+1,a++[(b.drop lo).take S])) (cZ.wJ 42 60 (by decide) (by first|(simp only[seval,go_sem])) (by simp only[seval,go_sem];rfl) (cZ.Bn (by simp only[seval,go_sem,bP,vN,fk,eN,bW,List.length_cons,List.length_nil];first|((repeat'(with_reducible apply And.intro))<;>first|rfl)))) ?_ ?_)<;>(try(omega))))
    all_goals(try exact ⟨by simp only;omega,by simp only;omega,by simp only[bW,List.length_cons,List.length_nil];omega,by simp only[lR,List.cons_append,List.nil_append,VA];exact hf⟩)
    all_goals done
  ·have hge:b.length<=i*S:=Qr fun h=>hlt ((hK i).2 h);rw[yd hge,yM] at hf;subst hf;have fm:(a.map bP).take a.length=a.map bP:=lu (by rw[dM];exact iU _)
   ((repeat'(first|simp only[seval,go_sem,dM,fm]|(with_reducible refine aB ?_;(refine aC.gu 60 (by simp only[seval,go_sem];rfl) (by simp only[seval,go_sem,dM,fm];rfl) ?_);(with_reducible refine aB ?_;refine aC.q rfl rfl (by simp only[seval,go_sem];rfl) (by decide) (by simp only[seval,go_sem];rfl) (by simp only[seval,go_sem];rfl) rfl ?_<;>(try simp only[seval,go_sem,dM,fm])<;>(repeat'(with_reducible apply And.intro))<;>(try rfl)))|(with_reducible first|refine aV (st:=[]) ?_|refine ai (by simp(disch:=omega)only[seval,go_sem,cI,dM,fm];rfl) ?_))))
   all_goals done
theorem oS {os ns:List (List Int)} (ho:os.length<=1000000) (hn:ns.length<=1000000) (Cn:∀ x∈os,∀ z∈x,0<=z/\z<=255) (hnb:∀ x∈ns,∀ z∈x,0<=z/\z<=255):ak prog 87 [.sl 1 (os.map bP), .sl 1 (ns.map bP)] (.sl 1 ((bB os ns).map cz)) []:=by
 generalize hR:bB os ns=R;refine dP [] [26,28,29,60] func87 rfl call87 rfl (by decide) (by decide) rfl rfl ntmps87 (by simp(disch:=omega)only[seval,go_sem,cI,List.replicate,l_2,l_1];rfl) (by simp(disch:=omega)only[seval,go_sem,cI,l_2,l_1];rfl) ?_;((repeat'(first|(with_reducible refine aV (st:=[26]) ?_)|simp only[seval,go_sem])));all_goals(refine ay.fT 5 60 1 (by first|(simp only[seval,go_sem])) (by first|(simp only[seval,go_sem])) (by simp only[seval,go_sem];rfl) ?_)
 all_goals(with_reducible refine ay.PL (fun (t:Nat×List Bool)=>[(10,i6 t.1),(5,.cW 60 1 0 t.2.length),(6,.any),(7,.any),(11,.any),(12,.any),(13,.any),(14,.any),(15,.any),(16,.any),(17,.any),(18,.any),(19,.any),(20,.any),(21,.any),(22,.any),(23,.any),(24,.any),(25,.any),(26,.any),(27,.any),(28,.any),(29,.any),(30,.any)]) (fun (t:Nat×List Bool)=>[(60,.row 1 (t.2.map cz)),(26,.dead),(28,.dead),(29,.dead)]) (fun (t:Nat×List Bool)=>t.1<=ns.length/\t.2.length=t.1/\t.2++bB (os.drop t.1) (ns.drop t.1)=R) (fun (t:Nat×List Bool)=>ns.length-t.1) ((0,[])) (⟨ek _,by simp,by simpa using hR⟩) (by intro _;simp(disch:=omega)only[seval,go_sem,cI];rfl) (by intro _;simp(disch:=omega)only[seval,go_sem,cI];rfl) (by (refine bL ?_);(try simp only[seval,go_sem])) (by (refine bX ?_);(try simp only[seval,go_sem])) (fun t hI=>?_))
 all_goals
  obtain ⟨i,a⟩:=t;obtain ⟨hi,tU,hf⟩:=hI;simp only at hi tU hf ⊢;have dM:(a.map cz).length=a.length:=dD _;by_cases hlt:i<ns.length
  ·obtain ⟨x,hx⟩:=aZ hlt;have hx':=get_map bP hx;rw[aH hx] at hf;by_cases hc:i<os.length
   ·obtain ⟨o,Nj⟩:=aZ hc;have ho':=get_map bP Nj;rw[aH Nj,bB] at hf;have Yy:=Cb (Cn o (fS Nj)) (hnb x (fS hx));((repeat'(first|((with_reducible refine au ?_);((with_reducible refine cy ?_);((with_reducible refine aD (st:=[26]) ?_);simp only[seval,go_sem,bP,hx',ho',dM];(refine aq.c (Yy) ?_))))|(with_reducible refine aV (st:=[26]) ?_)|simp only[seval,go_sem,bP,hx',ho',dM]|(with_reducible refine ai (by simp(disch:=omega)only[seval,go_sem,cI,bP,hx',ho',dM];rfl) ?_))))
    all_goals(try((refine Dv ((i+1,a++[decide (o=x)])) (cZ.wJ 29 60 (by decide) (by first|(simp only[seval,go_sem])) (by simp only[seval,go_sem];rfl) (cZ.PA (by (refine bL ?_);(try simp only[seval,go_sem,cz,vN,fk,eN,bW,List.length_cons,List.length_nil]);first|((repeat'(with_reducible apply And.intro))<;>first|rfl)) (by (refine bX ?_);(try simp only[seval,go_sem,cz,vN,fk,eN,bW,List.length_cons,List.length_nil])))) ?_ ?_)<;>(try(omega))))
    all_goals(try exact ⟨by simp only;omega,by simp only[bW,List.length_cons,List.length_nil];omega,by simp only[lR,List.cons_append,List.nil_append];exact hf⟩)
    all_goals done
   ·rw[j9 (by omega),bB] at hf;have hcd:decide ((i:Int)<(os.length:Int))=false:=Ii (by omega);have w6:(os.map bP).length=os.length:=dD _;((repeat'(first|((with_reducible refine au ?_);((with_reducible first|refine ah.step (by simp only[seval,go_sem,bP,hx',dM,hcd,w6];rfl) ?_);refine dI (st:=[26]) ?_))|(with_reducible refine aV (st:=[26]) ?_)|simp only[seval,go_sem,bP,hx',dM,hcd,w6]|(with_reducible refine ai (by simp(disch:=omega)only[seval,go_sem,cI,bP,hx',dM,hcd,w6];rfl) ?_))))
    all_goals(try((refine Dv ((i+1,a++[false])) (cZ.wJ 29 60 (by decide) (by first|(simp only[seval,go_sem])) (by simp only[seval,go_sem];rfl) (cZ.PA (by (refine bL ?_);(try simp only[seval,go_sem,cz,vN,fk,eN,bW,List.length_cons,List.length_nil]);first|((repeat'(with_reducible apply And.intro))<;>first|rfl)) (by (refine bX ?_);(try simp only[seval,go_sem,cz,vN,fk,eN,bW,List.length_cons,List.length_nil])))) ?_ ?_)<;>(try(omega))))
    all_goals(try exact ⟨by simp only;omega,by simp only[bW,List.length_cons,List.length_nil];omega,by simp only[lR,List.cons_append,List.nil_append,j9 (show os.length<=i+1 by omega)];exact hf⟩)
    all_goals done
  ·rw[j9 (show ns.length<=i by omega)] at hf;have hz:bB (os.drop i) []=[]:=by cases os.drop i<;>rfl
   rw[hz,yM] at hf;subst hf;have fm:(a.map cz).take a.length=a.map cz:=lu (by rw[dM];exact iU _)
   ((repeat'(first|(with_reducible refine aB ?_;(refine aC.gu 60 (by simp only[seval,go_sem];rfl) (by simp only[seval,go_sem,dM,fm];rfl) ?_);(with_reducible refine aB ?_;refine aC.q rfl rfl (by simp only[seval,go_sem];rfl) (by decide) (by simp only[seval,go_sem];rfl) (by simp only[seval,go_sem];rfl) rfl ?_<;>(try simp only[seval,go_sem,dM,fm])<;>(repeat'(with_reducible apply And.intro))<;>(try rfl)))|(with_reducible refine aV (st:=[26]) ?_)|simp only[seval,go_sem,dM,fm]|(with_reducible refine ai (by simp(disch:=omega)only[seval,go_sem,cI,dM,fm];rfl) ?_))))
   all_goals done
def qT (l:List (List Int)):List Int:=l.flatten
theorem Gj {l:List (List Int)} (hl:l.length<=1000) (hx:∀ x∈l,x.length<=2000):ak prog 60 [.sl 1 (l.map bP)] (.sl 1 ((qT l).map cF)) []:=by
 have hfl:∀ i,((l.take i).flatten).length<=2000*i:=by
  intro i
  induction i with
  | zero=>simp
  | succ i ih=>
    by_cases hi:i<l.length
    ·obtain ⟨x,HX⟩:=aZ hi;have:=hx x (fS HX);rw[HY,HX];simp only[Option.toList_some,Pd,bW,List.flatten_cons,List.flatten_nil,yM];omega
    ·rw[lu (by omega)] at ih ⊢;omega
 refine dL [] [14,60] func60 (by kernel_rfl) ntmps60 rfl rfl ⟨rfl,rfl⟩ (by simp(disch:=omega)only[seval,go_sem,cI,List.replicate,l_2,l_1];rfl) ?_;((repeat'(first|simp only[seval,go_sem]|(with_reducible refine aV (st:=[]) ?_))));all_goals(refine ay.fT 3 60 1 (by first|(simp only[seval,go_sem])) (by first|(simp only[seval,go_sem])) (by simp only[seval,go_sem];rfl) ?_)
 all_goals(with_reducible refine ay.cX (fun (i:Nat)=>[(8,i6 i),(3,.cW 60 1 0 ((l.take i).flatten).length),(5,.any)]++aN 9 7) (fun (i:Nat)=>[(60,.row 1 (((l.take i).flatten).map cF)),(14,.dead)]) (fun (i:Nat)=>i<=l.length) (fun (i:Nat)=>l.length-i) (0) (ek _) (by intro _;simp(disch:=omega)only[seval,go_sem,cI];rfl) (by simp only[seval,go_sem]) (fun i hI=>?_))
 all_goals
  have nW:=hfl i;by_cases hlt:i<l.length
  ·obtain ⟨x,HX⟩:=aZ hlt;have hx':=get_map bP HX;have pP:=hx x (fS HX);have fm:(l.take (i+1)).flatten=(l.take i).flatten++x:=by rw[HY,HX];simp
   have dM:(((l.take i).flatten).map cF).length=((l.take i).flatten).length:=dD _;generalize (l.take i).flatten=F at *;((repeat'(first|simp only[seval,go_sem,bP,hx',dM]|(with_reducible first|refine aV (st:=[]) ?_|refine ai (by simp(disch:=omega)only[seval,go_sem,cI,bP,hx',dM];rfl) ?_))));all_goals(try((refine kN (i+1) (cZ.wJ 14 60 (by decide) (by first|(simp only[seval,go_sem])) (by simp only[seval,go_sem];rfl) (cZ.Bn (by simp only[seval,go_sem,fm,vN,bW];first|((repeat'(with_reducible apply And.intro))<;>first|rfl)))) ?_ ?_)<;>(try(omega))))
   all_goals done
  ·have e:l.take i=l:=lu (by omega);rw[e] at nW ⊢;have fm:((l.flatten).map cF).take l.flatten.length=(l.flatten).map cF:=lu (by rw[dD];exact iU _);have dM:((l.flatten).map cF).length=l.flatten.length:=dD _;unfold qT;generalize l.flatten=F at *
   ((repeat'(first|simp only[seval,go_sem,dM,fm]|(with_reducible refine aB ?_;(refine aC.gu 60 (by simp only[seval,go_sem];rfl) (by simp only[seval,go_sem,dM,fm];rfl) ?_);(with_reducible refine aB ?_;refine aC.q rfl rfl (by simp only[seval,go_sem];rfl) (by decide) (by simp only[seval,go_sem];rfl) (by simp only[seval,go_sem];rfl) rfl ?_<;>(try simp only[seval,go_sem,dM,fm])<;>(repeat'(with_reducible apply And.intro))<;>(try rfl)))|(with_reducible first|refine aV (st:=[]) ?_|refine ai (by simp(disch:=omega)only[seval,go_sem,cI,dM,fm];rfl) ?_))))
   all_goals done
def OU (o:Ob):Value×D:=(.int .i64 o.id, .sl 4 (o.bu.map aL))
def fV (l:List Ob):List (Value×D):=l.map OU
abbrev iT (n1 n2 n3:Nat) (a1 a2 a3 a4 a5 a6 a7 com last cap:Int) (os:List Ob) (bs:List Bd) (ps:List Pn) (pg:List Pg):List Go.eB.Obj:=[.box [.sc (.int .i64 a1),.sc (.int .i64 a2),.sc (.int .i64 a3),.sc (.int .i64 a4),.sc (.int .i64 a5),.sc (.int .i64 a6),.sc (.int .i64 a7),.sc (.int .i64 com),.mp n1,.sc (.int .i64 last),.sl 4 (bs.map ag),.sl 2 (ps.map aW),.ref n2 0],.ext (xD (.int .i64) (fV os)),.box [.sc (.int .i64 cap),.mp n3],.ext (eO (.int .i64) (dR (c9 pg)))]
attribute [go_sem] iT
theorem Jk:fV []=[]:=rfl
theorem Gk {l:List Ob} {o:Ob}:fV l++[(.int .i64 o.id, .sl 4 (o.bu.map aL))]=fV (l++[o]):=by simp[fV,OU]
theorem El (n:Int):∀ (l:List Ob) (k:Nat),(cU n l k = -1/\(∀ o∈l,o.id≠n)/\l9 (.int .i64 n) (fV l)=none/\∀ v,qa (.int .i64 n) v (fV l)=fV l++[(.int .i64 n,v)])\/
  ∃ j o,l[j]? = some o/\o.id=n/\cU n l k=((k+j:Nat):Int)/\l9 (.int .i64 n) (fV l)=some (.sl 4 (o.bu.map aL))/\(∀ vs,qa (.int .i64 n) (.sl 4 (vs.map aL)) (fV l)=fV (l.set j ⟨n,vs⟩))/\xC (.int .i64 n) (fV l)=fV (l.eraseIdx j)
 | [],k=> .inl ⟨rfl,by simp,rfl,fun _=>rfl⟩
 | p::l,k=>by
   have e1:l9 (.int .i64 n) (fV (p::l))=if oa (.int .i64 p.id) (.int .i64 n)=true then some (.sl 4 (p.bu.map aL)) else l9 (.int .i64 n) (fV l):=rfl;have e2:∀ v,qa (.int .i64 n) v (fV (p::l))=if oa (.int .i64 p.id) (.int .i64 n)=true then (.int .i64 n,v)::fV l else OU p::qa (.int .i64 n) v (fV l):=fun _=>rfl;have e3:xC (.int .i64 n) (fV (p::l))=if oa (.int .i64 p.id) (.int .i64 n)=true then fV l else OU p::xC (.int .i64 n) (fV l):=rfl;rw[e1,e3,E0];simp only[e2,E0];by_cases hc:p.id=n
   ·refine .inr ⟨0,p,rfl,hc,by rw[cU,bC hc];rfl,by rw[bC (by simpa using hc)],fun vs=>by rw[bC (by simpa using hc)];rfl,by rw[bC (by simpa using hc)];rfl⟩
   ·rcases El n l (k+1) with ⟨h1,h2,h3,h4⟩|⟨j,o,h1,h2,h3,h4,h5,h6⟩
    ·refine .inl ⟨by rw[cU,aE hc];exact h1,fun o ho=>?_,by rw[aE (by simpa using hc)];exact h3,fun v=>by rw[aE (by simpa using hc),h4];rfl⟩;rcases lp.1 ho with rfl|ho
     ·exact hc
     ·exact h2 o ho
    ·refine .inr ⟨j+1,o,by simpa using h1,h2,by rw[cU,aE hc,h3];omega,by rw[aE (by simpa using hc)];exact h4,fun vs=>by rw[aE (by simpa using hc),h5];rfl,by rw[aE (by simpa using hc),h6];rfl⟩
def eM (l:List Ob) (n:Int):List fE:=if cU n l 0<0 then [] else (dm l (cU n l 0)).bu
theorem rz (n:Int) (l:List Ob):(cU n l 0 = -1/\(∀ o∈l,o.id≠n)/\l9 (.int .i64 n) (fV l)=none/\(∀ v,qa (.int .i64 n) v (fV l)=fV l++[(.int .i64 n,v)])/\eM l n=[])\/
  ∃ (j:Nat) (o:Ob),l[j]? = some o/\o.id=n/\cU n l 0=(j:Int)/\l9 (.int .i64 n) (fV l)=some (.sl 4 (o.bu.map aL))/\(∀ vs,qa (.int .i64 n) (.sl 4 (vs.map aL)) (fV l)=fV (dz l (j:Int) vs))/\xC (.int .i64 n) (fV l)=fV (ic l (j:Int))/\eM l n=o.bu/\dm l (j:Int)=o:=by
 rcases El n l 0 with ⟨h1,h2,h3,h4⟩|⟨j,o,h1,h2,h3,h4,h5,h6⟩
 ·exact .inl ⟨h1,h2,h3,h4,by rw[eM,bC (by omega)]⟩
 ·rw[kO] at h3;have hg:dm l (j:Int)=o:=by simp[dm,h1]
  refine .inr ⟨j,o,h1,h2,h3,h4,fun vs=>?_,by rw[mN];exact h6,by rw[eM,aE (by omega),h3,hg],hg⟩;rw[h5,dz,hg,h2,Int.toNat_natCast]
def er (s:Sr) (n:ByteArray) (c:Int):Int×fE×Int:=
 if eG s c≠0 then (0,zeroV,eG s c) else if (b9 n c s.binds).2=false then (0,zeroV,8) else
 if (gf c (eM s.objs (b9 n c s.binds).1) 0).2=false then (0,zeroV,8) else ((b9 n c s.binds).1,yg (eM s.objs (b9 n c s.binds).1) (gf c (eM s.objs (b9 n c s.binds).1) 0).1,0)
end Go.Proofs.YteemiclhnfkekaaGreat
