/- The reference's pages, and the numbers and bytes of the laws: the walks. -/
import Derived.Test.YteemiclhnfkekaaGreatZSrP
set_option linter.unusedSimpArgs false
set_option linter.unusedVariables false
set_option maxRecDepth 100000
set_option maxHeartbeats 6400000
namespace Go.Proofs.YteemiclhnfkekaaGreat
open Go.RowKit Go.eB Go.Proofs.Tryz
def bP (x:List Int):List D:=[.sl 1 (x.map cF)]
def cz (b:Bool):List D:=[.sc (.bool b)]
theorem vv {sz:Nat} (h:1<=sz) (k:Nat):∀ (k':Nat) (l:List Int),l.length<=k->l.length<=k'->chunks sz k l=chunks sz k' l:=by
 induction k with
 | zero=>
   intro k' l h1 h2;cases k' with
   | zero=>rfl
   | succ k'=>rw[chunks,chunks,bC (by omega)]
 | succ k ih=>
   intro k' l h1 h2;cases k' with
   | zero=>rw[chunks,chunks,bC (by omega)]
   | succ k'=>
     rw[chunks,chunks]
     split
     ·rfl
     ·rw[ih k' (l.drop sz) (by rw[bQ];omega) (by rw[bQ];omega)]
theorem vw {sz:Nat} (h:1<=sz) {b:List Int} {i:Nat} (hi:i<b.length):chunks sz b.length (b.drop i)=(b.drop i).take sz::chunks sz b.length (b.drop (i+sz)):=by
 rw[vv h b.length ((b.length-1)+1) (b.drop i) (by rw[bQ];omega) (by rw[bQ];omega),chunks,aE (by rw[bQ];omega),List.drop_drop];rw[vv h (b.length-1) b.length (b.drop (i+sz)) (by rw[bQ];omega) (by rw[bQ];omega)]
theorem yd {sz k:Nat} {b:List Int} {i:Nat} (hi:b.length<=i):chunks sz k (b.drop i)=[]:=by
 rw[j9 hi];cases k<;>simp[chunks]
theorem tL {b:List Int} {sz:Int} (hb:b.length<=1000000) (h1:1<=sz) (h2:sz<=1024):ak prog 111 [.sl 1 (b.map cF),i6 sz] (.cT [.sl 1 ((aR b sz).1.map bP),i6 (aR b sz).2]) []:=by
 have e:aR b sz=(chunks sz.toNat b.length b,0):=by rw[aR,aE (by omega)]
 rw[e];obtain ⟨S,rfl⟩:=M7 (show 0<=sz by omega);simp only[Int.toNat_natCast];generalize hC:chunks S b.length b=C;refine dL [] [31,32,33] func111 (by kernel_rfl) ntmps111 rfl rfl ⟨rfl,rfl⟩ (by simp(disch:=omega)only[seval,go_sem,cI,List.replicate,l_2,l_1];rfl) ?_;((repeat'(first|simp only[seval,go_sem]|(with_reducible refine aV (st:=[]) ?_)|(with_reducible refine ai (by simp(disch:=omega)only[seval,go_sem,cI];rfl) ?_))));all_goals(refine ay.fT 6 33 1 (by first|(simp only[seval,go_sem])) (by first|(simp only[seval,go_sem])) (by simp only[seval,go_sem];rfl) ?_)
 all_goals(with_reducible refine ay.cX (fun (t:Nat×List (List Int))=>[(7,i6 t.1),(6,.cW 33 1 0 t.2.length)]++aN 14 20) (fun (t:Nat×List (List Int))=>[(33,.row 1 (t.2.map bP)),(31,.dead),(32,.dead)]) (fun (t:Nat×List (List Int))=>t.1<=b.length+S/\t.2.length<=t.1/\t.2++chunks S b.length (b.drop t.1)=C) (fun (t:Nat×List (List Int))=>b.length-t.1) ((0,[])) (⟨ek _,by simp,by simpa using hC⟩) (by intro _;simp(disch:=omega)only[seval,go_sem,cI];rfl) (by simp only[seval,go_sem]) (fun t hI=>?_))
 all_goals
  obtain ⟨i,a⟩:=t;obtain ⟨hi,tU,hf⟩:=hI;simp only at hi tU hf;have dM:(a.map bP).length=a.length:=dD _;by_cases hlt:i<b.length
  ·rw[vw (by omega) hlt] at hf;by_cases hc:i+S<=b.length
   ·have u0:((b.map cF).take (i+S)).drop i=((b.drop i).take S).map cF:=by rw[Qt,RZ,List.drop_take,Sy]
    have j8:(((b.drop i).take S).map cF).length=S:=by simp;omega
    have hmn:((i:Int)+S).toNat=i+S:=by omega
    have fm:(((b.drop i).take S).map cF).take S=((b.drop i).take S).map cF:=lu (by rw[j8];exact iU _)
    ((repeat'(first|simp only[seval,go_sem,dD,u0,j8,hmn,fm,dM]|((with_reducible refine au ?_);(with_reducible refine ah.gu 31 (by simp only[seval,go_sem,dD,u0,j8,hmn,fm,dM];rfl) (by simp only[seval,go_sem,dD,u0,j8,hmn,fm,dM];rfl) ?_;refine dI (st:=[]) ?_))|(with_reducible first|refine aV (st:=[]) ?_|refine ai (by simp(disch:=omega)only[seval,go_sem,cI,dD,u0,j8,hmn,fm,dM];rfl) ?_))))
    all_goals(try(refine aP ((i+S,a++[(b.drop i).take S])) (by simp only[seval,go_sem,bP];first|((repeat'(with_reducible apply And.intro))<;>first|rfl|(simp[bP];done))) ?_ ?_<;>(try(omega))))
    all_goals(try exact ⟨by simp only;omega,by simp only[bW,List.length_cons,List.length_nil];omega,by simp only[lR,List.cons_append,List.nil_append];exact hf⟩)
   ·have hts:(b.drop i).take S=b.drop i:=lu (by rw[bQ];omega);rw[hts] at hf;have u0:(b.map cF).drop i=(b.drop i).map cF:=RZ.symm;have j8:((b.drop i).map cF).length=b.length-i:=by simp
    have fm:((b.drop i).map cF).take (b.length-i)=(b.drop i).map cF:=lu (by rw[j8];exact iU _)
    ((repeat'(first|simp only[seval,go_sem,dD,u0,j8,fm,dM]|((with_reducible refine au ?_);(with_reducible refine ah.gu 31 (by simp only[seval,go_sem,dD,u0,j8,fm,dM];rfl) (by simp only[seval,go_sem,dD,u0,j8,fm,dM];rfl) ?_;refine dI (st:=[]) ?_))|(with_reducible first|refine aV (st:=[]) ?_|refine ai (by simp(disch:=omega)only[seval,go_sem,cI,dD,u0,j8,fm,dM];rfl) ?_))))
    all_goals(try(refine aP ((i+S,a++[b.drop i])) (by simp only[seval,go_sem,bP];first|((repeat'(with_reducible apply And.intro))<;>first|rfl|(simp[bP];done))) ?_ ?_<;>(try(omega))))
    all_goals(try exact ⟨by simp only;omega,by simp only[bW,List.length_cons,List.length_nil];omega,by simp only[lR,List.cons_append,List.nil_append];exact hf⟩)
  ·rw[yd (by omega),yM] at hf;subst hf;have fm:(a.map bP).take a.length=a.map bP:=lu (by rw[dM];exact iU _)
   ((repeat'(first|simp only[seval,go_sem,dM,fm]|(with_reducible refine aB ?_;(refine aC.gu 33 (by simp only[seval,go_sem];rfl) (by simp only[seval,go_sem,dM,fm];rfl) ?_);(with_reducible refine aB ?_;refine aC.q rfl rfl (by simp only[seval,go_sem];rfl) (by decide) (by simp only[seval,go_sem];rfl) (by simp only[seval,go_sem];rfl) rfl ?_<;>(try simp only[seval,go_sem,dM,fm])<;>(repeat'(with_reducible apply And.intro))<;>(try rfl)))|(with_reducible first|refine aV (st:=[]) ?_|refine ai (by simp(disch:=omega)only[seval,go_sem,cI,dM,fm];rfl) ?_))))
theorem bA:∀ zs:List Int,fZ Go.eB.byteOf (zs.map cF)=some zs
 | []=>rfl
 | z::zs=>by simp[fZ,cF,Go.eB.byteOf,bA zs]
theorem yf {a b:List Int} (ha:∀ z∈a,0<=z/\z<=255) (hb:∀ z∈b,0<=z/\z<=255):((strOfNums a).toList==(strOfNums b).toList)=decide (a=b):=by
 rw[SA,SA];simp only[strOfNums];rw[Bool.eq_iff_iff,nX,pQ];constructor
 ·intro h
  have key:∀ (a b:List Int),(∀ z∈a,0<=z/\z<=255)->(∀ z∈b,0<=z/\z<=255)->(a.map fun n=>UInt8.ofNat n.toNat)=(b.map fun n=>UInt8.ofNat n.toNat)->a=b:=by
   intro a
   induction a with
   | nil=>intro b _ _ h;cases b with
     | nil=>rfl
     | cons y b=>cases h
   | cons x a ih=>
     intro b ha hb h;cases b with
     | nil=>cases h
     | cons y b=>
       simp only[fk,Pq] at h;obtain ⟨h1,h2⟩:=h;have hx:=ha x (by simp);have hy:=hb y (by simp);have h3:=congrArg UInt8.toNat h1;simp only[UInt8.toNat_ofNat'] at h3;rw[ih b (fun z hz=>ha z (by simp[hz])) (fun z hz=>hb z (by simp[hz])) h2]
       congr 1
       omega
  exact key a b ha hb (by simpa using h)
 ·rintro rfl;rfl
theorem zz {os ns:List (List Int)} (ho:os.length<=1000000) (hn:ns.length<=1000000) (Cn:∀ x∈os,∀ z∈x,0<=z/\z<=255) (hnb:∀ x∈ns,∀ z∈x,0<=z/\z<=255):ak prog 116 [.sl 1 (os.map bP), .sl 1 (ns.map bP)] (.sl 1 ((bB os ns).map cz)) []:=by
 generalize hR:bB os ns=R;refine dL [] [31,32] func116 (by kernel_rfl) ntmps116 rfl rfl ⟨rfl,rfl⟩ (by simp(disch:=omega)only[seval,go_sem,cI,List.replicate,l_2,l_1];rfl) ?_;((repeat'(first|simp only[seval,go_sem]|(with_reducible refine aV (st:=[29]) ?_))));all_goals(refine ay.fT 5 32 1 (by first|(simp only[seval,go_sem])) (by first|(simp only[seval,go_sem])) (by simp only[seval,go_sem];rfl) ?_)
 all_goals(with_reducible refine ay.cX (fun (t:Nat×List Bool)=>[(6,i6 t.1),(5,.cW 32 1 0 t.2.length)]++aN 7 26) (fun (t:Nat×List Bool)=>[(32,.row 1 (t.2.map cz)),(31,.dead)]) (fun (t:Nat×List Bool)=>t.1<=ns.length/\t.2.length=t.1/\t.2++bB (os.drop t.1) (ns.drop t.1)=R) (fun (t:Nat×List Bool)=>ns.length-t.1) ((0,[])) (⟨ek _,by simp,by simpa using hR⟩) (by intro _;simp(disch:=omega)only[seval,go_sem,cI];rfl) (by simp only[seval,go_sem]) (fun t hI=>?_))
 all_goals
  obtain ⟨i,a⟩:=t;obtain ⟨hi,tU,hf⟩:=hI;simp only at hi tU hf;have dM:(a.map cz).length=a.length:=dD _;by_cases hlt:i<ns.length
  ·obtain ⟨x,hx⟩:=aZ hlt;have hx':=get_map bP hx;rw[aH hx] at hf;by_cases hc:i<os.length
   ·obtain ⟨o,Nj⟩:=aZ hc;have ho':=get_map bP Nj;rw[aH Nj,bB] at hf;have VE:=yf (Cn o (fS Nj)) (hnb x (fS hx))
    (all_goals(try have hZ:=(And.intro hx' (And.intro ho' (And.intro VE dM))));(repeat'(first|(with_reducible refine aY 5 ?_;refine ay.bU 5 mix 21 rfl (.f 0 <| .f 1 <| .f 2 <| .f 3 <| .f 4 <| .f 5 <| .f 6 <| .f 7 <| .f 8 <| .f 11 <| .f 12 <| .f 13 <| .r 9 <| .r 14 <| .a <| .b 10 (.a <| .b 15 (.f 16 <| .f 17 <| .a <| .b 18 (.a <| .b 19 (.f 20 <| .d) .e) .e) .e) <| .b 15 (.a <| .b 10 (.f 16 <| .f 17 <| .a <| .b 18 (.a <| .b 19 (.f 20 <| .d) .e) .e) .e) .e) (by kernel_rfl) ?_)|(with_reducible refine cA ?_;first|refine aJ.D ?_|refine aJ.F (by simp only[seval,go_sem,eg,dJ];rfl) (by first|(simp only[seval,go_sem,bP,bA,hZ])) (by first|(simp only[seval,go_sem,bP,bA,hZ];with_reducible rfl)|(simp(disch:=omega)only[seval,go_sem,cI,bP,bA,hZ];with_reducible rfl)) ?_|refine aJ.R (by simp only[seval,go_sem,eg,dJ];rfl) (by first|(refine .inl ?_;simp only[seval,go_sem,bP,bA,hZ];done)) (by first|(simp only[seval,go_sem,bP,bA,hZ];with_reducible rfl)) ?_|refine aJ.A ?_)|(with_reducible first|exact aI.E|refine aI.B (by simp only[seval,go_sem,eg,dJ];rfl) ?_ ?_)|simp only[seval,go_sem,bP,bA,hZ]|((with_reducible refine au ?_);((with_reducible first|refine ah.step (by simp only[seval,go_sem,bP,bA,hZ];rfl) ?_|refine ah.step (by simp(disch:=omega)only[seval,go_sem,cI,bP,bA,hZ];rfl) ?_);refine dI (st:=[29]) ?_))|(with_reducible first|refine aV (st:=[29]) ?_|refine ai (by simp(disch:=omega)only[seval,go_sem,cI,bP,bA,hZ];rfl) ?_)));all_goals(try clear hZ))
    all_goals(try(refine aP ((i+1,a++[decide (o=x)])) (by simp only[seval,go_sem,cz];first|((repeat'(with_reducible apply And.intro))<;>first|rfl|(simp[cz];done))) ?_ ?_<;>(try(omega))))
    all_goals(try exact ⟨by simp only;omega,by simp only[bW,List.length_cons,List.length_nil];omega,by simp only[lR,List.cons_append,List.nil_append];exact hf⟩)
   ·rw[j9 (by omega),bB] at hf;have hcd:decide ((i:Int)<(os.length:Int))=false:=Ii (by omega);have w6:(os.map bP).length=os.length:=dD _
    (all_goals(try have hZ:=(And.intro hx' (And.intro dM (And.intro hcd w6))));(repeat'(first|(with_reducible refine aY 5 ?_;refine ay.bU 5 mix 21 rfl (.f 0 <| .f 1 <| .f 2 <| .f 3 <| .f 4 <| .f 5 <| .f 6 <| .f 7 <| .f 8 <| .f 11 <| .f 12 <| .f 13 <| .r 9 <| .r 14 <| .a <| .b 10 (.a <| .b 15 (.f 16 <| .f 17 <| .a <| .b 18 (.a <| .b 19 (.f 20 <| .d) .e) .e) .e) <| .b 15 (.a <| .b 10 (.f 16 <| .f 17 <| .a <| .b 18 (.a <| .b 19 (.f 20 <| .d) .e) .e) .e) .e) (by kernel_rfl) ?_)|(with_reducible refine cA ?_;first|refine aJ.D ?_|refine aJ.F (by simp only[seval,go_sem,eg,dJ];rfl) (by first|(simp only[seval,go_sem,bP,hZ])) (by first|(simp only[seval,go_sem,bP,hZ];with_reducible rfl)|(simp(disch:=omega)only[seval,go_sem,cI,bP,hZ];with_reducible rfl)) ?_|refine aJ.R (by simp only[seval,go_sem,eg,dJ];rfl) (by first|(refine .inr ?_;simp only[seval,go_sem,bP,hZ,kY,Dn,eg,dJ];done)) (by first|(simp only[seval,go_sem,bP,hZ];with_reducible rfl)) ?_|refine aJ.A ?_)|(with_reducible first|exact aI.E|refine aI.B (by simp only[seval,go_sem,eg,dJ];rfl) ?_ ?_)|simp only[seval,go_sem,bP,hZ]|((with_reducible refine au ?_);((with_reducible first|refine ah.step (by simp only[seval,go_sem,bP,hZ];rfl) ?_|refine ah.step (by simp(disch:=omega)only[seval,go_sem,cI,bP,hZ];rfl) ?_);refine dI (st:=[29]) ?_))|(with_reducible first|refine aV (st:=[29]) ?_|refine ai (by simp(disch:=omega)only[seval,go_sem,cI,bP,hZ];rfl) ?_)));all_goals(try clear hZ))
    all_goals(try(refine aP ((i+1,a++[false])) (by simp only[seval,go_sem,cz];first|((repeat'(with_reducible apply And.intro))<;>first|rfl|(simp[cz];done))) ?_ ?_<;>(try(omega))))
    all_goals(try exact ⟨by simp only;omega,by simp only[bW,List.length_cons,List.length_nil];omega,by simp only[lR,List.cons_append,List.nil_append,j9 (show os.length<=i+1 by omega)];exact hf⟩)
  ·rw[j9 (show ns.length<=i by omega)] at hf;have hz:bB (os.drop i) []=[]:=by cases os.drop i<;>rfl
   rw[hz,yM] at hf;subst hf;have fm:(a.map cz).take a.length=a.map cz:=lu (by rw[dM];exact iU _)
   ((repeat'(first|simp only[seval,go_sem,dM,fm]|(with_reducible refine aB ?_;(refine aC.gu 32 (by simp only[seval,go_sem];rfl) (by simp only[seval,go_sem,dM,fm];rfl) ?_);(with_reducible refine aB ?_;refine aC.q rfl rfl (by simp only[seval,go_sem];rfl) (by decide) (by simp only[seval,go_sem];rfl) (by simp only[seval,go_sem];rfl) rfl ?_<;>(try simp only[seval,go_sem,dM,fm])<;>(repeat'(with_reducible apply And.intro))<;>(try rfl)))|(with_reducible first|refine aV (st:=[29]) ?_|refine ai (by simp(disch:=omega)only[seval,go_sem,cI,dM,fm];rfl) ?_))))
theorem L4 {l:List Int} {i:Nat} (hi:i<=1000000):ak prog 40 [.sl 1 (l.map cO),i6 i] (i6 (yU l i)) []:=by
 by_cases h0:l.length=0
 ·have e:yU l i=(i:Int)%65536:=by rw[yU,bC h0]
  rw[e];refine bR [] [] [.tmp 4] func40 (by kernel_rfl) ntmps40 rfl rfl rfl ⟨rfl,rfl⟩ (by simp(disch:=omega)only[seval,go_sem,cI,List.replicate,l_2,l_1];rfl) ?_;((repeat'(first|simp only[seval,go_sem]|(with_reducible refine aV (st:=[]) ?_)|(with_reducible refine ai (by simp(disch:=omega)only[seval,go_sem,cI];rfl) ?_))))
 ·have hlt:i%l.length<l.length:=Nat.mod_lt _ (by omega);obtain ⟨x,hx⟩:=aZ hlt;have hx':=get_map cO hx;have e:yU l i=x%65536+((i/l.length:Nat):Int):=by rw[yU,aE h0,hx];rfl
  rw[e];have h1:((i:Int)%(l.length:Int))=((i%l.length:Nat):Int):=rfl;have h2:((i:Int)/(l.length:Int))=((i/l.length:Nat):Int):=rfl;have h3:i/l.length<=i:=Nat.div_le_self _ _;refine bR [] [] [.tmp 4] func40 (by kernel_rfl) ntmps40 rfl rfl rfl ⟨rfl,rfl⟩ (by simp(disch:=omega)only[seval,go_sem,cI,List.replicate,l_2,l_1];rfl) ?_;generalize i/l.length=q at *;generalize i%l.length=r at *;((repeat'(first|simp only[seval,go_sem,cO,hx',h1,h2]|(with_reducible refine br ?_;refine dX mix (by kernel_rfl) ?_)|(with_reducible first|refine aV (st:=[]) ?_|refine dO (by simp(disch:=omega)only[seval,go_sem,cI,cO,hx',h1,h2];rfl) ?_|refine ai (by simp(disch:=omega)only[seval,go_sem,cI,cO,hx',h1,h2];rfl) ?_))))
def w8 (n:Int):Int:=IntKind.u8.wrap n
theorem gG {n:Int} (h0:0<=n) (h1:n<=1000000000):ak prog 33 [i6 n] (.sl 1 ((aO n).map cF)) []:=by
 refine dL [] [16,17] func33 (by kernel_rfl) ntmps33 rfl rfl ⟨rfl,rfl⟩ (by simp(disch:=omega)only[seval,go_sem,cI,List.replicate,l_2,l_1];rfl) ?_;((repeat'(first|simp only[seval,go_sem]|(with_reducible refine aV (st:=[]) ?_))));all_goals(refine ay.fT 3 17 1 (by first|(simp only[seval,go_sem])) (by first|(simp only[seval,go_sem])) (by simp only[seval,go_sem];rfl) ?_)
 all_goals(with_reducible refine ay.cX (fun (k:Nat)=>[(4,i6 k),(3,.cW 17 1 0 k)]++aN 5 24) (fun (k:Nat)=>[(17,.row 1 (((List.range k).map (ld n)).map cF)),(16,.dead)]) (fun (k:Nat)=>k<=(n/8%64%61).toNat) (fun (k:Nat)=>64-k) (0) (ek _) (by intro _;simp(disch:=omega)only[seval,go_sem,cI];rfl) (by simp only[seval,go_sem,List.range_zero,eN]) (fun k hI=>?_))
 all_goals
  have dM:(((List.range k).map (ld n)).map cF).length=k:=by simp
  have Z1:k<=61:=by omega
  by_cases hlt:(k:Int)<n/8%64%61
  ·have wS:(((List.range k).map (ld n)).map cF++[[D.sc (.int .u8 (k:Int))]]).length=k+1:=by simp
   have Yz:(((List.range k).map (ld n)).map cF++[[D.sc (.int .u8 (k:Int))]])[k]? = some [D.sc (.int .u8 (k:Int))]:=by
    rw[EJ (by rw[dM];exact iU _),dM,JI];rfl
   have Vz:∀ r,(((List.range k).map (ld n)).map cF++[[D.sc (.int .u8 (k:Int))]]).set k r=((List.range k).map (ld n)).map cF++[r]:=fun r=>by
    rw[Pk _ _ (by rw[dM];exact iU _),dM,JI];rfl
   have YS:((List.range (k+1)).map (ld n)).map cF=((List.range k).map (ld n)).map cF++[cF (ld n k)]:=by rw[SI];simp
   by_cases hc:((k%16:Nat):Int)=n/512%16
   ·have v8:ld n k=n%256:=by rw[ld,bC hc]
    have YA:IntKind.u8.wrap n=n%256:=by simp[IntKind.wrap,IntKind.bits,IntKind.signed]
    ((repeat'(first|simp only[seval,go_sem,dM,wS,Yz,Vz,YA]|(with_reducible first|refine aV (st:=[]) ?_|refine ai (by simp(disch:=omega)only[seval,go_sem,cI,dM,wS,Yz,Vz,YA];rfl) ?_))))
    all_goals(try(refine aP (k+1) (by simp only[seval,go_sem,SI,v8,cF];first|((repeat'(with_reducible apply And.intro))<;>first|rfl|(simp[SI,v8,cF];done))) ?_ ?_<;>(try(omega))))
    all_goals(try omega)
   ·have v8:ld n k=(k:Int):=by rw[ld,aE hc]
    ((repeat'(first|simp only[seval,go_sem,dM,wS]|(with_reducible first|refine aV (st:=[]) ?_|refine ai (by simp(disch:=omega)only[seval,go_sem,cI,dM,wS];rfl) ?_))))
    all_goals(try(refine aP (k+1) (by simp only[seval,go_sem,SI,v8,cF];first|((repeat'(with_reducible apply And.intro))<;>first|rfl|(simp[SI,v8,cF];done))) ?_ ?_<;>(try(omega))))
    all_goals(try omega)
  ·have hk:(n/8%64%61).toNat=k:=by omega
   have fm:(((List.range k).map (ld n)).map cF).take k=((List.range k).map (ld n)).map cF:=lu (by rw[dM];exact iU _);rw[aO,hk]
   ((repeat'(first|simp only[seval,go_sem,dM,fm]|(with_reducible refine aB ?_;(refine aC.gu 17 (by simp only[seval,go_sem];rfl) (by simp only[seval,go_sem,dM,fm];rfl) ?_);(with_reducible refine aB ?_;refine aC.q rfl rfl (by simp only[seval,go_sem];rfl) (by decide) (by simp only[seval,go_sem];rfl) (by simp only[seval,go_sem];rfl) rfl ?_<;>(try simp only[seval,go_sem,dM,fm])<;>(repeat'(with_reducible apply And.intro))<;>(try rfl)))|(with_reducible first|refine aV (st:=[]) ?_|refine ai (by simp(disch:=omega)only[seval,go_sem,cI,dM,fm];rfl) ?_))))
end Go.Proofs.YteemiclhnfkekaaGreat
