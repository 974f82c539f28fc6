/- The reference's pages, and the numbers and bytes of the laws: the walks. -/
import Derived.Test.YteemiclhnfkekaaGreatZSrP
set_option linter.unusedSimpArgs false
set_option linter.unusedVariables false
set_option maxRecDepth 100000
set_option maxHeartbeats 6400000
namespace Go.Proofs.YteemiclhnfkekaaGreat
open Go.RowKit Go.fe Tryz
def bP (x:List Int):List D:=[.sl 1 (x.map cF)]
def cz (b:Bool):List D:=[.sc (.bool b)]
theorem vv {sz:Nat} (h:1<=sz) (k:Nat):∀ (k':Nat) (l:List Int),l.length<=k->l.length<=k'->chunks sz k l=chunks sz k' l:=by
 induction k with
 | zero=>
   intro k' l h1 h2;cases k' with
   | zero=>rfl
   | succ k'=>rw[chunks,chunks,bC (by omega)]
 | succ k ih=>
   intro k' l h1 h2;cases k' with
   | zero=>rw[chunks,chunks,bC (by omega)]
   | succ k'=>
     rw[chunks,chunks]
     split
     ·rfl
     ·rw[ih k' (l.drop sz) (by rw[bQ];omega) (by rw[bQ];omega)]
theorem vw {sz:Nat} (h:1<=sz) {b:List Int} {i:Nat} (hi:i<b.length):chunks sz b.length (b.drop i)=(b.drop i).take sz::chunks sz b.length (b.drop (i+sz)):=by
 rw[vv h b.length ((b.length-1)+1) (b.drop i) (by rw[bQ];omega) (by rw[bQ];omega),chunks,aE (by rw[bQ];omega),List.drop_drop];rw[vv h (b.length-1) b.length (b.drop (i+sz)) (by rw[bQ];omega) (by rw[bQ];omega)]
theorem yd {sz k:Nat} {b:List Int} {i:Nat} (hi:b.length<=i):chunks sz k (b.drop i)=[]:=by
 rw[j9 hi];cases k<;>simp[chunks]
theorem tG {b:List Int} {sz:Int} (hb:b.length<=1000000) (h1:1<=sz) (h2:sz<=1024):ak prog 111 [.sl 1 (b.map cF),i6 sz] (.cT [.sl 1 ((aR b sz).1.map bP),i6 (aR b sz).2]) []:=by
 have e:aR b sz=(chunks sz.toNat b.length b,0):=by rw[aR,aE (by omega)]
 rw[e];obtain ⟨S,rfl⟩:=M7 (show 0<=sz by omega);simp only[Int.toNat_natCast];generalize hC:chunks S b.length b=C;refine dL [] [31,32,33] func111 (by kernel_rfl) ntmps111 rfl rfl ⟨rfl,rfl⟩ (by simp(disch:=omega)only[seval,go_sem,cI,List.replicate,l_2,l_1];rfl) ?_;((repeat'(first|simp only[seval,go_sem]|(with_reducible refine aV (st:=[]) ?_)|(with_reducible refine ai (by simp(disch:=omega)only[seval,go_sem,cI];rfl) ?_))));all_goals(refine ay.fT 6 33 1 (by first|(simp only[seval,go_sem])) (by first|(simp only[seval,go_sem])) (by simp only[seval,go_sem];rfl) ?_)
 all_goals(with_reducible refine ay.cX (fun (t:Nat×List (List Int))=>[(7,i6 t.1),(6,.cW 33 1 0 t.2.length)]++aN 14 20) (fun (t:Nat×List (List Int))=>[(33,.row 1 (t.2.map bP)),(31,.dead),(32,.dead)]) (fun (t:Nat×List (List Int))=>t.1<=b.length+S/\t.2.length<=t.1/\t.2++chunks S b.length (b.drop t.1)=C) (fun (t:Nat×List (List Int))=>b.length-t.1) ((0,[])) (⟨ek _,by simp,by simpa using hC⟩) (by intro _;simp(disch:=omega)only[seval,go_sem,cI];rfl) (by simp only[seval,go_sem]) (fun t hI=>?_))
 all_goals
  obtain ⟨i,a⟩:=t;obtain ⟨hi,tW,hf⟩:=hI;simp only at hi tW hf;have dM:(a.map bP).length=a.length:=dD _;by_cases hlt:i<b.length
  ·rw[vw (by omega) hlt] at hf;by_cases hc:i+S<=b.length
   ·have uY:((b.map cF).take (i+S)).drop i=((b.drop i).take S).map cF:=by rw[Qy,RY,List.drop_take,SC]
    have j8:(((b.drop i).take S).map cF).length=S:=by simp;omega
    have hmn:((i:Int)+S).toNat=i+S:=by omega
    have fm:(((b.drop i).take S).map cF).take S=((b.drop i).take S).map cF:=lz (by rw[j8];exact iU _)
    ((repeat'(first|simp only[seval,go_sem,dD,uY,j8,hmn,fm,dM]|((with_reducible refine au ?_);(with_reducible refine ah.gu 31 (by simp only[seval,go_sem,dD,uY,j8,hmn,fm,dM];rfl) (by simp only[seval,go_sem,dD,uY,j8,hmn,fm,dM];rfl) ?_;refine dI (st:=[]) ?_))|(with_reducible first|refine aV (st:=[]) ?_|refine ai (by simp(disch:=omega)only[seval,go_sem,cI,dD,uY,j8,hmn,fm,dM];rfl) ?_))))
    all_goals(try(refine aP ((i+S,a++[(b.drop i).take S])) (by simp only[seval,go_sem,bP];first|((repeat'(with_reducible apply And.intro))<;>first|rfl|(simp[bP];done))) ?_ ?_<;>(try(omega))))
    all_goals(try exact ⟨by simp only;omega,by simp only[bW,List.length_cons,List.length_nil];omega,by simp only[lS,List.cons_append,List.nil_append];exact hf⟩)
   ·have hts:(b.drop i).take S=b.drop i:=lz (by rw[bQ];omega);rw[hts] at hf;have uY:(b.map cF).drop i=(b.drop i).map cF:=RY.symm;have j8:((b.drop i).map cF).length=b.length-i:=by simp
    have fm:((b.drop i).map cF).take (b.length-i)=(b.drop i).map cF:=lz (by rw[j8];exact iU _)
    ((repeat'(first|simp only[seval,go_sem,dD,uY,j8,fm,dM]|((with_reducible refine au ?_);(with_reducible refine ah.gu 31 (by simp only[seval,go_sem,dD,uY,j8,fm,dM];rfl) (by simp only[seval,go_sem,dD,uY,j8,fm,dM];rfl) ?_;refine dI (st:=[]) ?_))|(with_reducible first|refine aV (st:=[]) ?_|refine ai (by simp(disch:=omega)only[seval,go_sem,cI,dD,uY,j8,fm,dM];rfl) ?_))))
    all_goals(try(refine aP ((i+S,a++[b.drop i])) (by simp only[seval,go_sem,bP];first|((repeat'(with_reducible apply And.intro))<;>first|rfl|(simp[bP];done))) ?_ ?_<;>(try(omega))))
    all_goals(try exact ⟨by simp only;omega,by simp only[bW,List.length_cons,List.length_nil];omega,by simp only[lS,List.cons_append,List.nil_append];exact hf⟩)
  ·rw[yd (by omega),yP] at hf;subst hf;have fm:(a.map bP).take a.length=a.map bP:=lz (by rw[dM];exact iU _)
   ((repeat'(first|simp only[seval,go_sem,dM,fm]|(with_reducible refine aB ?_;(refine aC.gu 33 (by simp only[seval,go_sem];rfl) (by simp only[seval,go_sem,dM,fm];rfl) ?_);(with_reducible refine aB ?_;refine aC.q rfl rfl (by simp only[seval,go_sem];rfl) (by decide) (by simp only[seval,go_sem];rfl) (by simp only[seval,go_sem];rfl) rfl ?_<;>(try simp only[seval,go_sem,dM,fm])<;>(repeat'(with_reducible apply And.intro))<;>(try rfl)))|(with_reducible first|refine aV (st:=[]) ?_|refine ai (by simp(disch:=omega)only[seval,go_sem,cI,dM,fm];rfl) ?_))))
theorem bA:∀ zs:List Int,fZ Go.fe.byteOf (zs.map cF)=some zs
 | []=>rfl
 | z::zs=>by simp[fZ,cF,Go.fe.byteOf,bA zs]
theorem yf {a b:List Int} (ha:∀ z∈a,0<=z/\z<=255) (hb:∀ z∈b,0<=z/\z<=255):((strOfNums a).toList==(strOfNums b).toList)=decide (a=b):=by
 rw[SJ,SJ];simp only[strOfNums];rw[Bool.eq_iff_iff,nX,pP];constructor
 ·intro h
  have key:∀ (a b:List Int),(∀ z∈a,0<=z/\z<=255)->(∀ z∈b,0<=z/\z<=255)->(a.map fun n=>UInt8.ofNat n.toNat)=(b.map fun n=>UInt8.ofNat n.toNat)->a=b:=by
   intro a
   induction a with
   | nil=>intro b _ _ h;cases b with
     | nil=>rfl
     | cons y b=>cases h
   | cons x a ih=>
     intro b ha hb h;cases b with
     | nil=>cases h
     | cons y b=>
       simp only[fk,Pu] at h;obtain ⟨h1,h2⟩:=h;have hx:=ha x (by simp);have hy:=hb y (by simp);have h3:=congrArg UInt8.toNat h1;simp only[UInt8.toNat_ofNat'] at h3;rw[ih b (fun z hz=>ha z (by simp[hz])) (fun z hz=>hb z (by simp[hz])) h2]
       congr 1
       omega
  exact key a b ha hb (by simpa using h)
 ·rintro rfl;rfl
theorem zC {os ns:List (List Int)} (ho:os.length<=1000000) (hn:ns.length<=1000000) (Cm:∀ x∈os,∀ z∈x,0<=z/\z<=255) (hnb:∀ x∈ns,∀ z∈x,0<=z/\z<=255):ak prog 116 [.sl 1 (os.map bP), .sl 1 (ns.map bP)] (.sl 1 ((bB os ns).map cz)) []:=by
 generalize hR:bB os ns=R;refine dL [] [31,32] func116 (by kernel_rfl) ntmps116 rfl rfl ⟨rfl,rfl⟩ (by simp(disch:=omega)only[seval,go_sem,cI,List.replicate,l_2,l_1];rfl) ?_;((repeat'(first|simp only[seval,go_sem]|(with_reducible refine aV (st:=[29]) ?_))));all_goals(refine ay.fT 5 32 1 (by first|(simp only[seval,go_sem])) (by first|(simp only[seval,go_sem])) (by simp only[seval,go_sem];rfl) ?_)
 all_goals(with_reducible refine ay.cX (fun (t:Nat×List Bool)=>[(6,i6 t.1),(5,.cW 32 1 0 t.2.length)]++aN 7 26) (fun (t:Nat×List Bool)=>[(32,.row 1 (t.2.map cz)),(31,.dead)]) (fun (t:Nat×List Bool)=>t.1<=ns.length/\t.2.length=t.1/\t.2++bB (os.drop t.1) (ns.drop t.1)=R) (fun (t:Nat×List Bool)=>ns.length-t.1) ((0,[])) (⟨ek _,by simp,by simpa using hR⟩) (by intro _;simp(disch:=omega)only[seval,go_sem,cI];rfl) (by simp only[seval,go_sem]) (fun t hI=>?_))
 all_goals
  obtain ⟨i,a⟩:=t;obtain ⟨hi,tW,hf⟩:=hI;simp only at hi tW hf;have dM:(a.map cz).length=a.length:=dD _;by_cases hlt:i<ns.length
  ·obtain ⟨x,hx⟩:=aZ hlt;have hx':=get_map bP hx;rw[aH hx] at hf;by_cases hc:i<os.length
   ·obtain ⟨o,Nk⟩:=aZ hc;have ho':=get_map bP Nk;rw[aH Nk,bB] at hf;have VF:=yf (Cm o (fS Nk)) (hnb x (fS hx))
    (all_goals(try have hZ:=(And.intro hx' (And.intro ho' (And.intro VF dM))));(repeat'(first|(with_reducible refine aY 5 ?_;refine ay.bU 5 mix 21 rfl (.f 0 <| .f 1 <| .f 2 <| .f 3 <| .f 4 <| .f 5 <| .f 6 <| .f 7 <| .f 8 <| .f 11 <| .f 12 <| .f 13 <| .r 9 <| .r 14 <| .a <| .b 10 (.a <| .b 15 (.f 16 <| .f 17 <| .a <| .b 18 (.a <| .b 19 (.f 20 <| .d) .e) .e) .e) <| .b 15 (.a <| .b 10 (.f 16 <| .f 17 <| .a <| .b 18 (.a <| .b 19 (.f 20 <| .d) .e) .e) .e) .e) (by kernel_rfl) ?_)|(with_reducible refine cA ?_;first|refine aJ.D ?_|refine aJ.F (by simp only[seval,go_sem,eg,dJ];rfl) (by first|(simp only[seval,go_sem,bP,bA,hZ])) (by first|(simp only[seval,go_sem,bP,bA,hZ];with_reducible rfl)|(simp(disch:=omega)only[seval,go_sem,cI,bP,bA,hZ];with_reducible rfl)) ?_|refine aJ.R (by simp only[seval,go_sem,eg,dJ];rfl) (by first|(refine .inl ?_;simp only[seval,go_sem,bP,bA,hZ];done)) (by first|(simp only[seval,go_sem,bP,bA,hZ];with_reducible rfl)) ?_|refine aJ.A ?_)|(with_reducible first|exact aI.E|refine aI.B (by simp only[seval,go_sem,eg,dJ];rfl) ?_ ?_)|simp only[seval,go_sem,bP,bA,hZ]|((with_reducible refine au ?_);((with_reducible first|refine ah.step (by simp only[seval,go_sem,bP,bA,hZ];rfl) ?_|refine ah.step (by simp(disch:=omega)only[seval,go_sem,cI,bP,bA,hZ];rfl) ?_);refine dI (st:=[29]) ?_))|(with_reducible first|refine aV (st:=[29]) ?_|refine ai (by simp(disch:=omega)only[seval,go_sem,cI,bP,bA,hZ];rfl) ?_)));all_goals(try clear hZ))
    all_goals(try(refine aP ((i+1,a++[decide (o=x)])) (by simp only[seval,go_sem,cz];first|((repeat'(with_reducible apply And.intro))<;>first|rfl|(simp[cz];done))) ?_ ?_<;>(try(omega))))
    all_goals(try exact ⟨by simp only;omega,by simp only[bW,List.length_cons,List.length_nil];omega,by simp only[lS,List.cons_append,List.nil_append];exact hf⟩)
   ·rw[j9 (by omega),bB] at hf;have hcd:decide ((i:Int)<(os.length:Int))=false:=HW (by omega);have wR:(os.map bP).length=os.length:=dD _
    (all_goals(try have hZ:=(And.intro hx' (And.intro dM (And.intro hcd wR))));(repeat'(first|(with_reducible refine aY 5 ?_;refine ay.bU 5 mix 21 rfl (.f 0 <| .f 1 <| .f 2 <| .f 3 <| .f 4 <| .f 5 <| .f 6 <| .f 7 <| .f 8 <| .f 11 <| .f 12 <| .f 13 <| .r 9 <| .r 14 <| .a <| .b 10 (.a <| .b 15 (.f 16 <| .f 17 <| .a <| .b 18 (.a <| .b 19 (.f 20 <| .d) .e) .e) .e) <| .b 15 (.a <| .b 10 (.f 16 <| .f 17 <| .a <| .b 18 (.a <| .b 19 (.f 20 <| .d) .e) .e) .e) .e) (by kernel_rfl) ?_)|(with_reducible refine cA ?_;first|refine aJ.D ?_|refine aJ.F (by simp only[seval,go_sem,eg,dJ];rfl) (by first|(simp only[seval,go_sem,bP,hZ])) (by first|(simp only[seval,go_sem,bP,hZ];with_reducible rfl)|(simp(disch:=omega)only[seval,go_sem,cI,bP,hZ];with_reducible rfl)) ?_|refine aJ.R (by simp only[seval,go_sem,eg,dJ];rfl) (by first|(refine .inr ?_;simp only[seval,go_sem,bP,hZ,kZ,Dh,eg,dJ];done)) (by first|(simp only[seval,go_sem,bP,hZ];with_reducible rfl)) ?_|refine aJ.A ?_)|(with_reducible first|exact aI.E|refine aI.B (by simp only[seval,go_sem,eg,dJ];rfl) ?_ ?_)|simp only[seval,go_sem,bP,hZ]|((with_reducible refine au ?_);((with_reducible first|refine ah.step (by simp only[seval,go_sem,bP,hZ];rfl) ?_|refine ah.step (by simp(disch:=omega)only[seval,go_sem,cI,bP,hZ];rfl) ?_);refine dI (st:=[29]) ?_))|(with_reducible first|refine aV (st:=[29]) ?_|refine ai (by simp(disch:=omega)only[seval,go_sem,cI,bP,hZ];rfl) ?_)));all_goals(try clear hZ))
    all_goals(try(refine aP ((i+1,a++[false])) (by simp only[seval,go_sem,cz];first|((repeat'(with_reducible apply And.intro))<;>first|rfl|(simp[cz];done))) ?_ ?_<;>(try(omega))))
    all_goals(try exact ⟨by simp only;omega,by simp only[bW,List.length_cons,List.length_nil];omega,by simp only[lS,List.cons_append,List.nil_append,j9 (show os.length<=i+1 by omega)];exact hf⟩)
  ·rw[j9 (show ns.length<=i by omega)] at hf;have hz:bB (os.drop i) []=[]:=by cases os.drop i<;>rfl
   rw[hz,yP] at hf;subst hf;have fm:(a.map cz).take a.length=a.map cz:=lz (by rw[dM];exact iU _)
   ((repeat'(first|simp only[seval,go_sem,dM,fm]|(with_reducible refine aB ?_;(refine aC.gu 32 (by simp only[seval,go_sem];rfl) (by simp only[seval,go_sem,dM,fm];rfl) ?_);(with_reducible refine aB ?_;refine aC.q rfl rfl (by simp only[seval,go_sem];rfl) (by decide) (by simp only[seval,go_sem];rfl) (by simp only[seval,go_sem];rfl) rfl ?_<;>(try simp only[seval,go_sem,dM,fm])<;>(repeat'(with_reducible apply And.intro))<;>(try rfl)))|(with_reducible first|refine aV (st:=[29]) ?_|refine ai (by simp(disch:=omega)only[seval,go_sem,cI,dM,fm];rfl) ?_))))
theorem L6 {l:List Int} {i:Nat} (hi:i<=1000000):ak prog 40 [.sl 1 (l.map cN),i6 i] (i6 (yT l i)) []:=by
 by_cases h0:l.length=0
 ·have e:yT l i=(i:Int)%65536:=by rw[yT,bC h0]
  rw[e];refine bR [] [] [.tmp 4] func40 (by kernel_rfl) ntmps40 rfl rfl rfl ⟨rfl,rfl⟩ (by simp(disch:=omega)only[seval,go_sem,cI,List.replicate,l_2,l_1];rfl) ?_;((repeat'(first|simp only[seval,go_sem]|(with_reducible refine aV (st:=[]) ?_)|(with_reducible refine ai (by simp(disch:=omega)only[seval,go_sem,cI];rfl) ?_))))
 ·have hlt:i%l.length<l.length:=Nat.mod_lt _ (by omega);obtain ⟨x,hx⟩:=aZ hlt;have hx':=get_map cN hx;have e:yT l i=x%65536+((i/l.length:Nat):Int):=by rw[yT,aE h0,hx];rfl
  rw[e];have h1:((i:Int)%(l.length:Int))=((i%l.length:Nat):Int):=rfl;have h2:((i:Int)/(l.length:Int))=((i/l.length:Nat):Int):=rfl;have h3:i/l.length<=i:=Nat.div_le_self _ _;refine bR [] [] [.tmp 4] func40 (by kernel_rfl) ntmps40 rfl rfl rfl ⟨rfl,rfl⟩ (by simp(disch:=omega)only[seval,go_sem,cI,List.replicate,l_2,l_1];rfl) ?_;generalize i/l.length=q at *;generalize i%l.length=r at *;((repeat'(first|simp only[seval,go_sem,cN,hx',h1,h2]|(with_reducible refine br ?_;refine dX mix (by kernel_rfl) ?_)|(with_reducible first|refine aV (st:=[]) ?_|refine dO (by simp(disch:=omega)only[seval,go_sem,cI,cN,hx',h1,h2];rfl) ?_|refine ai (by simp(disch:=omega)only[seval,go_sem,cI,cN,hx',h1,h2];rfl) ?_))))
def w8 (n:Int):Int:=IntKind.u8.wrap n
theorem gI {n:Int} (h0:0<=n) (h1:n<=1000000000):ak prog 33 [i6 n] (.sl 1 ((aO n).map cF)) []:=by
 refine dL [] [16,17] func33 (by kernel_rfl) ntmps33 rfl rfl ⟨rfl,rfl⟩ (by simp(disch:=omega)only[seval,go_sem,cI,List.replicate,l_2,l_1];rfl) ?_;((repeat'(first|simp only[seval,go_sem]|(with_reducible refine aV (st:=[]) ?_))));all_goals(refine ay.fT 3 17 1 (by first|(simp only[seval,go_sem])) (by first|(simp only[seval,go_sem])) (by simp only[seval,go_sem];rfl) ?_)
 all_goals(with_reducible refine ay.cX (fun (k:Nat)=>[(4,i6 k),(3,.cW 17 1 0 k)]++aN 5 24) (fun (k:Nat)=>[(17,.row 1 (((List.range k).map (lg n)).map cF)),(16,.dead)]) (fun (k:Nat)=>k<=(n/8%64%61).toNat) (fun (k:Nat)=>64-k) (0) (ek _) (by intro _;simp(disch:=omega)only[seval,go_sem,cI];rfl) (by simp only[seval,go_sem,List.range_zero,eM]) (fun k hI=>?_))
 all_goals
  have dM:(((List.range k).map (lg n)).map cF).length=k:=by simp
  have ZS:k<=61:=by omega
  by_cases hlt:(k:Int)<n/8%64%61
  ·have xU:(((List.range k).map (lg n)).map cF++[[D.sc (.int .u8 (k:Int))]]).length=k+1:=by simp
   have Yx:(((List.range k).map (lg n)).map cF++[[D.sc (.int .u8 (k:Int))]])[k]? = some [D.sc (.int .u8 (k:Int))]:=by
    rw[EI (by rw[dM];exact iU _),dM,JC];rfl
   have Vy:∀ r,(((List.range k).map (lg n)).map cF++[[D.sc (.int .u8 (k:Int))]]).set k r=((List.range k).map (lg n)).map cF++[r]:=fun r=>by
    rw[Ph _ _ (by rw[dM];exact iU _),dM,JC];rfl
   have YS:((List.range (k+1)).map (lg n)).map cF=((List.range k).map (lg n)).map cF++[cF (lg n k)]:=by rw[SN];simp
   by_cases hc:((k%16:Nat):Int)=n/512%16
   ·have v7:lg n k=n%256:=by rw[lg,bC hc]
    have Yy:IntKind.u8.wrap n=n%256:=by simp[IntKind.wrap,IntKind.bits,IntKind.signed]
    ((repeat'(first|simp only[seval,go_sem,dM,xU,Yx,Vy,Yy]|(with_reducible first|refine aV (st:=[]) ?_|refine ai (by simp(disch:=omega)only[seval,go_sem,cI,dM,xU,Yx,Vy,Yy];rfl) ?_))))
    all_goals(try(refine aP (k+1) (by simp only[seval,go_sem,SN,v7,cF];first|((repeat'(with_reducible apply And.intro))<;>first|rfl|(simp[SN,v7,cF];done))) ?_ ?_<;>(try(omega))))
    all_goals(try omega)
   ·have v7:lg n k=(k:Int):=by rw[lg,aE hc]
    ((repeat'(first|simp only[seval,go_sem,dM,xU]|(with_reducible first|refine aV (st:=[]) ?_|refine ai (by simp(disch:=omega)only[seval,go_sem,cI,dM,xU];rfl) ?_))))
    all_goals(try(refine aP (k+1) (by simp only[seval,go_sem,SN,v7,cF];first|((repeat'(with_reducible apply And.intro))<;>first|rfl|(simp[SN,v7,cF];done))) ?_ ?_<;>(try(omega))))
    all_goals(try omega)
  ·have hk:(n/8%64%61).toNat=k:=by omega
   have fm:(((List.range k).map (lg n)).map cF).take k=((List.range k).map (lg n)).map cF:=lz (by rw[dM];exact iU _);rw[aO,hk]
   ((repeat'(first|simp only[seval,go_sem,dM,fm]|(with_reducible refine aB ?_;(refine aC.gu 17 (by simp only[seval,go_sem];rfl) (by simp only[seval,go_sem,dM,fm];rfl) ?_);(with_reducible refine aB ?_;refine aC.q rfl rfl (by simp only[seval,go_sem];rfl) (by decide) (by simp only[seval,go_sem];rfl) (by simp only[seval,go_sem];rfl) rfl ?_<;>(try simp only[seval,go_sem,dM,fm])<;>(repeat'(with_reducible apply And.intro))<;>(try rfl)))|(with_reducible first|refine aV (st:=[]) ?_|refine ai (by simp(disch:=omega)only[seval,go_sem,cI,dM,fm];rfl) ?_))))
theorem B1 {n a b:Int}:ak prog 147 [i6 n,i6 a,i6 b] (.sc (.bool (mO n a b))) []:=by
 refine bR [] [] [.tmp 6] func147 (by kernel_rfl) ntmps147 rfl rfl rfl ⟨rfl,rfl⟩ (by simp(disch:=omega)only[seval,go_sem,cI,List.replicate,l_2,l_1];rfl) ?_
 ((repeat'(first|(with_reducible refine cB ?_;intro hc;(try simp only[fH,reduceCtorEq] at hc);(try(exfalso;omega)))|simp only[seval,go_sem]|((with_reducible refine au ?_);((with_reducible first|refine ah.step (by simp only[seval,go_sem];rfl) ?_|refine ah.step (by simp(disch:=omega)only[seval,go_sem,cI];rfl) ?_);refine dI (st:=[13]) ?_))|(with_reducible first|refine aV (st:=[13]) ?_|refine ai (by simp(disch:=omega)only[seval,go_sem,cI];rfl) ?_|refine dV ?_|refine And.intro ?_ ?_))))
 all_goals(simp[mO];try omega)
theorem rq {n a b:Int}:ak prog 108 [i6 n,i6 a,i6 b] (.sc (.bool (mO n a b))) []:=by
 refine bR [] [] [.tmp 6] func108 (by kernel_rfl) ntmps108 rfl rfl rfl ⟨rfl,rfl⟩ (by simp(disch:=omega)only[seval,go_sem,cI,List.replicate,l_2,l_1];rfl) ?_
 ((repeat'(first|(with_reducible refine cB ?_;intro hc;(try simp only[fH,reduceCtorEq] at hc);(try(exfalso;omega)))|simp only[seval,go_sem]|((with_reducible refine au ?_);((with_reducible first|refine ah.step (by simp only[seval,go_sem];rfl) ?_|refine ah.step (by simp(disch:=omega)only[seval,go_sem,cI];rfl) ?_);refine dI (st:=[13]) ?_))|(with_reducible first|refine aV (st:=[13]) ?_|refine ai (by simp(disch:=omega)only[seval,go_sem,cI];rfl) ?_|refine dV ?_|refine And.intro ?_ ?_))))
 all_goals(simp[mO];try omega)
theorem I7 {a b c d e f g:Int}:ak prog 79 [.agg [i6 a,i6 b,i6 c,i6 d,i6 e,i6 f,i6 g]] (i6 (cond (qN ⟨a,b,c,d,e,f,g⟩) 0 5)) []:=by
 simp only[qN];generalize h1:mO a 1 64=x1;generalize h2:mO b 1 64=x2;generalize h3:mO c 1 16384=x3;generalize h4:mO d 8 1024=x4;generalize h5:mO e 1 1024=x5;generalize h6:mO f 1 1048576=x6;generalize h7:mO g 1 64=x7;refine bR [] [1,5,10,16,22,28,34,40] [.tmp 2] func79 (by kernel_rfl) ntmps79 rfl rfl rfl ⟨rfl,rfl⟩ (by simp(disch:=omega)only[seval,go_sem,cI,List.replicate,l_2,l_1];rfl) ?_;((repeat'(first|(with_reducible refine cB ?_;intro hc;(try simp only[fH,reduceCtorEq] at hc);(try(exfalso;omega)))|simp only[seval,go_sem,h1,h2,h3,h4,h5,h6,h7]|((with_reducible refine bJ ?_);refine aq.c (B1) ?_)|(with_reducible first|refine aD (st:=[]) ?_|refine aV (st:=[]) ?_|refine dV ?_|refine cO (cL ?_) (cL ?_)|refine And.intro ?_ ?_))));all_goals(simp_all)
theorem F8 {a b c d e f g:Int}:ak prog 103 [.agg [i6 a,i6 b,i6 c,i6 d,i6 e,i6 f,i6 g]] (i6 (cond (qN ⟨a,b,c,d,e,f,g⟩) 0 5)) []:=by
 simp only[qN];generalize h1:mO a 1 64=x1;generalize h2:mO b 1 64=x2;generalize h3:mO c 1 16384=x3;generalize h4:mO d 8 1024=x4;generalize h5:mO e 1 1024=x5;generalize h6:mO f 1 1048576=x6;generalize h7:mO g 1 64=x7;refine bR [] [1,5,10,16,22,28,34,40] [.tmp 2] func103 (by kernel_rfl) ntmps103 rfl rfl rfl ⟨rfl,rfl⟩ (by simp(disch:=omega)only[seval,go_sem,cI,List.replicate,l_2,l_1];rfl) ?_;((repeat'(first|(with_reducible refine cB ?_;intro hc;(try simp only[fH,reduceCtorEq] at hc);(try(exfalso;omega)))|simp only[seval,go_sem,h1,h2,h3,h4,h5,h6,h7]|((with_reducible refine bJ ?_);refine aq.c (rq) ?_)|(with_reducible first|refine aD (st:=[]) ?_|refine aV (st:=[]) ?_|refine dV ?_|refine cO (cL ?_) (cL ?_)|refine And.intro ?_ ?_))));all_goals(simp_all)
theorem Eb {n:Int}:ak prog 196 [i6 n] (.sc (.bool (mO n 1 1024))) []:=by
 refine bR [] [] [.tmp 2] func196 (by kernel_rfl) ntmps196 rfl rfl rfl ⟨rfl,rfl⟩ (by simp(disch:=omega)only[seval,go_sem,cI,List.replicate,l_2,l_1];rfl) ?_
 ((repeat'(first|(with_reducible refine cB ?_;intro hc;(try simp only[fH,reduceCtorEq] at hc);(try(exfalso;omega)))|simp only[seval,go_sem]|((with_reducible refine au ?_);((with_reducible first|refine ah.step (by simp only[seval,go_sem];rfl) ?_|refine ah.step (by simp(disch:=omega)only[seval,go_sem,cI];rfl) ?_);refine dI (st:=[7]) ?_))|(with_reducible first|refine aV (st:=[7]) ?_|refine ai (by simp(disch:=omega)only[seval,go_sem,cI];rfl) ?_|refine dV ?_|refine And.intro ?_ ?_))))
 all_goals(simp[mO];try omega)
theorem Ec {a b:Int} (ha:0<=a/\a<=9223372036854775807) (hb:2<=b/\b<=1024):ak prog 197 [i6 a,i6 b] (.cT [i6 (yY a b),i6 0]) []:=by
 have h1:0<=a/b/\a/b<=a:=⟨Int.ediv_nonneg (by omega) (by omega),Int.ediv_le_self b (by omega)⟩
 have h2:a/b+1<=9223372036854775807:=by
  have:a/b<=9223372036854775806:=by
   have:a/b<9223372036854775807:=Int.ediv_lt_of_lt_mul (by omega) (by omega);omega
  omega
 refine bR [] [] [.tmp 4, .tmp 5] func197 (by kernel_rfl) ntmps197 rfl rfl rfl ⟨rfl,rfl⟩ (by simp(disch:=omega)only[seval,go_sem,cI,List.replicate,l_2,l_1];rfl) ?_;((repeat'(first|(with_reducible refine cB ?_;intro hc;(try simp only[fH,reduceCtorEq] at hc);(try(exfalso;omega)))|simp only[seval,go_sem]|(with_reducible first|refine aV (st:=[]) ?_|refine ai (by simp(disch:=omega)only[seval,go_sem,cI];rfl) ?_|refine cO (cL ?_) (cL ?_)))));all_goals(simp only[yY];split<;>first|rfl|omega)
theorem Ed {a b:Int} (ha:0<=a) (ZU:a<=9223372036854775807) (hb:8<=b/\b<=1024):ak prog 148 [i6 a,i6 b] (.cT [i6 (yY a b),i6 0]) []:=by
 have hr:mO b 1 1024=true:=by simp[mO];omega
 have hc:=Ec (a:=a) (b:=b) ⟨ha,ZU⟩ ⟨by omega,hb.2⟩;refine bR [] [12,18] [.tmp 4, .tmp 5] func148 (by kernel_rfl) ntmps148 rfl rfl rfl ⟨rfl,rfl⟩ (by simp(disch:=omega)only[seval,go_sem,cI,List.replicate,l_2,l_1];rfl) ?_;((repeat'(first|simp only[seval,go_sem,hr]|((with_reducible refine bJ ?_);first|refine aq.c (hc) ?_|refine aq.c (Eb) ?_)|(with_reducible first|refine aD (st:=[]) ?_|refine aV (st:=[]) ?_|refine ai (by simp(disch:=omega)only[seval,go_sem,cI,hr];rfl) ?_))))
theorem Ee {l:List Pn} {c:Int} (hl:l.length<=100000):ak prog 46 [.sl 2 (l.map aW),i6 c]
  (.cT [.cW 0 2 0 (kH l c).1.length,i6 (kH l c).2]) [.row 2 ((kH l c).1.map aW)]:=by
 refine dL [] [11,13,65,66,73,74,80,81] func46 (by kernel_rfl) ntmps46 rfl rfl ⟨rfl,rfl⟩ (by simp(disch:=omega)only[seval,go_sem,cI,List.replicate,l_2,l_1];rfl) ?_;by_cases hz:dK none l=0
 ·have ok:=oE hz;by_cases hc0:c<0
  ·((repeat'(first|simp only[seval,go_sem,hz]|((with_reducible refine bJ ?_);refine aq.c (jq ?_) ?_)|(with_reducible refine aD (st:=[]) ?_)|(with_reducible refine aB ?_;(refine aC.fT 4 81 2 (by first|(simp only[seval,go_sem])) (by first|(simp only[seval,go_sem])) (by simp only[seval,go_sem];rfl) ?_);(with_reducible refine aB ?_;refine aC.q rfl rfl (by simp only[seval,go_sem];rfl) (by decide) (by simp only[seval,go_sem];rfl) (by simp only[seval,go_sem];rfl) rfl ?_<;>(try simp only[seval,go_sem,hz])<;>(repeat'(with_reducible apply And.intro))<;>(try rfl)))|(with_reducible first|refine aV (st:=[]) ?_|refine ai (by simp(disch:=omega)only[seval,go_sem,cI,hz];rfl) ?_)))<;>(try((with_reducible assumption))))
   all_goals simp[kH,hz,hc0]
  ·((repeat'(first|simp only[seval,go_sem,hz]|((with_reducible refine bJ ?_);refine aq.c (jq ?_) ?_)|(with_reducible first|refine aD (st:=[]) ?_|refine aV (st:=[]) ?_|refine ai (by simp(disch:=omega)only[seval,go_sem,cI,hz];rfl) ?_)))<;>(try((with_reducible assumption))))
   (with_reducible refine ay.cX (fun (k:Nat)=>[(7,i6 k),(4,.any),(5,.any)]++aN 19 21) (fun (k:Nat)=>[]) (fun (k:Nat)=>k<=l.length/\kn c (l.drop k)=kn c l) (fun (k:Nat)=>l.length-k) (0) (⟨ek _,rfl⟩) (by intro _;simp(disch:=omega)only[seval,go_sem,cI];rfl) (by simp only[seval,go_sem]) (fun k hI=>?_))
   obtain ⟨hk,hf⟩:=hI;by_cases hlt:k<l.length
   ·obtain ⟨v,hv⟩:=aZ hlt;have fL:=get_map aW hv
    ((repeat'(first|(with_reducible refine cB ?_;intro hc;(try simp only[fH,reduceCtorEq] at hc);(try(exfalso;omega)))|simp only[seval,go_sem,fL,aW]|(with_reducible refine aB ?_;(refine aC.fT 4 81 2 (by first|(simp only[seval,go_sem])) (by first|(simp only[seval,go_sem])) (by simp only[seval,go_sem];rfl) ?_);(with_reducible refine aB ?_;refine aC.q rfl rfl (by simp only[seval,go_sem];rfl) (by decide) (by simp only[seval,go_sem];rfl) (by simp only[seval,go_sem];rfl) rfl ?_<;>(try simp only[seval,go_sem,fL,aW])<;>(repeat'(with_reducible apply And.intro))<;>(try rfl)))|(with_reducible first|refine aV (st:=[]) ?_|refine ai (by simp(disch:=omega)only[seval,go_sem,cI,fL,aW];rfl) ?_|refine dV ?_|refine cO (cL ?_) (cL ?_)|refine And.intro ?_ ?_))))
    all_goals(try(refine aP (k+1) ?_ ?_ ?_<;>(first|(with_reducible refine lD ?_<;>simp only[seval,go_sem]<;>(repeat'(with_reducible apply And.intro))<;>(try rfl))|skip)<;>(try(omega))))
    all_goals(try(refine ⟨by omega,?_⟩))
    all_goals first
     | (rw[<- hf,aH hv];simp[kn, *];done)
     | (have SW:kn c l=true:=by rw[<- hf,aH hv];simp[kn, *]
        simp[kH,hz,hc0,SW])
   ·have SW:kn c l=false:=by rw[<- hf,j9 (by omega)];rfl
    have had:kH l c=(i5 c l,0):=by simp[kH,hz,hc0,SW]
    ((repeat'(first|simp only[seval,go_sem]|(with_reducible refine aV (st:=[]) ?_)|(with_reducible refine ai (by simp(disch:=omega)only[seval,go_sem,cI];rfl) ?_))))
    (refine ay.fT 8 74 2 (by first|(simp only[seval,go_sem])) (by first|(simp only[seval,go_sem])) (by simp only[seval,go_sem];rfl) ?_)
    (with_reducible refine ay.cX (fun (t:Nat×Bool×List Pn)=>[(10,i6 t.1),(9,.sc (.bool t.2.1)),(8,.cW 74 2 0 t.2.2.length),(11,.any)]++aN 40 35) (fun (t:Nat×Bool×List Pn)=>[(74,.row 2 (t.2.2.map aW)),(11,.dead),(65,.dead),(66,.dead),(73,.dead)]) (fun (t:Nat×Bool×List Pn)=>t.1<=l.length/\t.2.2.length<=t.1+(if t.2.1 then 1 else 0)/\t.2.2++(if t.2.1 then l.drop t.1 else i5 c (l.drop t.1))=i5 c l) (fun (t:Nat×Bool×List Pn)=>l.length-t.1) ((0,false,[])) (⟨ek _,by simp,rfl⟩) (by intro _;simp(disch:=omega)only[seval,go_sem,cI];rfl) (by simp only[seval,go_sem]) (fun t hI=>?_))
    obtain ⟨k2,d,out⟩:=t;obtain ⟨hk2,ho,hg⟩:=hI;simp only at hk2 ho hg;by_cases hlt2:k2<l.length
    ·obtain ⟨v,hv⟩:=aZ hlt2;have fL:=get_map aW hv;have hr:=ok.range v (fS hv);rw[aH hv] at hg;cases d
     ·simp only[i5,pT,jc] at hg ho;rcases Int.lt_trichotomy c v.commit with UR|UR|UR
      ·((repeat'(first|simp only[seval,go_sem,fL,aW,bW]|(with_reducible first|refine aV (st:=[]) ?_|refine ai (by simp(disch:=omega)only[seval,go_sem,cI,fL,aW,bW];rfl) ?_))))
       all_goals(refine aP ((k2+1,true,out++[⟨c,1⟩]++[v])) (by simp only[seval,go_sem,aW];first|((repeat'(with_reducible apply And.intro))<;>first|rfl|(simp[aW];done))) ?_ ?_<;>(try(omega)))
       all_goals(try(simp only;omega))
       all_goals(refine ⟨by simp only;omega,by simp;omega,?_⟩;simp only[jg,pT,jc,lS,List.cons_append,List.nil_append];rw[<- hg];congr 1;(repeat' split)<;>first|rfl)
      ·((repeat'(first|simp only[seval,go_sem,fL,aW,bW]|(with_reducible first|refine aV (st:=[]) ?_|refine ai (by simp(disch:=omega)only[seval,go_sem,cI,fL,aW,bW];rfl) ?_))))
       all_goals(refine aP ((k2+1,true,out++[⟨v.commit,v.count+1⟩])) (by simp only[seval,go_sem,aW];first|((repeat'(with_reducible apply And.intro))<;>first|rfl|(simp[aW];done))) ?_ ?_<;>(try(omega)))
       all_goals(try(simp only;omega))
       all_goals(refine ⟨by simp only;omega,by simp;omega,?_⟩;simp only[jg,pT,jc,lS,List.cons_append,List.nil_append];rw[<- hg];congr 1;(repeat' split)<;>first|rfl|omega)
      ·((repeat'(first|simp only[seval,go_sem,fL,aW,bW]|(with_reducible first|refine aV (st:=[]) ?_|refine ai (by simp(disch:=omega)only[seval,go_sem,cI,fL,aW,bW];rfl) ?_))))
       all_goals(refine aP ((k2+1,false,out++[v])) (by simp only[seval,go_sem,aW];first|((repeat'(with_reducible apply And.intro))<;>first|rfl|(simp[aW];done))) ?_ ?_<;>(try(omega)))
       all_goals(try(simp only;omega))
       all_goals(refine ⟨by simp only;omega,by simp;omega,?_⟩;simp only[jg,pT,jc,lS,List.cons_append,List.nil_append];rw[<- hg];congr 1;(repeat' split)<;>first|rfl|omega)
     ·simp only[jg] at ho;((repeat'(first|simp only[seval,go_sem,fL,aW,bW]|(with_reducible first|refine aV (st:=[]) ?_|refine ai (by simp(disch:=omega)only[seval,go_sem,cI,fL,aW,bW];rfl) ?_))));all_goals(refine aP ((k2+1,true,out++[v])) (by simp only[seval,go_sem,aW];first|((repeat'(with_reducible apply And.intro))<;>first|rfl|(simp[aW];done))) ?_ ?_<;>(try(omega)))
      all_goals(try(simp only;omega))
      all_goals(refine ⟨by simp only;omega,by simp;omega,?_⟩;rw[<- hg];first|done|simp)
    ·rw[j9 (by omega)] at hg;cases d
     ·simp only[i5,pT,jc] at hg ho;((repeat'(first|simp only[seval,go_sem,bW]|(with_reducible refine aB ?_;refine fl (rs:=[.tmp 4,.tmp 5]) (by with_unfolding_all rfl) rfl ?_<;>simp only[seval,go_sem]<;>(repeat'(with_reducible apply And.intro))<;>(try rfl))|(with_reducible first|refine aV (st:=[]) ?_|refine ai (by simp(disch:=omega)only[seval,go_sem,cI,bW];rfl) ?_))));all_goals(rw[had, <- hg]<;>simp[aW])
     ·simp only[jg,yP] at hg;((repeat'(first|simp only[seval,go_sem]|(with_reducible refine aB ?_;refine fl (rs:=[.tmp 4,.tmp 5]) (by with_unfolding_all rfl) rfl ?_<;>simp only[seval,go_sem]<;>(repeat'(with_reducible apply And.intro))<;>(try rfl))|(with_reducible first|refine aV (st:=[]) ?_|refine ai (by simp(disch:=omega)only[seval,go_sem,cI];rfl) ?_))));all_goals(first|(rw[had, <- hg];done)|(rw[had];done))
 ·((repeat'(first|simp only[seval,go_sem]|((with_reducible refine bJ ?_);refine aq.c (jq ?_) ?_)|(with_reducible refine aD (st:=[]) ?_)|(with_reducible refine aB ?_;(refine aC.fT 4 81 2 (by first|(simp only[seval,go_sem])) (by first|(simp only[seval,go_sem])) (by simp only[seval,go_sem];rfl) ?_);(with_reducible refine aB ?_;refine aC.q rfl rfl (by simp only[seval,go_sem];rfl) (by decide) (by simp only[seval,go_sem];rfl) (by simp only[seval,go_sem];rfl) rfl ?_<;>(try simp only[seval,go_sem])<;>(repeat'(with_reducible apply And.intro))<;>(try rfl)))|(with_reducible first|refine aV (st:=[]) ?_|refine ai (by simp(disch:=omega)only[seval,go_sem,cI];rfl) ?_)))<;>(try((with_reducible assumption))))
  all_goals simp[kH,hz]
theorem Ef {l:List Pn} {c:Int} (hl:l.length<=100000):ak prog 123 [.sl 2 (l.map aW),i6 c]
  (.cT [.cW 0 2 0 (jh l c).1.length,i6 (jh l c).2]) [.row 2 ((jh l c).1.map aW)]:=by
 refine dL [] [10,12,39,40] func123 (by kernel_rfl) ntmps123 rfl rfl ⟨rfl,rfl⟩ (by simp(disch:=omega)only[seval,go_sem,cI,List.replicate,l_2,l_1];rfl) ?_;by_cases hz:dK none l=0
 ·have ok:=oE hz;((repeat'(first|simp only[seval,go_sem,hz]|((with_reducible refine bJ ?_);refine aq.c (jq ?_) ?_)|(with_reducible first|refine aD (st:=[]) ?_|refine aV (st:=[]) ?_|refine ai (by simp(disch:=omega)only[seval,go_sem,cI,hz];rfl) ?_)))<;>(try((with_reducible assumption))));(refine ay.fT 7 40 2 (by first|(simp only[seval,go_sem])) (by first|(simp only[seval,go_sem])) (by simp only[seval,go_sem];rfl) ?_)
  (with_reducible refine ay.cX (fun (t:Nat×Bool×List Pn)=>[(9,i6 t.1),(8,.sc (.bool t.2.1)),(7,.cW 40 2 0 t.2.2.length),(10,.any)]++aN 16 25) (fun (t:Nat×Bool×List Pn)=>[(40,.row 2 (t.2.2.map aW)),(10,.dead),(39,.dead)]) (fun (t:Nat×Bool×List Pn)=>t.1<=l.length/\t.2.2.length<=t.1/\t.2.2++gG c (l.drop t.1)=gG c l/\(t.2.1||qh c (l.drop t.1))=qh c l) (fun (t:Nat×Bool×List Pn)=>l.length-t.1) ((0,false,[])) (⟨ek _,by simp,rfl,rfl⟩) (by intro _;simp(disch:=omega)only[seval,go_sem,cI];rfl) (by simp only[seval,go_sem]) (fun t hI=>?_))
  obtain ⟨k,d,out⟩:=t;obtain ⟨hk,ho,hg,hh⟩:=hI;simp only at hk ho hg hh;by_cases hlt:k<l.length
  ·obtain ⟨v,hv⟩:=aZ hlt;have fL:=get_map aW hv;have hr:=ok.range v (fS hv);rw[aH hv] at hg hh;simp only[gG,qh] at hg hh;have hcs:(v.commit=c/\v.count-1>0)\/(v.commit=c/\¬ v.count-1>0)\/¬ v.commit=c:=by omega
   rcases hcs with ⟨UR,ZV⟩|⟨UR,ZV⟩|UR
   ·((repeat'(first|simp only[seval,go_sem,fL,aW,bW]|(with_reducible first|refine aV (st:=[]) ?_|refine ai (by simp(disch:=omega)only[seval,go_sem,cI,fL,aW,bW];rfl) ?_))))
    all_goals(refine aP ((k+1,true,out++[⟨v.commit,v.count-1⟩])) (by simp only[seval,go_sem,aW];first|((repeat'(with_reducible apply And.intro))<;>first|rfl|(simp[aW];done))) ?_ ?_<;>(try(omega)))
    all_goals(try(simp only;omega))
    all_goals(refine ⟨by simp only;omega,by (first|(simp only;omega)|(simp;omega)),?_,?_⟩)
    all_goals(simp only[lS,List.cons_append,List.nil_append])
    all_goals(try(rw[<- hg];congr 1;(repeat' split)<;>first|rfl|omega))
    all_goals(try(rw[<- hh];(repeat' split)<;>first|rfl|omega|(cases d<;>rfl)))
   ·((repeat'(first|simp only[seval,go_sem,fL,aW,bW]|(with_reducible first|refine aV (st:=[]) ?_|refine ai (by simp(disch:=omega)only[seval,go_sem,cI,fL,aW,bW];rfl) ?_))))
    all_goals(refine aP ((k+1,true,out)) (by simp only[seval,go_sem];first|((repeat'(with_reducible apply And.intro))<;>first|rfl)) ?_ ?_<;>(try(omega)))
    all_goals(try(simp only;omega))
    all_goals(refine ⟨by simp only;omega,by (first|(simp only;omega)|(simp;omega)),?_,?_⟩)
    all_goals(simp only[lS,List.cons_append,List.nil_append])
    all_goals(try(rw[<- hg];congr 1;(repeat' split)<;>first|rfl|omega))
    all_goals(try(rw[<- hh];(repeat' split)<;>first|rfl|omega|(cases d<;>rfl)))
   ·((repeat'(first|simp only[seval,go_sem,fL,aW,bW]|(with_reducible first|refine aV (st:=[]) ?_|refine ai (by simp(disch:=omega)only[seval,go_sem,cI,fL,aW,bW];rfl) ?_))))
    all_goals(refine aP ((k+1,d,out++[v])) (by simp only[seval,go_sem,aW];first|((repeat'(with_reducible apply And.intro))<;>first|rfl|(simp[aW];done))) ?_ ?_<;>(try(omega)))
    all_goals(try(simp only;omega))
    all_goals(refine ⟨by simp only;omega,by (first|(simp only;omega)|(simp;omega)),?_,?_⟩)
    all_goals(simp only[lS,List.cons_append,List.nil_append])
    all_goals(try(rw[<- hg];congr 1;(repeat' split)<;>first|rfl|omega))
    all_goals(try(rw[<- hh];(repeat' split)<;>first|rfl|omega|(cases d<;>rfl)))
  ·rw[j9 (by omega)] at hg hh;have hr:qh c l=d:=by simpa[qh] using hh.symm
   simp only[gG,yP] at hg;cases d
   ·((repeat'(first|simp only[seval,go_sem]|(with_reducible refine aB ?_;(refine aC.fT 4 40 2 (by first|(simp only[seval,go_sem])) (by first|(simp only[seval,go_sem])) (by simp only[seval,go_sem];rfl) ?_);(with_reducible refine aB ?_;refine aC.q rfl rfl (by simp only[seval,go_sem];rfl) (by decide) (by simp only[seval,go_sem];rfl) (by simp only[seval,go_sem];rfl) rfl ?_<;>(try simp only[seval,go_sem])<;>(repeat'(with_reducible apply And.intro))<;>(try rfl)))|(with_reducible first|refine aV (st:=[]) ?_|refine ai (by simp(disch:=omega)only[seval,go_sem,cI];rfl) ?_))))
    all_goals simp[jh,hz,hr]
   ·((repeat'(first|simp only[seval,go_sem]|(with_reducible refine aB ?_;refine fl (rs:=[.tmp 4,.tmp 5]) (by with_unfolding_all rfl) rfl ?_<;>simp only[seval,go_sem]<;>(repeat'(with_reducible apply And.intro))<;>(try rfl))|(with_reducible first|refine aV (st:=[]) ?_|refine ai (by simp(disch:=omega)only[seval,go_sem,cI];rfl) ?_))))
    all_goals simp[jh,hz,hr,hg]
 ·((repeat'(first|simp only[seval,go_sem]|((with_reducible refine bJ ?_);refine aq.c (jq ?_) ?_)|(with_reducible refine aD (st:=[]) ?_)|(with_reducible refine aB ?_;(refine aC.fT 4 40 2 (by first|(simp only[seval,go_sem])) (by first|(simp only[seval,go_sem])) (by simp only[seval,go_sem];rfl) ?_);(with_reducible refine aB ?_;refine aC.q rfl rfl (by simp only[seval,go_sem];rfl) (by decide) (by simp only[seval,go_sem];rfl) (by simp only[seval,go_sem];rfl) rfl ?_<;>(try simp only[seval,go_sem])<;>(repeat'(with_reducible apply And.intro))<;>(try rfl)))|(with_reducible first|refine aV (st:=[]) ?_|refine ai (by simp(disch:=omega)only[seval,go_sem,cI];rfl) ?_)))<;>(try((with_reducible assumption))))
  all_goals simp[jh,hz]
theorem I8 {l:List Pn} {c:Int} (hl:l.length<=100000):ak prog 46 [.sl 2 (l.map aW),i6 c]
  (.cT [.sl 2 ((kH l c).1.map aW),i6 (kH l c).2]) []:=by
 have h:=ak.freeze (Ee (c:=c) hl);simpa[j5,nh,fB] using h
theorem I9 {l:List Pn} {c:Int} (hl:l.length<=100000):ak prog 123 [.sl 2 (l.map aW),i6 c]
  (.cT [.sl 2 ((jh l c).1.map aW),i6 (jh l c).2]) []:=by
 have h:=ak.freeze (Ef (c:=c) hl);simpa[j5,nh,fB] using h
end Go.Proofs.YteemiclhnfkekaaGreat
