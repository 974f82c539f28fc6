/- Directory: what its functions compute (plain). -/
import Derived.Test.YteemiclhnfkekaaGreatZChA
set_option linter.unusedSimpArgs false
set_option linter.unusedVariables false
namespace Go.Proofs.YteemiclhnfkekaaGreat
open Go.RowKit Go.fe Tryz
structure Bd where
 name:ByteArray
 obj:Int
 eo:Int
 to:Int
 deriving DecidableEq
def ag (b:Bd):List D:=[.sc (.string b.name), .sc (.int .i64 b.obj), .sc (.int .i64 b.eo), .sc (.int .i64 b.to)]
def i9 (s:ByteArray):List Int:=s.data.toList.map fun b=>(b.toNat:Int)
theorem xZ (s:ByteArray):(i9 s).length=s.size:=by
 rw[i9,dD,Array.length_toList];rfl
def uM (c:Int):Bool:=decide (97<=c)&&decide (c<=122)
def I1 (c:Int):Bool:=decide (48<=c)&&decide (c<=57)
def tE (c:Int):Bool:=uM c||I1 c||c==45||c==46
def bM (s:ByteArray):Bool:=decide (1<=(s.size:Int))&&decide ((s.size:Int)<=16)&&((i9 s)[0]?).any uM&&(i9 s).all tE
def eW (f t c:Int):Bool:=decide (f<=c)&&(decide (c<t)||t==0)
def lq (x y:ByteArray):Bool:=x.toList==y.toList
def rj (x y:ByteArray):Bool:=Op.bytesLess x.toList y.toList
def jZ (b:Bd):Int:=if bM b.name=false then 6 else if b.obj<1\/b.eo<1\/b.to<0 then 5 else if b.to≠0/\b.to<=b.eo then 19 else 0
def vY (a b:Bd):Bool:=rj b.name a.name||(lq b.name a.name&&(decide (b.eo<=a.eo)||a.to==0||decide (b.eo<a.to)))
def gU (prev:Option Bd):List Bd->Int
 | []=>0
 | b::l=>if jZ b≠0 then jZ b else if prev.any (fun a=>vY a b)=true then 19 else gU (some b) l
def xO (a b:Bd):Bool:=(a.to==0||decide (b.eo<a.to))&&(b.to==0||decide (a.eo<b.to))
def r9 (l:List Bd):List Bd->Nat->Bool
 | [],_=>false
 | b::m,i=>(l.take i).any (fun a=>a.obj==b.obj&&xO a b)||r9 l m (i+1)
def dg (l:List Bd):Int:=if gU none l≠0 then gU none l else if r9 l l 0=true then 9 else 0
def jj (c:Int) (l:List Bd):Bool:=l.any fun b=>decide (c<b.eo)||decide (c<b.to)
def gP (n:ByteArray) (b:Bd):Bool:=lq b.name n&&b.to==0
def k8 (p:Bd->Bool):List Bd->Nat->Int
 | [],_=> -1
 | b::l,i=>if p b=true then (i:Int) else k8 p l (i+1)
def ew (n:ByteArray) (l:List Bd):Int:=k8 (gP n) l 0
def pE (x b:Bd):Bool:=rj x.name b.name||(lq x.name b.name&&decide (x.eo<b.eo))
def eY (b:Bd):List Bd->Nat
 | []=>0
 | x::l=>if pE x b=true then eY b l+1 else 0
def lC (b:Bd) (l:List Bd):List Bd:=l.take (eY b l)++[b]++l.drop (eY b l)
def dw (l:List Bd) (n:ByteArray) (o c:Int):List Bd×Int:=
 if dg l≠0 then ([],dg l) else if bM n=false then ([],6) else if o<1\/c<1 then ([],5) else if jj c l=true then ([],19) else
 if l.any (fun b=>b.to==0&&(lq b.name n||b.obj==o))=true then ([],9) else (lC ⟨n,o,c,0⟩ l,0)
def zx (l:List Bd) (i:Int):Bd:=(l[i.toNat]?).getD ⟨.empty,0,0,0⟩
def vZ (l:List Bd) (i c:Int):List Bd:=l.set i.toNat ⟨(zx l i).name,(zx l i).obj,(zx l i).eo,c⟩
def bI (l:List Bd) (n:ByteArray) (c:Int):List Bd×Int:=
 if dg l≠0 then ([],dg l) else if bM n=false then ([],6) else if c<1 then ([],5) else if jj c l=true then ([],19) else
 if ew n l<0 then ([],8) else if c<=(zx l (ew n l)).eo then ([],19) else (vZ l (ew n l) c,0)
def bH (l:List Bd) (n m:ByteArray) (c:Int):List Bd×Int:=
 if dg l≠0 then ([],dg l) else if bM n=false\/bM m=false then ([],6) else if c<1 then ([],5) else if jj c l=true then ([],19) else
 if ew n l<0 then ([],8) else if 0<=ew m l then ([],9) else if c<=(zx l (ew n l)).eo then ([],19) else (lC ⟨m,(zx l (ew n l)).obj,c,0⟩ (vZ l (ew n l) c),0)
def b9 (n:ByteArray) (c:Int):List Bd->Int×Bool
 | []=>(0,false)
 | b::l=>if (lq b.name n&&eW b.eo b.to c)=true then (b.obj,true) else b9 n c l
set_option maxRecDepth 100000
set_option maxHeartbeats 3200000
theorem OA {s:ByteArray} {i:Nat} {z:Int} (h:(i9 s)[i]? = some z):∃ b:UInt8,s[i]? = some b/\z=(b.toNat:Int):=by
 rw[i9,wH] at h;cases hb:s.data.toList[i]? with
 | none=>rw[hb] at h;simp at h
 | some b=>
   rw[hb] at h;simp only[Option.map_some,fF] at h;have hlt:=(jL.1 hb).1;refine ⟨b,?_,h.symm⟩;rw[Array.length_toList] at hlt;have h2:i<s.size:=hlt;rw[getElem?_pos s i h2];rw[nZ,Pj hlt] at hb;exact hb
theorem qL {s:ByteArray} {i z:Int} (h0:0<=i) (h:(i9 s)[i.toNat]? = some z):aQ prog (Instr.index 9 (.string s) (.int .i64 i))=some (.int .u8 z):=by
 obtain ⟨b,hb,rfl⟩:=OA h;have hu:aQ prog (underlying 9)=some .string:=cm underlying9;unfold Instr.index;simp only[asIntOf,bk,cM,Option.bind_some,hu,h0,jg,hb]
theorem sj {c:Int}:ak prog 150 [.sc (.int .u8 c)] (.sc (.bool (uM c))) []:=by
 unfold uM;refine bR [] [] [.tmp 2] func150 (by kernel_rfl) ntmps150 rfl rfl rfl ⟨rfl,rfl⟩ (by simp(disch:=omega)only[seval,go_sem,cI,List.replicate,l_2,l_1];rfl) ?_
 ((repeat'(first|(with_reducible refine cB ?_;intro hc;(try simp only[fH,reduceCtorEq] at hc);(try(exfalso;omega)))|simp only[seval,go_sem]|((with_reducible refine au ?_);((with_reducible first|refine ah.step (by simp only[seval,go_sem];rfl) ?_|refine ah.step (by simp(disch:=omega)only[seval,go_sem,cI];rfl) ?_);refine dI (st:=[7]) ?_))|(with_reducible first|refine aV (st:=[7]) ?_|refine ai (by simp(disch:=omega)only[seval,go_sem,cI];rfl) ?_|refine dV ?_|refine And.intro ?_ ?_))))
 all_goals(try(first|rfl|(simp;omega)|(simp_all;done)|(simp_all;omega)))
theorem F3 {c:Int}:ak prog 151 [.sc (.int .u8 c)] (.sc (.bool (I1 c))) []:=by
 unfold I1;refine bR [] [] [.tmp 2] func151 (by kernel_rfl) ntmps151 rfl rfl rfl ⟨rfl,rfl⟩ (by simp(disch:=omega)only[seval,go_sem,cI,List.replicate,l_2,l_1];rfl) ?_
 ((repeat'(first|(with_reducible refine cB ?_;intro hc;(try simp only[fH,reduceCtorEq] at hc);(try(exfalso;omega)))|simp only[seval,go_sem]|((with_reducible refine au ?_);((with_reducible first|refine ah.step (by simp only[seval,go_sem];rfl) ?_|refine ah.step (by simp(disch:=omega)only[seval,go_sem,cI];rfl) ?_);refine dI (st:=[7]) ?_))|(with_reducible first|refine aV (st:=[7]) ?_|refine ai (by simp(disch:=omega)only[seval,go_sem,cI];rfl) ?_|refine dV ?_|refine And.intro ?_ ?_))))
 all_goals(try(first|rfl|(simp;omega)|(simp_all;done)|(simp_all;omega)))
theorem sk {c a b:Int}:ak prog 171 [.sc (.int .u8 c), .sc (.int .u8 a), .sc (.int .u8 b)] (.sc (.bool (decide (a<=c)&&decide (c<=b)))) []:=by
 refine bR [] [] [.tmp 6] func171 (by kernel_rfl) ntmps171 rfl rfl rfl ⟨rfl,rfl⟩ (by simp(disch:=omega)only[seval,go_sem,cI,List.replicate,l_2,l_1];rfl) ?_
 ((repeat'(first|(with_reducible refine cB ?_;intro hc;(try simp only[fH,reduceCtorEq] at hc);(try(exfalso;omega)))|simp only[seval,go_sem]|((with_reducible refine au ?_);((with_reducible first|refine ah.step (by simp only[seval,go_sem];rfl) ?_|refine ah.step (by simp(disch:=omega)only[seval,go_sem,cI];rfl) ?_);refine dI (st:=[13]) ?_))|(with_reducible first|refine aV (st:=[13]) ?_|refine ai (by simp(disch:=omega)only[seval,go_sem,cI];rfl) ?_|refine dV ?_|refine And.intro ?_ ?_))))
 all_goals(try(first|rfl|(simp;omega)|(simp_all;done)|(simp_all;omega)))
theorem mX {n:ByteArray} {o f t c:Int}:ak prog 135 [.agg [.sc (.string n),i6 o,i6 f,i6 t],i6 c] (.sc (.bool (eW f t c))) []:=by
 unfold eW;refine bR [] [2] [.tmp 4] func135 (by kernel_rfl) ntmps135 rfl rfl rfl ⟨rfl,rfl⟩ (by simp(disch:=omega)only[seval,go_sem,cI,List.replicate,l_2,l_1];rfl) ?_
 ((repeat'(first|(with_reducible refine cB ?_;intro hc;(try simp only[fH,reduceCtorEq] at hc);(try(exfalso;omega)))|simp only[seval,go_sem]|((with_reducible refine au ?_);((with_reducible first|refine ah.step (by simp only[seval,go_sem];rfl) ?_|refine ah.step (by simp(disch:=omega)only[seval,go_sem,cI];rfl) ?_);refine dI (st:=[17,18]) ?_))|(with_reducible first|refine aV (st:=[17,18]) ?_|refine ai (by simp(disch:=omega)only[seval,go_sem,cI];rfl) ?_|refine dV ?_|refine And.intro ?_ ?_))))
 all_goals(try(first|rfl|(simp;omega)|(simp_all;done)|(simp_all;omega)))
theorem iC {f t c:Int}:ak prog 77 [i6 f,i6 t,i6 c] (.sc (.bool (eW f t c))) []:=by
 unfold eW;refine bR [] [] [.tmp 6] func77 (by kernel_rfl) ntmps77 rfl rfl rfl ⟨rfl,rfl⟩ (by simp(disch:=omega)only[seval,go_sem,cI,List.replicate,l_2,l_1];rfl) ?_
 ((repeat'(first|(with_reducible refine cB ?_;intro hc;(try simp only[fH,reduceCtorEq] at hc);(try(exfalso;omega)))|simp only[seval,go_sem]|((with_reducible refine au ?_);((with_reducible first|refine ah.step (by simp only[seval,go_sem];rfl) ?_|refine ah.step (by simp(disch:=omega)only[seval,go_sem,cI];rfl) ?_);refine dI (st:=[16,17]) ?_))|(with_reducible first|refine aV (st:=[16,17]) ?_|refine ai (by simp(disch:=omega)only[seval,go_sem,cI];rfl) ?_|refine dV ?_|refine And.intro ?_ ?_))))
 all_goals(try(first|rfl|(simp;omega)|(simp_all;done)|(simp_all;omega)))
theorem zA {a b:Bd}:ak prog 198 [.agg (ag a), .agg (ag b)] (.sc (.bool (xO a b))) []:=by
 unfold xO;simp only[ag];refine bR [] [2,3] [.tmp 4] func198 (by kernel_rfl) ntmps198 rfl rfl rfl ⟨rfl,rfl⟩ (by simp(disch:=omega)only[seval,go_sem,cI,List.replicate,l_2,l_1];rfl) ?_
 ((repeat'(first|(with_reducible refine cB ?_;intro hc;(try simp only[fH,reduceCtorEq] at hc);(try(exfalso;omega)))|simp only[seval,go_sem]|((with_reducible refine au ?_);((with_reducible first|refine ah.step (by simp only[seval,go_sem];rfl) ?_|refine ah.step (by simp(disch:=omega)only[seval,go_sem,cI];rfl) ?_);refine dI (st:=[13,24,25]) ?_))|(with_reducible first|refine aV (st:=[13,24,25]) ?_|refine ai (by simp(disch:=omega)only[seval,go_sem,cI];rfl) ?_|refine dV ?_|refine And.intro ?_ ?_))))
 all_goals(try(first|rfl|(simp;omega)|(simp_all;done)|(simp_all;omega)))
theorem tF {s:ByteArray} (h:s.size<1\/16<s.size):bM s=false:=by
 unfold bM;rcases h with h|h
 ·rw[HW (by omega)];rfl
 ·rw[HW (p:=(s.size:Int)<=16) (by omega)];simp
theorem cY {s:ByteArray}:ak prog 82 [.sc (.string s)] (.sc (.bool (bM s))) []:=by
 by_cases h1:s.size<1\/16<s.size
 ·rw[tF h1];by_cases h2:s.size<1
  ·refine bR [] [16,28,32] [.tmp 2] func82 (by kernel_rfl) ntmps82 rfl rfl rfl ⟨rfl,rfl⟩ (by simp(disch:=omega)only[seval,go_sem,cI,List.replicate,l_2,l_1];rfl) ?_;((repeat'(first|simp only[seval,go_sem]|(with_reducible refine aV (st:=[]) ?_)|(with_reducible refine ai (by simp(disch:=omega)only[seval,go_sem,cI];rfl) ?_))))
  ·refine bR [] [16,28,32] [.tmp 2] func82 (by kernel_rfl) ntmps82 rfl rfl rfl ⟨rfl,rfl⟩ (by simp(disch:=omega)only[seval,go_sem,cI,List.replicate,l_2,l_1];rfl) ?_;((repeat'(first|simp only[seval,go_sem]|(with_reducible refine aV (st:=[]) ?_)|(with_reducible refine ai (by simp(disch:=omega)only[seval,go_sem,cI];rfl) ?_))))
 have hsz:=xZ s;obtain ⟨z,hz⟩:=aZ (l:=i9 s) (k:=0) (by omega);have hi:=qL (s:=s) (i:=0) (by omega) hz
 have e:bM s=(uM z&&(i9 s).all tE):=by
  unfold bM;rw[GQ (by omega),GQ (by omega),hz];rfl
 rw[e];cases h3:uM z with
 | false=>
   simp only[J1];refine bR [] [16,28,32] [.tmp 2] func82 (by kernel_rfl) ntmps82 rfl rfl rfl ⟨rfl,rfl⟩ (by simp(disch:=omega)only[seval,go_sem,cI,List.replicate,l_2,l_1];rfl) ?_;((repeat'(first|simp only[seval,go_sem,hi,h3]|((with_reducible refine bJ ?_);refine aq.c (sj) ?_)|(with_reducible first|refine aD (st:=[]) ?_|refine aV (st:=[]) ?_|refine ai (by simp(disch:=omega)only[seval,go_sem,cI,hi,h3];rfl) ?_))))
 | true=>
   simp only[Cz];refine bR [] [16,28,32] [.tmp 2] func82 (by kernel_rfl) ntmps82 rfl rfl rfl ⟨rfl,rfl⟩ (by simp(disch:=omega)only[seval,go_sem,cI,List.replicate,l_2,l_1];rfl) ?_;((repeat'(first|simp only[seval,go_sem,hi,h3]|((with_reducible refine bJ ?_);refine aq.c (sj) ?_)|(with_reducible first|refine aD (st:=[]) ?_|refine aV (st:=[]) ?_|refine ai (by simp(disch:=omega)only[seval,go_sem,cI,hi,h3];rfl) ?_))));(with_reducible refine ay.cX (fun (k:Nat)=>[(21,i6 k)]++aN 2 3++aN 22 22) (fun (k:Nat)=>[(28,.dead),(32,.dead)]) (fun (k:Nat)=>k<=s.size/\((i9 s).drop k).all tE=(i9 s).all tE) (fun (k:Nat)=>s.size-k) (0) (⟨ek _,rfl⟩) (by intro _;simp(disch:=omega)only[seval,go_sem,cI];rfl) (by simp only[seval,go_sem]) (fun k hI=>?_));obtain ⟨hk,hf⟩:=hI;by_cases hlt:k<s.size
   ·obtain ⟨y,hy⟩:=aZ (l:=i9 s) (k:=k) (by omega);have UQ:=qL (s:=s) (i:=k) (by omega) hy;rw[aH hy,List.all_cons,tE] at hf;cases c1:uM y<;>cases c2:I1 y<;>cases c3:(y==45)<;>cases c4:(y==46)<;>simp only[c1,c2,c3,c4,Bool.or_false,Bool.or_true,wo,Cl,J1,Cz] at hf<;>simp only[nX,y8,ne_eq] at c3 c4;all_goals(try(exfalso;omega))
    all_goals((repeat'(first|simp only[seval,go_sem,UQ,c1,c2]|((with_reducible refine bJ ?_);first|refine aq.c (sj) ?_|refine aq.c (F3) ?_)|(with_reducible first|refine aD (st:=[]) ?_|refine aV (st:=[]) ?_|refine ai (by simp(disch:=omega)only[seval,go_sem,cI,UQ,c1,c2];rfl) ?_)))<;>(try((with_reducible assumption))))
    all_goals(try(refine aP (k+1) (by simp only[seval,go_sem];first|((repeat'(with_reducible apply And.intro))<;>first|rfl)) ?_ ?_<;>(try(omega))))
    all_goals(try(first|(exfalso;omega)|exact ⟨by omega,hf⟩|(exact hf)|(exact hf.symm)))
   ·rw[j9 (by omega)] at hf;rw[<- hf];((repeat'(first|simp only[seval,go_sem]|(with_reducible refine aV (st:=[]) ?_)|(with_reducible refine ai (by simp(disch:=omega)only[seval,go_sem,cI];rfl) ?_))))
theorem cD {s:ByteArray}:ak prog 112 [.sc (.string s)] (.sc (.bool (bM s))) []:=by
 by_cases h1:s.size<1\/16<s.size
 ·rw[tF h1];by_cases h2:s.size<1
  ·refine bR [] [15,27,33] [.tmp 2] func112 (by kernel_rfl) ntmps112 rfl rfl rfl ⟨rfl,rfl⟩ (by simp(disch:=omega)only[seval,go_sem,cI,List.replicate,l_2,l_1];rfl) ?_;((repeat'(first|simp only[seval,go_sem]|(with_reducible refine aV (st:=[]) ?_)|(with_reducible refine ai (by simp(disch:=omega)only[seval,go_sem,cI];rfl) ?_))))
  ·refine bR [] [15,27,33] [.tmp 2] func112 (by kernel_rfl) ntmps112 rfl rfl rfl ⟨rfl,rfl⟩ (by simp(disch:=omega)only[seval,go_sem,cI,List.replicate,l_2,l_1];rfl) ?_;((repeat'(first|simp only[seval,go_sem]|(with_reducible refine aV (st:=[]) ?_)|(with_reducible refine ai (by simp(disch:=omega)only[seval,go_sem,cI];rfl) ?_))))
 have hsz:=xZ s;obtain ⟨z,hz⟩:=aZ (l:=i9 s) (k:=0) (by omega);have hi:=qL (s:=s) (i:=0) (by omega) hz
 have e:bM s=(uM z&&(i9 s).all tE):=by
  unfold bM;rw[GQ (by omega),GQ (by omega),hz];rfl
 rw[e];cases h3:uM z with
 | false=>
   simp only[J1];unfold uM at h3;refine bR [] [15,27,33] [.tmp 2] func112 (by kernel_rfl) ntmps112 rfl rfl rfl ⟨rfl,rfl⟩ (by simp(disch:=omega)only[seval,go_sem,cI,List.replicate,l_2,l_1];rfl) ?_;((repeat'(first|simp only[seval,go_sem,hi,h3]|((with_reducible refine bJ ?_);refine aq.c (sk) ?_)|(with_reducible first|refine aD (st:=[]) ?_|refine aV (st:=[]) ?_|refine ai (by simp(disch:=omega)only[seval,go_sem,cI,hi,h3];rfl) ?_))))
 | true=>
   simp only[Cz];unfold uM at h3;refine bR [] [15,27,33] [.tmp 2] func112 (by kernel_rfl) ntmps112 rfl rfl rfl ⟨rfl,rfl⟩ (by simp(disch:=omega)only[seval,go_sem,cI,List.replicate,l_2,l_1];rfl) ?_;((repeat'(first|simp only[seval,go_sem,hi,h3]|((with_reducible refine bJ ?_);refine aq.c (sk) ?_)|(with_reducible first|refine aD (st:=[]) ?_|refine aV (st:=[]) ?_|refine ai (by simp(disch:=omega)only[seval,go_sem,cI,hi,h3];rfl) ?_))));(with_reducible refine ay.cX (fun (k:Nat)=>[(3,i6 k),(2,.any)]++aN 18 30) (fun (k:Nat)=>[(27,.dead),(33,.dead)]) (fun (k:Nat)=>k<=s.size/\((i9 s).drop k).all tE=(i9 s).all tE) (fun (k:Nat)=>s.size-k) (0) (⟨ek _,rfl⟩) (by intro _;simp(disch:=omega)only[seval,go_sem,cI];rfl) (by simp only[seval,go_sem]) (fun k hI=>?_));obtain ⟨hk,hf⟩:=hI;by_cases hlt:k<s.size
   ·obtain ⟨y,hy⟩:=aZ (l:=i9 s) (k:=k) (by omega);have UQ:=qL (s:=s) (i:=k) (by omega) hy;rw[aH hy,List.all_cons,tE] at hf;cases c1:uM y<;>cases c2:I1 y<;>cases c3:(y==45)<;>cases c4:(y==46)<;>simp only[c1,c2,c3,c4,Bool.or_false,Bool.or_true,wo,Cl,J1,Cz] at hf<;>simp only[nX,y8,ne_eq] at c3 c4;all_goals(try(exfalso;omega))
    all_goals unfold uM at c1
    all_goals unfold I1 at c2
    all_goals((repeat'(first|simp only[seval,go_sem,UQ,c1,c2]|((with_reducible refine bJ ?_);refine aq.c (sk) ?_)|(with_reducible first|refine aD (st:=[]) ?_|refine aV (st:=[]) ?_|refine ai (by simp(disch:=omega)only[seval,go_sem,cI,UQ,c1,c2];rfl) ?_)))<;>(try((with_reducible assumption))))
    all_goals(try(refine aP (k+1) (by simp only[seval,go_sem];first|((repeat'(with_reducible apply And.intro))<;>first|rfl)) ?_ ?_<;>(try(omega))))
    all_goals(try(first|(exfalso;omega)|exact ⟨by omega,hf⟩|(exact hf)|(exact hf.symm)))
   ·rw[j9 (by omega)] at hf;rw[<- hf];((repeat'(first|simp only[seval,go_sem]|(with_reducible refine aV (st:=[]) ?_)|(with_reducible refine ai (by simp(disch:=omega)only[seval,go_sem,cI];rfl) ?_))))
set_option maxHeartbeats 6400000
def xM (l:List Bd) (k:Nat):Option Bd:=if k=0 then none else l[k-1]?
theorem kI {vs:List Bd} {k:Nat} {v:Bd} (h:vs[k]? = some v):xM vs (k+1)=some v:=by simp[xM,h]
theorem AU {vs:List Bd} {k:Nat} {u:Bd} (h:0<k) (hu:vs[k-1]? = some u):xM vs k=some u:=by simp[xM,hu];omega
theorem xN (vs:List Bd):xM vs 0=none:=rfl
def Yv (l:List Bd) (k:Nat) (b:Bd):Bool:=(l.take k).any (fun a=>a.obj==b.obj&&xO a b)
theorem oI {l:List Bd} (hl:l.length<=100000):ak prog 152 [.sl 4 (l.map ag)] (i6 (dg l)) []:=by
 refine dP [] [4,5,7,9,20,109] func152 rfl call152 rfl (by decide) (by decide) rfl rfl ntmps152 (by simp(disch:=omega)only[seval,go_sem,cI,List.replicate,l_2,l_1];rfl) (by simp(disch:=omega)only[seval,go_sem,cI,l_2,l_1];rfl) ?_;((repeat'(first|(with_reducible first|refine ay.seq ?_|refine ay.block ?_|refine ah.nil ?_|refine bG ?_|refine ay.bE (by simp only[fk,eM];rfl) ?_)|((with_reducible refine au ?_);(with_reducible refine ah.step (by simp only[seval,go_sem];rfl) ?_)))))
 (with_reducible refine ay.sS (fun (k:Nat)=>[(12,i6 k),(2,.any),(3,.any),(4,.any),(5,.any),(13,.any),(14,.any),(15,.any),(16,.any),(17,.any),(18,.any),(19,.any),(20,.any),(21,.any),(22,.any),(23,.any),(24,.any),(25,.any),(26,.any),(27,.any),(28,.any),(29,.any),(30,.any),(31,.any),(32,.any),(33,.any),(34,.any),(35,.any),(36,.any),(37,.any),(38,.any),(39,.any),(40,.any),(41,.any),(42,.any),(43,.any),(44,.any),(45,.any),(46,.any),(47,.any),(48,.any),(49,.any),(50,.any),(51,.any),(52,.any),(53,.any),(54,.any),(55,.any),(56,.any),(57,.any),(58,.any),(59,.any),(60,.any),(61,.any),(62,.any),(63,.any),(64,.any),(65,.any),(66,.any),(67,.any),(68,.any),(69,.any),(70,.any),(71,.any),(72,.any),(73,.any),(74,.any),(75,.any),(76,.any),(77,.any),(78,.any),(79,.any),(80,.any),(81,.any),(82,.any),(83,.any),(84,.any),(85,.any)]) (fun (k:Nat)=>[(4,.dead),(5,.dead),(20,.dead)]) (fun (k:Nat)=>k<=l.length/\gU (xM l k) (l.drop k)=gU none l) (fun (k:Nat)=>l.length-k) (0) (⟨ek _,rfl⟩) (by intro _;simp(disch:=omega)only[seval,go_sem,cI];rfl) (by intro _;simp(disch:=omega)only[seval,go_sem,cI];rfl) (by (refine bL ?_);(try simp only[seval,go_sem])) (by (refine bX ?_);(try simp only[seval,go_sem])) (fun k hI=>?_))
 obtain ⟨hk,hf⟩:=hI;by_cases hlt:k<l.length
 focus
  obtain ⟨b,hb⟩:=aZ hlt;have hb':=get_map ag hb;rw[aH hb,gU] at hf;by_cases hz:jZ b=0
  focus
   rw[aE (by simp[hz])] at hf;have ZE:=hz;unfold jZ at hz;have n1:bM b.name=true:=by cases h:bM b.name<;>simp_all
   rw[aE (by simp[n1])] at hz;have n2:¬ (b.obj<1\/b.eo<1\/b.to<0):=fun h=>by rw[bC h] at hz;cases hz
   rw[aE n2] at hz;have n3:¬ (b.to≠0/\b.to<=b.eo):=fun h=>by rw[bC h] at hz;cases hz
   by_cases h0:k=0
   ·subst h0;rw[xN] at hf;simp only[Option.any_none,pT,jc] at hf
    ((repeat'(first|(with_reducible first|refine ay.seq ?_|refine ay.block ?_|refine ay.skip ?_|refine ay.exit ?_|refine ah.nil ?_|refine bG ?_|refine iN ?_|refine dh ?_|refine eR ?_|refine gn ?_|refine ay.bE (by simp only[fk,eM];rfl) ?_)|((with_reducible refine au ?_);first|(with_reducible refine ah.step (by simp only[seval,go_sem,hb',ag,n1];rfl) ?_)|((with_reducible refine cy ?_);((with_reducible (refine ah.dE (by simp only[seval,go_sem,hb',ag,n1];rfl) (by simp only[seval,go_sem,hb',ag,n1];rfl) ?_));refine bN.c [] (cY) (by simp only[seval,go_sem,hb',ag,n1];rfl) ?_))|(with_reducible first|refine ah.step (by simp(disch:=omega)only[seval,go_sem,cI,hb',ag,n1];rfl) ?_|refine ah.iM (by simp only[seval,go_sem,hb',ag,n1];rfl) (by simp only[seval,go_sem,hb',ag,n1];rfl) (by (fail_if_success (with_reducible exact Io));(fail_if_success (with_reducible exact Ip));exact Il) (cL ?_) (cL ?_)))|(with_reducible refine cg ?_;with_reducible refine ay.cond (by simp only[seval,go_sem,hb',ag,n1];rfl) (cL ?_) (cL ?_))|(with_reducible refine cB ?_;intro hc;(try simp only[fH,reduceCtorEq] at hc);(try(exfalso;omega))))))
    all_goals(try(exfalso;omega))
    all_goals(try(refine kF (1) (by (refine bL ?_);(try simp only[seval,go_sem])) (by (refine bX ?_);(try simp only[seval,go_sem])) ?_ ?_<;>(try(omega))))
    all_goals(try(exact ⟨by omega,by rw[kI hb];exact hf⟩))
   focus
    obtain ⟨a,ha⟩:=aZ (show k-1<l.length by omega);have gM:=get_map ag ha;rw[AU (by omega) ha,Option.any_some] at hf;cases hp:vY a b
    ·rw[hp] at hf;simp only[pT,jc] at hf;unfold vY rj lq at hp;cases c1:Op.bytesLess b.name.toList a.name.toList with
     | true=>
       rw[c1] at hp;simp at hp
     | false=>
       rw[c1] at hp;cases c2:(b.name.toList==a.name.toList) with
       | false=>
         ((repeat'(first|(with_reducible first|refine ay.seq ?_|refine ay.block ?_|refine ay.skip ?_|refine ah.nil ?_|refine bG ?_|refine dh ?_|refine gn ?_|refine ay.bE (by simp only[fk,eM];rfl) ?_)|((with_reducible refine au ?_);first|(with_reducible refine ah.step (by simp only[seval,go_sem,ag,n1,c1,c2,hb',gM];rfl) ?_)|((with_reducible refine cy ?_);((with_reducible (refine ah.dE (by simp only[seval,go_sem,ag,n1,c1,c2,hb',gM];rfl) (by simp only[seval,go_sem,ag,n1,c1,c2,hb',gM];rfl) ?_));refine bN.c [] (cY) (by simp only[seval,go_sem,ag,n1,c1,c2,hb',gM];rfl) ?_))|(with_reducible first|refine ah.step (by simp(disch:=omega)only[seval,go_sem,cI,ag,n1,c1,c2,hb',gM];rfl) ?_|refine ah.iM (by simp only[seval,go_sem,ag,n1,c1,c2,hb',gM];rfl) (by simp only[seval,go_sem,ag,n1,c1,c2,hb',gM];rfl) (by (fail_if_success (with_reducible exact Io));(fail_if_success (with_reducible exact Ip));exact Il) (cL ?_) (cL ?_)))|(with_reducible refine cg ?_;with_reducible refine ay.cond (by simp only[seval,go_sem,ag,n1,c1,c2,hb',gM];rfl) (cL ?_) (cL ?_))|(with_reducible refine cB ?_;intro hc;(try simp only[fH,reduceCtorEq] at hc);(try(exfalso;omega))))))
         all_goals(try(refine kF (k+1) (by (refine bL ?_);(try simp only[seval,go_sem]);first|((repeat'(with_reducible apply And.intro))<;>first|rfl)) (by (refine bX ?_);(try simp only[seval,go_sem])) ?_ ?_<;>(try(omega))))
         all_goals(try(exact ⟨by omega,by rw[kI hb];exact hf⟩))
       | true=>
         simp only[c2,wo,Cz,MC,Pk,y8,ne_eq] at hp;obtain ⟨⟨c3,c4⟩,c5⟩:=hp
         ((repeat'(first|(with_reducible first|refine ay.seq ?_|refine ay.block ?_|refine ay.skip ?_|refine ah.nil ?_|refine bG ?_|refine dh ?_|refine gn ?_|refine ay.bE (by simp only[fk,eM];rfl) ?_)|((with_reducible refine au ?_);first|(with_reducible refine ah.step (by simp only[seval,go_sem,ag,n1,c1,c2,hb',gM];rfl) ?_)|((with_reducible refine cy ?_);((with_reducible (refine ah.dE (by simp only[seval,go_sem,ag,n1,c1,c2,hb',gM];rfl) (by simp only[seval,go_sem,ag,n1,c1,c2,hb',gM];rfl) ?_));refine bN.c [] (cY) (by simp only[seval,go_sem,ag,n1,c1,c2,hb',gM];rfl) ?_))|(with_reducible first|refine ah.step (by simp(disch:=omega)only[seval,go_sem,cI,ag,n1,c1,c2,hb',gM];rfl) ?_|refine ah.iM (by simp only[seval,go_sem,ag,n1,c1,c2,hb',gM];rfl) (by simp only[seval,go_sem,ag,n1,c1,c2,hb',gM];rfl) (by (fail_if_success (with_reducible exact Io));(fail_if_success (with_reducible exact Ip));exact Il) (cL ?_) (cL ?_)))|(with_reducible refine cg ?_;with_reducible refine ay.cond (by simp only[seval,go_sem,ag,n1,c1,c2,hb',gM];rfl) (cL ?_) (cL ?_))|(with_reducible refine cB ?_;intro hc;(try simp only[fH,reduceCtorEq] at hc);(try(exfalso;omega))))))
         all_goals(try(refine kF (k+1) (by (refine bL ?_);(try simp only[seval,go_sem]);first|((repeat'(with_reducible apply And.intro))<;>first|rfl)) (by (refine bX ?_);(try simp only[seval,go_sem])) ?_ ?_<;>(try(omega))))
         all_goals(try(exact ⟨by omega,by rw[kI hb];exact hf⟩))
    focus
     rw[bC hp] at hf;have hv:dg l=19:=by unfold dg;rw[bC (by omega)];exact hf.symm
     rw[hv];unfold vY rj lq at hp;cases c1:Op.bytesLess b.name.toList a.name.toList
     focus
      rw[c1] at hp;cases c2:(b.name.toList==a.name.toList)
      ·rw[c2] at hp;simp at hp
      focus
       simp only[c2,wo,Cz,vN,pP,nX] at hp;by_cases c3:b.eo<=a.eo
       focus
        have hZ:=(And.intro hb' (And.intro gM (And.intro n1 (And.intro c1 c2))))
       rotate_left 1
       focus
        by_cases c4:a.to=0
        focus
         have hZ:=(And.intro hb' (And.intro gM (And.intro n1 (And.intro c1 c2))))
        rotate_left 1
        focus
         have c5:b.eo<a.to:=by omega
         have hZ:=(And.intro hb' (And.intro gM (And.intro n1 (And.intro c1 c2))))
        rotate_left 1
       rotate_left 2
      rotate_left 3
     rotate_left 3
     focus
      have hZ:=(And.intro hb' (And.intro gM (And.intro n1 c1)))
     rotate_left 1
    rotate_left 4
   rotate_left 4
  rotate_left 4
  focus
   rw[bC hz] at hf;have hv:dg l=jZ b:=by unfold dg;rw[bC (by omega)];exact hf.symm
   rw[hv];unfold jZ;cases n1:bM b.name
   focus
    have hZ:=(And.intro hb' n1)
   rotate_left 1
   focus
    simp only[Bool.true_eq_false,jc];by_cases n2:b.obj<1\/b.eo<1\/b.to<0
    ·rw[bC n2]
     ((repeat'(first|(with_reducible first|refine ay.seq ?_|refine ay.block ?_|refine ay.skip ?_|refine ay.ret ?_|refine ah.nil ?_|refine bG ?_|refine eB ?_|refine c8 ?_|refine jT ?_|refine ay.bE (by simp only[fk,eM];rfl) ?_)|((with_reducible refine au ?_);first|(with_reducible refine ah.step (by simp only[seval,go_sem,hb',ag,n1];rfl) ?_)|((with_reducible refine cy ?_);((with_reducible (refine ah.dE (by simp only[seval,go_sem,hb',ag,n1];rfl) (by simp only[seval,go_sem,hb',ag,n1];rfl) ?_));refine bN.c [] (cY) (by simp only[seval,go_sem,hb',ag,n1];rfl) ?_))|(with_reducible first|refine ah.step (by simp(disch:=omega)only[seval,go_sem,cI,hb',ag,n1];rfl) ?_|refine ah.iM (by simp only[seval,go_sem,hb',ag,n1];rfl) (by simp only[seval,go_sem,hb',ag,n1];rfl) (by (fail_if_success (with_reducible exact Io));(fail_if_success (with_reducible exact Ip));exact Il) (cL ?_) (cL ?_)))|(with_reducible refine cg ?_;with_reducible refine ay.cond (by simp only[seval,go_sem,hb',ag,n1];rfl) (cL ?_) (cL ?_))|(with_reducible refine cB ?_;intro hc;(try simp only[fH,reduceCtorEq] at hc);(try(exfalso;omega)))|(with_reducible refine aB ?_;refine aC.q rfl rfl (by simp only[seval,go_sem];rfl) (by decide) (by simp only[seval,go_sem];rfl) (by simp only[seval,go_sem];rfl) rfl ?_<;>(try simp only[seval,go_sem])<;>(repeat'(with_reducible apply And.intro))<;>(try rfl)))))
     all_goals(try(exfalso;omega))
    focus
     rw[aE n2]
     have n3:b.to≠0/\b.to<=b.eo:=by
      refine Decidable.byContradiction fun h=>hz ?_;unfold jZ;rw[aE (by simp[n1]),aE n2,aE h]
     rw[bC n3];have hZ:=(And.intro hb' n1)
    rotate_left 1
   rotate_left 1
  rotate_left 2
 rotate_left 6
 focus
  rw[j9 (by omega),gU] at hf;have hv:dg l=if r9 l l 0=true then 9 else 0:=by unfold dg;rw[aE (by omega)]
  rw[hv]
  ((repeat'(first|(with_reducible first|refine ay.seq ?_|refine ay.block ?_|refine ay.exit ?_|refine ah.nil ?_|refine bG ?_|refine iN ?_|refine eR ?_|refine jU ?_|refine ay.bE (by simp only[fk,eM];rfl) ?_)|((with_reducible refine au ?_);(with_reducible first|refine ah.step (by simp only[seval,go_sem];rfl) ?_|refine ah.step (by simp(disch:=omega)only[seval,go_sem,cI];rfl) ?_))|(with_reducible refine cg ?_;with_reducible refine ay.cond (by simp only[seval,go_sem];rfl) (cL ?_) (cL ?_))|(with_reducible refine cB ?_;intro hc;(try simp only[fH,reduceCtorEq] at hc);(try(exfalso;omega))))))
  (with_reducible refine ay.sS (fun (k:Nat)=>[(88,i6 k),(2,.any),(6,.any),(7,.any),(9,.any),(89,.any),(90,.any),(91,.any),(92,.any),(93,.any),(94,.any),(95,.any),(96,.any),(97,.any),(98,.any),(99,.any),(100,.any),(101,.any),(102,.any),(103,.any),(104,.any),(105,.any),(106,.any),(107,.any),(108,.any),(109,.any),(110,.any),(111,.any),(112,.any)]) (fun (k:Nat)=>[(7,.dead),(9,.dead),(109,.dead)]) (fun (k:Nat)=>k<=l.length/\r9 l (l.drop k) k=r9 l l 0) (fun (k:Nat)=>l.length-k) (0) (⟨ek _,rfl⟩) (by intro _;simp(disch:=omega)only[seval,go_sem,cI];rfl) (by intro _;simp(disch:=omega)only[seval,go_sem,cI];rfl) (by (refine bL ?_);(try simp only[seval,go_sem])) (by (refine bX ?_);(try simp only[seval,go_sem])) (fun k hI=>?_))
  clear hlt hk;obtain ⟨hk,hg⟩:=hI;by_cases hlt:k<l.length
  focus
   obtain ⟨b,hb⟩:=aZ hlt;have hb':=get_map ag hb;rw[aH hb,r9] at hg;have htl:((l.map ag).take k).length=k:=by rw[cw,dD];omega
   ((repeat'(first|(with_reducible first|refine ay.seq ?_|refine ay.block ?_|refine ay.skip ?_|refine ah.nil ?_|refine bG ?_|refine ay.bE (by simp only[fk,eM];rfl) ?_)|((with_reducible refine au ?_);(with_reducible first|refine ah.step (by simp only[seval,go_sem,ag,hb',htl];rfl) ?_|refine ah.step (by simp(disch:=omega)only[seval,go_sem,cI,ag,hb',htl];rfl) ?_))|(with_reducible refine cg ?_;with_reducible refine ay.cond (by simp only[seval,go_sem,ag,hb',htl];rfl) (cL ?_) (cL ?_))|(with_reducible refine cB ?_;intro hc;(try simp only[fH,reduceCtorEq] at hc);(try(exfalso;omega))))))
   (with_reducible refine ay.sS (fun (j:Nat)=>[(97,i6 j),(2,.any),(9,.any),(98,.any),(99,.any),(100,.any),(101,.any),(102,.any),(103,.any),(104,.any),(105,.any),(106,.any),(107,.any),(108,.any),(109,.any),(110,.any),(111,.any)]) (fun (j:Nat)=>[(9,.dead),(109,.dead)]) (fun (j:Nat)=>j<=k/\((l.take k).drop j).any (fun a=>a.obj==b.obj&&xO a b)=(l.take k).any (fun a=>a.obj==b.obj&&xO a b)) (fun (j:Nat)=>k-j) (0) (⟨ek _,rfl⟩) (by intro _;simp(disch:=omega)only[seval,go_sem,cI];rfl) (by intro _;simp(disch:=omega)only[seval,go_sem,cI];rfl) (by (refine bL ?_);(try simp only[seval,go_sem])) (by (refine bX ?_);(try simp only[seval,go_sem])) (fun j hI=>?_))
   obtain ⟨hj,hh⟩:=hI;by_cases hjk:j<k
   focus
    obtain ⟨a,ha⟩:=aZ (show j<l.length by omega);have hat:(l.take k)[j]? = some a:=by rw[EJ hjk];exact ha
    have gM:=get_map ag hat;rw[Qy] at gM;have EN:=zA (a:=a) (b:=b);simp only[ag] at EN;rw[aH hat,List.any_cons] at hh;by_cases c1:a.obj=b.obj
    focus
     rw[nX.2 c1,Cz] at hh;cases c2:xO a b
     ·rw[c2,wo] at hh
      ((repeat'(first|(with_reducible first|refine ay.seq ?_|refine ay.block ?_|refine ay.skip ?_|refine ah.nil ?_|refine bG ?_|refine dh ?_|refine gn ?_|refine ay.bE (by simp only[fk,eM];rfl) ?_)|((with_reducible refine au ?_);first|(with_reducible refine ah.step (by simp only[seval,go_sem,gM,ag,c2];rfl) ?_)|((with_reducible refine cy ?_);((with_reducible (refine ah.dE (by simp only[seval,go_sem,gM,ag,c2];rfl) (by simp only[seval,go_sem,gM,ag,c2];rfl) ?_));refine bN.c [] (EN) (by simp only[seval,go_sem,gM,ag,c2];rfl) ?_))|(with_reducible refine ah.step (by simp(disch:=omega)only[seval,go_sem,cI,gM,ag,c2];rfl) ?_))|(with_reducible refine cg ?_;with_reducible refine ay.cond (by simp only[seval,go_sem,gM,ag,c2];rfl) (cL ?_) (cL ?_))|(with_reducible refine cB ?_;intro hc;(try simp only[fH,reduceCtorEq] at hc);(try(exfalso;omega))))))
      all_goals(try(refine kF (j+1) (by (refine bL ?_);(try simp only[seval,go_sem]);first|((repeat'(with_reducible apply And.intro))<;>first|rfl)) (by (refine bX ?_);(try simp only[seval,go_sem])) ?_ ?_<;>(try(omega))))
      all_goals(try(exact ⟨by omega,hh⟩))
     focus
      rw[c2,Cl] at hh;rw[<- hh,Cl] at hg;rw[<- hg,bC rfl];have hZ:=(And.intro gM c2)
     rotate_left 1
    rotate_left 1
    ·rw[y8.2 c1,J1,wo] at hh
     ((repeat'(first|(with_reducible first|refine ay.seq ?_|refine ay.block ?_|refine ay.skip ?_|refine ah.nil ?_|refine bG ?_|refine dh ?_|refine gn ?_|refine ay.bE (by simp only[fk,eM];rfl) ?_)|((with_reducible refine au ?_);(with_reducible first|refine ah.step (by simp only[seval,go_sem,gM,ag];rfl) ?_|refine ah.step (by simp(disch:=omega)only[seval,go_sem,cI,gM,ag];rfl) ?_))|(with_reducible refine cg ?_;with_reducible refine ay.cond (by simp only[seval,go_sem,gM,ag];rfl) (cL ?_) (cL ?_))|(with_reducible refine cB ?_;intro hc;(try simp only[fH,reduceCtorEq] at hc);(try(exfalso;omega))))))
     all_goals(try(refine kF (j+1) (by (refine bL ?_);(try simp only[seval,go_sem]);first|((repeat'(with_reducible apply And.intro))<;>first|rfl)) (by (refine bX ?_);(try simp only[seval,go_sem])) ?_ ?_<;>(try(omega))))
     all_goals(try(exact ⟨by omega,hh⟩))
   rotate_left 1
   ·have:j=k:=by omega
    subst this;rw[j9 (by rw[cw];omega),List.any_nil] at hh;rw[<- hh,wo] at hg
    ((repeat'(first|(with_reducible first|refine ay.seq ?_|refine ay.exit ?_|refine ah.nil ?_|refine bG ?_|refine iN ?_|refine dh ?_|refine eR ?_|refine gn ?_|refine jU ?_|refine ay.bE (by simp only[fk,eM];rfl) ?_)|((with_reducible refine au ?_);(with_reducible first|refine ah.step (by simp only[seval,go_sem];rfl) ?_|refine ah.step (by simp(disch:=omega)only[seval,go_sem,cI];rfl) ?_))|(with_reducible refine cg ?_;with_reducible refine ay.cond (by simp only[seval,go_sem];rfl) (cL ?_) (cL ?_))|(with_reducible refine cB ?_;intro hc;(try simp only[fH,reduceCtorEq] at hc);(try(exfalso;omega))))))
    all_goals(try(refine kF (j+1) (by (refine bL ?_);(try simp only[seval,go_sem]);first|((repeat'(with_reducible apply And.intro))<;>first|rfl)) (by (refine bX ?_);(try simp only[seval,go_sem])) ?_ ?_<;>(try(omega))))
    all_goals(try(exact ⟨by omega,hg⟩))
  rotate_left 1
  focus
   rw[j9 (by omega),r9] at hg;rw[<- hg];have hZ:=ek 0
  rotate_left 1
 rotate_left 2
 all_goals((repeat'(first|(with_reducible first|refine ay.seq ?_|refine ay.block ?_|refine ay.skip ?_|refine ay.exit ?_|refine ay.ret ?_|refine ah.nil ?_|refine bG ?_|refine eB ?_|refine iN ?_|refine dh ?_|refine c8 ?_|refine eR ?_|refine jT ?_|refine jU ?_|refine ay.bE (by simp only[fk,eM];rfl) ?_)|((with_reducible refine au ?_);first|(with_reducible refine ah.step (by simp only[seval,go_sem,ag,hZ];rfl) ?_)|((with_reducible refine cy ?_);((with_reducible (refine ah.dE (by simp only[seval,go_sem,ag,hZ];rfl) (by simp only[seval,go_sem,ag,hZ];rfl) ?_));first|refine bN.c [] (EN) (by simp only[seval,go_sem,ag,hZ];rfl) ?_|refine bN.c [] (cY) (by simp only[seval,go_sem,ag,hZ];rfl) ?_))|(with_reducible first|refine ah.step (by simp(disch:=omega)only[seval,go_sem,cI,ag,hZ];rfl) ?_|refine ah.iM (by simp only[seval,go_sem,ag,hZ];rfl) (by simp only[seval,go_sem,ag,hZ];rfl) (by (fail_if_success (with_reducible exact Io));(fail_if_success (with_reducible exact Ip));exact Il) (cL ?_) (cL ?_)))|(with_reducible refine cg ?_;with_reducible refine ay.cond (by simp only[seval,go_sem,ag,hZ];rfl) (cL ?_) (cL ?_))|(with_reducible refine cB ?_;intro hc;(try simp only[fH,reduceCtorEq] at hc);(try(exfalso;omega)))|(with_reducible refine aB ?_;refine aC.q rfl rfl (by simp only[seval,go_sem];rfl) (by decide) (by simp only[seval,go_sem];rfl) (by simp only[seval,go_sem];rfl) rfl ?_<;>(try simp only[seval,go_sem])<;>(repeat'(with_reducible apply And.intro))<;>(try rfl)))))
theorem HA (x y:List UInt8):(!(Op.bytesLess x y||x==y))=Op.bytesLess y x:=by
 rcases mA x y with h|h|h
 ·rw[h,tn h];rfl
 ·subst h;simp[nP]
 ·rw[h,tn h,y8.2 (LK h).symm];rfl
theorem kJ:∀ (l:List Bd) (p:Option Bd),gU p l=0->∀ b∈l,jZ b=0
 | [],_,_,b,hb=>by cases hb
 | x::l,p,h,b,hb=>by
   rw[gU] at h;by_cases h1:jZ x=0
   ·rw[aE (by simp[h1])] at h
    split at h
    ·cases h
    ·rcases lp.1 hb with rfl|hb
     ·exact h1
     ·exact kJ l _ h b hb
   ·rw[bC h1] at h;exact absurd h h1
theorem mZ {b:Bd} (h:jZ b=0):bM b.name=true/\1<=b.obj/\1<=b.eo/\0<=b.to/\(b.to=0\/b.eo<b.to):=by
 unfold jZ at h
 split at h
 ·cases h
 ·rename_i h1
  split at h
  ·cases h
  ·split at h
   ·cases h
   ·exact ⟨by simpa using h1,by omega,by omega,by omega,by omega⟩
theorem ov_holds {a b:Bd} (ha:jZ a=0) (hb:jZ b=0):(eW a.eo a.to b.eo||eW b.eo b.to a.eo)=xO a b:=by
 obtain ⟨_,a1,a2,a3,a4⟩:=mZ ha;obtain ⟨_,b1,b2,b3,b4⟩:=mZ hb;rw[Bool.eq_iff_iff];simp only[eW,xO,vN,jl,pP,nX];omega
end Go.Proofs.YteemiclhnfkekaaGreat
