/- Directory: the walks of add of the program and of place of the reference. -/
import Derived.Test.YteemiclhnfkekaaGreatZDiD
set_option linter.unusedSimpArgs false
set_option linter.unusedVariables false
set_option maxRecDepth 100000
set_option maxHeartbeats 6400000
namespace Go.Proofs.YteemiclhnfkekaaGreat
open Go.RowKit Go.fe Tryz
theorem RA (l:List Bd):(List.map ag l).all o6=true:=by simp[yO,ag,o6,mT]
attribute [go_sem] RA
theorem qm {rows:List (List D)} (hl:rows.length<=1000000):ak prog 72 [.sl 4 rows] (.cW 0 4 0 rows.length) [.row 4 rows]:=by
 refine dP [] [5,7] func72 rfl call72 rfl (by decide) (by decide) rfl rfl ntmps72 (by simp(disch:=omega)only[seval,go_sem,cI,List.replicate,l_2,l_1];rfl) (by simp(disch:=omega)only[seval,go_sem,cI,l_2,l_1];rfl) ?_
 ((repeat'(first|(with_reducible first|refine ay.seq ?_|refine ay.skip ?_|refine ay.ret ?_|refine ah.nil ?_|refine bG ?_|refine eB ?_|refine ay.bE (by simp only[fk,eM];rfl) ?_)|((with_reducible refine au ?_);first|(with_reducible first|refine ah.step (by simp only[seval,go_sem];rfl) ?_|refine ah.step (by simp(disch:=omega)only[seval,go_sem,cI];rfl) ?_)|(with_reducible refine BG ?_;with_reducible refine ah.KD (by simp only[seval,go_sem]) (by simp only[seval,go_sem];rfl) (by simp only[seval,go_sem];rfl) (by simp only[seval,go_sem];rfl) (fun b hb=>?_)))|(with_reducible refine cg ?_;with_reducible refine ay.cond (by simp only[seval,go_sem];rfl) (cL ?_) (cL ?_))|(with_reducible refine cB ?_;intro hc;(try simp only[fH,reduceCtorEq] at hc);(try(exfalso;omega)))|(with_reducible refine aB ?_;refine aC.q rfl rfl (by simp only[seval,go_sem];rfl) (by decide) (by simp only[seval,go_sem];rfl) (by simp only[seval,go_sem];rfl) rfl ?_<;>(try simp only[seval,go_sem])<;>(repeat'(with_reducible apply And.intro))<;>(try rfl)))))
 ·have h0:rows=[]:=tY (hb hc);subst h0;(refine aC.fT 2 7 4 (by first|(simp only[seval,go_sem])) (by first|(simp only[seval,go_sem])) (by simp only[seval,go_sem];rfl) ?_);(with_reducible refine aB ?_;refine aC.q rfl rfl (by simp only[seval,go_sem];rfl) (by decide) (by simp only[seval,go_sem];rfl) (by simp only[seval,go_sem];rfl) rfl ?_<;>(try simp only[seval,go_sem])<;>(repeat'(with_reducible apply And.intro))<;>(try rfl))<;>simp
theorem kK (b:Bd):∀ l:List Bd,eY b l<=l.length
 | []=>iU _
 | x::l=>by
   unfold eY
   split
   ·have:=kK b l;simp only[List.length_cons];omega
   ·exact ek _
theorem xT {l:List Bd} {b:Bd} (hl:l.length<=100000):ak prog 157 [.sl 4 (l.map ag), .agg (ag b)] (.sl 4 ((lC b l).map ag)) []:=by
 have pZ:=kK b l;have j8:(List.take (eY b l) (List.map ag l)++[[D.sc (Value.string b.name),D.sc (Value.int IntKind.i64 b.obj),D.sc (Value.int IntKind.i64 b.eo),D.sc (Value.int IntKind.i64 b.to)]]++List.drop (eY b l) (List.map ag l)).length=l.length+1:=by simp only[bW,cw,bQ,dD,List.length_cons,List.length_nil];omega
 simp only[ag];refine dL [] [3,43,46,47] func157 (by kernel_rfl) ntmps157 rfl rfl ⟨rfl,rfl⟩ (by simp(disch:=omega)only[seval,go_sem,cI,List.replicate,l_2,l_1];rfl) ?_;((repeat'(first|simp only[seval,go_sem]|(with_reducible refine aV (st:=[]) ?_))));(with_reducible refine ay.cX (fun (k:Nat)=>[(5,i6 k)]++aN 6 36) (fun (k:Nat)=>[]) (fun (k:Nat)=>k<=l.length/\eY b l=k+eY b (l.drop k)) (fun (k:Nat)=>l.length-k) (0) (⟨ek _,by simp⟩) (by intro _;simp(disch:=omega)only[seval,go_sem,cI];rfl) (by simp only[seval,go_sem]) (fun k hI=>?_));obtain ⟨hk,hf⟩:=hI;by_cases hlt:k<l.length
 ·obtain ⟨x,hx⟩:=aZ hlt;have hx':=get_map ag hx;rw[aH hx,eY,pE,rj,lq] at hf;cases c1:Op.bytesLess x.name.toList b.name.toList with
  | true=>
    rw[c1,Cl,bC rfl] at hf;((repeat'(first|simp only[seval,go_sem,hx',ag,c1]|(with_reducible refine br ?_;refine dX mix (by kernel_rfl) ?_)|(with_reducible first|refine aV (st:=[]) ?_|refine dO (by simp(disch:=omega)only[seval,go_sem,cI,hx',ag,c1];rfl) ?_|refine ai (by simp(disch:=omega)only[seval,go_sem,cI,hx',ag,c1];rfl) ?_))));all_goals(try(refine aP (k+1) (by simp only[seval,go_sem];first|((repeat'(with_reducible apply And.intro))<;>first|rfl)) ?_ ?_<;>(try(omega))))
    all_goals(try(exact ⟨by omega,by omega⟩))
  | false=>
    rw[c1,wo] at hf;cases c2:(x.name.toList==b.name.toList) with
    | true=>
      rw[c2,Cz] at hf;by_cases c3:x.eo<b.eo
      ·rw[bC (by simpa using c3)] at hf;((repeat'(first|simp only[seval,go_sem,hx',ag,c1,c2]|(with_reducible refine br ?_;refine dX mix (by kernel_rfl) ?_)|(with_reducible first|refine aV (st:=[]) ?_|refine dO (by simp(disch:=omega)only[seval,go_sem,cI,hx',ag,c1,c2];rfl) ?_|refine ai (by simp(disch:=omega)only[seval,go_sem,cI,hx',ag,c1,c2];rfl) ?_))));all_goals(try(refine aP (k+1) (by simp only[seval,go_sem];first|((repeat'(with_reducible apply And.intro))<;>first|rfl)) ?_ ?_<;>(try(omega))))
       all_goals(try(exact ⟨by omega,by omega⟩))
      ·rw[aE (by simpa using c3),Nat.add_zero] at hf;subst hf
       ((repeat'(first|(with_reducible refine aY 4 ?_;refine ay.bU 4 mix 7 rfl (.f 0 <| .f 2 <| .a <| .b 1 (.a <| .b 3 (.a <| .b 4 (.a <| .b 5 (.f 6 <| .d) .e) .e) .e) <| .b 3 (.a <| .b 1 (.a <| .b 4 (.a <| .b 5 (.f 6 <| .d) .e) .e) <| .b 4 (.a <| .b 1 (.a <| .b 5 (.f 6 <| .d) .e) .e) .e) .e) (by kernel_rfl) ?_)|(with_reducible refine cA ?_;first|refine aJ.D ?_|refine aJ.F (by simp only[seval,go_sem,eg,dJ];rfl) (by first|(simp only[seval,go_sem,ag,c1,c2,hx',j8])) (by first|(simp only[seval,go_sem,ag,c1,c2,hx',j8];with_reducible rfl)) ?_|refine aJ.A ?_)|(with_reducible first|exact aI.E|refine aI.B (by simp only[seval,go_sem,eg,dJ];rfl) ?_ ?_)|simp only[seval,go_sem,ag,c1,c2,hx',j8]|((with_reducible refine bJ ?_);refine aq.n (qm ?_) ?_)|((with_reducible refine au ?_);first|((with_reducible refine cq (st:=[]) 0 ?_);simp only[seval,go_sem,ag,c1,c2,hx',j8];refine bZ.n (xS ?_ ?_ ?_ ?_ ?_ ?_ ?_) ?_)|(with_reducible refine aD (st:=[]) ?_)|((with_reducible first|refine ah.step (by simp only[seval,go_sem,ag,c1,c2,hx',j8];rfl) ?_);refine dI (st:=[]) ?_))|(with_reducible refine br ?_;refine dX mix (by kernel_rfl) ?_)|(with_reducible refine aB ?_;(refine aC.gu 47 (by simp only[seval,go_sem];rfl) (by simp only[seval,go_sem,ag,c1,c2,hx',j8];rfl) ?_);(with_reducible refine aB ?_;refine aC.q rfl rfl (by simp only[seval,go_sem];rfl) (by decide) (by simp only[seval,go_sem];rfl) (by simp only[seval,go_sem];rfl) rfl ?_<;>(try simp only[seval,go_sem,ag,c1,c2,hx',j8])<;>(repeat'(with_reducible apply And.intro))<;>(try rfl)))|(with_reducible first|refine aV (st:=[]) ?_|refine dO (by simp(disch:=omega)only[seval,go_sem,cI,ag,c1,c2,hx',j8];rfl) ?_)))<;>(try(first|((with_reducible show (_:Int)<=_);omega)|((with_reducible show (_:Nat)<=_);omega))))
       all_goals(try(first|omega|decide|(simp;done)|(simp;omega)|(simp[lC,ag];done)|(rw[lz (by simp[kK];omega)];simp[lC,ag];done)))
    | false=>
      rw[c2,J1,aE (by decide),Nat.add_zero] at hf;subst hf
      ((repeat'(first|(with_reducible refine aY 4 ?_;refine ay.bU 4 mix 7 rfl (.f 0 <| .f 2 <| .a <| .b 1 (.a <| .b 3 (.a <| .b 4 (.a <| .b 5 (.f 6 <| .d) .e) .e) .e) <| .b 3 (.a <| .b 1 (.a <| .b 4 (.a <| .b 5 (.f 6 <| .d) .e) .e) <| .b 4 (.a <| .b 1 (.a <| .b 5 (.f 6 <| .d) .e) .e) .e) .e) (by kernel_rfl) ?_)|(with_reducible refine cA ?_;first|refine aJ.D ?_|refine aJ.F (by simp only[seval,go_sem,eg,dJ];rfl) (by first|(simp only[seval,go_sem,ag,c1,c2,hx',j8])) (by first|(simp only[seval,go_sem,ag,c1,c2,hx',j8];with_reducible rfl)) ?_|refine aJ.A ?_)|(with_reducible first|exact aI.E|refine aI.B (by simp only[seval,go_sem,eg,dJ];rfl) ?_ ?_)|simp only[seval,go_sem,ag,c1,c2,hx',j8]|((with_reducible refine bJ ?_);refine aq.n (qm ?_) ?_)|((with_reducible refine au ?_);first|((with_reducible refine cq (st:=[]) 0 ?_);simp only[seval,go_sem,ag,c1,c2,hx',j8];refine bZ.n (xS ?_ ?_ ?_ ?_ ?_ ?_ ?_) ?_)|(with_reducible refine aD (st:=[]) ?_)|((with_reducible first|refine ah.step (by simp only[seval,go_sem,ag,c1,c2,hx',j8];rfl) ?_);refine dI (st:=[]) ?_))|(with_reducible refine br ?_;refine dX mix (by kernel_rfl) ?_)|(with_reducible refine aB ?_;(refine aC.gu 47 (by simp only[seval,go_sem];rfl) (by simp only[seval,go_sem,ag,c1,c2,hx',j8];rfl) ?_);(with_reducible refine aB ?_;refine aC.q rfl rfl (by simp only[seval,go_sem];rfl) (by decide) (by simp only[seval,go_sem];rfl) (by simp only[seval,go_sem];rfl) rfl ?_<;>(try simp only[seval,go_sem,ag,c1,c2,hx',j8])<;>(repeat'(with_reducible apply And.intro))<;>(try rfl)))|(with_reducible first|refine aV (st:=[]) ?_|refine dO (by simp(disch:=omega)only[seval,go_sem,cI,ag,c1,c2,hx',j8];rfl) ?_)))<;>(try(first|((with_reducible show (_:Int)<=_);omega)|((with_reducible show (_:Nat)<=_);omega))))
      all_goals(try(first|omega|decide|(simp;done)|(simp;omega)|(simp[lC,ag];done)|(rw[lz (by simp[kK];omega)];simp[lC,ag];done)))
 ·rw[j9 (by omega),eY,Nat.add_zero] at hf;subst hf
  ((repeat'(first|(with_reducible refine aY 4 ?_;refine ay.bU 4 mix 7 rfl (.f 0 <| .f 2 <| .a <| .b 1 (.a <| .b 3 (.a <| .b 4 (.a <| .b 5 (.f 6 <| .d) .e) .e) .e) <| .b 3 (.a <| .b 1 (.a <| .b 4 (.a <| .b 5 (.f 6 <| .d) .e) .e) <| .b 4 (.a <| .b 1 (.a <| .b 5 (.f 6 <| .d) .e) .e) .e) .e) (by kernel_rfl) ?_)|(with_reducible refine cA ?_;first|refine aJ.D ?_|refine aJ.F (by simp only[seval,go_sem,eg,dJ];rfl) (by first|(simp only[seval,go_sem,ag,j8])) (by first|(simp only[seval,go_sem,ag,j8];with_reducible rfl)) ?_|refine aJ.A ?_)|(with_reducible first|exact aI.E|refine aI.B (by simp only[seval,go_sem,eg,dJ];rfl) ?_ ?_)|simp only[seval,go_sem,ag,j8]|((with_reducible refine bJ ?_);refine aq.n (qm ?_) ?_)|((with_reducible refine au ?_);first|((with_reducible refine cq (st:=[]) 0 ?_);simp only[seval,go_sem,ag,j8];refine bZ.n (xS ?_ ?_ ?_ ?_ ?_ ?_ ?_) ?_)|(with_reducible refine aD (st:=[]) ?_)|((with_reducible first|refine ah.step (by simp only[seval,go_sem,ag,j8];rfl) ?_);refine dI (st:=[]) ?_))|(with_reducible refine br ?_;refine dX mix (by kernel_rfl) ?_)|(with_reducible refine aB ?_;(refine aC.gu 47 (by simp only[seval,go_sem];rfl) (by simp only[seval,go_sem,ag,j8];rfl) ?_);(with_reducible refine aB ?_;refine aC.q rfl rfl (by simp only[seval,go_sem];rfl) (by decide) (by simp only[seval,go_sem];rfl) (by simp only[seval,go_sem];rfl) rfl ?_<;>(try simp only[seval,go_sem,ag,j8])<;>(repeat'(with_reducible apply And.intro))<;>(try rfl)))|(with_reducible first|refine aV (st:=[]) ?_|refine dO (by simp(disch:=omega)only[seval,go_sem,cI,ag,j8];rfl) ?_)))<;>(try(first|((with_reducible show (_:Int)<=_);omega)|((with_reducible show (_:Nat)<=_);omega))))
  all_goals(try(first|omega|decide|(simp;done)|(simp;omega)|(simp[lC,ag];done)|(rw[lz (by simp[kK];omega)];simp[lC,ag];done)))
def Qg (l:List Bd):Prop:=l.Pairwise (fun x y=>pE x y=true)
theorem LU {l:List Bd} {k:Nat} {x b:Bd} (hx:l[k]? = some x):(((l.take (k+1)++[b]++l.drop (k+1)).set (k+1) x).set k b)=l.take k++[b]++l.drop k:=by
 have hlt:=(jL.1 hx).1;have h1:l.take (k+1)=l.take k++[x]:=by rw[H7,hx];rfl
 have h2:l.drop k=x::l.drop (k+1):=aH hx;have h3:(l.take k).length=k:=by rw[cw];omega
 rw[h1,h2];simp only[lS,List.cons_append,List.nil_append];rw[Ph _ _ (by omega),h3,SC];simp only[List.set_cons_succ,List.set_cons_zero];rw[Ph _ _ (by omega),h3,JC];rfl
theorem AW (b:Bd):∀ (l:List Bd) (i:Nat),i<=l.length->(∀ j x,j<i->l[j]? = some x->pE x b=true)->(∀ x,l[i]? = some x->pE x b=false)->eY b l=i
 | [],i,h,_,_=>by simp at h;subst h;rfl
 | x::l,0,_,_,h2=>by
   have:=h2 x rfl;unfold eY;rw[aE (by simp[this])]
 | x::l,i+1,h,h1,h2=>by
   have h3:=h1 0 x (by omega) rfl;unfold eY;rw[bC h3,AW b l i (by simpa using h) (fun j y hj hy=>h1 (j+1) y (by omega) (by simpa using hy)) (fun y hy=>h2 y (by simpa using hy))]
theorem uK {x y z:Bd} (h:pE x y=true) (g:pE y z=true):pE x z=true:=by
 simp only[pE,rj,lq,vN,jl,pP,nX] at h g ⊢;rcases h with h|⟨h,h'⟩<;>rcases g with g|⟨g,g'⟩
 ·exact .inl (qi h g)
 ·rw[<- g];exact .inl h
 ·rw[h];exact .inl g
 ·exact .inr ⟨h.trans g,by omega⟩
theorem AX {x y:Bd} (h:pE x y=true):pE y x=false:=by
 simp only[pE,rj,lq,vN,jl,pP,nX] at h;rw[Bool.eq_false_iff];intro g;simp only[pE,rj,lq,vN,jl,pP,nX] at g;rcases h with h|⟨h,h'⟩<;>rcases g with g|⟨g,g'⟩
 ·rw[tn h] at g;cases g
 ·exact LK h g.symm
 ·exact LK g h.symm
 ·omega
theorem HB {l:List Bd} (hs:Qg l) {i j:Nat} {x y:Bd} (hx:l[i]? = some x) (hy:l[j]? = some y) (h:i<j):pE x y=true:=by
 obtain ⟨h1,e1⟩:=jL.1 hx;obtain ⟨h2,e2⟩:=jL.1 hy;subst e1 e2;exact JW.1 hs i j h1 h2 h
theorem HC {l:List Bd} {b:Bd} {k:Nat} (hk:k<=l.length) (hs:Qg l) (h1:∀ j x,k<=j->l[j]? = some x->pE b x=true) (h2:∀ x,0<k->l[k-1]? = some x->pE x b=true):lC b l=l.take k++[b]++l.drop k:=by
 have:eY b l=k:=AW b l k hk (fun j x hj hx=>by
  by_cases e:j=k-1
  ·subst e;exact h2 x (by omega) hx
  ·obtain ⟨y,hy⟩:=aZ (show k-1<l.length by omega)
   exact uK (HB hs hx hy (by omega)) (h2 y (by omega) hy)) (fun x hx=>AX (h1 k x (iU _) hx))
 rw[lC,this]
theorem tD {l:List Bd} {b:Bd} (hl:l.length<=100000) (hs:Qg l) (hb:∀ x∈l,pE x b=true\/pE b x=true):ak prog 175 [.sl 4 (l.map ag), .agg (ag b)] (.sl 4 ((lC b l).map ag)) []:=by
 have hlen:∀ k,k<=l.length->(l.take k++[b]++l.drop k).length=l.length+1:=fun k hk=>by simp only[bW,cw,bQ,List.length_cons,List.length_nil];omega
 have Yt:[D.sc (.string b.name),D.sc (.int .i64 b.obj),D.sc (.int .i64 b.eo),D.sc (.int .i64 b.to)]=ag b:=rfl;have xU:(List.map ag l++[[D.sc (Value.string b.name),D.sc (Value.int IntKind.i64 b.obj),D.sc (Value.int IntKind.i64 b.eo),D.sc (Value.int IntKind.i64 b.to)]]).length=l.length+1:=by simp
 simp only[ag];refine dL [] [3,8,10,11] func175 (by kernel_rfl) ntmps175 rfl rfl ⟨rfl,rfl⟩ (by simp(disch:=omega)only[seval,go_sem,cI,List.replicate,l_2,l_1];rfl) ?_
 ((repeat'(first|(with_reducible refine aY 1 ?_;refine ay.bU 1 mix 6 rfl (.f 0 <| .a <| .b 1 (.a <| .b 2 (.a <| .b 3 (.a <| .b 4 (.f 5 <| .d) .e) .e) .e) <| .b 2 (.a <| .b 1 (.a <| .b 3 (.a <| .b 4 (.f 5 <| .d) .e) .e) <| .b 3 (.a <| .b 1 (.a <| .b 4 (.f 5 <| .d) .e) .e) .e) .e) (by kernel_rfl) ?_)|(with_reducible refine cA ?_;first|refine aJ.D ?_|refine aJ.F (by simp only[seval,go_sem,eg,dJ];rfl) (by first|(simp only[seval,go_sem,xU])) (by first|(simp only[seval,go_sem,xU];with_reducible rfl)) ?_|refine aJ.A ?_)|(with_reducible first|exact aI.E|refine aI.B (by simp only[seval,go_sem,eg,dJ];rfl) ?_ ?_)|simp only[seval,go_sem,xU]|((with_reducible refine au ?_);((with_reducible first|refine ah.step (by simp only[seval,go_sem,xU];rfl) ?_|refine ah.step (by simp(disch:=omega)only[seval,go_sem,cI,xU];rfl) ?_);refine dI (st:=[]) ?_))|(with_reducible first|refine aV (st:=[]) ?_|refine ai (by simp(disch:=omega)only[seval,go_sem,cI,xU];rfl) ?_))))
 all_goals(with_reducible refine ay.cX (fun (k:Nat)=>[(6,i6 k),(5,.cW 11 4 0 (l.length+1))]++aN 15 62) (fun (k:Nat)=>[(11,.row 4 ((l.take k++[b]++l.drop k).map ag))]) (fun (k:Nat)=>k<=l.length/\∀ j x,k<=j->l[j]? = some x->pE b x=true) (fun (k:Nat)=>k) (l.length) (⟨iU _,fun j x h hx=>by have:=(jL.1 hx).1;omega⟩) (by intro _;simp(disch:=omega)only[seval,go_sem,cI];rfl) (by simp only[seval,go_sem,Na,List.drop_length,ag];first|((repeat'(with_reducible apply And.intro))<;>first|omega|(simp[Na,List.drop_length,ag];done))) (fun k hI=>?_))
 all_goals
  obtain ⟨hk,hf⟩:=hI;rcases k with _|k
  ·have ha:=HC (l:=l) (b:=b) (k:=0) (by omega) hs hf (fun x h=>by omega);rw[ha];have dM:((l.take 0++[b]++l.drop 0).map ag).length=l.length+1:=by rw[dD];exact hlen 0 (by omega)
   ((repeat'(first|simp only[seval,go_sem,dM]|(with_reducible refine br ?_;refine dX mix (by kernel_rfl) ?_)|(with_reducible refine aB ?_;(refine aC.gu 11 (by simp only[seval,go_sem];rfl) (by simp only[seval,go_sem,dM];rfl) ?_);(with_reducible refine aB ?_;refine aC.q rfl rfl (by simp only[seval,go_sem];rfl) (by decide) (by simp only[seval,go_sem];rfl) (by simp only[seval,go_sem];rfl) rfl ?_<;>(try simp only[seval,go_sem,dM])<;>(repeat'(with_reducible apply And.intro))<;>(try rfl)))|(with_reducible first|refine aV (st:=[]) ?_|refine dO (by simp(disch:=omega)only[seval,go_sem,cI,dM];rfl) ?_))))
   all_goals(try(exact lz (by rw[dM];omega)))
  ·obtain ⟨x,hx⟩:=aZ (show k<l.length by omega);have ZG:(l.take (k+1)).length=k+1:=by rw[cw];omega
   have g1:(l.take (k+1)++[b]++l.drop (k+1))[k+1]? = some b:=by
    rw[lS,EI (by omega),ZG,JC];rfl
   have g2:(l.take (k+1)++[b]++l.drop (k+1))[k]? = some x:=by
    rw[lS,Ck (by omega),EJ (by omega)];exact hx
   have yS:=get_map ag g1;have vr:=get_map ag g2;have hsw:=congrArg (List.map ag) (LU (b:=b) hx);simp only[qO] at hsw;have dM:((l.take (k+1)++[b]++l.drop (k+1)).map ag).length=l.length+1:=by rw[dD];exact hlen (k+1) (by omega)
   have g3:((List.map ag (l.take (k+1)++[b]++l.drop (k+1))).set (k+1) (ag x))[k]? = some (ag x):=by rw[ua (by omega)];exact vr
   simp only[ag] at g3;simp only[ag] at hsw;generalize hR:l.take (k+1)++[b]++l.drop (k+1)=RR at *;have e1:((k+1:Nat):Int)-1=k:=by omega
   rcases hb x (fS hx) with hlt|hlt
   ·have ha:=HC (l:=l) (b:=b) (k:=k+1) hk hs hf (fun y _ hy=>by rw[Nat.add_sub_cancel,hx] at hy;cases hy;exact hlt);rw[ha,hR];have has:=AX hlt;simp only[pE,rj,lq,MC] at has;obtain ⟨c1,c2⟩:=has;cases c3:(b.name.toList==x.name.toList) with
    | false=>
      ((repeat'(first|simp only[seval,go_sem,yS,vr,ag,c1,c3,e1,dM]|(with_reducible refine br ?_;refine dX mix (by kernel_rfl) ?_)|(with_reducible refine aB ?_;(refine aC.gu 11 (by simp only[seval,go_sem];rfl) (by simp only[seval,go_sem,yS,vr,ag,c1,c3,e1,dM];rfl) ?_);(with_reducible refine aB ?_;refine aC.q rfl rfl (by simp only[seval,go_sem];rfl) (by decide) (by simp only[seval,go_sem];rfl) (by simp only[seval,go_sem];rfl) rfl ?_<;>(try simp only[seval,go_sem,yS,vr,ag,c1,c3,e1,dM])<;>(repeat'(with_reducible apply And.intro))<;>(try rfl)))|(with_reducible first|refine aV (st:=[]) ?_|refine dO (by simp(disch:=omega)only[seval,go_sem,cI,yS,vr,ag,c1,c3,e1,dM];rfl) ?_))))
      all_goals(try(exact lz (by rw[dM];omega)))
    | true=>
      rw[c3,Cz,Pk] at c2
      ((repeat'(first|simp only[seval,go_sem,yS,vr,ag,c1,c3,e1,dM]|(with_reducible refine br ?_;refine dX mix (by kernel_rfl) ?_)|(with_reducible refine aB ?_;(refine aC.gu 11 (by simp only[seval,go_sem];rfl) (by simp only[seval,go_sem,yS,vr,ag,c1,c3,e1,dM];rfl) ?_);(with_reducible refine aB ?_;refine aC.q rfl rfl (by simp only[seval,go_sem];rfl) (by decide) (by simp only[seval,go_sem];rfl) (by simp only[seval,go_sem];rfl) rfl ?_<;>(try simp only[seval,go_sem,yS,vr,ag,c1,c3,e1,dM])<;>(repeat'(with_reducible apply And.intro))<;>(try rfl)))|(with_reducible first|refine aV (st:=[]) ?_|refine dO (by simp(disch:=omega)only[seval,go_sem,cI,yS,vr,ag,c1,c3,e1,dM];rfl) ?_))))
      all_goals(try(exact lz (by rw[dM];omega)))
   ·have hnext:k<=l.length/\∀ (j:Nat) (x:Bd),k<=j->l[j]? = some x->pE b x=true:=⟨by omega,fun j y hj hy=>by
     by_cases e:j=k
     ·subst e;rw[hx] at hy;cases hy;exact hlt
     ·exact hf j y (by omega) hy⟩
    have has:=hlt;simp only[pE,rj,lq,vN] at has;cases c1:Op.bytesLess b.name.toList x.name.toList with
    | true=>
      ((repeat'(first|(with_reducible refine aY 5 ?_;refine ay.bU 5 mix 18 rfl (.f 0 <| .f 1 <| .f 2 <| .f 3 <| .f 4 <| .f 5 <| .f 6 <| .f 7 <| .f 8 <| .f 10 <| .f 11 <| .f 12 <| .a <| .b 9 (.a <| .b 13 (.f 14 <| .a <| .b 15 (.f 16 <| .a <| .b 17 (.d) .e) .e) .e) <| .b 13 (.a <| .b 9 (.f 14 <| .a <| .b 15 (.f 16 <| .a <| .b 17 (.d) .e) .e) .e) .e) (by kernel_rfl) ?_)|(with_reducible refine cA ?_;first|refine aJ.D ?_|refine aJ.F (by simp only[seval,go_sem,eg,dJ];rfl) (by first|(simp only[seval,go_sem,yS,vr,g3,ag,c1,e1])) (by first|(simp only[seval,go_sem,yS,vr,g3,ag,c1,e1];with_reducible rfl)|(simp(disch:=omega)only[seval,go_sem,cI,yS,vr,g3,ag,c1,e1];with_reducible rfl)) ?_|refine aJ.A ?_)|(with_reducible first|exact aI.E|refine aI.B (by simp only[seval,go_sem,eg,dJ];rfl) ?_ ?_)|simp only[seval,go_sem,yS,vr,g3,ag,c1,e1]|((with_reducible refine au ?_);((with_reducible first|refine ah.step (by simp only[seval,go_sem,yS,vr,g3,ag,c1,e1];rfl) ?_);refine dI (st:=[]) ?_))|(with_reducible refine br ?_;refine dX mix (by kernel_rfl) ?_)|(with_reducible first|refine aV (st:=[]) ?_|refine dO (by simp(disch:=omega)only[seval,go_sem,cI,yS,vr,g3,ag,c1,e1];rfl) ?_|refine ai (by simp(disch:=omega)only[seval,go_sem,cI,yS,vr,g3,ag,c1,e1];rfl) ?_))))
      all_goals(try(refine aP (k) (by simp only[seval,go_sem,hsw]) ?_ ?_<;>(try(omega))))
      all_goals(try(exact hnext))
    | false=>
      rw[c1] at has;simp only[pT,false_or,jl,pP] at has;obtain ⟨c2,c3⟩:=has
      ((repeat'(first|(with_reducible refine aY 5 ?_;refine ay.bU 5 mix 18 rfl (.f 0 <| .f 1 <| .f 2 <| .f 3 <| .f 4 <| .f 5 <| .f 6 <| .f 7 <| .f 8 <| .f 10 <| .f 11 <| .f 12 <| .a <| .b 9 (.a <| .b 13 (.f 14 <| .a <| .b 15 (.f 16 <| .a <| .b 17 (.d) .e) .e) .e) <| .b 13 (.a <| .b 9 (.f 14 <| .a <| .b 15 (.f 16 <| .a <| .b 17 (.d) .e) .e) .e) .e) (by kernel_rfl) ?_)|(with_reducible refine cA ?_;first|refine aJ.D ?_|refine aJ.F (by simp only[seval,go_sem,eg,dJ];rfl) (by first|(simp only[seval,go_sem,yS,vr,g3,ag,c1,c2,e1])) (by first|(simp only[seval,go_sem,yS,vr,g3,ag,c1,c2,e1];with_reducible rfl)|(simp(disch:=omega)only[seval,go_sem,cI,yS,vr,g3,ag,c1,c2,e1];with_reducible rfl)) ?_|refine aJ.A ?_)|(with_reducible first|exact aI.E|refine aI.B (by simp only[seval,go_sem,eg,dJ];rfl) ?_ ?_)|simp only[seval,go_sem,yS,vr,g3,ag,c1,c2,e1]|((with_reducible refine au ?_);((with_reducible first|refine ah.step (by simp only[seval,go_sem,yS,vr,g3,ag,c1,c2,e1];rfl) ?_);refine dI (st:=[]) ?_))|(with_reducible refine br ?_;refine dX mix (by kernel_rfl) ?_)|(with_reducible first|refine aV (st:=[]) ?_|refine dO (by simp(disch:=omega)only[seval,go_sem,cI,yS,vr,g3,ag,c1,c2,e1];rfl) ?_|refine ai (by simp(disch:=omega)only[seval,go_sem,cI,yS,vr,g3,ag,c1,c2,e1];rfl) ?_))))
      all_goals(try(refine aP (k) (by simp only[seval,go_sem,hsw]) ?_ ?_<;>(try(omega))))
      all_goals(try(exact hnext))
theorem HD {a b:Bd} (h:vY a b=false):pE a b=true/\(lq b.name a.name=true->a.to≠0/\a.to<=b.eo):=by
 simp only[vY,rj,lq,MC] at h;obtain ⟨h1,h2⟩:=h;cases c:(b.name.toList==a.name.toList) with
 | true=>
   rw[c,Cz] at h2;simp only[MC,Pk,y8,ne_eq] at h2;rw[nX] at c;refine ⟨?_,fun _=>by omega⟩;simp only[pE,rj,lq,c,vN,jl,pP,dc,true_and];exact .inr (by omega)
 | false=>
   refine ⟨?_,fun h=>by simp[lq,c] at h⟩;rw[y8] at c;simp only[pE,rj,uG h1 (fun e=>c e.symm),Cl]
theorem qK:∀ (l:List Bd) (p:Option Bd),gU p l=0->Qg l/\∀ a,p=some a->∀ x∈l,pE a x=true
 | [],_,_=>⟨List.Pairwise.nil,fun _ _ _ h=>by cases h⟩
 | b::l,p,h=>by
   rw[gU] at h;by_cases h1:jZ b=0
   ·rw[aE (by simp[h1])] at h
    split at h
    ·cases h
    ·rename_i h2;obtain ⟨g1,g2⟩:=qK l (some b) h;refine ⟨List.Pairwise.cons (fun x hx=>g2 b rfl x hx) g1,fun a e x hx=>?_⟩;subst e;have h3:=(HD (by simpa using h2)).1;rcases lp.1 hx with rfl|hx
     ·exact h3
     ·exact uK h3 (g2 b rfl x hx)
   ·rw[bC h1] at h;exact absurd h h1
theorem nU {l:List Bd} (h:dg l=0):gU none l=0:=by
 unfold dg at h
 split at h
 ·rename_i h1;exact absurd h h1
 ·rename_i h1;omega
theorem uL {c:Int} {l:List Bd} (h:jj c l=false):∀ b∈l,b.eo<=c/\b.to<=c:=by
 intro b hb;have:=List.any_eq_false.1 h b hb;simp only[vN,pP,vM] at this;omega
theorem xV {l:List Bd} {n:ByteArray} {o c:Int} (hv:∀ b∈l,jZ b=0) (hl:∀ b∈l,b.eo<=c/\b.to<=c) (hn:∀ b∈l,b.name.toList=n.toList->b.to≠0):∀ x∈l,pE x ⟨n,o,c,0⟩=true\/pE ⟨n,o,c,0⟩ x=true:=by
 intro x hx;simp only[pE,rj,lq,vN,jl,pP,nX];rcases mA x.name.toList n.toList with h|h|h
 ·exact .inl (.inl h)
 ·have:=(mZ (hv x hx)).2.2.2.2;have:=hl x hx;have:=hn x hx h;exact .inl (.inr ⟨h,by omega⟩)
 ·exact .inr (.inl h)
theorem xW {l:List Bd} {n:ByteArray} {o:Int} (h:l.any (fun b=>b.to==0&&(lq b.name n||b.obj==o))=false):∀ b∈l,b.name.toList=n.toList->b.to≠0:=by
 intro b hb hn h0;have:=List.any_eq_false.1 h b hb;simp[h0,lq,hn] at this
theorem F1 {l:List Bd} {n:ByteArray} {c:Int} (hv:∀ b∈l,jZ b=0) (hl:∀ b∈l,b.eo<=c/\b.to<=c) (hn:∀ b∈l,b.name.toList=n.toList->b.to≠0):l.any (fun b=>lq b.name n&&b.eo==c)=false:=by
 rw[List.any_eq_false];intro b hb h;simp only[lq,jl,nX] at h;have:=(mZ (hv b hb)).2.2.2.2;have:=hl b hb;have:=hn b hb h.1;omega
end Go.Proofs.YteemiclhnfkekaaGreat
