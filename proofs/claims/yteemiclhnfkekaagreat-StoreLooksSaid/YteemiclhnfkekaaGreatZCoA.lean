/- Collector: the walks of its order of versions and of the sort of at most twenty. -/
import Derived.Test.YteemiclhnfkekaaGreatZAuE
set_option linter.unusedSimpArgs false
set_option linter.unusedVariables false
set_option maxRecDepth 100000
set_option maxHeartbeats 3200000
namespace Go.Proofs.YteemiclhnfkekaaGreat
open Go.RowKit Go.eB Go.Proofs.Tryz
def Ow:List Int->Int
 | []=>0
 | z::l=>if z≠0 then z else Ow l
theorem DP {com f t s:Int} {p od bd pg:List (List D)} {ps:List Pn} (hl:ps.length<=100000):ak prog 127 [.agg [i6 com, .sl 2 od, .sl 4 bd, .sl 2 (ps.map aW), .sl 3 pg], .agg [i6 f,i6 t,i6 s, .sl 1 p]] (.sc (.bool (!(t==0) && !dW f t ps))) []:=by
 have hc:=kR (f:=f) (t:=t) hl;generalize dW f t ps=c at *;by_cases h:t=0
 ·subst h;refine bR [] [2,3,15] [.tmp 4] func127 (by kernel_rfl) ntmps127 rfl rfl rfl ⟨rfl,rfl⟩ (by simp(disch:=omega)only[seval,go_sem,cI,List.replicate,l_2,l_1];rfl) ?_;((repeat'(first|simp only[seval,go_sem]|((with_reducible refine au ?_);((with_reducible first|refine ah.step (by simp only[seval,go_sem];rfl) ?_);refine dI (st:=[16]) ?_))|(with_reducible first|refine aV (st:=[16]) ?_|refine ai (by simp(disch:=omega)only[seval,go_sem,cI];rfl) ?_))))
 ·have e:(t==0)=false:=by simpa using h
  cases c;all_goals refine bR [] [2,3,15] [.tmp 4] func127 (by kernel_rfl) ntmps127 rfl rfl rfl ⟨rfl,rfl⟩ (by simp(disch:=omega)only[seval,go_sem,cI,List.replicate,l_2,l_1];rfl) ?_
  all_goals((repeat'(first|simp only[seval,go_sem,e]|((with_reducible refine bJ ?_);refine aq.c (hc) ?_)|((with_reducible refine au ?_);first|(with_reducible refine aD (st:=[16]) ?_)|((with_reducible first|refine ah.step (by simp only[seval,go_sem,e];rfl) ?_);refine dI (st:=[16]) ?_))|(with_reducible first|refine aV (st:=[16]) ?_|refine ai (by simp(disch:=omega)only[seval,go_sem,cI,e];rfl) ?_))))
set_option maxHeartbeats 6400000
theorem Ox {os:List Ob} (hl:(os.flatMap jo).length<=1000):∀ o∈os,o.bu.length<=1000:=fun o ho=>by
 obtain ⟨A,B,e⟩:=List.append_of_mem ho;subst e;rw[SB,RW] at hl;simp only[bW,jo,dD] at hl;omega
theorem xR {com:Int} {os:List Ob} {ps:List Pn} {bd pg:List (List D)} (ho:os.length<=1000) (hl:(os.flatMap jo).length<=1000) (hp:ps.length<=100000):ak prog 55 [.agg [i6 com,.sl 2 (os.map aK),.sl 4 bd,.sl 2 (ps.map aW),.sl 3 pg]] (.sl 2 ((kn ps (iX os [])).map gU)) []:=by
 have JQ:=CB (com:=com) (bd:=bd) (pn:=ps.map aW) (pg:=pg) ho (Ox hl);have hel:(iX os []).length<=1000:=by rw[qh,AH];simpa using hl
 generalize iX os []=E at *;generalize hG:kn ps E=G;refine dL [] [1,7,20,34,35] func55 (by kernel_rfl) ntmps55 rfl rfl ⟨rfl,rfl⟩ (by simp(disch:=omega)only[seval,go_sem,cI,List.replicate,l_2,l_1];rfl) ?_;((repeat'(first|simp only[seval,go_sem]|((with_reducible refine bJ ?_);refine aq.c (JQ) ?_)|(with_reducible refine aD (st:=[]) ?_)|(with_reducible refine aV (st:=[]) ?_))));all_goals(refine ay.fT 3 35 2 (by first|(simp only[seval,go_sem])) (by first|(simp only[seval,go_sem])) (by simp only[seval,go_sem];rfl) ?_)
 all_goals(refine ay.bx 1 (by simp only[seval,go_sem];rfl) (by simp only[seval,go_sem];first|done|rfl) (by simp only[seval,go_sem];rfl) ?_)
 all_goals(with_reducible refine ay.cX (fun (t:Nat×List Vc)=>[(5,i6 t.1),(3,.cW 35 2 0 t.2.length)]++aN 8 28) (fun (t:Nat×List Vc)=>[(35,.row 2 (t.2.map gU)),(20,.dead),(34,.dead)]) (fun (t:Nat×List Vc)=>t.1<=E.length/\t.2.length<=t.1/\t.2++kn ps (E.drop t.1)=G) (fun (t:Nat×List Vc)=>E.length-t.1) ((0,[])) (⟨ek _,by simp,by simpa using hG⟩) (by intro _;simp(disch:=omega)only[seval,go_sem,cI];rfl) (by simp only[seval,go_sem]) (fun t hI=>?_))
 all_goals
  obtain ⟨k,a⟩:=t;obtain ⟨hk,tU,hf⟩:=hI;simp only at hk tU hf;by_cases hlt:k<E.length
  ·obtain ⟨x,hx⟩:=aZ hlt;have hx':=get_map dU hx;have UJ:=DP (com:=com) (f:=x.v.from_) (t:=x.v.to) (s:=x.v.size) (p:=x.v.pages.map cO) (od:=os.map aK) (bd:=bd) (pg:=pg) hp;rw[show (!(x.v.to==0) && !dW x.v.from_ x.v.to ps)=qi ps x.v from rfl] at UJ;rw[aH hx,kn] at hf;cases hg:qi ps x.v with
   | true=>
     rw[bC hg] at hf;rw[hg] at UJ
     ((repeat'(first|(with_reducible refine aY 7 ?_;(try(refine ay.bx 1 (by simp only[seval,go_sem,hx',dU];rfl) (by simp only[seval,go_sem,hx',dU];fail) (by simp only[seval,go_sem,hx',dU];rfl) ?_));refine ay.bU 7 mix 16 rfl (.f 0 <| .f 1 <| .f 2 <| .f 3 <| .f 4 <| .f 6 <| .f 7 <| .f 8 <| .f 9 <| .f 10 <| .a <| .b 5 (.a <| .b 11 (.a <| .b 12 (.a <| .b 13 (.a <| .b 14 (.f 15 <| .d) .e) .e) .e) .e) <| .b 11 (.a <| .b 5 (.a <| .b 12 (.a <| .b 13 (.a <| .b 14 (.f 15 <| .d) .e) .e) .e) .e) .e) (by kernel_rfl) ?_)|(with_reducible refine cA ?_;first|refine aJ.D ?_|refine aJ.F (by simp only[seval,go_sem,eg,dJ];rfl) (by first|(simp only[seval,go_sem,hx',dU])) (by first|(simp only[seval,go_sem,hx',dU];with_reducible rfl)|(simp(disch:=omega)only[seval,go_sem,cI,hx',dU];with_reducible rfl)) ?_|refine aJ.A ?_)|(with_reducible first|exact aI.E|refine aI.B (by simp only[seval,go_sem,eg,dJ];rfl) ?_ ?_)|simp only[seval,go_sem,hx',dU]|((with_reducible refine au ?_);((with_reducible first|refine ah.step (by simp only[seval,go_sem,hx',dU];rfl) ?_|refine ah.step (by simp(disch:=omega)only[seval,go_sem,cI,hx',dU];rfl) ?_);refine dI (st:=[]) ?_))|(with_reducible refine br ?_;refine dX mix (by kernel_rfl) ?_)|(with_reducible refine gQ ?_)|((with_reducible refine nB ?_);refine fP.c (UJ) ?_)|(with_reducible first|refine aV (st:=[]) ?_|refine dO (by simp(disch:=omega)only[seval,go_sem,cI,hx',dU];rfl) ?_|refine ai (by simp(disch:=omega)only[seval,go_sem,cI,hx',dU];rfl) ?_))))
     all_goals(try(refine aP ((k+1,a++[I3 x])) (by simp only[seval,go_sem,gU,I3];first|((repeat'(with_reducible apply And.intro))<;>first|rfl|(simp[gU,I3];done))) ?_ ?_<;>(try(omega))))
     all_goals(try exact ⟨by simp only;omega,by simp only[bW,List.length_cons,List.length_nil];omega,by simp only[lR,List.cons_append,List.nil_append];exact hf⟩)
   | false=>
     rw[aE (by rw[hg];decide)] at hf;rw[hg] at UJ
     ((repeat'(first|simp only[seval,go_sem,hx',dU]|(with_reducible refine br ?_;refine dX mix (by kernel_rfl) ?_)|(with_reducible refine gQ ?_)|((with_reducible refine nB ?_);refine fP.c (UJ) ?_)|(with_reducible first|refine aV (st:=[]) ?_|refine dO (by simp(disch:=omega)only[seval,go_sem,cI,hx',dU];rfl) ?_|refine ai (by simp(disch:=omega)only[seval,go_sem,cI,hx',dU];rfl) ?_))))
     all_goals(try(refine aP ((k+1,a)) (by simp only[seval,go_sem];first|((repeat'(with_reducible apply And.intro))<;>first|rfl)) ?_ ?_<;>(try(omega))))
     all_goals(try exact ⟨by simp only;omega,by simp only;omega,hf⟩)
  ·rw[j9 (by omega),kn,yM] at hf;subst hf;have dM:(List.map gU a).length=a.length:=dD _;have fm:(List.map gU a).take a.length=List.map gU a:=lu (by omega)
   ((repeat'(first|simp only[seval,go_sem,dM,fm]|(with_reducible refine aB ?_;(refine aC.gu 35 (by simp only[seval,go_sem];rfl) (by simp only[seval,go_sem,dM,fm];rfl) ?_);(with_reducible refine aB ?_;refine aC.q rfl rfl (by simp only[seval,go_sem];rfl) (by decide) (by simp only[seval,go_sem];rfl) (by simp only[seval,go_sem];rfl) rfl ?_<;>(try simp only[seval,go_sem,dM,fm])<;>(repeat'(with_reducible apply And.intro))<;>(try rfl)))|(with_reducible first|refine aV (st:=[]) ?_|refine ai (by simp(disch:=omega)only[seval,go_sem,cI,dM,fm];rfl) ?_))))
end Go.Proofs.YteemiclhnfkekaaGreat
