/- The reference's arena and pages: the walks of its functions. -/
import Derived.Test.YteemiclhnfkekaaGreatZSrP
set_option linter.unusedSimpArgs false
set_option linter.unusedVariables false
set_option maxRecDepth 100000
set_option maxHeartbeats 12800000
namespace Go.Proofs.YteemiclhnfkekaaGreat
open Go.RowKit Go.eB Go.Proofs.Tryz
theorem m0 {c n:Int} {l:List Pg} (hl:l.length<=100000):ak prog 172 [.agg [i6 c, .sl 3 (l.map bt)],i6 n] (i6 (eP n l 0)) []:=by
 refine bR [] [2] [.tmp 4] func172 (by kernel_rfl) ntmps172 rfl rfl rfl ⟨rfl,rfl⟩ (by simp(disch:=omega)only[seval,go_sem,cI,List.replicate,l_2,l_1];rfl) ?_;((repeat'(first|simp only[seval,go_sem]|(with_reducible refine aV (st:=[]) ?_))));all_goals(with_reducible refine ay.cX (fun (k:Nat)=>[(5,i6 k),(4,.any)]++aN 6 16) (fun (k:Nat)=>[]) (fun (k:Nat)=>k<=l.length/\eP n (l.drop k) k=eP n l 0) (fun (k:Nat)=>l.length-k) (0) (⟨ek _,rfl⟩) (by intro _;simp(disch:=omega)only[seval,go_sem,cI];rfl) (by simp only[seval,go_sem]) (fun k hI=>?_))
 all_goals obtain ⟨hk,hf⟩:=hI
 by_cases hlt:k<l.length
 focus
  obtain ⟨o,ho⟩:=aZ hlt;have ho':=get_map bt ho;rw[aH ho,eP] at hf;by_cases hc:o.num=n
  focus
   rw[bC hc] at hf;rw[<- hf];have hZ:=ho'
  rotate_left 1
  ·rw[aE hc] at hf;((repeat'(first|simp only[seval,go_sem,ho',bt]|(with_reducible refine aV (st:=[]) ?_)|(with_reducible refine ai (by simp(disch:=omega)only[seval,go_sem,cI,ho',bt];rfl) ?_))));all_goals(try(refine aP (k+1) (by simp only[seval,go_sem];first|((repeat'(with_reducible apply And.intro))<;>first|rfl)) ?_ ?_<;>(try(omega))))
   all_goals(try exact ⟨by omega,hf⟩)
 rotate_left 1
 focus
  rw[j9 (by omega),eP] at hf;rw[<- hf];have hZ:=ek 0
 rotate_left 1;all_goals((repeat'(first|simp only[seval,go_sem,bt,hZ]|(with_reducible refine aV (st:=[]) ?_)|(with_reducible refine ai (by simp(disch:=omega)only[seval,go_sem,cI,bt,hZ];rfl) ?_))))
theorem oM (n:Int) (l:List Pg):(eP n l 0 = -1)\/∃ (j:Nat) (p:Pg),l[j]? = some p/\j<l.length/\eP n l 0=(j:Int)/\fh l (eP n l 0)=p:=by
 rcases gb n l 0 with ⟨h,_⟩|⟨j,p,h1,h2,h3,_⟩
 ·exact .inl h
 ·rw[kO] at h3;exact .inr ⟨j,p,h1,(jM.1 h1).1,h3,by simp[fh,h3,h1]⟩
theorem D9 {c n:Int} {l:List Pg} (hl:l.length<=100000) (hd:∀ p∈l,p.data.length<=1000000):ak prog 142 [.agg [i6 c, .sl 3 (l.map bt)],i6 n] (.cT [.sl 1 ((eH ⟨c,l⟩ n).1.map cF),i6 (eH ⟨c,l⟩ n).2]) []:=by
 have zv:=m0 (c:=c) (n:=n) hl;rcases oM n l with h|⟨j,p,h1,h2,h3,h4⟩
 ·have e:eH ⟨c,l⟩ n=([],8):=by simp[eH,h]
  rw[e];rw[h] at zv;refine dL [] [2,9,18] func142 (by kernel_rfl) ntmps142 rfl rfl ⟨rfl,rfl⟩ (by simp(disch:=omega)only[seval,go_sem,cI,List.replicate,l_2,l_1];rfl) ?_
  ((repeat'(first|simp only[seval,go_sem]|((with_reducible refine bJ ?_);refine aq.c (zv) ?_)|(with_reducible refine aD (st:=[]) ?_)|(with_reducible refine aB ?_;refine fl (rs:=[.tmp 4,.tmp 5]) (by with_unfolding_all rfl) rfl ?_<;>simp only[seval,go_sem]<;>(repeat'(with_reducible apply And.intro))<;>(try rfl))|(with_reducible first|refine aV (st:=[]) ?_|refine ai (by simp(disch:=omega)only[seval,go_sem,cI];rfl) ?_))))
 ·have e:eH ⟨c,l⟩ n=(p.data,0):=by rw[eH,aE (by rw[h3];omega),h4]
  rw[e];rw[h3] at zv;have pJ:=get_map bt h1;have hdl:=hd p (fS h1);refine dL [] [2,9,18] func142 (by kernel_rfl) ntmps142 rfl rfl ⟨rfl,rfl⟩ (by simp(disch:=omega)only[seval,go_sem,cI,List.replicate,l_2,l_1];rfl) ?_
  ((repeat'(first|simp only[seval,go_sem,pJ,bt]|((with_reducible refine bJ ?_);refine aq.c (zv) ?_)|(with_reducible refine aD (st:=[]) ?_)|(with_reducible refine aB ?_;(refine aC.gu 18 (by simp only[seval,go_sem];rfl) (by simp only[seval,go_sem,pJ,bt];rfl) ?_);(with_reducible refine aB ?_;refine aC.q rfl rfl (by simp only[seval,go_sem];rfl) (by decide) (by simp only[seval,go_sem];rfl) (by simp only[seval,go_sem];rfl) rfl ?_<;>(try simp only[seval,go_sem,pJ,bt])<;>(repeat'(with_reducible apply And.intro))<;>(try rfl)))|(with_reducible first|refine aV (st:=[]) ?_|refine ai (by simp(disch:=omega)only[seval,go_sem,cI,pJ,bt];rfl) ?_))))
  all_goals(try simp)
theorem gZ (n:Int):IntKind.i64.wrap n=wr n:=rfl
theorem Ea {c n:Int} {l:List Pg} (hl:l.length<=100000):ak prog 117 [.agg [i6 c, .sl 3 (l.map bt)],i6 n] (.cT [.agg [i6 (dZ ⟨c,l⟩ n).1.cap, .sl 3 ((dZ ⟨c,l⟩ n).1.pages.map bt)],i6 (dZ ⟨c,l⟩ n).2]) []:=by
 have zv:=m0 (c:=c) (n:=n) hl;rcases oM n l with h|⟨j,p,h1,h2,h3,h4⟩
 ·have e:dZ ⟨c,l⟩ n=(⟨c,l⟩,8):=by simp[dZ,h]
  rw[e];rw[h] at zv;refine dL [] [2,4,10,16] func117 (by kernel_rfl) ntmps117 rfl rfl ⟨rfl,rfl⟩ (by simp(disch:=omega)only[seval,go_sem,cI,List.replicate,l_2,l_1];rfl) ?_
  ((repeat'(first|simp only[seval,go_sem]|((with_reducible refine bJ ?_);refine aq.c (zv) ?_)|(with_reducible refine aD (st:=[]) ?_)|(with_reducible refine aB ?_;refine fl (rs:=[.cell 4 31,.tmp 5]) (by with_unfolding_all rfl) rfl ?_<;>simp only[seval,go_sem]<;>(repeat'(with_reducible apply And.intro))<;>(try rfl))|(with_reducible first|refine aV (st:=[]) ?_|refine ai (by simp(disch:=omega)only[seval,go_sem,cI];rfl) ?_))))
 ·have e:dZ ⟨c,l⟩ n=(⟨c,l.set j ⟨p.num,wr (p.refs+1),p.data⟩⟩,0):=by
   simp only[dZ];rw[aE (by rw[h3];omega),gl,h4,h3,Int.toNat_natCast]
  rw[e];rw[h3] at zv;have pJ:=get_map bt h1;refine dL [] [2,4,10,16] func117 (by kernel_rfl) ntmps117 rfl rfl ⟨rfl,rfl⟩ (by simp(disch:=omega)only[seval,go_sem,cI,List.replicate,l_2,l_1];rfl) ?_
  ((repeat'(first|simp only[seval,go_sem,pJ,bt,gZ]|((with_reducible refine bJ ?_);refine aq.c (zv) ?_)|(with_reducible refine aD (st:=[]) ?_)|(with_reducible refine aB ?_;(refine aC.gu 16 (by simp only[seval,go_sem];rfl) (by simp only[seval,go_sem,pJ,bt,gZ];rfl) ?_);(with_reducible refine aB ?_;refine aC.q rfl (by with_unfolding_all (show iw _ _ [.cell 4 31,.tmp 5]=_);simp only[seval,go_sem];rfl) (by simp only[seval,go_sem];rfl) (by decide) (by simp only[seval,go_sem];rfl) (by simp only[seval,go_sem];rfl) rfl ?_<;>(try simp only[seval,go_sem,pJ,bt,gZ])<;>(repeat'(with_reducible apply And.intro))<;>(try rfl)))|(with_reducible first|refine aV (st:=[]) ?_|refine ai (by simp(disch:=omega)only[seval,go_sem,cI,pJ,bt,gZ];rfl) ?_))))
  all_goals(try(first|(simp[bt,qN];done)|exact lu (by simp)))
theorem F0 {c n:Int} {l:List Pg} (hl:l.length<=100000):ak prog 134 [.agg [i6 c, .sl 3 (l.map bt)],i6 n] (.cT [.agg [i6 (bZ ⟨c,l⟩ n).1.cap, .sl 3 ((bZ ⟨c,l⟩ n).1.pages.map bt)], .sc (.bool (bZ ⟨c,l⟩ n).2.1),i6 (bZ ⟨c,l⟩ n).2.2]) []:=by
 have zv:=m0 (c:=c) (n:=n) hl;rcases oM n l with h|⟨j,p,h1,h2,h3,h4⟩
 ·have e:bZ ⟨c,l⟩ n=(⟨c,l⟩,false,8):=by simp[bZ,h]
  rw[e];rw[h] at zv;refine dL [] [2,4,11,17,45] func134 (by kernel_rfl) ntmps134 rfl rfl ⟨rfl,rfl⟩ (by simp(disch:=omega)only[seval,go_sem,cI,List.replicate,l_2,l_1];rfl) ?_
  ((repeat'(first|simp only[seval,go_sem]|((with_reducible refine bJ ?_);refine aq.c (zv) ?_)|(with_reducible refine aD (st:=[]) ?_)|(with_reducible refine aB ?_;refine fl (rs:=[.cell 4 31,.tmp 5,.tmp 6]) (by with_unfolding_all rfl) rfl ?_<;>simp only[seval,go_sem]<;>(repeat'(with_reducible apply And.intro))<;>(try rfl))|(with_reducible first|refine aV (st:=[]) ?_|refine ai (by simp(disch:=omega)only[seval,go_sem,cI];rfl) ?_))))
 ·rw[h3] at zv;have pJ:=get_map bt h1;have QG:∀ r,((l.map bt).set j [.sc (.int .i64 p.num), .sc (.int .i64 r), .sl 1 (p.data.map cF)])[j]? = some [.sc (.int .i64 p.num), .sc (.int .i64 r), .sl 1 (p.data.map cF)]:=fun r=>uf (by rw[dD];exact h2);have hls:∀ r,((l.map bt).set j [.sc (.int .i64 p.num), .sc (.int .i64 r), .sl 1 (p.data.map cF)]).length=l.length:=fun r=>by simp
  have ZZ:=hls (wr (p.refs-1));by_cases hw:0<wr (p.refs-1)
  ·have e:bZ ⟨c,l⟩ n=(⟨c,l.set j ⟨p.num,wr (p.refs-1),p.data⟩⟩,false,0):=by
    simp only[bZ];rw[aE (by rw[h3];omega),h4,bC hw,gl,h4,h3,Int.toNat_natCast]
   rw[e];refine dL [] [2,4,11,17,45] func134 (by kernel_rfl) ntmps134 rfl rfl ⟨rfl,rfl⟩ (by simp(disch:=omega)only[seval,go_sem,cI,List.replicate,l_2,l_1];rfl) ?_
   ((repeat'(first|simp only[seval,go_sem,bt,gZ,pJ,QG]|((with_reducible refine bJ ?_);refine aq.c (zv) ?_)|(with_reducible refine aD (st:=[]) ?_)|(with_reducible refine aB ?_;(refine aC.gu 17 (by simp only[seval,go_sem];rfl) (by simp only[seval,go_sem,bt,gZ,pJ,QG];rfl) ?_);(with_reducible refine aB ?_;refine aC.q rfl (by with_unfolding_all (show iw _ _ [.cell 4 31,.tmp 5,.tmp 6]=_);simp only[seval,go_sem];rfl) (by simp only[seval,go_sem];rfl) (by decide) (by simp only[seval,go_sem];rfl) (by simp only[seval,go_sem];rfl) rfl ?_<;>(try simp only[seval,go_sem,bt,gZ,pJ,QG])<;>(repeat'(with_reducible apply And.intro))<;>(try rfl)))|(with_reducible first|refine aV (st:=[]) ?_|refine ai (by simp(disch:=omega)only[seval,go_sem,cI,bt,gZ,pJ,QG];rfl) ?_))))
   all_goals(try(first|(simp[bt,qN];done)|exact lu (by simp)))
  ·have e:bZ ⟨c,l⟩ n=(⟨c,ic l (j:Int)⟩,true,0):=by
    simp only[bZ];rw[aE (by rw[h3];omega),h4,aE hw,h3]
   rw[e];refine dL [] [2,4,11,17,45] func134 (by kernel_rfl) ntmps134 rfl rfl ⟨rfl,rfl⟩ (by simp(disch:=omega)only[seval,go_sem,cI,List.replicate,l_2,l_1];rfl) ?_
   have ht1:List.take (l.length-(j+1)) (List.drop (j+1) ((l.map bt).set j [.sc (.int .i64 p.num), .sc (.int .i64 (wr (p.refs-1))), .sl 1 (p.data.map cF)]))=(l.drop (j+1)).map bt:=by
    rw[List.drop_set_of_lt (by omega), <- RZ];exact lu (by simp)
   have ht2:List.take j ((l.map bt).set j [.sc (.int .i64 p.num), .sc (.int .i64 (wr (p.refs-1))), .sl 1 (p.data.map cF)])=(l.take j).map bt:=by
    rw[List.take_set_of_le (by omega),Qt]
   have j8:((l.drop (j+1)).map bt).length=l.length-(j+1):=by simp
   have fm:∀ X,List.take (j+(l.length-(j+1))) ((l.take j).map bt++(l.drop (j+1)).map bt++X)=(ic l (j:Int)).map bt:=fun X=>by
    rw[Sw (by simp;omega),lu (by simp;omega),ic,Int.toNat_natCast,vN]
   have hle:∀ X,j+(l.length-(j+1))<=((l.take j).map bt++(l.drop (j+1)).map bt++X).length:=fun X=>by
    rw[bW,bW,dD,dD,cw,bQ];omega
   (all_goals(try have hZ:=(And.intro pJ (And.intro QG (And.intro ht1 (And.intro ht2 (And.intro j8 (And.intro fm hle)))))));(repeat'(first|(with_reducible refine aY 8 ?_;refine ay.bU 8 mix 14 rfl (.f 0 <| .f 2 <| .f 3 <| .f 4 <| .f 5 <| .f 6 <| .f 7 <| .f 8 <| .a <| .b 1 (.a <| .b 9 (.a <| .b 10 (.a <| .b 11 (.f 12 <| .f 13 <| .d) .e) .e) .e) <| .b 9 (.a <| .b 1 (.a <| .b 10 (.a <| .b 11 (.f 12 <| .f 13 <| .d) .e) .e) .e) .e) (by kernel_rfl) ?_)|(with_reducible refine cA ?_;first|refine aJ.D ?_|refine aJ.F (by simp only[seval,go_sem,eg,dJ];rfl) (by first|(simp only[seval,go_sem,bt,gZ,hZ])) (by first|(simp only[seval,go_sem,bt,gZ,hZ];with_reducible rfl)|(simp(disch:=omega)only[seval,go_sem,cI,bt,gZ,hZ];with_reducible rfl)) ?_|refine aJ.A ?_)|(with_reducible first|exact aI.E|refine aI.B (by simp only[seval,go_sem,eg,dJ];rfl) ?_ ?_)|simp only[seval,go_sem,bt,gZ,hZ]|((with_reducible refine bJ ?_);refine aq.c (zv) ?_)|((with_reducible refine au ?_);first|(with_reducible refine aD (st:=[]) ?_)|((with_reducible first|refine ah.step (by simp only[seval,go_sem,bt,gZ,hZ];rfl) ?_);refine dI (st:=[]) ?_)|(with_reducible refine nM ?_;with_reducible refine ah.uy (by simp only[seval,go_sem,bt,gZ,hZ]) (by simp only[seval,go_sem,bt,gZ,hZ];rfl) (by simp only[seval,go_sem,bt,gZ,hZ];rfl) (by simp only[seval,go_sem,bt,gZ,hZ];rfl) rfl (by decide) (by decide) (by decide) (by simp only[seval,go_sem,bt,gZ,hZ];rfl) (by simp only[seval,go_sem,bt,gZ,hZ];rfl) (by simp(disch:=omega)only[seval,go_sem,cI,bt,gZ,hZ];rfl) (by (try simp only[aj,dD,bW,List.length_cons,List.length_nil,cw,bQ,dx,splice,Nat.reduceMul]);omega) (by (try simp only[aj,dD,bW,List.length_cons,List.length_nil,cw,bQ,dx,splice,Nat.reduceMul]);omega) ?_;refine dI (st:=[]) ?_))|(with_reducible refine aB ?_;(refine aC.gu 17 (by simp only[seval,go_sem];rfl) (by simp only[seval,go_sem,bt,gZ,hZ];rfl) ?_);(with_reducible refine aB ?_;refine aC.q rfl (by with_unfolding_all (show iw _ _ [.cell 4 31,.tmp 5,.tmp 6]=_);simp only[seval,go_sem];rfl) (by simp only[seval,go_sem];rfl) (by decide) (by simp only[seval,go_sem];rfl) (by simp only[seval,go_sem];rfl) rfl ?_<;>(try simp only[seval,go_sem,bt,gZ,hZ])<;>(repeat'(with_reducible apply And.intro))<;>(try rfl)))|(with_reducible first|refine aV (st:=[]) ?_|refine ai (by simp(disch:=omega)only[seval,go_sem,cI,bt,gZ,hZ];rfl) ?_))))
theorem EY (m:Nat):∀ l:List Int,(∀ i:Nat,1<=i->i<=m->(i:Int)∈l)->m<=l.length:=by
 induction m with
 | zero=>intro _ _;exact ek _
 | succ m ih=>
   intro l h
   have h1:=ih (l.filter (fun x=>x != ((m+1:Nat):Int))) (fun i a b=>by
    rw[List.mem_filter]
    exact ⟨h i a (by omega),by simp;omega⟩)
   have h2:(l.filter (fun x=>x != ((m+1:Nat):Int))).length<l.length:=by
    rw[List.length_filter_lt_length_iff_exists];exact ⟨((m+1:Nat):Int),h (m+1) (by omega) (by omega),by simp⟩
   omega
theorem wG {n:Int} {l:List Pg} (h:¬ eP n l 0<0):n∈l.map (·.num):=by
 rcases gb n l 0 with ⟨h1,_⟩|⟨j,p,h1,h2,_⟩
 ·omega
 ·exact qq.2 ⟨p,fS h1,h2⟩
theorem uV {l:List Pg} {k:Nat} (hk:k<=l.length) (hf:ju l (l.length+1-k) (1+k)=gO l):(eP (1+(k:Int)) l 0<0->gO l=1+k)/\(¬ eP (1+(k:Int)) l 0<0->ju l (l.length+1-(k+1)) (1+((k+1:Nat):Int))=gO l):=by
 rw[show l.length+1-k=(l.length-k)+1 by omega,ju] at hf;refine ⟨fun h=>by rw[bC h] at hf;exact hf.symm,fun h=>?_⟩;rw[aE h] at hf;rw[show l.length+1-(k+1)=l.length-k by omega,show (1+((k+1:Nat):Int))=1+(k:Int)+1 by omega];exact hf
theorem tK {c:Int} {l:List Pg} {d:List Int} (hl:l.length<=100000) (hd:d.length<=1000000):ak prog 114 [.agg [i6 c,.sl 3 (l.map bt)],.sl 1 (d.map cF)] (.cT [.agg [i6 (dG ⟨c,l⟩ d).1.cap,.sl 3 ((dG ⟨c,l⟩ d).1.pages.map bt)],i6 (dG ⟨c,l⟩ d).2.1,i6 (dG ⟨c,l⟩ d).2.2]) []:=by
 by_cases c1:1024<(d.length:Int)
 ·have e:dG ⟨c,l⟩ d=(⟨c,l⟩,0,11):=by rw[dG,bC c1]
  rw[e];refine dL [] [2,4,8,24,30,34,36,37] func114 (by kernel_rfl) ntmps114 rfl rfl ⟨rfl,rfl⟩ (by simp(disch:=omega)only[seval,go_sem,cI,List.replicate,l_2,l_1];rfl) ?_;((repeat'(first|simp only[seval,go_sem]|(with_reducible refine aB ?_;refine fl (rs:=[.cell 4 31,.tmp 5,.tmp 6]) (by with_unfolding_all rfl) rfl ?_<;>simp only[seval,go_sem]<;>(repeat'(with_reducible apply And.intro))<;>(try rfl))|(with_reducible first|refine aV (st:=[]) ?_|refine ai (by simp(disch:=omega)only[seval,go_sem,cI];rfl) ?_))))
 by_cases c2:c<=(l.length:Int)
 ·have e:dG ⟨c,l⟩ d=(⟨c,l⟩,0,14):=by rw[dG,aE c1];exact bC c2
  rw[e];refine dL [] [2,4,8,24,30,34,36,37] func114 (by kernel_rfl) ntmps114 rfl rfl ⟨rfl,rfl⟩ (by simp(disch:=omega)only[seval,go_sem,cI,List.replicate,l_2,l_1];rfl) ?_;((repeat'(first|simp only[seval,go_sem]|(with_reducible refine aB ?_;refine fl (rs:=[.cell 4 31,.tmp 5,.tmp 6]) (by with_unfolding_all rfl) rfl ?_<;>simp only[seval,go_sem]<;>(repeat'(with_reducible apply And.intro))<;>(try rfl))|(with_reducible first|refine aV (st:=[]) ?_|refine ai (by simp(disch:=omega)only[seval,go_sem,cI];rfl) ?_))))
 have e:dG ⟨c,l⟩ d=(⟨c,tF ⟨gO l,1,d⟩ l⟩,gO l,0):=by rw[dG,aE c1];exact aE c2
 rw[e];simp only;generalize hN:gO l=N;have VJ:ju l (l.length+1) 1=N:=hN;have zv:=fun m=>m0 (c:=c) (n:=m) hl;refine dL [] [2,4,8,24,30,34,36,37] func114 (by kernel_rfl) ntmps114 rfl rfl ⟨rfl,rfl⟩ (by simp(disch:=omega)only[seval,go_sem,cI,List.replicate,l_2,l_1];rfl) ?_;((repeat'(first|simp only[seval,go_sem]|(with_reducible refine aV (st:=[]) ?_)|(with_reducible refine ai (by simp(disch:=omega)only[seval,go_sem,cI];rfl) ?_))));all_goals(refine ay.bx 2 (by simp only[seval,go_sem];rfl) (by simp only[seval,go_sem];first|done|rfl) (by simp only[seval,go_sem];rfl) ?_)
 all_goals(with_reducible refine ay.cX (fun (k:Nat)=>[(7,i6 (1+k))]++aN 22 6) (fun (k:Nat)=>[(24,.dead)]) (fun (k:Nat)=>k<=l.length/\ju l (l.length+1-k) (1+k)=N/\∀ i:Nat,1<=i->i<=k->(i:Int)∈l.map (·.num)) (fun (k:Nat)=>l.length+1-k) (0) (⟨ek _,by simpa using VJ,by omega⟩) (by intro _;simp(disch:=omega)only[seval,go_sem,cI];rfl) (by simp only[seval,go_sem]) (fun k hI=>?_))
 all_goals
  obtain ⟨hk,hf,hmem⟩:=hI;obtain ⟨g1,g2⟩:=uV hk (hf.trans hN.symm);rw[hN] at g1 g2;have hic:=zv (1+(k:Int));by_cases hp:eP (1+(k:Int)) l 0<0
  ·have Sp:=g1 hp;generalize eP (1+(k:Int)) l 0=z at hic hp;have wS:(List.map bt l++[[D.sc (.int .i64 (1+(k:Int))),D.sc (.int .i64 1),D.sl 1 (d.map cF)]]).length=l.length+1:=by simp
   have JQ:(List.map bt l++[[D.sc (.int .i64 (1+(k:Int))),D.sc (.int .i64 1),D.sl 1 (d.map cF)]])=(fH l l.length ⟨1+k,1,d⟩).map bt:=by rw[tZ];simp[bt]
   ((repeat'(first|(with_reducible refine aY 9 ?_;refine ay.bU 9 mix 7 rfl (.f 0 <| .a <| .b 1 (.a <| .b 2 (.a <| .b 3 (.a <| .b 4 (.a <| .b 5 (.f 6 <| .d) .e) .e) .e) <| .b 3 (.a <| .b 2 (.a <| .b 4 (.a <| .b 5 (.f 6 <| .d) .e) .e) <| .b 4 (.a <| .b 2 (.a <| .b 5 (.f 6 <| .d) .e) .e) .e) .e) <| .b 3 (.a <| .b 1 (.a <| .b 2 (.a <| .b 4 (.a <| .b 5 (.f 6 <| .d) .e) .e) <| .b 4 (.a <| .b 2 (.a <| .b 5 (.f 6 <| .d) .e) .e) .e) <| .b 4 (.a <| .b 1 (.a <| .b 2 (.a <| .b 5 (.f 6 <| .d) .e) .e) .e) .e) .e) (by kernel_rfl) ?_)|(with_reducible refine cA ?_;first|refine aJ.D ?_|refine aJ.F (by simp only[seval,go_sem,eg,dJ];rfl) (by first|(simp only[seval,go_sem,wS])) (by first|(simp only[seval,go_sem,wS];with_reducible rfl)) ?_|refine aJ.A ?_)|(with_reducible first|exact aI.E|refine aI.B (by simp only[seval,go_sem,eg,dJ];rfl) ?_ ?_)|simp only[seval,go_sem,wS]|((with_reducible refine bJ ?_);(refine aq.c (hic) ?_;simp only[seval,go_sem,wS];(fail_if_success (with_reducible refine xI ?_))))|((with_reducible refine au ?_);first|(with_reducible refine ah.gu 30 (by simp only[seval,go_sem,wS];rfl) (by simp only[seval,go_sem,wS];rfl) ?_;refine dI (st:=[]) ?_)|(with_reducible refine aD (st:=[]) ?_)|((with_reducible first|refine ah.step (by simp only[seval,go_sem,wS];rfl) ?_|refine ah.step (by simp(disch:=omega)only[seval,go_sem,cI,wS];rfl) ?_);refine dI (st:=[]) ?_))|(with_reducible first|refine aV (st:=[]) ?_|refine ai (by simp(disch:=omega)only[seval,go_sem,cI,wS];rfl) ?_))))
   all_goals(with_reducible refine ay.cX (fun (j2:Nat)=>[(10,i6 j2),(9,.cW 37 3 0 (l.length+1))]++aN 41 34) (fun (j2:Nat)=>[(37,.row 3 ((fH l j2 ⟨1+k,1,d⟩).map bt))]) (fun (j2:Nat)=>j2<=l.length/\gx (fun i=>decide (1+(k:Int)<(fh l i).num)) j2=gx (fun i=>decide (1+(k:Int)<(fh l i).num)) l.length) (fun (j2:Nat)=>j2) (l.length) (⟨iU _,rfl⟩) (by intro _;simp(disch:=omega)only[seval,go_sem,cI];rfl) (by simp only[seval,go_sem,JQ];first|((repeat'(with_reducible apply And.intro))<;>first|omega)) (fun j2 hI=>?_))
   all_goals
    obtain ⟨hj2,hst⟩:=hI;have hins:gx (fun i=>decide (1+(k:Int)<(fh l i).num)) l.length=j2->tF ⟨N,1,d⟩ l=fH l j2 ⟨1+k,1,d⟩:=fun h=>by rw[Sp,tF,h]
    have vM:(fH l j2 (⟨1+k,1,d⟩:Pg)).length=l.length+1:=qs hj2;have dM:((fH l j2 (⟨1+k,1,d⟩:Pg)).map bt).length=l.length+1:=by rw[dD];exact vM
    have fm:((fH l j2 (⟨1+k,1,d⟩:Pg)).map bt).take (l.length+1)=(fH l j2 (⟨1+k,1,d⟩:Pg)).map bt:=lu (by rw[dM];exact iU _);rcases j2 with _|j2
    ·rw[hins (by rw[<- hst];rfl),Sp]
     ((repeat'(first|simp only[seval,go_sem,dM,fm]|(with_reducible refine br ?_;refine dX mix (by kernel_rfl) ?_)|(with_reducible refine aB ?_;(refine aC.gu 37 (by simp only[seval,go_sem];rfl) (by simp only[seval,go_sem,dM,fm];rfl) ?_);(with_reducible refine aB ?_;refine aC.q rfl (by with_unfolding_all (show iw _ _ [.cell 4 31,.tmp 5,.tmp 6]=_);simp only[seval,go_sem];rfl) (by simp only[seval,go_sem];rfl) (by decide) (by simp only[seval,go_sem];rfl) (by simp only[seval,go_sem];rfl) rfl ?_<;>(try simp only[seval,go_sem,dM,fm])<;>(repeat'(with_reducible apply And.intro))<;>(try rfl)))|(with_reducible first|refine aV (st:=[]) ?_|refine dO (by simp(disch:=omega)only[seval,go_sem,cI,dM,fm];rfl) ?_))))
    ·obtain ⟨y,hy⟩:=aZ (show j2<l.length by omega);have g1:=get_map bt (CD (x:=(⟨1+k,1,d⟩:Pg)) hj2);have g2:=get_map bt ((zP (x:=(⟨1+k,1,d⟩:Pg)) hj2).trans hy);have hsw:=congrArg (List.map bt) (wT (x:=(⟨1+k,1,d⟩:Pg)) hy);simp only[qN] at hsw;have ey:fh l (j2:Int)=y:=by simp[fh,hy]
     rw[gx] at hst;rw[ey] at hst;have e1:((j2+1:Nat):Int)-1=j2:=by omega
     have g3:((List.map bt (fH l (j2+1) (⟨1+k,1,d⟩:Pg))).set (j2+1) (bt y))[j2]? = some (bt y):=by rw[ua (by omega)];exact g2
     simp only[bt] at g3;simp only[bt] at hsw;generalize hR:fH l (j2+1) (⟨1+k,1,d⟩:Pg)=RR at *;by_cases hb:1+(k:Int)<y.num
     ·rw[bC (GX hb)] at hst
      ((repeat'(first|(with_reducible refine aY 13 ?_;refine ay.bU 13 mix 18 rfl (.f 0 <| .f 1 <| .f 2 <| .f 3 <| .f 4 <| .f 5 <| .f 6 <| .f 7 <| .f 8 <| .f 10 <| .f 11 <| .f 12 <| .a <| .b 9 (.a <| .b 13 (.f 14 <| .a <| .b 15 (.f 16 <| .a <| .b 17 (.d) .e) .e) .e) <| .b 13 (.a <| .b 9 (.f 14 <| .a <| .b 15 (.f 16 <| .a <| .b 17 (.d) .e) .e) .e) .e) (by kernel_rfl) ?_)|(with_reducible refine cA ?_;first|refine aJ.D ?_|refine aJ.F (by simp only[seval,go_sem,eg,dJ];rfl) (by first|(simp only[seval,go_sem,g1,g2,g3,bt,e1])) (by first|(simp only[seval,go_sem,g1,g2,g3,bt,e1];with_reducible rfl)|(simp(disch:=omega)only[seval,go_sem,cI,g1,g2,g3,bt,e1];with_reducible rfl)) ?_|refine aJ.A ?_)|(with_reducible first|exact aI.E|refine aI.B (by simp only[seval,go_sem,eg,dJ];rfl) ?_ ?_)|simp only[seval,go_sem,g1,g2,g3,bt,e1]|((with_reducible refine au ?_);((with_reducible first|refine ah.step (by simp only[seval,go_sem,g1,g2,g3,bt,e1];rfl) ?_);refine dI (st:=[]) ?_))|(with_reducible refine br ?_;refine dX mix (by kernel_rfl) ?_)|(with_reducible first|refine aV (st:=[]) ?_|refine dO (by simp(disch:=omega)only[seval,go_sem,cI,g1,g2,g3,bt,e1];rfl) ?_|refine ai (by simp(disch:=omega)only[seval,go_sem,cI,g1,g2,g3,bt,e1];rfl) ?_))))
      all_goals(try(refine aP (j2) (by simp only[seval,go_sem,hsw]) ?_ ?_<;>(try(omega))))
      all_goals(try exact ⟨by omega,hst⟩)
     ·rw[aE (by simp[hb])] at hst;rw[hins hst.symm,Sp]
      ((repeat'(first|simp only[seval,go_sem,g1,g2,bt,e1,dM,fm]|(with_reducible refine br ?_;refine dX mix (by kernel_rfl) ?_)|(with_reducible refine aB ?_;(refine aC.gu 37 (by simp only[seval,go_sem];rfl) (by simp only[seval,go_sem,g1,g2,bt,e1,dM,fm];rfl) ?_);(with_reducible refine aB ?_;refine aC.q rfl (by with_unfolding_all (show iw _ _ [.cell 4 31,.tmp 5,.tmp 6]=_);simp only[seval,go_sem];rfl) (by simp only[seval,go_sem];rfl) (by decide) (by simp only[seval,go_sem];rfl) (by simp only[seval,go_sem];rfl) rfl ?_<;>(try simp only[seval,go_sem,g1,g2,bt,e1,dM,fm])<;>(repeat'(with_reducible apply And.intro))<;>(try rfl)))|(with_reducible first|refine aV (st:=[]) ?_|refine dO (by simp(disch:=omega)only[seval,go_sem,cI,g1,g2,bt,e1,dM,fm];rfl) ?_))))
  ·have h3:=g2 hp;have hm:=wG hp
   have hk2:k+1<=l.length:=by
    have hm2:∀ i:Nat,1<=i->i<=k+1->(i:Int)∈l.map (·.num):=fun i a b=>by
     by_cases e:i=k+1
     ·subst e;rw[show ((k+1:Nat):Int)=1+(k:Int) by omega];exact hm
     ·exact hmem i a (by omega)
    have:=EY (k+1) _ hm2
    rwa [dD] at this
   generalize eP (1+(k:Int)) l 0=z at hic hp;((repeat'(first|simp only[seval,go_sem]|((with_reducible refine bJ ?_);refine aq.c (hic) ?_)|(with_reducible first|refine aD (st:=[]) ?_|refine aV (st:=[]) ?_|refine ai (by simp(disch:=omega)only[seval,go_sem,cI];rfl) ?_))));all_goals(try(refine aP (k+1) (by simp only[seval,go_sem];first|((repeat'(with_reducible apply And.intro))<;>first|rfl)) ?_ ?_<;>(try(omega))))
   all_goals(try exact ⟨hk2,h3,fun i a b=>by
     by_cases e:i=k+1
     ·subst e;rw[show ((k+1:Nat):Int)=1+(k:Int) by omega];exact hm
     ·exact hmem i a (by omega)⟩)
end Go.Proofs.YteemiclhnfkekaaGreat
