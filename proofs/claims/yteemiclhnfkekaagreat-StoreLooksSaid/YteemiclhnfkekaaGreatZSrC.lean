/- The reference's store: what looks at it, pins, drops and renames; the walks. -/
import Derived.Test.YteemiclhnfkekaaGreatZSrA
import Derived.Test.YteemiclhnfkekaaGreatZSrB
import Derived.Test.YteemiclhnfkekaaGreatZAuA
import Derived.Test.YteemiclhnfkekaaGreatZPiD
set_option linter.unusedSimpArgs false
set_option linter.unusedVariables false
set_option maxRecDepth 100000
set_option maxHeartbeats 6400000
namespace Go.Proofs.YteemiclhnfkekaaGreat
open Go.RowKit Go.eB Go.Proofs.Tryz
theorem xW {l:List Ob} {n:Int} (hl:l.length<=100000):ak prog 131 [.sl 2 (l.map aK),i6 n] (i6 (cU n l 0)) []:=by
 refine bR [] [] [.tmp 4] func131 (by kernel_rfl) ntmps131 rfl rfl rfl ⟨rfl,rfl⟩ (by simp(disch:=omega)only[seval,go_sem,cI,List.replicate,l_2,l_1];rfl) ?_;((repeat'(first|simp only[seval,go_sem]|(with_reducible refine aV (st:=[]) ?_))));all_goals(with_reducible refine ay.cX (fun (k:Nat)=>[(5,i6 k),(4,.any)]++aN 6 14) (fun (k:Nat)=>[]) (fun (k:Nat)=>k<=l.length/\cU n (l.drop k) k=cU n l 0) (fun (k:Nat)=>l.length-k) (0) (⟨ek _,rfl⟩) (by intro _;simp(disch:=omega)only[seval,go_sem,cI];rfl) (by simp only[seval,go_sem]) (fun k hI=>?_))
 all_goals obtain ⟨hk,hf⟩:=hI
 by_cases hlt:k<l.length
 focus
  obtain ⟨o,ho⟩:=aZ hlt;have ho':=get_map aK ho;rw[aH ho,cU] at hf;by_cases hc:o.id=n
  focus
   rw[bC hc] at hf;rw[<- hf];have hZ:=ho'
  rotate_left 1
  ·rw[aE hc] at hf;((repeat'(first|simp only[seval,go_sem,ho',aK]|(with_reducible refine aV (st:=[]) ?_)|(with_reducible refine ai (by simp(disch:=omega)only[seval,go_sem,cI,ho',aK];rfl) ?_))));all_goals(try(refine aP (k+1) (by simp only[seval,go_sem];first|((repeat'(with_reducible apply And.intro))<;>first|rfl)) ?_ ?_<;>(try(omega))))
   all_goals(try exact ⟨by omega,hf⟩)
 rotate_left 1
 focus
  rw[j9 (by omega),cU] at hf;rw[<- hf];have hZ:=ek 0
 rotate_left 1;all_goals((repeat'(first|simp only[seval,go_sem,aK,hZ]|(with_reducible refine aV (st:=[]) ?_)|(with_reducible refine ai (by simp(disch:=omega)only[seval,go_sem,cI,aK,hZ];rfl) ?_))))
theorem ry {a1 a2 a3 a4 a5 a6 a7 com last cap:Int} {os:List Ob} {bs:List Bd} {ps:List Pn} {pg:List Pg} {c:Int} (hl:ps.length<=100000):ak prog 109 [.agg [i6 a1,i6 a2,i6 a3,i6 a4,i6 a5,i6 a6,i6 a7,i6 com,i6 last,.sl 2 (os.map aK),.sl 4 (bs.map ag),.sl 2 (ps.map aW),i6 cap,.sl 3 (pg.map bt)],i6 c] (.sc (.bool (fz ps c))) []:=by
 generalize hA:fz ps c=A;refine bR [] [2] [.tmp 4] func109 (by kernel_rfl) ntmps109 rfl rfl rfl ⟨rfl,rfl⟩ (by simp(disch:=omega)only[seval,go_sem,cI,List.replicate,l_2,l_1];rfl) ?_;((repeat'(first|simp only[seval,go_sem]|(with_reducible refine aV (st:=[]) ?_))));all_goals(with_reducible refine ay.cX (fun (k:Nat)=>[(5,i6 k),(4,.any)]++aN 6 15) (fun (k:Nat)=>[]) (fun (k:Nat)=>k<=ps.length/\fz (ps.drop k) c=A) (fun (k:Nat)=>ps.length-k) (0) (⟨ek _,by simpa only[Pr] using hA⟩) (by intro _;simp(disch:=omega)only[seval,go_sem,cI];rfl) (by simp only[seval,go_sem]) (fun k hI=>?_))
 all_goals obtain ⟨hk,hf⟩:=hI
 by_cases hlt:k<ps.length
 focus
  obtain ⟨q,hq⟩:=aZ hlt;have KQ:=get_map aW hq;rw[aH hq,fz,List.any_cons] at hf;by_cases hc:q.commit=c
  focus
   rw[show (q.commit==c)=true by simp[hc],Cm] at hf;rw[<- hf];have hZ:=(And.intro KQ hc)
  rotate_left 1
  ·rw[show (q.commit==c)=false by simp[hc],wo] at hf;((repeat'(first|simp only[seval,go_sem,KQ,aW]|(with_reducible refine aV (st:=[]) ?_)|(with_reducible refine ai (by simp(disch:=omega)only[seval,go_sem,cI,KQ,aW];rfl) ?_))));all_goals(try(refine aP (k+1) (by simp only[seval,go_sem];first|((repeat'(with_reducible apply And.intro))<;>first|rfl)) ?_ ?_<;>(try(omega))))
   all_goals(try exact ⟨by omega,hf⟩)
 rotate_left 1
 focus
  rw[j9 (by omega)] at hf;rw[show A=false from hf.symm];have hZ:=ek 0
 rotate_left 1;all_goals((repeat'(first|simp only[seval,go_sem,aW,hZ]|(with_reducible refine aV (st:=[]) ?_)|(with_reducible refine ai (by simp(disch:=omega)only[seval,go_sem,cI,aW,hZ];rfl) ?_))))
theorem nZ {a1 a2 a3 a4 a5 a6 a7 com last cap:Int} {os:List Ob} {bs:List Bd} {ps:List Pn} {pg:List Pg} {c:Int} (hl:ps.length<=100000):ak prog 45 [.agg [i6 a1,i6 a2,i6 a3,i6 a4,i6 a5,i6 a6,i6 a7,i6 com,i6 last,.sl 2 (os.map aK),.sl 4 (bs.map ag),.sl 2 (ps.map aW),i6 cap,.sl 3 (pg.map bt)],i6 c] (i6 (eG ⟨⟨a1,a2,a3,a4,a5,a6,a7⟩,com,last,os,bs,ps,⟨cap,pg⟩⟩ c)) []:=by
 unfold eG;simp only;cases h1:mO c 0 com
 focus
  rw[bC rfl];have hZ:=h1
 rotate_left 1
 focus
  rw[aE (by decide)];have hpc:=ry (a1:=a1) (a2:=a2) (a3:=a3) (a4:=a4) (a5:=a5) (a6:=a6) (a7:=a7) (com:=com) (last:=last) (cap:=cap) (os:=os) (bs:=bs) (ps:=ps) (pg:=pg) (c:=c) hl;by_cases h2:c=com
  focus
   rw[aE (by simp[h2])];subst h2;have hZ:=h1
  rotate_left 1
  focus
   cases h3:fz ps c
   focus
    rw[bC ⟨h2,rfl⟩];rw[h3] at hpc;have hZ:=h1
   rotate_left 1
   focus
    rw[aE (by simp)];rw[h3] at hpc;have hZ:=h1
   rotate_left 1
  rotate_left 2
 rotate_left 3;all_goals(refine bR [] [2,8,17] [.tmp 4] func45 (by kernel_rfl) ntmps45 rfl rfl rfl ⟨rfl,rfl⟩ (by simp(disch:=omega)only[seval,go_sem,cI,List.replicate,l_2,l_1];rfl) ?_)
 all_goals((repeat'(first|simp only[seval,go_sem,hZ]|((with_reducible refine bJ ?_);first|refine aq.c (hpc) ?_|refine aq.c (qV) ?_)|(with_reducible first|refine aD (st:=[]) ?_|refine aV (st:=[]) ?_|refine ai (by simp(disch:=omega)only[seval,go_sem,cI,hZ];rfl) ?_))))
theorem oN {a1 a2 a3 a4 a5 a6 a7 com last cap:Int} {os:List Ob} {bs:List Bd} {ps:List Pn} {pg:List Pg} {n:ByteArray} (hl:bs.length<=100000):ak prog 113 [.agg [i6 a1,i6 a2,i6 a3,i6 a4,i6 a5,i6 a6,i6 a7,i6 com,i6 last,.sl 2 (os.map aK),.sl 4 (bs.map ag),.sl 2 (ps.map aW),i6 cap,.sl 3 (pg.map bt)],.sc (.string n)] (.sc (.bool (b9 n com bs).2)) []:=by
 have hlc:=vn (l:=bs) (n:=n) (c:=com) hl;refine bR [] [2,13] [.tmp 4] func113 (by kernel_rfl) ntmps113 rfl rfl rfl ⟨rfl,rfl⟩ (by simp(disch:=omega)only[seval,go_sem,cI,List.replicate,l_2,l_1];rfl) ?_;((repeat'(first|simp only[seval,go_sem]|((with_reducible refine bJ ?_);refine aq.c (hlc) ?_)|(with_reducible refine aD (st:=[]) ?_)|(with_reducible refine aV (st:=[]) ?_))))
theorem vz {a1 a2 a3 a4 a5 a6 a7 com last cap:Int} {os:List Ob} {bs:List Bd} {ps:List Pn} {pg:List Pg} (hl:pg.length<=100000):ak prog 23 [.agg [i6 a1,i6 a2,i6 a3,i6 a4,i6 a5,i6 a6,i6 a7,i6 com,i6 last,.sl 2 (os.map aK),.sl 4 (bs.map ag),.sl 2 (ps.map aW),i6 cap,.sl 3 (pg.map bt)]] (i6 (pg.length:Int)) []:=by
 refine bR [] [1] [.tmp 2] func23 (by kernel_rfl) ntmps23 rfl rfl rfl ⟨rfl,rfl⟩ (by simp(disch:=omega)only[seval,go_sem,cI,List.replicate,l_2,l_1];rfl) ?_;((repeat'(first|simp only[seval,go_sem]|(with_reducible refine aV (st:=[]) ?_))))
theorem B5 {a1 a2 a3 a4 a5 a6 a7:Int}:ak prog 41 [.agg [i6 a1,i6 a2,i6 a3,i6 a4,i6 a5,i6 a6,i6 a7]] (.cT [.agg (eS (newR ⟨a1,a2,a3,a4,a5,a6,a7⟩).1),i6 (newR ⟨a1,a2,a3,a4,a5,a6,a7⟩).2]) []:=by
 have lE:=E4 (a:=a1) (b:=a2) (c:=a3) (d:=a4) (e:=a5) (f:=a6) (g:=a7);unfold newR;cases h:qO ⟨a1,a2,a3,a4,a5,a6,a7⟩
 focus
  rw[bC rfl];rw[h] at lE;simp only[eS,eN];have hZ:=ek 0
 rotate_left 1
 focus
  rw[aE (by decide)];rw[h] at lE;simp only[eS,eN];have hZ:=ek 0
 rotate_left 1;all_goals(refine bR [] [1,2,6] [.cell 2 33, .tmp 3] func41 (by kernel_rfl) ntmps41 rfl rfl rfl ⟨rfl,rfl⟩ (by simp(disch:=omega)only[seval,go_sem,cI,List.replicate,l_2,l_1];rfl) ?_)
 all_goals((repeat'(first|simp only[seval,go_sem,hZ]|((with_reducible refine bJ ?_);refine aq.c (lE) ?_)|(with_reducible first|refine aD (st:=[]) ?_|refine aV (st:=[]) ?_|refine ai (by simp(disch:=omega)only[seval,go_sem,cI,hZ];rfl) ?_))))
theorem qU {a1 a2 a3 a4 a5 a6 a7 com last cap:Int} {os:List Ob} {bs:List Bd} {ps:List Pn} {pg:List Pg} {f t z:Int} {vp:List Int} (hl:pg.length<=100000) (hd:∀ p∈pg,p.data.length<=1000000) (hv:vp.length<=1000000):ak prog 64 [.agg [i6 a1,i6 a2,i6 a3,i6 a4,i6 a5,i6 a6,i6 a7,i6 com,i6 last,.sl 2 (os.map aK),.sl 4 (bs.map ag),.sl 2 (ps.map aW),i6 cap,.sl 3 (pg.map bt)],.agg [i6 f,i6 t,i6 z,.sl 1 (vp.map cO)]] (.sl 1 ((bg ⟨cap,pg⟩ vp).map bP)) []:=by
 refine dL [] [2,3,24,29,30] func64 (by kernel_rfl) ntmps64 rfl rfl ⟨rfl,rfl⟩ (by simp(disch:=omega)only[seval,go_sem,cI,List.replicate,l_2,l_1];rfl) ?_;((repeat'(first|simp only[seval,go_sem]|(with_reducible refine aV (st:=[]) ?_))));all_goals(refine ay.bx 2 (by simp only[seval,go_sem];rfl) (by simp only[seval,go_sem];first|done|rfl) (by simp only[seval,go_sem];rfl) ?_)
 all_goals(refine ay.bx 3 (by simp only[seval,go_sem];rfl) (by simp only[seval,go_sem];first|done|rfl) (by simp only[seval,go_sem];rfl) ?_)
 all_goals(refine ay.fT 5 30 1 (by first|(simp only[seval,go_sem])) (by first|(simp only[seval,go_sem])) (by simp only[seval,go_sem];rfl) ?_)
 all_goals(with_reducible refine ay.cX (fun (t:Nat×List (List Int))=>[(6,i6 t.1),(5,.cW 30 1 0 t.2.length)]++aN 7 24) (fun (t:Nat×List (List Int))=>[(30,.row 1 (t.2.map bP)),(24,.dead),(29,.dead)]) (fun (t:Nat×List (List Int))=>t.1<=vp.length/\t.2.length=t.1/\t.2++bg ⟨cap,pg⟩ (vp.drop t.1)=bg ⟨cap,pg⟩ vp) (fun (t:Nat×List (List Int))=>vp.length-t.1) ((0,[])) (⟨ek _,rfl,by simp⟩) (by intro _;simp(disch:=omega)only[seval,go_sem,cI];rfl) (by simp only[seval,go_sem]) (fun t hI=>?_))
 all_goals
  obtain ⟨k,a⟩:=t;obtain ⟨hk,tU,hf⟩:=hI;simp only at hk tU hf;have dM:(a.map bP).length=a.length:=dD _;by_cases hlt:k<vp.length
  ·obtain ⟨n,hn⟩:=aZ hlt;have hn':=get_map cO hn;have hdc:=D9 (c:=cap) (n:=n) (l:=pg) hl hd;rw[aH hn,bg,fk] at hf;generalize eH ⟨cap,pg⟩ n=DR at hdc hf
   ((repeat'(first|simp only[seval,go_sem,cO,hn',dM]|(with_reducible refine br ?_;refine dX mix (by kernel_rfl) ?_)|(with_reducible refine gQ ?_)|((with_reducible refine nB ?_);refine fP.c (hdc) ?_)|(with_reducible first|refine aV (st:=[]) ?_|refine dO (by simp(disch:=omega)only[seval,go_sem,cI,cO,hn',dM];rfl) ?_|refine ai (by simp(disch:=omega)only[seval,go_sem,cI,cO,hn',dM];rfl) ?_))))
   all_goals(try(refine aP ((k+1,a++[DR.1])) (by simp only[seval,go_sem,bP];first|((repeat'(with_reducible apply And.intro))<;>first|rfl|(simp[bP];done))) ?_ ?_<;>(try(omega))))
   all_goals(try exact ⟨by simp only;omega,by simp only[bW,List.length_cons,List.length_nil];omega,by simp only[lR,List.cons_append,List.nil_append];exact hf⟩)
  ·rw[j9 (by omega),show bg ⟨cap,pg⟩ []=[] from rfl,yM] at hf;rw[<- hf];have fm:(a.map bP).take a.length=a.map bP:=lu (by rw[dM];exact iU _)
   ((repeat'(first|simp only[seval,go_sem,dM,fm]|(with_reducible refine aB ?_;(refine aC.gu 30 (by simp only[seval,go_sem];rfl) (by simp only[seval,go_sem,dM,fm];rfl) ?_);(with_reducible refine aB ?_;refine aC.q rfl rfl (by simp only[seval,go_sem];rfl) (by decide) (by simp only[seval,go_sem];rfl) (by simp only[seval,go_sem];rfl) rfl ?_<;>(try simp only[seval,go_sem,dM,fm])<;>(repeat'(with_reducible apply And.intro))<;>(try rfl)))|(with_reducible first|refine aV (st:=[]) ?_|refine ai (by simp(disch:=omega)only[seval,go_sem,cI,dM,fm];rfl) ?_))))
theorem vr (n:Int) (l:List Ob):(cU n l 0 = -1)\/∃ (j:Nat) (o:Ob),l[j]? = some o/\j<l.length/\cU n l 0=(j:Int)/\dm l (cU n l 0)=o:=by
 rcases jH n l 0 with ⟨h,_⟩|⟨j,p,h1,h2,h3,_⟩
 ·exact .inl h
 ·rw[kO] at h3;exact .inr ⟨j,p,h1,(jM.1 h1).1,h3,by simp[dm,h3,h1]⟩
theorem mX (c:Int):∀ (l:List fE) (i:Nat),(gf c l i=(0,false))\/∃ (k:Nat) (v:fE),l[k]? = some v/\gf c l i=(((i+k:Nat):Int),true)
 | [],_=> .inl rfl
 | v::l,i=>by
   rw[gf]
   split
   ·exact .inr ⟨0,v,rfl,rfl⟩
   ·rcases mX c l (i+1) with h|⟨k,u,h1,h2⟩
    ·exact .inl h
    ·exact .inr ⟨k+1,u,by simpa using h1,by rw[h2,show i+1+k=i+(k+1) by omega]⟩
theorem gK (s:Sr) (n:ByteArray) (c:Int):(fO s n c=(0,zeroV,false)/\((b9 n c s.binds).2=false\/((b9 n c s.binds).2=true/\(cU (b9 n c s.binds).1 s.objs 0 = -1\/∃ (j:Nat) (o:Ob),s.objs[j]? = some o/\j<s.objs.length/\cU (b9 n c s.binds).1 s.objs 0=(j:Int)/\gf c o.bu 0=(0,false)))))\/
  ∃ (j k:Nat) (o:Ob) (v:fE),(b9 n c s.binds).2=true/\s.objs[j]? = some o/\j<s.objs.length/\cU (b9 n c s.binds).1 s.objs 0=(j:Int)/\o.bu[k]? = some v/\k<o.bu.length/\gf c o.bu 0=((k:Int),true)/\fO s n c=((j:Int),v,true):=by
 unfold fO;cases h1:(b9 n c s.binds).2 with
 | false=>exact .inl ⟨bC (.inl rfl), .inl rfl⟩
 | true=>
   rcases vr (b9 n c s.binds).1 s.objs with h2|⟨j,o,q1,q2,q3,q4⟩
   ·exact .inl ⟨bC (.inr (by rw[h2];omega)), .inr ⟨rfl, .inl h2⟩⟩
   ·rw[aE (by rw[q3];simp),q4];rcases mX c o.bu 0 with h3|⟨k,v,h3,h4⟩
    ·exact .inl ⟨bC (by rw[h3]), .inr ⟨rfl, .inr ⟨j,o,q1,q2,q3,h3⟩⟩⟩
    ·rw[kO] at h4;refine .inr ⟨j,k,o,v,rfl,q1,q2,q3,h3,(jM.1 h3).1,h4,?_⟩;rw[aE (by rw[h4];simp),q3,h4];simp[yg,h3]
theorem n8 {a1 a2 a3 a4 a5 a6 a7 com last cap:Int} {os:List Ob} {bs:List Bd} {ps:List Pn} {pg:List Pg} {n:ByteArray} {c:Int} (hb:bs.length<=100000) (ho:os.length<=100000) (hv:∀ o∈os,o.bu.length<=100000):ak prog 62 [.agg [i6 a1,i6 a2,i6 a3,i6 a4,i6 a5,i6 a6,i6 a7,i6 com,i6 last,.sl 2 (os.map aK),.sl 4 (bs.map ag),.sl 2 (ps.map aW),i6 cap,.sl 3 (pg.map bt)],.sc (.string n),i6 c] (.cT [i6 (fO ⟨⟨a1,a2,a3,a4,a5,a6,a7⟩,com,last,os,bs,ps,⟨cap,pg⟩⟩ n c).1,.agg (aL (fO ⟨⟨a1,a2,a3,a4,a5,a6,a7⟩,com,last,os,bs,ps,⟨cap,pg⟩⟩ n c).2.1),.sc (.bool (fO ⟨⟨a1,a2,a3,a4,a5,a6,a7⟩,com,last,os,bs,ps,⟨cap,pg⟩⟩ n c).2.2)]) []:=by
 have hlc:=vn (l:=bs) (n:=n) (c:=c) hb;have D2:=xW (l:=os) (n:=(b9 n c bs).1) ho;rcases gK ⟨⟨a1,a2,a3,a4,a5,a6,a7⟩,com,last,os,bs,ps,⟨cap,pg⟩⟩ n c with ⟨e,h⟩|⟨j,k,o,v,h1,q1,q2,q3,q4,q5,q6,e⟩
 ·rw[e];simp only at h;simp only[aL,zeroV,eN];generalize b9 n c bs=L at *;obtain ⟨Li,Lb⟩:=L;simp only at h D2 hlc;rcases h with h|⟨h,h2|⟨j,o,q1,q2,q3,q4⟩⟩
  ·subst h;refine dL [] [3,7,19,25,41] func62 (by kernel_rfl) ntmps62 rfl rfl ⟨rfl,rfl⟩ (by simp(disch:=omega)only[seval,go_sem,cI,List.replicate,l_2,l_1];rfl) ?_
   ((repeat'(first|simp only[seval,go_sem]|((with_reducible refine bJ ?_);first|refine aq.c (hlc) ?_|refine aq.c (D2) ?_)|(with_reducible refine aD (st:=[]) ?_)|(with_reducible refine aB ?_;refine fl (rs:=[.tmp 6,.cell 7 105,.tmp 8]) (by with_unfolding_all rfl) rfl ?_<;>simp only[seval,go_sem]<;>(repeat'(with_reducible apply And.intro))<;>(try rfl))|(with_reducible refine aV (st:=[]) ?_))))
  ·subst h;rw[h2] at D2;refine dL [] [3,7,19,25,41] func62 (by kernel_rfl) ntmps62 rfl rfl ⟨rfl,rfl⟩ (by simp(disch:=omega)only[seval,go_sem,cI,List.replicate,l_2,l_1];rfl) ?_
   ((repeat'(first|simp only[seval,go_sem]|((with_reducible refine bJ ?_);first|refine aq.c (hlc) ?_|refine aq.c (D2) ?_)|(with_reducible refine aD (st:=[]) ?_)|(with_reducible refine aB ?_;refine fl (rs:=[.tmp 6,.cell 7 105,.tmp 8]) (by with_unfolding_all rfl) rfl ?_<;>simp only[seval,go_sem]<;>(repeat'(with_reducible apply And.intro))<;>(try rfl))|(with_reducible first|refine aV (st:=[]) ?_|refine ai (by simp(disch:=omega)only[seval,go_sem,cI];rfl) ?_))))
  ·subst h;rw[q3] at D2;have jc:=get_map aK q1;have UW:=vm (vs:=o.bu) (c:=c) (hv o (fS q1));rw[q4] at UW;refine dL [] [3,7,19,25,41] func62 (by kernel_rfl) ntmps62 rfl rfl ⟨rfl,rfl⟩ (by simp(disch:=omega)only[seval,go_sem,cI,List.replicate,l_2,l_1];rfl) ?_
   ((repeat'(first|simp only[seval,go_sem,jc,aK]|((with_reducible refine bJ ?_);first|refine aq.c (hlc) ?_|refine aq.c (D2) ?_|refine aq.c (UW) ?_)|(with_reducible refine aD (st:=[]) ?_)|(with_reducible refine aB ?_;refine fl (rs:=[.tmp 6,.cell 7 105,.tmp 8]) (by with_unfolding_all rfl) rfl ?_<;>simp only[seval,go_sem]<;>(repeat'(with_reducible apply And.intro))<;>(try rfl))|(with_reducible first|refine aV (st:=[]) ?_|refine ai (by simp(disch:=omega)only[seval,go_sem,cI,jc,aK];rfl) ?_))))
 ·rw[e];simp only at h1 q1 q2 q3;simp only[aL];generalize b9 n c bs=L at *;obtain ⟨Li,Lb⟩:=L;simp only at h1 D2 hlc q3;subst h1;rw[q3] at D2;have jc:=get_map aK q1;have Sj:=get_map aL q4;have UW:=vm (vs:=o.bu) (c:=c) (hv o (fS q1));rw[q6] at UW;refine dL [] [3,7,19,25,41] func62 (by kernel_rfl) ntmps62 rfl rfl ⟨rfl,rfl⟩ (by simp(disch:=omega)only[seval,go_sem,cI,List.replicate,l_2,l_1];rfl) ?_
  ((repeat'(first|(with_reducible refine aY 8 ?_;refine ay.bU 8 mix 13 rfl (.f 0 <| .f 1 <| .f 3 <| .f 7 <| .f 10 <| .a <| .b 2 (.f 4 <| .f 5 <| .a <| .b 6 (.f 8 <| .a <| .b 9 (.a <| .b 11 (.f 12 <| .d) .e) .e) .e) .e) (by kernel_rfl) ?_)|(with_reducible refine cA ?_;first|refine aJ.D ?_|refine aJ.F (by simp only[seval,go_sem,eg,dJ];rfl) (by first|(simp only[seval,go_sem,jc,Sj,aK,aL])) (by first|(simp only[seval,go_sem,jc,Sj,aK,aL];with_reducible rfl)|(simp(disch:=omega)only[seval,go_sem,cI,jc,Sj,aK,aL];with_reducible rfl)) ?_|refine aJ.A ?_)|(with_reducible first|exact aI.E|refine aI.B (by simp only[seval,go_sem,eg,dJ];rfl) ?_ ?_)|simp only[seval,go_sem,jc,Sj,aK,aL]|((with_reducible refine bJ ?_);first|refine aq.c (hlc) ?_|refine aq.c (D2) ?_|refine aq.c (UW) ?_)|((with_reducible refine au ?_);first|(with_reducible refine aD (st:=[]) ?_)|((with_reducible first|refine ah.step (by simp only[seval,go_sem,jc,Sj,aK,aL];rfl) ?_);refine dI (st:=[]) ?_))|(with_reducible refine aB ?_;refine fl (rs:=[.tmp 6,.cell 7 105,.tmp 8]) (by with_unfolding_all rfl) rfl ?_<;>simp only[seval,go_sem]<;>(repeat'(with_reducible apply And.intro))<;>(try rfl))|(with_reducible first|refine aV (st:=[]) ?_|refine ai (by simp(disch:=omega)only[seval,go_sem,cI,jc,Sj,aK,aL];rfl) ?_))))
theorem F5 {a1 a2 a3 a4 a5 a6 a7 com last cap:Int} {os:List Ob} {bs:List Bd} {ps:List Pn} {pg:List Pg} {c:Int} (hl:ps.length<=100000):ak prog 13 [.agg [i6 a1,i6 a2,i6 a3,i6 a4,i6 a5,i6 a6,i6 a7,i6 com,i6 last,.sl 2 (os.map aK),.sl 4 (bs.map ag),.sl 2 (ps.map aW),i6 cap,.sl 3 (pg.map bt)],i6 c] (.cT [.agg (eS (ja ⟨⟨a1,a2,a3,a4,a5,a6,a7⟩,com,last,os,bs,ps,⟨cap,pg⟩⟩ c).1),i6 (ja ⟨⟨a1,a2,a3,a4,a5,a6,a7⟩,com,last,os,bs,ps,⟨cap,pg⟩⟩ c).2]) []:=by
 have yS:=nZ (a1:=a1) (a2:=a2) (a3:=a3) (a4:=a4) (a5:=a5) (a6:=a6) (a7:=a7) (com:=com) (last:=last) (cap:=cap) (os:=os) (bs:=bs) (ps:=ps) (pg:=pg) (c:=c) hl;have Z2:=B4 (l:=ps) hl;have hac:=Jc (l:=ps) (c:=c) hl;unfold ja;generalize eG ⟨⟨a1,a2,a3,a4,a5,a6,a7⟩,com,last,os,bs,ps,⟨cap,pg⟩⟩ c=E at *;by_cases h1:E≠0
 focus
  rw[bC h1];simp only[eS];have hZ:=ek 0
 rotate_left 1
 focus
  rw[aE h1];have pJ:E=0:=by simpa using h1
  subst pJ;simp only;by_cases h2:a5<=iL ps 0
  focus
   rw[bC h2];simp only[eS];have hZ:=ek 0
  rotate_left 1
  focus
   rw[aE h2];simp only[eS];have hZ:=ek 0
  rotate_left 1
 rotate_left 2;all_goals(refine bR [] [2,4,9,16,26] [.cell 4 33, .tmp 5] func13 (by kernel_rfl) ntmps13 rfl rfl rfl ⟨rfl,rfl⟩ (by simp(disch:=omega)only[seval,go_sem,cI,List.replicate,l_2,l_1];rfl) ?_)
 all_goals((repeat'(first|simp only[seval,go_sem,hZ]|((with_reducible refine bJ ?_);first|refine aq.c (yS) ?_|refine aq.c (hac) ?_)|(with_reducible refine aD (st:=[]) ?_)|(with_reducible refine br ?_;refine dX mix (by kernel_rfl) ?_)|(with_reducible refine gQ ?_)|((with_reducible refine nB ?_);refine fP.c (Z2) ?_)|(with_reducible first|refine aV (st:=[]) ?_|refine dO (by simp(disch:=omega)only[seval,go_sem,cI,hZ];rfl) ?_|refine ai (by simp(disch:=omega)only[seval,go_sem,cI,hZ];rfl) ?_))))
theorem B6 {a1 a2 a3 a4 a5 a6 a7 com last cap:Int} {os:List Ob} {bs:List Bd} {ps:List Pn} {pg:List Pg} {c:Int} (hl:ps.length<=100000):ak prog 52 [.agg [i6 a1,i6 a2,i6 a3,i6 a4,i6 a5,i6 a6,i6 a7,i6 com,i6 last,.sl 2 (os.map aK),.sl 4 (bs.map ag),.sl 2 (ps.map aW),i6 cap,.sl 3 (pg.map bt)],i6 c] (.cT [.agg (eS (gW ⟨⟨a1,a2,a3,a4,a5,a6,a7⟩,com,last,os,bs,ps,⟨cap,pg⟩⟩ c).1),i6 (gW ⟨⟨a1,a2,a3,a4,a5,a6,a7⟩,com,last,os,bs,ps,⟨cap,pg⟩⟩ c).2]) []:=by
 have hpc:=ry (a1:=a1) (a2:=a2) (a3:=a3) (a4:=a4) (a5:=a5) (a6:=a6) (a7:=a7) (com:=com) (last:=last) (cap:=cap) (os:=os) (bs:=bs) (ps:=ps) (pg:=pg) (c:=c) hl;have hrc:=Jd (l:=ps) (c:=c) hl;unfold gW;simp only;cases h1:fz ps c
 focus
  rw[bC rfl];rw[h1] at hpc;simp only[eS];have hZ:=ek 0
 rotate_left 1
 focus
  rw[aE (by decide)];rw[h1] at hpc;simp only[eS];have hZ:=ek 0
 rotate_left 1;all_goals(refine bR [] [2,4,8,15] [.cell 4 33, .tmp 5] func52 (by kernel_rfl) ntmps52 rfl rfl rfl ⟨rfl,rfl⟩ (by simp(disch:=omega)only[seval,go_sem,cI,List.replicate,l_2,l_1];rfl) ?_)
 all_goals((repeat'(first|simp only[seval,go_sem,hZ]|((with_reducible refine bJ ?_);first|refine aq.c (hpc) ?_|refine aq.c (hrc) ?_)|(with_reducible refine aD (st:=[]) ?_)|(with_reducible refine aV (st:=[]) ?_))))
theorem F6 {a1 a2 a3 a4 a5 a6 a7 com last cap:Int} {os:List Ob} {bs:List Bd} {ps:List Pn} {pg:List Pg} {n m:ByteArray} (hl:bs.length<=100000) (h0:0<=com) (h9:com<=1000000000):ak prog 50 [.agg [i6 a1,i6 a2,i6 a3,i6 a4,i6 a5,i6 a6,i6 a7,i6 com,i6 last,.sl 2 (os.map aK),.sl 4 (bs.map ag),.sl 2 (ps.map aW),i6 cap,.sl 3 (pg.map bt)],.sc (.string n),.sc (.string m)] (.cT [.agg (eS (bY ⟨⟨a1,a2,a3,a4,a5,a6,a7⟩,com,last,os,bs,ps,⟨cap,pg⟩⟩ n m).1),i6 (bY ⟨⟨a1,a2,a3,a4,a5,a6,a7⟩,com,last,os,bs,ps,⟨cap,pg⟩⟩ n m).2.1,i6 (bY ⟨⟨a1,a2,a3,a4,a5,a6,a7⟩,com,last,os,bs,ps,⟨cap,pg⟩⟩ n m).2.2]) []:=by
 have hnc:=cD (s:=m);have KO:=oN (a1:=a1) (a2:=a2) (a3:=a3) (a4:=a4) (a5:=a5) (a6:=a6) (a7:=a7) (com:=com) (last:=last) (cap:=cap) (os:=os) (bs:=bs) (ps:=ps) (pg:=pg) (n:=n) hl;have MP:=oN (a1:=a1) (a2:=a2) (a3:=a3) (a4:=a4) (a5:=a5) (a6:=a6) (a7:=a7) (com:=com) (last:=last) (cap:=cap) (os:=os) (bs:=bs) (ps:=ps) (pg:=pg) (n:=m) hl;have hrc:=yh (l:=bs) (n:=n) (m:=m) (c:=com+1) hl;unfold bY fM;simp only;cases c1:bM m
 focus
  rw[bC rfl];rw[c1] at hnc;simp only[eS];have hZ:=ek 0
 rotate_left 1
 focus
  rw[aE (by decide)];rw[c1] at hnc;cases c2:(b9 n com bs).2
  focus
   rw[bC rfl];rw[c2] at KO;simp only[eS];have hZ:=ek 0
  rotate_left 1
  focus
   rw[aE (by decide)];rw[c2] at KO;cases c3:(b9 m com bs).2
   focus
    rw[aE (by decide)];rw[c3] at MP;by_cases c4:a6<=com
    focus
     rw[bC c4];simp only[eS];have hZ:=ek 0
    rotate_left 1
    focus
     rw[aE c4];simp only[eS];have hZ:=ek 0
    rotate_left 1
   rotate_left 2
   focus
    rw[bC rfl];rw[c3] at MP;simp only[eS];have hZ:=ek 0
   rotate_left 1
  rotate_left 3
 rotate_left 4;all_goals(refine bR [] [3,6,11,17,23,44] [.cell 6 33, .tmp 7, .tmp 8] func50 (by kernel_rfl) ntmps50 rfl rfl rfl ⟨rfl,rfl⟩ (by simp(disch:=omega)only[seval,go_sem,cI,List.replicate,l_2,l_1];rfl) ?_)
 all_goals((repeat'(first|(with_reducible refine aY 11 ?_;refine ay.bU 11 mix 6 rfl (.f 1 <| .a <| .b 0 (.a <| .b 2 (.a <| .b 3 (.f 4 <| .f 5 <| .d) .e) <| .b 3 (.a <| .b 2 (.f 4 <| .f 5 <| .d) .e) .e) <| .b 2 (.a <| .b 0 (.a <| .b 3 (.f 4 <| .f 5 <| .d) .e) .e) .e) (by kernel_rfl) ?_)|(with_reducible refine cA ?_;first|refine aJ.D ?_|refine aJ.F (by simp only[seval,go_sem,eg,dJ];rfl) (by first|(simp only[seval,go_sem,hZ])) (by first|(simp only[seval,go_sem,hZ];with_reducible rfl)) ?_|refine aJ.A ?_)|(with_reducible first|exact aI.E|refine aI.B (by simp only[seval,go_sem,eg,dJ];rfl) ?_ ?_)|simp only[seval,go_sem,hZ]|((with_reducible refine bJ ?_);first|refine aq.c (hnc) ?_|refine aq.c (KO) ?_|refine aq.c (MP) ?_|refine aq.c (hrc) ?_)|((with_reducible refine au ?_);first|(with_reducible refine aD (st:=[]) ?_)|((with_reducible first|refine ah.step (by simp only[seval,go_sem,hZ];rfl) ?_);refine dI (st:=[]) ?_))|(with_reducible first|refine aV (st:=[]) ?_|refine ai (by simp(disch:=omega)only[seval,go_sem,cI,hZ];rfl) ?_))))
theorem A3 (sz:Nat):∀ (k:Nat) (l:List Int),(chunks sz k l).length<=k
 | 0,_=>iU _
 | k+1,l=>by
   rw[chunks]
   split
   ·exact ek _
   ·have:=A3 sz k (l.drop sz);simp only[List.length_cons];omega
theorem A4 (sz:Nat):∀ (k:Nat) (l:List Int),∀ x∈chunks sz k l,x.length<=sz/\∀ z∈x,z∈l
 | 0,_=>fun x hx=>by simp[chunks] at hx
 | k+1,l=>fun x hx=>by
   rw[chunks] at hx
   split at hx
   ·simp at hx
   ·rcases lp.1 hx with rfl|h
    ·exact ⟨by rw[cw];omega,fun z hz=>zR hz⟩
    ·have:=A4 sz k (l.drop sz) x h;exact ⟨this.1,fun z hz=>E8 (this.2 z hz)⟩
theorem uP {d:List Int} {sz:Int}:(aR d sz).1.length<=d.length:=by
 unfold aR;split
 ·exact ek _
 ·exact A3 _ _ _
theorem oO {d:List Int} {sz:Int}:∀ x∈(aR d sz).1,x.length<=1024/\∀ z∈x,z∈d:=by
 unfold aR;split
 ·intro x hx;simp at hx
 ·intro x hx;have:=A4 _ _ _ x hx;exact ⟨by have:=this.1;omega,this.2⟩
theorem oP (a:Ar) (d:List Int):(dG a d).1.pages.length<=a.pages.length+1:=by
 unfold dG;split
 ·exact Nat.le_succ _
 ·split
  ·exact Nat.le_succ _
  ·exact Nat.le_of_eq (qs (qH _ _))
theorem uQ (c:Int):∀ (l:List Bd) (a:List ByteArray),(iV c l a).length<=a.length+l.length
 | [],_=>iU _
 | b::l,a=>by
   rw[iV]
   split
   ·have h1:=uQ c l (tC b.name a);have h2:=D4 b.name a;simp only[List.length_cons];omega
   ·have h1:=uQ c l a;simp only[List.length_cons];omega
end Go.Proofs.YteemiclhnfkekaaGreat
