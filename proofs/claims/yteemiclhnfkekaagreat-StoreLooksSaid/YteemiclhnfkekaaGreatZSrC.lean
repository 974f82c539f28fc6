/- The reference's store: what looks at it, pins, drops and renames; the walks. -/
import Derived.Test.YteemiclhnfkekaaGreatZSrB
set_option linter.unusedSimpArgs false
set_option linter.unusedVariables false
set_option maxRecDepth 100000
set_option maxHeartbeats 6400000
namespace Go.Proofs.YteemiclhnfkekaaGreat
open Go.RowKit Go.fe Tryz
theorem yg {l:List Ob} {n:Int} (hl:l.length<=100000):ak prog 131 [.sl 2 (l.map aK),i6 n] (i6 (cU n l 0)) []:=by
 refine bR [] [] [.tmp 4] func131 (by kernel_rfl) ntmps131 rfl rfl rfl ⟨rfl,rfl⟩ (by simp(disch:=omega)only[seval,go_sem,cI,List.replicate,l_2,l_1];rfl) ?_;((repeat'(first|simp only[seval,go_sem]|(with_reducible refine aV (st:=[]) ?_))));all_goals(with_reducible refine ay.cX (fun (k:Nat)=>[(5,i6 k),(4,.any)]++aN 6 14) (fun (k:Nat)=>[]) (fun (k:Nat)=>k<=l.length/\cU n (l.drop k) k=cU n l 0) (fun (k:Nat)=>l.length-k) (0) (⟨ek _,rfl⟩) (by intro _;simp(disch:=omega)only[seval,go_sem,cI];rfl) (by simp only[seval,go_sem]) (fun k hI=>?_))
 all_goals obtain ⟨hk,hf⟩:=hI
 by_cases hlt:k<l.length
 focus
  obtain ⟨o,ho⟩:=aZ hlt;have ho':=get_map aK ho;rw[aH ho,cU] at hf;by_cases hc:o.id=n
  focus
   rw[bC hc] at hf;rw[<- hf];have hZ:=ho'
  rotate_left 1
  ·rw[aE hc] at hf;((repeat'(first|simp only[seval,go_sem,ho',aK]|(with_reducible refine aV (st:=[]) ?_)|(with_reducible refine ai (by simp(disch:=omega)only[seval,go_sem,cI,ho',aK];rfl) ?_))));all_goals(try(refine aP (k+1) (by simp only[seval,go_sem];first|((repeat'(with_reducible apply And.intro))<;>first|rfl)) ?_ ?_<;>(try(omega))))
   all_goals(try exact ⟨by omega,hf⟩)
 rotate_left 1
 focus
  rw[j9 (by omega),cU] at hf;rw[<- hf];have hZ:=ek 0
 rotate_left 1;all_goals((repeat'(first|simp only[seval,go_sem,aK,hZ]|(with_reducible refine aV (st:=[]) ?_)|(with_reducible refine ai (by simp(disch:=omega)only[seval,go_sem,cI,aK,hZ];rfl) ?_))))
theorem ru {a1 a2 a3 a4 a5 a6 a7 com last cap:Int} {os:List Ob} {bs:List Bd} {ps:List Pn} {pg:List Pg} {c:Int} (hl:ps.length<=100000):ak prog 109 [.agg [i6 a1,i6 a2,i6 a3,i6 a4,i6 a5,i6 a6,i6 a7,i6 com,i6 last,.sl 2 (os.map aK),.sl 4 (bs.map ag),.sl 2 (ps.map aW),i6 cap,.sl 3 (pg.map bt)],i6 c] (.sc (.bool (fz ps c))) []:=by
 generalize hA:fz ps c=A;refine bR [] [2] [.tmp 4] func109 (by kernel_rfl) ntmps109 rfl rfl rfl ⟨rfl,rfl⟩ (by simp(disch:=omega)only[seval,go_sem,cI,List.replicate,l_2,l_1];rfl) ?_;((repeat'(first|simp only[seval,go_sem]|(with_reducible refine aV (st:=[]) ?_))));all_goals(with_reducible refine ay.cX (fun (k:Nat)=>[(5,i6 k),(4,.any)]++aN 6 15) (fun (k:Nat)=>[]) (fun (k:Nat)=>k<=ps.length/\fz (ps.drop k) c=A) (fun (k:Nat)=>ps.length-k) (0) (⟨ek _,by simpa only[Pv] using hA⟩) (by intro _;simp(disch:=omega)only[seval,go_sem,cI];rfl) (by simp only[seval,go_sem]) (fun k hI=>?_))
 all_goals obtain ⟨hk,hf⟩:=hI
 by_cases hlt:k<ps.length
 focus
  obtain ⟨q,hq⟩:=aZ hlt;have KZ:=get_map aW hq;rw[aH hq,fz,List.any_cons] at hf;by_cases hc:q.commit=c
  focus
   rw[show (q.commit==c)=true by simp[hc],Cl] at hf;rw[<- hf];have hZ:=(And.intro KZ hc)
  rotate_left 1
  ·rw[show (q.commit==c)=false by simp[hc],wo] at hf;((repeat'(first|simp only[seval,go_sem,KZ,aW]|(with_reducible refine aV (st:=[]) ?_)|(with_reducible refine ai (by simp(disch:=omega)only[seval,go_sem,cI,KZ,aW];rfl) ?_))));all_goals(try(refine aP (k+1) (by simp only[seval,go_sem];first|((repeat'(with_reducible apply And.intro))<;>first|rfl)) ?_ ?_<;>(try(omega))))
   all_goals(try exact ⟨by omega,hf⟩)
 rotate_left 1
 focus
  rw[j9 (by omega)] at hf;rw[show A=false from hf.symm];have hZ:=ek 0
 rotate_left 1;all_goals((repeat'(first|simp only[seval,go_sem,aW,hZ]|(with_reducible refine aV (st:=[]) ?_)|(with_reducible refine ai (by simp(disch:=omega)only[seval,go_sem,cI,aW,hZ];rfl) ?_))))
theorem oK {a1 a2 a3 a4 a5 a6 a7 com last cap:Int} {os:List Ob} {bs:List Bd} {ps:List Pn} {pg:List Pg} {c:Int} (hl:ps.length<=100000):ak prog 45 [.agg [i6 a1,i6 a2,i6 a3,i6 a4,i6 a5,i6 a6,i6 a7,i6 com,i6 last,.sl 2 (os.map aK),.sl 4 (bs.map ag),.sl 2 (ps.map aW),i6 cap,.sl 3 (pg.map bt)],i6 c] (i6 (eF ⟨⟨a1,a2,a3,a4,a5,a6,a7⟩,com,last,os,bs,ps,⟨cap,pg⟩⟩ c)) []:=by
 unfold eF;simp only;cases h1:mO c 0 com
 focus
  rw[bC rfl];have hZ:=h1
 rotate_left 1
 focus
  rw[aE (by decide)];have hpc:=ru (a1:=a1) (a2:=a2) (a3:=a3) (a4:=a4) (a5:=a5) (a6:=a6) (a7:=a7) (com:=com) (last:=last) (cap:=cap) (os:=os) (bs:=bs) (ps:=ps) (pg:=pg) (c:=c) hl;by_cases h2:c=com
  focus
   rw[aE (by simp[h2])];subst h2;have hZ:=h1
  rotate_left 1
  focus
   cases h3:fz ps c
   focus
    rw[bC ⟨h2,rfl⟩];rw[h3] at hpc;have hZ:=h1
   rotate_left 1
   focus
    rw[aE (by simp)];rw[h3] at hpc;have hZ:=h1
   rotate_left 1
  rotate_left 2
 rotate_left 3;all_goals(refine bR [] [2,8,17] [.tmp 4] func45 (by kernel_rfl) ntmps45 rfl rfl rfl ⟨rfl,rfl⟩ (by simp(disch:=omega)only[seval,go_sem,cI,List.replicate,l_2,l_1];rfl) ?_)
 all_goals((repeat'(first|simp only[seval,go_sem,hZ]|((with_reducible refine bJ ?_);first|refine aq.c (hpc) ?_|refine aq.c (rq) ?_)|(with_reducible first|refine aD (st:=[]) ?_|refine aV (st:=[]) ?_|refine ai (by simp(disch:=omega)only[seval,go_sem,cI,hZ];rfl) ?_))))
theorem oL {a1 a2 a3 a4 a5 a6 a7 com last cap:Int} {os:List Ob} {bs:List Bd} {ps:List Pn} {pg:List Pg} {n:ByteArray} (hl:bs.length<=100000):ak prog 113 [.agg [i6 a1,i6 a2,i6 a3,i6 a4,i6 a5,i6 a6,i6 a7,i6 com,i6 last,.sl 2 (os.map aK),.sl 4 (bs.map ag),.sl 2 (ps.map aW),i6 cap,.sl 3 (pg.map bt)],.sc (.string n)] (.sc (.bool (b9 n com bs).2)) []:=by
 have hlc:=vq (l:=bs) (n:=n) (c:=com) hl;refine bR [] [2,13] [.tmp 4] func113 (by kernel_rfl) ntmps113 rfl rfl rfl ⟨rfl,rfl⟩ (by simp(disch:=omega)only[seval,go_sem,cI,List.replicate,l_2,l_1];rfl) ?_;((repeat'(first|simp only[seval,go_sem]|((with_reducible refine bJ ?_);refine aq.c (hlc) ?_)|(with_reducible refine aD (st:=[]) ?_)|(with_reducible refine aV (st:=[]) ?_))))
theorem vz {a1 a2 a3 a4 a5 a6 a7 com last cap:Int} {os:List Ob} {bs:List Bd} {ps:List Pn} {pg:List Pg} (hl:pg.length<=100000):ak prog 23 [.agg [i6 a1,i6 a2,i6 a3,i6 a4,i6 a5,i6 a6,i6 a7,i6 com,i6 last,.sl 2 (os.map aK),.sl 4 (bs.map ag),.sl 2 (ps.map aW),i6 cap,.sl 3 (pg.map bt)]] (i6 (pg.length:Int)) []:=by
 refine bR [] [1] [.tmp 2] func23 (by kernel_rfl) ntmps23 rfl rfl rfl ⟨rfl,rfl⟩ (by simp(disch:=omega)only[seval,go_sem,cI,List.replicate,l_2,l_1];rfl) ?_;((repeat'(first|simp only[seval,go_sem]|(with_reducible refine aV (st:=[]) ?_))))
theorem B2 {a1 a2 a3 a4 a5 a6 a7:Int}:ak prog 41 [.agg [i6 a1,i6 a2,i6 a3,i6 a4,i6 a5,i6 a6,i6 a7]] (.cT [.agg (eS (newR ⟨a1,a2,a3,a4,a5,a6,a7⟩).1),i6 (newR ⟨a1,a2,a3,a4,a5,a6,a7⟩).2]) []:=by
 have lF:=F8 (a:=a1) (b:=a2) (c:=a3) (d:=a4) (e:=a5) (f:=a6) (g:=a7);unfold newR;cases h:qN ⟨a1,a2,a3,a4,a5,a6,a7⟩
 focus
  rw[bC rfl];rw[h] at lF;simp only[eS,eM];have hZ:=ek 0
 rotate_left 1
 focus
  rw[aE (by decide)];rw[h] at lF;simp only[eS,eM];have hZ:=ek 0
 rotate_left 1;all_goals(refine bR [] [1,2,6] [.cell 2 33, .tmp 3] func41 (by kernel_rfl) ntmps41 rfl rfl rfl ⟨rfl,rfl⟩ (by simp(disch:=omega)only[seval,go_sem,cI,List.replicate,l_2,l_1];rfl) ?_)
 all_goals((repeat'(first|simp only[seval,go_sem,hZ]|((with_reducible refine bJ ?_);refine aq.c (lF) ?_)|(with_reducible first|refine aD (st:=[]) ?_|refine aV (st:=[]) ?_|refine ai (by simp(disch:=omega)only[seval,go_sem,cI,hZ];rfl) ?_))))
theorem ry {a1 a2 a3 a4 a5 a6 a7 com last cap:Int} {os:List Ob} {bs:List Bd} {ps:List Pn} {pg:List Pg} {f t z:Int} {vp:List Int} (hl:pg.length<=100000) (hd:∀ p∈pg,p.data.length<=1000000) (hv:vp.length<=1000000):ak prog 64 [.agg [i6 a1,i6 a2,i6 a3,i6 a4,i6 a5,i6 a6,i6 a7,i6 com,i6 last,.sl 2 (os.map aK),.sl 4 (bs.map ag),.sl 2 (ps.map aW),i6 cap,.sl 3 (pg.map bt)],.agg [i6 f,i6 t,i6 z,.sl 1 (vp.map cN)]] (.sl 1 ((bh ⟨cap,pg⟩ vp).map bP)) []:=by
 refine dL [] [2,3,24,29,30] func64 (by kernel_rfl) ntmps64 rfl rfl ⟨rfl,rfl⟩ (by simp(disch:=omega)only[seval,go_sem,cI,List.replicate,l_2,l_1];rfl) ?_;((repeat'(first|simp only[seval,go_sem]|(with_reducible refine aV (st:=[]) ?_))));all_goals(refine ay.bx 2 (by simp only[seval,go_sem];rfl) (by simp only[seval,go_sem];first|done|rfl) (by simp only[seval,go_sem];rfl) ?_)
 all_goals(refine ay.bx 3 (by simp only[seval,go_sem];rfl) (by simp only[seval,go_sem];first|done|rfl) (by simp only[seval,go_sem];rfl) ?_)
 all_goals(refine ay.fT 5 30 1 (by first|(simp only[seval,go_sem])) (by first|(simp only[seval,go_sem])) (by simp only[seval,go_sem];rfl) ?_)
 all_goals(with_reducible refine ay.cX (fun (t:Nat×List (List Int))=>[(6,i6 t.1),(5,.cW 30 1 0 t.2.length)]++aN 7 24) (fun (t:Nat×List (List Int))=>[(30,.row 1 (t.2.map bP)),(24,.dead),(29,.dead)]) (fun (t:Nat×List (List Int))=>t.1<=vp.length/\t.2.length=t.1/\t.2++bh ⟨cap,pg⟩ (vp.drop t.1)=bh ⟨cap,pg⟩ vp) (fun (t:Nat×List (List Int))=>vp.length-t.1) ((0,[])) (⟨ek _,rfl,by simp⟩) (by intro _;simp(disch:=omega)only[seval,go_sem,cI];rfl) (by simp only[seval,go_sem]) (fun t hI=>?_))
 all_goals
  obtain ⟨k,a⟩:=t;obtain ⟨hk,tW,hf⟩:=hI;simp only at hk tW hf;have dM:(a.map bP).length=a.length:=dD _;by_cases hlt:k<vp.length
  ·obtain ⟨n,hn⟩:=aZ hlt;have hn':=get_map cN hn;have hdc:=Eg (c:=cap) (n:=n) (l:=pg) hl hd;rw[aH hn,bh,fk] at hf;generalize eG ⟨cap,pg⟩ n=DR at hdc hf
   ((repeat'(first|simp only[seval,go_sem,cN,hn',dM]|(with_reducible refine br ?_;refine dX mix (by kernel_rfl) ?_)|(with_reducible refine gQ ?_)|((with_reducible refine nA ?_);refine fO.c (hdc) ?_)|(with_reducible first|refine aV (st:=[]) ?_|refine dO (by simp(disch:=omega)only[seval,go_sem,cI,cN,hn',dM];rfl) ?_|refine ai (by simp(disch:=omega)only[seval,go_sem,cI,cN,hn',dM];rfl) ?_))))
   all_goals(try(refine aP ((k+1,a++[DR.1])) (by simp only[seval,go_sem,bP];first|((repeat'(with_reducible apply And.intro))<;>first|rfl|(simp[bP];done))) ?_ ?_<;>(try(omega))))
   all_goals(try exact ⟨by simp only;omega,by simp only[bW,List.length_cons,List.length_nil];omega,by simp only[lS,List.cons_append,List.nil_append];exact hf⟩)
  ·rw[j9 (by omega),show bh ⟨cap,pg⟩ []=[] from rfl,yP] at hf;rw[<- hf];have fm:(a.map bP).take a.length=a.map bP:=lz (by rw[dM];exact iU _)
   ((repeat'(first|simp only[seval,go_sem,dM,fm]|(with_reducible refine aB ?_;(refine aC.gu 30 (by simp only[seval,go_sem];rfl) (by simp only[seval,go_sem,dM,fm];rfl) ?_);(with_reducible refine aB ?_;refine aC.q rfl rfl (by simp only[seval,go_sem];rfl) (by decide) (by simp only[seval,go_sem];rfl) (by simp only[seval,go_sem];rfl) rfl ?_<;>(try simp only[seval,go_sem,dM,fm])<;>(repeat'(with_reducible apply And.intro))<;>(try rfl)))|(with_reducible first|refine aV (st:=[]) ?_|refine ai (by simp(disch:=omega)only[seval,go_sem,cI,dM,fm];rfl) ?_))))
theorem vA (n:Int) (l:List Ob):(cU n l 0 = -1)\/∃ (j:Nat) (o:Ob),l[j]? = some o/\j<l.length/\cU n l 0=(j:Int)/\dm l (cU n l 0)=o:=by
 rcases jA n l 0 with ⟨h,_⟩|⟨j,p,h1,h2,h3,_⟩
 ·exact .inl h
 ·rw[kO] at h3;exact .inr ⟨j,p,h1,(jL.1 h1).1,h3,by simp[dm,h3,h1]⟩
theorem m0 (c:Int):∀ (l:List fE) (i:Nat),(ga c l i=(0,false))\/∃ (k:Nat) (v:fE),l[k]? = some v/\ga c l i=(((i+k:Nat):Int),true)
 | [],_=> .inl rfl
 | v::l,i=>by
   rw[ga]
   split
   ·exact .inr ⟨0,v,rfl,rfl⟩
   ·rcases m0 c l (i+1) with h|⟨k,u,h1,h2⟩
    ·exact .inl h
    ·exact .inr ⟨k+1,u,by simpa using h1,by rw[h2,show i+1+k=i+(k+1) by omega]⟩
theorem gN (s:Sr) (n:ByteArray) (c:Int):(fR s n c=(0,zeroV,false)/\((b9 n c s.binds).2=false\/((b9 n c s.binds).2=true/\(cU (b9 n c s.binds).1 s.objs 0 = -1\/∃ (j:Nat) (o:Ob),s.objs[j]? = some o/\j<s.objs.length/\cU (b9 n c s.binds).1 s.objs 0=(j:Int)/\ga c o.bu 0=(0,false)))))\/
  ∃ (j k:Nat) (o:Ob) (v:fE),(b9 n c s.binds).2=true/\s.objs[j]? = some o/\j<s.objs.length/\cU (b9 n c s.binds).1 s.objs 0=(j:Int)/\o.bu[k]? = some v/\k<o.bu.length/\ga c o.bu 0=((k:Int),true)/\fR s n c=((j:Int),v,true):=by
 unfold fR;cases h1:(b9 n c s.binds).2 with
 | false=>exact .inl ⟨bC (.inl rfl), .inl rfl⟩
 | true=>
   rcases vA (b9 n c s.binds).1 s.objs with h2|⟨j,o,q1,q2,q3,q4⟩
   ·exact .inl ⟨bC (.inr (by rw[h2];omega)), .inr ⟨rfl, .inl h2⟩⟩
   ·rw[aE (by rw[q3];simp),q4];rcases m0 c o.bu 0 with h3|⟨k,v,h3,h4⟩
    ·exact .inl ⟨bC (by rw[h3]), .inr ⟨rfl, .inr ⟨j,o,q1,q2,q3,h3⟩⟩⟩
    ·rw[kO] at h4;refine .inr ⟨j,k,o,v,rfl,q1,q2,q3,h3,(jL.1 h3).1,h4,?_⟩;rw[aE (by rw[h4];simp),q3,h4];simp[yh,h3]
theorem oM {a1 a2 a3 a4 a5 a6 a7 com last cap:Int} {os:List Ob} {bs:List Bd} {ps:List Pn} {pg:List Pg} {n:ByteArray} {c:Int} (hb:bs.length<=100000) (ho:os.length<=100000) (hv:∀ o∈os,o.bu.length<=100000):ak prog 62 [.agg [i6 a1,i6 a2,i6 a3,i6 a4,i6 a5,i6 a6,i6 a7,i6 com,i6 last,.sl 2 (os.map aK),.sl 4 (bs.map ag),.sl 2 (ps.map aW),i6 cap,.sl 3 (pg.map bt)],.sc (.string n),i6 c] (.cT [i6 (fR ⟨⟨a1,a2,a3,a4,a5,a6,a7⟩,com,last,os,bs,ps,⟨cap,pg⟩⟩ n c).1,.agg (aL (fR ⟨⟨a1,a2,a3,a4,a5,a6,a7⟩,com,last,os,bs,ps,⟨cap,pg⟩⟩ n c).2.1),.sc (.bool (fR ⟨⟨a1,a2,a3,a4,a5,a6,a7⟩,com,last,os,bs,ps,⟨cap,pg⟩⟩ n c).2.2)]) []:=by
 have hlc:=vq (l:=bs) (n:=n) (c:=c) hb;have Eh:=yg (l:=os) (n:=(b9 n c bs).1) ho;rcases gN ⟨⟨a1,a2,a3,a4,a5,a6,a7⟩,com,last,os,bs,ps,⟨cap,pg⟩⟩ n c with ⟨e,h⟩|⟨j,k,o,v,h1,q1,q2,q3,q4,q5,q6,e⟩
 ·rw[e];simp only at h;simp only[aL,zeroV,eM];generalize b9 n c bs=L at *;obtain ⟨Li,Lb⟩:=L;simp only at h Eh hlc;rcases h with h|⟨h,h2|⟨j,o,q1,q2,q3,q4⟩⟩
  ·subst h;refine dL [] [3,7,19,25,41] func62 (by kernel_rfl) ntmps62 rfl rfl ⟨rfl,rfl⟩ (by simp(disch:=omega)only[seval,go_sem,cI,List.replicate,l_2,l_1];rfl) ?_
   ((repeat'(first|simp only[seval,go_sem]|((with_reducible refine bJ ?_);first|refine aq.c (hlc) ?_|refine aq.c (Eh) ?_)|(with_reducible refine aD (st:=[]) ?_)|(with_reducible refine aB ?_;refine fl (rs:=[.tmp 6,.cell 7 105,.tmp 8]) (by with_unfolding_all rfl) rfl ?_<;>simp only[seval,go_sem]<;>(repeat'(with_reducible apply And.intro))<;>(try rfl))|(with_reducible refine aV (st:=[]) ?_))))
  ·subst h;rw[h2] at Eh;refine dL [] [3,7,19,25,41] func62 (by kernel_rfl) ntmps62 rfl rfl ⟨rfl,rfl⟩ (by simp(disch:=omega)only[seval,go_sem,cI,List.replicate,l_2,l_1];rfl) ?_
   ((repeat'(first|simp only[seval,go_sem]|((with_reducible refine bJ ?_);first|refine aq.c (hlc) ?_|refine aq.c (Eh) ?_)|(with_reducible refine aD (st:=[]) ?_)|(with_reducible refine aB ?_;refine fl (rs:=[.tmp 6,.cell 7 105,.tmp 8]) (by with_unfolding_all rfl) rfl ?_<;>simp only[seval,go_sem]<;>(repeat'(with_reducible apply And.intro))<;>(try rfl))|(with_reducible first|refine aV (st:=[]) ?_|refine ai (by simp(disch:=omega)only[seval,go_sem,cI];rfl) ?_))))
  ·subst h;rw[q3] at Eh;have jd:=get_map aK q1;have US:=vk (vs:=o.bu) (c:=c) (hv o (fS q1));rw[q4] at US;refine dL [] [3,7,19,25,41] func62 (by kernel_rfl) ntmps62 rfl rfl ⟨rfl,rfl⟩ (by simp(disch:=omega)only[seval,go_sem,cI,List.replicate,l_2,l_1];rfl) ?_
   ((repeat'(first|simp only[seval,go_sem,jd,aK]|((with_reducible refine bJ ?_);first|refine aq.c (hlc) ?_|refine aq.c (Eh) ?_|refine aq.c (US) ?_)|(with_reducible refine aD (st:=[]) ?_)|(with_reducible refine aB ?_;refine fl (rs:=[.tmp 6,.cell 7 105,.tmp 8]) (by with_unfolding_all rfl) rfl ?_<;>simp only[seval,go_sem]<;>(repeat'(with_reducible apply And.intro))<;>(try rfl))|(with_reducible first|refine aV (st:=[]) ?_|refine ai (by simp(disch:=omega)only[seval,go_sem,cI,jd,aK];rfl) ?_))))
 ·rw[e];simp only at h1 q1 q2 q3;simp only[aL];generalize b9 n c bs=L at *;obtain ⟨Li,Lb⟩:=L;simp only at h1 Eh hlc q3;subst h1;rw[q3] at Eh;have jd:=get_map aK q1;have Si:=get_map aL q4;have US:=vk (vs:=o.bu) (c:=c) (hv o (fS q1));rw[q6] at US;refine dL [] [3,7,19,25,41] func62 (by kernel_rfl) ntmps62 rfl rfl ⟨rfl,rfl⟩ (by simp(disch:=omega)only[seval,go_sem,cI,List.replicate,l_2,l_1];rfl) ?_
  ((repeat'(first|(with_reducible refine aY 8 ?_;refine ay.bU 8 mix 13 rfl (.f 0 <| .f 1 <| .f 3 <| .f 7 <| .f 10 <| .a <| .b 2 (.f 4 <| .f 5 <| .a <| .b 6 (.f 8 <| .a <| .b 9 (.a <| .b 11 (.f 12 <| .d) .e) .e) .e) .e) (by kernel_rfl) ?_)|(with_reducible refine cA ?_;first|refine aJ.D ?_|refine aJ.F (by simp only[seval,go_sem,eg,dJ];rfl) (by first|(simp only[seval,go_sem,jd,Si,aK,aL])) (by first|(simp only[seval,go_sem,jd,Si,aK,aL];with_reducible rfl)|(simp(disch:=omega)only[seval,go_sem,cI,jd,Si,aK,aL];with_reducible rfl)) ?_|refine aJ.A ?_)|(with_reducible first|exact aI.E|refine aI.B (by simp only[seval,go_sem,eg,dJ];rfl) ?_ ?_)|simp only[seval,go_sem,jd,Si,aK,aL]|((with_reducible refine bJ ?_);first|refine aq.c (hlc) ?_|refine aq.c (Eh) ?_|refine aq.c (US) ?_)|((with_reducible refine au ?_);first|(with_reducible refine aD (st:=[]) ?_)|((with_reducible first|refine ah.step (by simp only[seval,go_sem,jd,Si,aK,aL];rfl) ?_);refine dI (st:=[]) ?_))|(with_reducible refine aB ?_;refine fl (rs:=[.tmp 6,.cell 7 105,.tmp 8]) (by with_unfolding_all rfl) rfl ?_<;>simp only[seval,go_sem]<;>(repeat'(with_reducible apply And.intro))<;>(try rfl))|(with_reducible first|refine aV (st:=[]) ?_|refine ai (by simp(disch:=omega)only[seval,go_sem,cI,jd,Si,aK,aL];rfl) ?_))))
theorem F9 {a1 a2 a3 a4 a5 a6 a7 com last cap:Int} {os:List Ob} {bs:List Bd} {ps:List Pn} {pg:List Pg} {c:Int} (hl:ps.length<=100000):ak prog 13 [.agg [i6 a1,i6 a2,i6 a3,i6 a4,i6 a5,i6 a6,i6 a7,i6 com,i6 last,.sl 2 (os.map aK),.sl 4 (bs.map ag),.sl 2 (ps.map aW),i6 cap,.sl 3 (pg.map bt)],i6 c] (.cT [.agg (eS (ja ⟨⟨a1,a2,a3,a4,a5,a6,a7⟩,com,last,os,bs,ps,⟨cap,pg⟩⟩ c).1),i6 (ja ⟨⟨a1,a2,a3,a4,a5,a6,a7⟩,com,last,os,bs,ps,⟨cap,pg⟩⟩ c).2]) []:=by
 have yU:=oK (a1:=a1) (a2:=a2) (a3:=a3) (a4:=a4) (a5:=a5) (a6:=a6) (a7:=a7) (com:=com) (last:=last) (cap:=cap) (os:=os) (bs:=bs) (ps:=ps) (pg:=pg) (c:=c) hl;have ZZ:=BP (l:=ps) hl;have hac:=I8 (l:=ps) (c:=c) hl;unfold ja;generalize eF ⟨⟨a1,a2,a3,a4,a5,a6,a7⟩,com,last,os,bs,ps,⟨cap,pg⟩⟩ c=E at *;by_cases h1:E≠0
 focus
  rw[bC h1];simp only[eS];have hZ:=ek 0
 rotate_left 1
 focus
  rw[aE h1];have pG:E=0:=by simpa using h1
  subst pG;simp only;by_cases h2:a5<=iJ ps 0
  focus
   rw[bC h2];simp only[eS];have hZ:=ek 0
  rotate_left 1
  focus
   rw[aE h2];simp only[eS];have hZ:=ek 0
  rotate_left 1
 rotate_left 2;all_goals(refine bR [] [2,4,9,16,26] [.cell 4 33, .tmp 5] func13 (by kernel_rfl) ntmps13 rfl rfl rfl ⟨rfl,rfl⟩ (by simp(disch:=omega)only[seval,go_sem,cI,List.replicate,l_2,l_1];rfl) ?_)
 all_goals((repeat'(first|simp only[seval,go_sem,hZ]|((with_reducible refine bJ ?_);first|refine aq.c (yU) ?_|refine aq.c (hac) ?_)|(with_reducible refine aD (st:=[]) ?_)|(with_reducible refine br ?_;refine dX mix (by kernel_rfl) ?_)|(with_reducible refine gQ ?_)|((with_reducible refine nA ?_);refine fO.c (ZZ) ?_)|(with_reducible first|refine aV (st:=[]) ?_|refine dO (by simp(disch:=omega)only[seval,go_sem,cI,hZ];rfl) ?_|refine ai (by simp(disch:=omega)only[seval,go_sem,cI,hZ];rfl) ?_))))
theorem B3 {a1 a2 a3 a4 a5 a6 a7 com last cap:Int} {os:List Ob} {bs:List Bd} {ps:List Pn} {pg:List Pg} {c:Int} (hl:ps.length<=100000):ak prog 52 [.agg [i6 a1,i6 a2,i6 a3,i6 a4,i6 a5,i6 a6,i6 a7,i6 com,i6 last,.sl 2 (os.map aK),.sl 4 (bs.map ag),.sl 2 (ps.map aW),i6 cap,.sl 3 (pg.map bt)],i6 c] (.cT [.agg (eS (gW ⟨⟨a1,a2,a3,a4,a5,a6,a7⟩,com,last,os,bs,ps,⟨cap,pg⟩⟩ c).1),i6 (gW ⟨⟨a1,a2,a3,a4,a5,a6,a7⟩,com,last,os,bs,ps,⟨cap,pg⟩⟩ c).2]) []:=by
 have hpc:=ru (a1:=a1) (a2:=a2) (a3:=a3) (a4:=a4) (a5:=a5) (a6:=a6) (a7:=a7) (com:=com) (last:=last) (cap:=cap) (os:=os) (bs:=bs) (ps:=ps) (pg:=pg) (c:=c) hl;have hrc:=I9 (l:=ps) (c:=c) hl;unfold gW;simp only;cases h1:fz ps c
 focus
  rw[bC rfl];rw[h1] at hpc;simp only[eS];have hZ:=ek 0
 rotate_left 1
 focus
  rw[aE (by decide)];rw[h1] at hpc;simp only[eS];have hZ:=ek 0
 rotate_left 1;all_goals(refine bR [] [2,4,8,15] [.cell 4 33, .tmp 5] func52 (by kernel_rfl) ntmps52 rfl rfl rfl ⟨rfl,rfl⟩ (by simp(disch:=omega)only[seval,go_sem,cI,List.replicate,l_2,l_1];rfl) ?_)
 all_goals((repeat'(first|simp only[seval,go_sem,hZ]|((with_reducible refine bJ ?_);first|refine aq.c (hpc) ?_|refine aq.c (hrc) ?_)|(with_reducible refine aD (st:=[]) ?_)|(with_reducible refine aV (st:=[]) ?_))))
theorem Ga {a1 a2 a3 a4 a5 a6 a7 com last cap:Int} {os:List Ob} {bs:List Bd} {ps:List Pn} {pg:List Pg} {n m:ByteArray} (hl:bs.length<=100000) (h0:0<=com) (h9:com<=1000000000):ak prog 50 [.agg [i6 a1,i6 a2,i6 a3,i6 a4,i6 a5,i6 a6,i6 a7,i6 com,i6 last,.sl 2 (os.map aK),.sl 4 (bs.map ag),.sl 2 (ps.map aW),i6 cap,.sl 3 (pg.map bt)],.sc (.string n),.sc (.string m)] (.cT [.agg (eS (bY ⟨⟨a1,a2,a3,a4,a5,a6,a7⟩,com,last,os,bs,ps,⟨cap,pg⟩⟩ n m).1),i6 (bY ⟨⟨a1,a2,a3,a4,a5,a6,a7⟩,com,last,os,bs,ps,⟨cap,pg⟩⟩ n m).2.1,i6 (bY ⟨⟨a1,a2,a3,a4,a5,a6,a7⟩,com,last,os,bs,ps,⟨cap,pg⟩⟩ n m).2.2]) []:=by
 have hnc:=cD (s:=m);have KX:=oL (a1:=a1) (a2:=a2) (a3:=a3) (a4:=a4) (a5:=a5) (a6:=a6) (a7:=a7) (com:=com) (last:=last) (cap:=cap) (os:=os) (bs:=bs) (ps:=ps) (pg:=pg) (n:=n) hl;have MO:=oL (a1:=a1) (a2:=a2) (a3:=a3) (a4:=a4) (a5:=a5) (a6:=a6) (a7:=a7) (com:=com) (last:=last) (cap:=cap) (os:=os) (bs:=bs) (ps:=ps) (pg:=pg) (n:=m) hl;have hrc:=xY (l:=bs) (n:=n) (m:=m) (c:=com+1) hl;unfold bY fK;simp only;cases c1:bM m
 focus
  rw[bC rfl];rw[c1] at hnc;simp only[eS];have hZ:=ek 0
 rotate_left 1
 focus
  rw[aE (by decide)];rw[c1] at hnc;cases c2:(b9 n com bs).2
  focus
   rw[bC rfl];rw[c2] at KX;simp only[eS];have hZ:=ek 0
  rotate_left 1
  focus
   rw[aE (by decide)];rw[c2] at KX;cases c3:(b9 m com bs).2
   focus
    rw[aE (by decide)];rw[c3] at MO;by_cases c4:a6<=com
    focus
     rw[bC c4];simp only[eS];have hZ:=ek 0
    rotate_left 1
    focus
     rw[aE c4];simp only[eS];have hZ:=ek 0
    rotate_left 1
   rotate_left 2
   focus
    rw[bC rfl];rw[c3] at MO;simp only[eS];have hZ:=ek 0
   rotate_left 1
  rotate_left 3
 rotate_left 4;all_goals(refine bR [] [3,6,11,17,23,44] [.cell 6 33, .tmp 7, .tmp 8] func50 (by kernel_rfl) ntmps50 rfl rfl rfl ⟨rfl,rfl⟩ (by simp(disch:=omega)only[seval,go_sem,cI,List.replicate,l_2,l_1];rfl) ?_)
 all_goals((repeat'(first|(with_reducible refine aY 11 ?_;refine ay.bU 11 mix 6 rfl (.f 1 <| .a <| .b 0 (.a <| .b 2 (.a <| .b 3 (.f 4 <| .f 5 <| .d) .e) <| .b 3 (.a <| .b 2 (.f 4 <| .f 5 <| .d) .e) .e) <| .b 2 (.a <| .b 0 (.a <| .b 3 (.f 4 <| .f 5 <| .d) .e) .e) .e) (by kernel_rfl) ?_)|(with_reducible refine cA ?_;first|refine aJ.D ?_|refine aJ.F (by simp only[seval,go_sem,eg,dJ];rfl) (by first|(simp only[seval,go_sem,hZ])) (by first|(simp only[seval,go_sem,hZ];with_reducible rfl)) ?_|refine aJ.A ?_)|(with_reducible first|exact aI.E|refine aI.B (by simp only[seval,go_sem,eg,dJ];rfl) ?_ ?_)|simp only[seval,go_sem,hZ]|((with_reducible refine bJ ?_);first|refine aq.c (hnc) ?_|refine aq.c (KX) ?_|refine aq.c (MO) ?_|refine aq.c (hrc) ?_)|((with_reducible refine au ?_);first|(with_reducible refine aD (st:=[]) ?_)|((with_reducible first|refine ah.step (by simp only[seval,go_sem,hZ];rfl) ?_);refine dI (st:=[]) ?_))|(with_reducible first|refine aV (st:=[]) ?_|refine ai (by simp(disch:=omega)only[seval,go_sem,cI,hZ];rfl) ?_))))
theorem Ei (n:ByteArray):∀ l:List ByteArray,(tw n l).length<=l.length+1
 | []=>iU _
 | y::l=>by
   have:=Ei n l;unfold tw
   split
   ·simp only[List.length_cons];omega
   ·split<;>simp only[List.length_cons]<;>omega
theorem vB {l:List Bd} {c:Int} (hl:l.length<=100000):ak prog 29 [.sl 4 (l.map ag),i6 c] (.sl 1 ((i7 c l []).map eE)) []:=by
 refine dP [] [25,64,70,71,75] func29 rfl call29 rfl (by decide) (by decide) rfl rfl ntmps29 (by simp(disch:=omega)only[seval,go_sem,cI,List.replicate,l_2,l_1];rfl) (by simp(disch:=omega)only[seval,go_sem,cI,l_2,l_1];rfl) ?_;((repeat'(first|(with_reducible first|refine ay.seq ?_|refine ay.block ?_|refine ah.nil ?_|refine bG ?_|refine ay.bE (by simp only[fk,eM];rfl) ?_)|((with_reducible refine au ?_);(with_reducible refine ah.step (by simp only[seval,go_sem];rfl) ?_)))))
 (with_reducible refine ay.PR (fun (t:Nat×List ByteArray)=>[(6,i6 t.1),(5,.sl 1 (t.2.map eE)),(7,.any),(8,.any),(9,.any),(10,.any),(11,.any),(12,.any),(13,.any),(14,.any),(15,.any),(16,.any),(17,.any),(18,.any),(19,.any),(20,.any),(21,.any),(22,.any),(23,.any),(24,.any),(25,.any),(26,.any),(27,.any),(28,.any),(29,.any),(30,.any),(31,.any),(32,.any),(33,.any),(34,.any),(35,.any),(36,.any),(37,.any),(38,.any),(39,.any),(40,.any),(41,.any),(42,.any),(43,.any),(44,.any),(45,.any),(46,.any),(47,.any),(48,.any),(49,.any),(50,.any),(51,.any),(52,.any),(53,.any),(54,.any),(55,.any),(56,.any),(57,.any),(58,.any),(59,.any),(60,.any),(61,.any),(62,.any),(63,.any),(64,.any),(65,.any),(66,.any),(67,.any),(68,.any),(69,.any),(70,.any),(71,.any),(72,.any),(73,.any),(74,.any),(75,.any)]) (fun (t:Nat×List ByteArray)=>[(25,.dead),(64,.dead),(70,.dead),(71,.dead),(75,.dead)]) (fun (t:Nat×List ByteArray)=>t.1<=l.length/\t.2.length<=t.1/\i7 c (l.drop t.1) t.2=i7 c l []) (fun (t:Nat×List ByteArray)=>l.length-t.1) ((0,[])) (⟨ek _,by simp,rfl⟩) (by intro _;simp(disch:=omega)only[seval,go_sem,cI];rfl) (by intro _;simp(disch:=omega)only[seval,go_sem,cI];rfl) (by (refine bL ?_);(try simp only[seval,go_sem])) (by (refine bX ?_);(try simp only[seval,go_sem])) (fun t hI=>?_))
 obtain ⟨i,ns⟩:=t;obtain ⟨hk,hnl,hf⟩:=hI;simp only at hk hnl hf;by_cases hlt:i<l.length
 ·obtain ⟨b,hb⟩:=aZ hlt;have hb':=get_map ag hb;rw[aH hb,i7] at hf;cases hh:eW b.eo b.to c with
  | false=>
    rw[aE (by simp[hh])] at hf
    ((repeat'(first|(with_reducible first|refine ay.seq ?_|refine ay.block ?_|refine ay.skip ?_|refine ay.exit ?_|refine ah.nil ?_|refine bz.nil ?_|refine bG ?_|refine iN ?_|refine eR ?_|refine gn ?_|refine ay.bE (by simp only[fk,eM];rfl) ?_)|((with_reducible refine au ?_);(with_reducible first|refine ah.step (by simp only[seval,go_sem,ag,hb',hh];rfl) ?_|refine ah.step (by simp(disch:=omega)only[seval,go_sem,cI,ag,hb',hh];rfl) ?_))|((with_reducible refine gE ?_);first|(with_reducible refine bz.step (by simp only[seval,go_sem,ag,hb',hh];rfl) ?_)|((with_reducible refine lJ ?_);((with_reducible (refine bz.dE (by simp only[seval,go_sem,ag,hb',hh];rfl) (by simp only[seval,go_sem,ag,hb',hh];rfl) ?_));refine iO.c (iC) (by simp only[seval,go_sem,ag,hb',hh];rfl) ?_))|(with_reducible refine bz.step (by simp(disch:=omega)only[seval,go_sem,cI,ag,hb',hh];rfl) ?_))|(with_reducible refine cg ?_;with_reducible refine ay.cond (by simp only[seval,go_sem,ag,hb',hh];rfl) (cL ?_) (cL ?_))|(with_reducible refine cB ?_;intro hc;(try simp only[fH,reduceCtorEq] at hc);(try(exfalso;omega)))|(with_reducible refine br ?_;refine ay.iL mix (by kernel_rfl) (by simp only[fk,eM];rfl) ?_))))
    all_goals(try((refine wA ((i+1,ns)) (cZ.PF (by (refine bL ?_);(try simp only[seval,go_sem]);first|((repeat'(with_reducible apply And.intro))<;>first|rfl)) (by (refine bX ?_);(try simp only[seval,go_sem]))) ?_ ?_)<;>(try(omega))))
    all_goals(try(exact ⟨by simp only;omega,by simp only;omega,hf⟩))
  | true=>
    rw[bC hh] at hf
    ((repeat'(first|(with_reducible first|refine ay.seq ?_|refine ay.block ?_|refine ay.skip ?_|refine ah.nil ?_|refine bz.nil ?_|refine bG ?_|refine ay.bE (by simp only[fk,eM];rfl) ?_)|((with_reducible refine au ?_);(with_reducible first|refine ah.step (by simp only[seval,go_sem,ag,hb',hh];rfl) ?_|refine ah.step (by simp(disch:=omega)only[seval,go_sem,cI,ag,hb',hh];rfl) ?_))|((with_reducible refine gE ?_);first|(with_reducible refine bz.step (by simp only[seval,go_sem,ag,hb',hh];rfl) ?_)|((with_reducible refine lJ ?_);((with_reducible (refine bz.dE (by simp only[seval,go_sem,ag,hb',hh];rfl) (by simp only[seval,go_sem,ag,hb',hh];rfl) ?_));refine iO.c (iC) (by simp only[seval,go_sem,ag,hb',hh];rfl) ?_))|(with_reducible refine bz.step (by simp(disch:=omega)only[seval,go_sem,cI,ag,hb',hh];rfl) ?_))|(with_reducible refine cg ?_;with_reducible refine ay.cond (by simp only[seval,go_sem,ag,hb',hh];rfl) (cL ?_) (cL ?_))|(with_reducible refine cB ?_;intro hc;(try simp only[fH,reduceCtorEq] at hc);(try(exfalso;omega)))|(with_reducible refine br ?_;refine ay.iL mix (by kernel_rfl) (by simp only[fk,eM];rfl) ?_))))
    (with_reducible refine ay.sS (fun (j:Nat)=>[(7,i6 j),(27,.any),(28,.any),(29,.any),(30,.any),(31,.any),(32,.any),(33,.any),(34,.any),(35,.any),(36,.any),(37,.any),(38,.any),(39,.any),(40,.any),(41,.any),(42,.any),(43,.any),(44,.any)]) (fun (j:Nat)=>[]) (fun (j:Nat)=>j<=ns.length/\tw b.name ns=ns.take j++tw b.name (ns.drop j)) (fun (j:Nat)=>ns.length-j) (0) (⟨ek _,rfl⟩) (by intro _;simp(disch:=omega)only[seval,go_sem,cI];rfl) (by intro _;simp(disch:=omega)only[seval,go_sem,cI];rfl) (by (refine bL ?_);(try simp only[seval,go_sem])) (by (refine bX ?_);(try simp only[seval,go_sem])) (fun j hI=>?_))
    obtain ⟨hj,hg⟩:=hI;have htl:((ns.map eE).take j).length=j:=by rw[cw,dD];omega
    have hdl:((ns.map eE).drop j).length=ns.length-j:=by rw[bQ,dD]
    have XL:(((ns.map eE).take j)++[[D.sc (.string b.name)]]).length=j+1:=by rw[bW,htl];rfl
    have hE:(((ns.map eE).take j)++[[D.sc (.string b.name)]]++(ns.map eE).drop j)=(ns.take j++b.name::ns.drop j).map eE:=by simp[eE]
    have OI:((ns.take j++b.name::ns.drop j).map eE).length=ns.length+1:=by rw[<- hE,bW,XL,hdl];omega
    have fm:((ns.take j++b.name::ns.drop j).map eE).take (ns.length+1)=(ns.take j++b.name::ns.drop j).map eE:=lz (by rw[OI];exact iU _);by_cases hjl:j<ns.length
    ·obtain ⟨y,hy⟩:=aZ hjl;have hy':=get_map eE hy;rw[aH hy,tw,rj,lq] at hg;cases c1:Op.bytesLess y.toList b.name.toList with
     | true=>
       rw[c1,bC rfl] at hg
       ((repeat'(first|(with_reducible first|refine ay.seq ?_|refine ay.block ?_|refine ay.skip ?_|refine ah.nil ?_|refine bz.nil ?_|refine bG ?_|refine dh ?_|refine gn ?_|refine ay.bE (by simp only[fk,eM];rfl) ?_)|((with_reducible refine au ?_);(with_reducible first|refine ah.step (by simp only[seval,go_sem,ag,eE,c1,hb',hy'];rfl) ?_|refine ah.step (by simp(disch:=omega)only[seval,go_sem,cI,ag,eE,c1,hb',hy'];rfl) ?_))|((with_reducible refine gE ?_);(with_reducible first|refine bz.step (by simp only[seval,go_sem,ag,eE,c1,hb',hy'];rfl) ?_|refine bz.step (by simp(disch:=omega)only[seval,go_sem,cI,ag,eE,c1,hb',hy'];rfl) ?_))|(with_reducible refine cg ?_;with_reducible refine ay.cond (by simp only[seval,go_sem,ag,eE,c1,hb',hy'];rfl) (cL ?_) (cL ?_))|(with_reducible refine cB ?_;intro hc;(try simp only[fH,reduceCtorEq] at hc);(try(exfalso;omega)))|(with_reducible refine br ?_;refine ay.iL mix (by kernel_rfl) (by simp only[fk,eM];rfl) ?_))))
       all_goals(try(refine kF (j+1) (by (refine bL ?_);(try simp only[seval,go_sem]);first|((repeat'(with_reducible apply And.intro))<;>first|rfl)) (by (refine bX ?_);(try simp only[seval,go_sem])) ?_ ?_<;>(try(omega))))
       all_goals(try(exact ⟨by omega,by rw[hg,H7,hy];simp⟩))
     | false=>
       rw[c1,aE (by decide)] at hg;cases c2:(y.toList==b.name.toList) with
       | true=>
         rw[c2,bC rfl, <- aH hy,JX] at hg;rw[hg] at hf
         ((repeat'(first|(with_reducible first|refine ay.seq ?_|refine ay.exit ?_|refine ah.nil ?_|refine bz.nil ?_|refine bG ?_|refine iN ?_|refine eR ?_|refine gn ?_|refine jU ?_|refine ay.bE (by simp only[fk,eM];rfl) ?_)|((with_reducible refine au ?_);(with_reducible first|refine ah.step (by simp only[seval,go_sem,ag,eE,c1,c2,hb',hy'];rfl) ?_|refine ah.step (by simp(disch:=omega)only[seval,go_sem,cI,ag,eE,c1,c2,hb',hy'];rfl) ?_))|((with_reducible refine gE ?_);(with_reducible first|refine bz.step (by simp only[seval,go_sem,ag,eE,c1,c2,hb',hy'];rfl) ?_|refine bz.step (by simp(disch:=omega)only[seval,go_sem,cI,ag,eE,c1,c2,hb',hy'];rfl) ?_))|(with_reducible refine cg ?_;with_reducible refine ay.cond (by simp only[seval,go_sem,ag,eE,c1,c2,hb',hy'];rfl) (cL ?_) (cL ?_))|(with_reducible refine cB ?_;intro hc;(try simp only[fH,reduceCtorEq] at hc);(try(exfalso;omega)))|(with_reducible refine br ?_;refine ay.iL mix (by kernel_rfl) (by simp only[fk,eM];rfl) ?_))))
         all_goals(try((refine wA ((i+1,ns)) (cZ.PF (by (refine bL ?_);(try simp only[seval,go_sem]);first|((repeat'(with_reducible apply And.intro))<;>first|rfl)) (by (refine bX ?_);(try simp only[seval,go_sem]))) ?_ ?_)<;>(try(omega))))
         all_goals(try(exact ⟨by simp only;omega,by simp only;omega,hf⟩))
       | false=>
         rw[c2,aE (by decide), <- aH hy] at hg;rw[hg] at hf
         (all_goals(try have hZ:=(And.intro hb' (And.intro hy' (And.intro htl (And.intro hdl (And.intro XL (And.intro hE OI)))))));(repeat'(first|(with_reducible first|refine ay.seq ?_|refine ay.skip ?_|refine ay.exit ?_|refine ah.Q0 ?_|refine ah.nil ?_|refine bz.nil ?_|refine bG ?_|refine iN ?_|refine dh ?_|refine eR ?_|refine gn ?_|refine jU ?_|refine ay.bE (by simp only[fk,eM];rfl) ?_)|((with_reducible refine au ?_);(with_reducible first|refine ah.step (by simp only[seval,go_sem,ag,eE,c1,c2,hZ];rfl) ?_|refine ah.step (by simp(disch:=omega)only[seval,go_sem,cI,ag,eE,c1,c2,hZ];rfl) ?_))|((with_reducible refine gE ?_);(with_reducible first|refine bz.step (by simp only[seval,go_sem,ag,eE,c1,c2,hZ];rfl) ?_|refine bz.step (by simp(disch:=omega)only[seval,go_sem,cI,ag,eE,c1,c2,hZ];rfl) ?_))|(with_reducible refine cg ?_;with_reducible refine ay.cond (by simp only[seval,go_sem,ag,eE,c1,c2,hZ];rfl) (cL ?_) (cL ?_))|(with_reducible refine cB ?_;intro hc;(try simp only[fH,reduceCtorEq] at hc);(try(exfalso;omega)))|(with_reducible refine aY 10 ?_;refine ay.bU 10 mix 16 rfl (.f 0 <| .f 1 <| .f 2 <| .f 4 <| .f 5 <| .f 6 <| .f 7 <| .f 11 <| .f 12 <| .f 13 <| .r 8 <| .a <| .b 3 (.a <| .b 9 (.a <| .b 10 (.a <| .b 14 (.f 15 <| .d) .e) .e) .e) <| .b 9 (.a <| .b 3 (.a <| .b 10 (.a <| .b 14 (.f 15 <| .d) .e) .e) .e) .e) (by kernel_rfl) ?_)|(with_reducible refine cA ?_;first|refine aJ.D ?_|refine aJ.F (by simp only[seval,go_sem,eg,dJ];rfl) (by first|(simp only[seval,go_sem,ag,eE,c1,c2,hZ])) (by first|(simp only[seval,go_sem,ag,eE,c1,c2,hZ];with_reducible rfl)|(simp(disch:=omega)only[seval,go_sem,cI,ag,eE,c1,c2,hZ];with_reducible rfl)) ?_|refine aJ.R (by simp only[seval,go_sem,eg,dJ];rfl) (by first|(refine .inl ?_;simp only[seval,go_sem,ag,eE,c1,c2,hZ];done)) (by first|(simp only[seval,go_sem,ag,eE,c1,c2,hZ];with_reducible rfl)) ?_|refine aJ.A ?_)|(first|exact aI.E|refine aI.B (by simp only[seval,go_sem,eg,dJ];rfl) ?_ ?_)|(with_reducible refine br ?_;refine ay.iL mix (by kernel_rfl) (by simp only[fk,eM];rfl) ?_)));all_goals(try clear hZ))
         all_goals(try((refine wA ((i+1,ns.take j++b.name::ns.drop j)) (cZ.PS 75 (by simp only[seval,go_sem];rfl) (by simp only[seval,go_sem,OI,fm];rfl) (cZ.PF (by (refine bL ?_);(try simp only[seval,go_sem,OI,fm]);first|((repeat'(with_reducible apply And.intro))<;>first|rfl)) (by (refine bX ?_);(try simp only[seval,go_sem,OI,fm])))) ?_ ?_)<;>(try(omega))))
         all_goals(try(exact ⟨by simp only;omega,by simp only[bW,cw,List.length_cons,bQ];omega,hf⟩))
    ·have hd:ns.drop j=[]:=j9 (by omega);have ht:ns.take j=ns:=lz (by omega);rw[hd,ht,tw] at hg;rw[hg] at hf;have e:j=ns.length:=by omega
     (all_goals(try have hZ:=(And.intro hb' (And.intro htl (And.intro hdl (And.intro XL (And.intro hE OI))))));(repeat'(first|(with_reducible first|refine ay.seq ?_|refine ay.skip ?_|refine ay.exit ?_|refine ah.Q0 ?_|refine ah.nil ?_|refine bz.nil ?_|refine bG ?_|refine iN ?_|refine dh ?_|refine eR ?_|refine gn ?_|refine jU ?_|refine ay.bE (by simp only[fk,eM];rfl) ?_)|((with_reducible refine au ?_);(with_reducible first|refine ah.step (by simp only[seval,go_sem,ag,hZ];rfl) ?_|refine ah.step (by simp(disch:=omega)only[seval,go_sem,cI,ag,hZ];rfl) ?_))|((with_reducible refine gE ?_);(with_reducible first|refine bz.step (by simp only[seval,go_sem,ag,hZ];rfl) ?_|refine bz.step (by simp(disch:=omega)only[seval,go_sem,cI,ag,hZ];rfl) ?_))|(with_reducible refine cg ?_;with_reducible refine ay.cond (by simp only[seval,go_sem,ag,hZ];rfl) (cL ?_) (cL ?_))|(with_reducible refine cB ?_;intro hc;(try simp only[fH,reduceCtorEq] at hc);(try(exfalso;omega)))|(with_reducible refine aY 10 ?_;refine ay.bU 10 mix 16 rfl (.f 0 <| .f 1 <| .f 2 <| .f 4 <| .f 5 <| .f 6 <| .f 7 <| .f 11 <| .f 12 <| .f 13 <| .r 8 <| .a <| .b 3 (.a <| .b 9 (.a <| .b 10 (.a <| .b 14 (.f 15 <| .d) .e) .e) .e) <| .b 9 (.a <| .b 3 (.a <| .b 10 (.a <| .b 14 (.f 15 <| .d) .e) .e) .e) .e) (by kernel_rfl) ?_)|(with_reducible refine cA ?_;first|refine aJ.D ?_|refine aJ.F (by simp only[seval,go_sem,eg,dJ];rfl) (by first|(simp only[seval,go_sem,ag,hZ])) (by first|(simp only[seval,go_sem,ag,hZ];with_reducible rfl)|(simp(disch:=omega)only[seval,go_sem,cI,ag,hZ];with_reducible rfl)) ?_|refine aJ.R (by simp only[seval,go_sem,eg,dJ];rfl) (by first|(refine .inl ?_;simp only[seval,go_sem,ag,hZ];done)) (by first|(simp only[seval,go_sem,ag,hZ];with_reducible rfl)) ?_|refine aJ.A ?_)|(first|exact aI.E|refine aI.B (by simp only[seval,go_sem,eg,dJ];rfl) ?_ ?_)|(with_reducible refine br ?_;refine ay.iL mix (by kernel_rfl) (by simp only[fk,eM];rfl) ?_)));all_goals(try clear hZ))
     all_goals(try((refine wA ((i+1,ns.take j++b.name::ns.drop j)) (cZ.PS 75 (by simp only[seval,go_sem];rfl) (by simp only[seval,go_sem,OI,fm];rfl) (cZ.PF (by (refine bL ?_);(try simp only[seval,go_sem,OI,fm]);first|((repeat'(with_reducible apply And.intro))<;>first|rfl)) (by (refine bX ?_);(try simp only[seval,go_sem,OI,fm])))) ?_ ?_)<;>(try(omega))))
     all_goals(try(exact ⟨by simp only;omega,by simp only[bW,cw,List.length_cons,bQ];omega,by rw[hd,ht];exact hf⟩))
 ·rw[j9 (by omega),i7] at hf;rw[<- hf]
  ((repeat'(first|(with_reducible first|refine ay.seq ?_|refine ay.exit ?_|refine ay.ret ?_|refine ah.nil ?_|refine bG ?_|refine iN ?_|refine eR ?_|refine jU ?_|refine ay.bE (by simp only[fk,eM];rfl) ?_)|((with_reducible refine au ?_);(with_reducible first|refine ah.step (by simp only[seval,go_sem];rfl) ?_|refine ah.step (by simp(disch:=omega)only[seval,go_sem,cI];rfl) ?_))|(with_reducible refine cg ?_;with_reducible refine ay.cond (by simp only[seval,go_sem];rfl) (cL ?_) (cL ?_))|(with_reducible refine cB ?_;intro hc;(try simp only[fH,reduceCtorEq] at hc);(try(exfalso;omega)))|(with_reducible refine aB ?_;refine aC.q rfl rfl (by simp only[seval,go_sem];rfl) (by decide) (by simp only[seval,go_sem];rfl) (by simp only[seval,go_sem];rfl) rfl ?_<;>(try simp only[seval,go_sem])<;>(repeat'(with_reducible apply And.intro))<;>(try rfl)))))
end Go.Proofs.YteemiclhnfkekaaGreat
