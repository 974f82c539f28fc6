/- Collector: what removing garbage from the reference's store leaves (plain). -/
import Derived.Test.YteemiclhnfkekaaGreatZSrFp
import Derived.Shelf.Sort.Plain
import Derived.Shelf.Slices.CompactS
import Derived.Shelf.Slices.In.SortNone
import Derived.Sort.Walk0
set_option linter.unusedSimpArgs false
set_option linter.unusedVariables false
namespace Go.Proofs.YteemiclhnfkekaaGreat
open Go.RowKit Go.fe
def gT (s:Sr):List Vn:=s.objs.flatMap jk
def Se (x y:Vn):Prop:=x.id<y.id\/(x.id=y.id/\x.v.from_<y.v.from_)
theorem DE {s:Sr} (h:wC s):(gT s).Pairwise Se:=by
 unfold gT;refine List.pairwise_flatMap.2 ⟨fun o ho=>?_,?_⟩
 ·unfold jk;refine List.pairwise_map.2 ?_;have hok:=h.ok o ho;refine hok.pM.imp_of_mem fun {a b} ha hb hab=>?_;have:=hok.range a ha;exact .inr ⟨rfl,by simp only;have:=this.2.2.2 hab.1;omega⟩
 ·have:=List.pairwise_map.1 h.ids;refine this.imp fun {a b} hab x hx y hy=>?_;obtain ⟨v,_,rfl⟩:=qu.1 hx;obtain ⟨w,_,rfl⟩:=qu.1 hy;exact .inl hab
theorem LQ {p:Nat->Bool} {n:Nat} (h:∀ k<n,p k=false):gx p n=n:=by
 cases n with
 | zero=>rfl
 | succ n=>rw[gx,aE (by rw[h n (by omega)];decide)]
theorem LR {x:Vn} {a:List Vn} (h:∀ y∈a,Se y x):E3 x a=a++[x]:=by
 unfold E3;rw[LQ fun k hk=>?_,tX];simp only[uX,rJ hk,Option.getD_some];have:=h a[k] (H9 _);rw[Oy];unfold Se at this;omega
theorem DF:∀ (l a:List Vn),(a++l).Pairwise Se->mW a l=a++l
 | [],a,_=>by simp[mW]
 | x::l,a,h=>by
   have h2:=(JF.1 h).2.2;rw[mW,LR fun y hy=>h2 y hy x (by simp)];have e:a++x::l=a++[x]++l:=by simp
   rw[e] at h ⊢;exact DF l _ h
theorem xJ {s:Sr} (h:wC s):iV s.objs []=gT s:=by
 rw[qj];exact DF _ [] (by rw[List.nil_append];exact DE h)
theorem FQ {l:List Vn} (h:l.Pairwise Se):l.Nodup:=h.imp fun {a b} hab e=>by subst e;unfold Se at hab;omega
theorem Ht {c:Int}:∀ {l:List fE} {k m:Nat} {v:fE},l[k]? = some v->v.from_=c->(∀ i u,i<k->l[i]? = some u->u.from_≠c)->lu c l m=((m+k:Nat):Int)
 | [],_,_,_,h,_,_=>by simp at h
 | w::l,0,m,v,h,hc,_=>by
   simp only[dJ,fF] at h;subst h;rw[lu,bC hc];rfl
 | w::l,k+1,m,v,h,hc,hn=>by
   rw[lu,aE (hn 0 w (by omega) rfl),Ht (k:=k) (v:=v) (by simpa using h) hc fun i u hi hu=>hn (i+1) u (by omega) (by simpa using hu)];omega
theorem Ry {l:List fE} (h:ER l) {i k:Nat} {u v:fE} (hu:l[i]? = some u) (hv:l[k]? = some v) (hik:i<k):u.from_<v.from_:=by
 obtain ⟨hi,rfl⟩:=jL.1 hu;obtain ⟨hk,rfl⟩:=jL.1 hv;have h1:=JW.1 h.pM i k hi hk hik;have h2:=(h.range l[i] (H9 _)).2.2.2 h1.1;omega
theorem DG {l:List Ob} (h:vL (l.map (·.id))) {j:Nat} {o:Ob} (ho:l[j]? = some o):cU o.id l 0=(j:Int):=by
 rcases jA o.id l 0 with ⟨_,h2⟩|⟨i,p,h1,h2,h3,_⟩
 ·exact absurd rfl (h2 o (fS ho))
 ·rw[h3,M6 h h1 ho h2];simp
theorem Hu:∀ (ps:List Int) (a:Ar),(pN a ps).pages.length<=a.pages.length
 | [],_=>iU _
 | n::ps,a=>by
   have h1:=Hu ps (b8 a n).1
   have h2:(b8 a n).1.pages.length<=a.pages.length:=by
    unfold b8
    split
    ·exact iU _
    ·split
     ·simp[gl]
     ·simp only[ic,bW,cw,bQ];omega
   rw[pN];omega
theorem FR {a:Ar} {n:Int} (ha:tu a.pages):tu (b8 a n).1.pages:=by
 unfold b8
 split
 ·exact ha
 ·split
  ·intro p hp;rcases RQ hp with h|rfl
   ·exact ha p h
   ·exact DH ha
  ·intro p hp;rcases lU.1 hp with h|h
   ·exact ha p (zR h)
   ·exact ha p (E7 h)
theorem Hv:∀ (ps:List Int) {a:Ar},tu a.pages->tu (pN a ps).pages
 | [],_,h=>h
 | n::ps,_,h=>Hv ps (FR h)
theorem FT {i:Nat} {s:Sr} {x:Vn} (h:wC s) (hb:wD i s) (j8:(gp s.objs).length<=10309) (hx:x∈gT s) (hg:ql s.pins x.v=true):∃ s',dA s x.id x.v.from_=(s',0)/\wC s'/\wD i s'/\s'.pins=s.pins/\∀ L R,gT s=L++x::R->gT s'=L++R:=by
 obtain ⟨o,ho,UN⟩:=MF.1 hx;obtain ⟨v,hv,rfl⟩:=qu.1 UN;obtain ⟨j,hj⟩:=JE.1 ho;obtain ⟨k,hk⟩:=JE.1 hv;have hok:=h.ok o ho;have Cm:cU o.id s.objs 0=(j:Int):=DG h.ids hj;have zZ:dm s.objs (j:Int)=o:=by simp[dm,hj]
 have yW:lu v.from_ o.bu 0=(k:Int):=by
  have:=Ht (m:=0) hk rfl fun i u hi hu=>by have:=Ry hok hu hk hi;omega
  simpa using this
 have hrm:aS o.bu v.from_=(o.bu.take k++o.bu.drop (k+1),v,0):=by
  unfold aS;rw[aE (by omega),yW];simp[hk]
 have hto:v.to≠0/\dY v.from_ v.to s.pins=false:=by
  simp only[ql,jl,Pt] at hg;exact ⟨by simpa using hg.1,hg.2⟩
 obtain ⟨A,B,hl,hA,aG,XH⟩:=nR hj;have Sf:o.bu=o.bu.take k++v::o.bu.drop (k+1):=by rw[<- aH hk,JX]
 generalize hP:o.bu.take k=P at *;generalize hQ:o.bu.drop (k+1)=Q at *
 have hsub:(P++Q).Sublist o.bu:=by
  rw[Sf];exact List.Sublist.append_left (List.sublist_cons_self _ _) _
 let O2:List Ob:=if (P++Q).length=0 then A++B else A++⟨o.id,P++Q⟩::B
 have e0:dA s o.id v.from_=({ s with objs:=O2,ar:=pN s.ar v.pages },0):=by
  unfold dA;rw[aE (by omega),Cm,zZ,hrm];simp only;rw[aE (by simp),aE (by simp only[vM];exact ⟨hto.1,by rw[hto.2];decide⟩)]
  have:(if (P++Q).length=0 then ic s.objs (j:Int) else dz s.objs (j:Int) (P++Q))=O2:=by
   simp only[O2]
   split
   ·exact XH
   ·rw[dz,zZ,Int.toNat_natCast,aG]
  rw[this]
 have hmem:∀ y∈O2,y∈s.objs\/y=⟨o.id,P++Q⟩:=fun y hy=>by
  rw[hl];simp only[O2] at hy
  split at hy
  ·simp only[lU,lp] at hy ⊢;rcases hy with hy|hy
   ·exact .inl (.inl hy)
   ·exact .inl (.inr (.inr hy))
  ·simp only[lU,lp] at hy ⊢;rcases hy with hy|hy|hy
   ·exact .inl (.inl hy)
   ·exact .inr hy
   ·exact .inl (.inr (.inr hy))
 have rO:(O2.map (·.id)).Sublist (s.objs.map (·.id)):=by
  rw[hl];simp only[O2]
  split
  ·exact (List.Sublist.append_left (List.sublist_cons_self _ _) _).map _
  ·simp
 have XI:gp O2=gp A++ia (P++Q)++gp B:=by
  simp only[O2]
  split
  ·rename_i hz;rw[tY hz,mD];simp[ia]
  ·rw[mD,nS,lS]
 have LS:O2.flatMap jk=A.flatMap jk++(P++Q).map (fun w=>⟨o.id,w⟩)++B.flatMap jk:=by
  simp only[O2]
  split
  ·rename_i hz;rw[tY hz,SK];simp
  ·rw[SK,RU,lS];rfl
 have XJ:gT s=(A.flatMap jk++P.map (fun w=>⟨o.id,w⟩))++⟨o.id,v⟩::(Q.map (fun w=>⟨o.id,w⟩)++B.flatMap jk):=by
  unfold gT;rw[hl,SK,RU];unfold jk;rw[Sf];simp
 have Ys:(gp s.objs).Perm (v.pages++gp O2):=by
  rw[XI,hl,mD,nS,Sf,nT,nT];have e1:ia (v::Q)=v.pages++ia Q:=rfl;rw[e1]
  have h1:(gp A++(ia P++(v.pages++ia Q)++gp B)).Perm (v.pages++(gp A++(ia P++ia Q)++gp B)):=by
   have:gp A++(ia P++(v.pages++ia Q)++gp B)=(gp A++ia P)++v.pages++(ia Q++gp B):=by simp
   rw[this];have:v.pages++(gp A++(ia P++ia Q)++gp B)=v.pages++(gp A++ia P)++(ia Q++gp B):=by simp
   rw[this];exact List.Perm.append_right _ SF
  exact h1
 refine ⟨_,e0,⟨h.ids.sublist rO,fun y hy=>?_,fun y hy=>?_,fun y hy=>?_,?_,?_⟩,⟨hb.hb,?_,fun y hy=>?_,hb.hp,?_,Hv _ hb.hd,hb.hc,hb.hl,hb.hz⟩,rfl,fun L R Sg=>?_⟩
 ·rcases hmem y hy with hy|rfl
  ·exact h.Qd y hy
  ·exact h.Qd o ho
 ·rcases hmem y hy with hy|rfl
  ·exact h.ok y hy
  ·exact hok.sub hsub
 ·rcases hmem y hy with hy|rfl
  ·exact h.com y hy
  ·exact fun w hw=>h.com o ho w (hsub.subset hw)
 ·simp only;exact DI v.pages (h.ar.perm Ys) (by rw[<- Ys.length_eq];omega)
 ·simp only;rw[xK];exact h.cap
 ·have:=rO.length_le;simp only[dD] at this;have:=hb.ho;simp only;omega
 ·rcases hmem y hy with hy|rfl
  ·exact hb.hv y hy
  ·have:=hb.hv o ho;exact ⟨by have:=hsub.length_le;simp only;omega,fun w hw=>this.2 w (hsub.subset hw)⟩
 ·have:=Hu v.pages s.ar;have:=hb.hg;simp only;omega
 ·have qU:=FQ (DE h)
  have key:∀ (L R L' R':List Vn),(L++⟨o.id,v⟩::R).Nodup->L++(⟨o.id,v⟩:Vn)::R=L'++⟨o.id,v⟩::R'->L=L'/\R=R':=by
   intro L
   induction L with
   | nil=>
     intro R L' R' hn e;cases L' with
     | nil=>simp only[List.nil_append,Pu,true_and] at e;exact ⟨rfl,e⟩
     | cons y L'=>
       simp only[List.nil_append,List.cons_append,Pu] at e;simp only[List.nil_append,Nb] at hn;exact absurd (by rw[e.2];simp) hn.1
   | cons y L ih=>
     intro R L' R' hn e;cases L' with
     | nil=>
       simp only[List.nil_append,List.cons_append,Pu] at e;simp only[List.cons_append,Nb] at hn;exact absurd (by rw[e.1];simp) hn.1
     | cons z L'=>
       simp only[List.cons_append,Pu] at e;simp only[List.cons_append,Nb] at hn;obtain ⟨g1,g2⟩:=ih R L' R' hn.2 e.2;exact ⟨by rw[g1,e.1],g2⟩
  rw[XJ] at qU Sg;obtain ⟨g1,g2⟩:=key _ _ _ _ qU Sg;rw[<- g1, <- g2];show O2.flatMap jk=_;rw[LS];simp
theorem IV (s:Sr):JZ (gT s)=gp s.objs:=J0 s.objs
end Go.Proofs.YteemiclhnfkekaaGreat
namespace Go.Proofs.YteemiclhnfkekaaGreat
open Go.Shelf
def Qe:Go.Shelf.Ren:=⟨fun|189=>75|125=>146|257=>145|128=>194|129=>195|294=>185|295=>186|296=>187|297=>188|298=>189|299=>190|216=>191|300=>192|301=>193|328=>215|329=>216|330=>217|331=>218|332=>219|215=>220|343=>228|n=>n,fun|28=>22|3=>3|46=>38|0=>0|51=>232|53=>234|4=>4|183=>227|182=>226|131=>117|5=>5|9=>9|218=>246|222=>250|228=>256|229=>257|n=>n,fun|n=>n⟩
def DJ:Go.Shelf.Ren:=⟨fun|190=>136|125=>146|258=>184|128=>194|129=>195|302=>206|303=>207|304=>208|305=>209|306=>210|307=>211|308=>212|309=>213|310=>214|333=>224|329=>216|330=>217|334=>225|335=>226|336=>227|344=>230|n=>n,fun|31=>47|9=>9|3=>3|46=>38|0=>0|51=>232|53=>234|4=>4|183=>227|182=>226|131=>117|5=>5|218=>246|222=>250|228=>256|229=>257|n=>n,fun|n=>n⟩
theorem Hw:Go.Proofs.Lays.n190 Tryz.prog DJ:={
 mixed:=by kernel_rfl
 f125:=Tryz.func146.trans (congrArg some (by kernel_rfl))
 f128:=Tryz.func194.trans (congrArg some (by kernel_rfl))
 f129:=Tryz.func195.trans (congrArg some (by kernel_rfl))
 f190:=Tryz.func136.trans (congrArg some (by kernel_rfl))
 f258:=Tryz.func184.trans (congrArg some (by kernel_rfl))
 f302:=Tryz.func206.trans (congrArg some (by kernel_rfl))
 f303:=Tryz.func207.trans (congrArg some (by kernel_rfl))
 f304:=Tryz.func208.trans (congrArg some (by kernel_rfl))
 f305:=Tryz.func209.trans (congrArg some (by kernel_rfl))
 f306:=Tryz.func210.trans (congrArg some (by kernel_rfl))
 f307:=Tryz.func211.trans (congrArg some (by kernel_rfl))
 f308:=Tryz.func212.trans (congrArg some (by kernel_rfl))
 f309:=Tryz.func213.trans (congrArg some (by kernel_rfl))
 f310:=Tryz.func214.trans (congrArg some (by kernel_rfl))
 f329:=Tryz.func216.trans (congrArg some (by kernel_rfl))
 f330:=Tryz.func217.trans (congrArg some (by kernel_rfl))
 f333:=Tryz.func224.trans (congrArg some (by kernel_rfl))
 f334:=Tryz.func225.trans (congrArg some (by kernel_rfl))
 f335:=Tryz.func226.trans (congrArg some (by kernel_rfl))
 f336:=Tryz.func227.trans (congrArg some (by kernel_rfl))
 f344:=Tryz.func230.trans (congrArg some (by kernel_rfl))
 t0:=Tryz.underlying0
 a0:=Tryz.isAgg0
 z0:=Tryz.sizeOf0
 v0:=Tryz.zeroValue0
 t3:=Tryz.underlying3
 a3:=Tryz.isAgg3
 z3:=Tryz.sizeOf3
 v3:=Tryz.zeroValue3
 t4:=Tryz.underlying4
 a4:=Tryz.isAgg4
 z4:=Tryz.sizeOf4
 v4:=Tryz.zeroValue4
 t5:=Tryz.underlying5
 a5:=Tryz.isAgg5
 z5:=Tryz.sizeOf5
 v5:=Tryz.zeroValue5
 t9:=Tryz.underlying9
 a9:=Tryz.isAgg9
 z9:=Tryz.sizeOf9
 v9:=Tryz.zeroValue9
 t31:=Tryz.underlying47
 a31:=Tryz.isAgg47
 z31:=Tryz.sizeOf47
 v31:=Tryz.zeroValue47
 t46:=Tryz.underlying38
 a46:=Tryz.isAgg38
 z46:=Tryz.sizeOf38
 v46:=Tryz.zeroValue38
 t51:=Tryz.underlying232
 a51:=Tryz.isAgg232
 z51:=Tryz.sizeOf232
 v51:=Tryz.zeroValue232
 t53:=Tryz.underlying234
 a53:=Tryz.isAgg234
 z53:=Tryz.sizeOf234
 v53:=Tryz.zeroValue234
 t131:=Tryz.underlying117
 a131:=Tryz.isAgg117
 z131:=Tryz.sizeOf117
 v131:=Tryz.zeroValue117
 t182:=Tryz.underlying226
 a182:=Tryz.isAgg226
 z182:=Tryz.sizeOf226
 v182:=Tryz.zeroValue226
 t183:=Tryz.underlying227
 a183:=Tryz.isAgg227
 z183:=Tryz.sizeOf227
 v183:=Tryz.zeroValue227
 t218:=Tryz.underlying246
 a218:=Tryz.isAgg246
 z218:=Tryz.sizeOf246
 v218:=Tryz.zeroValue246
 t222:=Tryz.underlying250
 a222:=Tryz.isAgg250
 z222:=Tryz.sizeOf250
 v222:=Tryz.zeroValue250
 t228:=Tryz.underlying256
 a228:=Tryz.isAgg256
 z228:=Tryz.sizeOf256
 v228:=Tryz.zeroValue256
 t229:=Tryz.underlying257
 a229:=Tryz.isAgg257
 z229:=Tryz.sizeOf257
 v229:=Tryz.zeroValue257 }
open Go.Sort Go.RowKit in
theorem slices_Sort_string (blk off cap:Nat) (ss:List (List UInt8)) (w:World) (hH:Holds encStr w blk off ss.toArray) (hblk:blk<w.heap.size) (hsz:ss.length<4611686018427387904):
  Calls Tryz.prog 136 #[.slice (some ⟨blk,off,none⟩) ss.length cap] w fun e w'=>
   e = .returned (.tuple #[])/\∃ n os,w'=grow (putRow encStr (Sort.ahead w n) blk off (ss.mergeSort fun x y=>decide (x<=y)).toArray) os:=Any.slices_Sort_string Hw blk off cap ss w hH hblk hsz
def DK:Go.Shelf.Ren:=⟨fun|194=>137|n=>n,fun|31=>47|9=>9|3=>3|4=>4|0=>0|n=>n,fun|n=>n⟩
theorem Hx:Go.Proofs.Lays.n194 Tryz.prog DK:={
 mixed:=by kernel_rfl
 f194:=Tryz.func137.trans (congrArg some (by kernel_rfl))
 t0:=Tryz.underlying0
 a0:=Tryz.isAgg0
 z0:=Tryz.sizeOf0
 v0:=Tryz.zeroValue0
 t3:=Tryz.underlying3
 a3:=Tryz.isAgg3
 z3:=Tryz.sizeOf3
 v3:=Tryz.zeroValue3
 t4:=Tryz.underlying4
 a4:=Tryz.isAgg4
 z4:=Tryz.sizeOf4
 v4:=Tryz.zeroValue4
 t9:=Tryz.underlying9
 a9:=Tryz.isAgg9
 z9:=Tryz.sizeOf9
 v9:=Tryz.zeroValue9
 t31:=Tryz.underlying47
 a31:=Tryz.isAgg47
 z31:=Tryz.sizeOf47
 v31:=Tryz.zeroValue47 }
open Go.RowKit Go.Lib Go.Sort in
theorem slices_Compact_string (blk off cap:Nat) (zs:List (List UInt8)) (w:World) (hH:Holds encStr w blk off zs.toArray) (hsz:zs.length<=9223372036854775807) (hcap:zs.length<=cap):
  Calls Tryz.prog 137 #[.slice (some ⟨blk,off,none⟩) zs.length cap] w fun e w'=>e = .returned (.slice (some ⟨blk,off,none⟩) (Lib.compact zs).length cap)/\∃ q,w'=putRow encStr (Sort.ahead w q) blk off (Lib.compact zs++List.replicate (zs.length-(Lib.compact zs).length) []).toArray:=Any.slices_Compact_string Hx blk off cap zs w hH hsz hcap
open Go.RowKit Go.Lib Go.Sort in
theorem slices_Compact_string_empty (a:Option Addr) (cap:Nat) (w:World):
  Calls Tryz.prog 137 #[.slice a 0 cap] w fun e w'=>e = .returned (.slice a 0 cap)/\w'=w:=Any.slices_Compact_string_empty Hx a cap w
open Go.RowKit Go.Sort in
theorem slices_Sort_string_none (p:Option Addr) (cap:Nat) (w:World):
  Calls Tryz.prog 136 #[.slice p 0 cap] w fun e w'=>e = .returned (.tuple #[])/\w'=w:=Any.slices_Sort_string_none Hw p cap w
open Go.RowKit Go.fe
end Go.Proofs.YteemiclhnfkekaaGreat
namespace Go.Proofs.YteemiclhnfkekaaGreat
end Go.Proofs.YteemiclhnfkekaaGreat
set_option maxRecDepth 100000
set_option maxHeartbeats 6400000
namespace Go.Proofs.YteemiclhnfkekaaGreat
open Go.RowKit Go.fe Go.Sort
def MU (z:List UInt8):ByteArray:=⟨z.toArray⟩
def vX (s:ByteArray):List UInt8:=s.data.toList
theorem tv (s:ByteArray):MU (vX s)=s:=by cases s;simp[MU,vX]
theorem BT (z:List UInt8):vX (MU z)=z:=by simp[MU,vX]
theorem DL (ns:List ByteArray):ns.map eE=(ns.map vX).map fun z=>[D.sc (encStr z)]:=by
 rw[Ia];apply Pr;intro s _;have:=tv s;simp only[MU] at this;simp only[eE,Function.comp,encStr,this]
theorem DM (zs:List (List UInt8)):(zs.map fun z=>[D.sc (encStr z)])=(zs.map MU).map eE:=by
 rw[Ia];rfl
def pq (ns:List ByteArray):List ByteArray:=((ns.map vX).mergeSort fun x y=>decide (x<=y)).map MU
def DN (zs:List (List UInt8)):List (List UInt8):=Lib.compact zs++List.replicate (zs.length-(Lib.compact zs).length) []
def pz (ns:List ByteArray):List ByteArray:=(Lib.compact (ns.map vX)).map MU
def AP (ns:List ByteArray):List ByteArray:=(DN (ns.map vX)).map MU
theorem AQ (zs:List (List UInt8)):(DN zs).length=zs.length:=by
 have:=Lib.compact_length_le zs;simp only[DN,bW,dx];omega
theorem DP {ns:List ByteArray} {n:Nat} (hn:ns.length=n) (h0:0<n) (hl:n<=1000000):aF Tryz.prog 136 [.row 1 (ns.map eE)] [.cW 0 1 0 n] (.cT []) [.row 1 ((pq ns).map eE)]:=by
 subst hn;have h:=FE (enc:=encStr) (P:=Tryz.prog) (fun l=>l.mergeSort fun x y=>decide (x<=y)) (fun l=>by simp) (fun _=>rfl) call136 (fun blk cap zs w hH hb hs=>slices_Sort_string blk 0 cap zs w hH hb hs) (zs:=ns.map vX) (fun e=>by simp at e;subst e;simp at h0) (by simpa using hl);rw[<- DL,DM,dD] at h;exact h
theorem FU:aF Tryz.prog 136 [.row 1 []] [.cW 0 1 0 0] (.cT []) [.row 1 []]:=FG call136 slices_Sort_string_none
theorem DQ {ns:List ByteArray} {n:Nat} (hn:ns.length=n) (h0:0<n) (hl:n<=1000000):aF Tryz.prog 137 [.row 1 (ns.map eE)] [.cW 0 1 0 n] (.cW 0 1 0 (pz ns).length) [.row 1 ((AP ns).map eE)]:=by
 subst hn;have h:=FF (enc:=encStr) (P:=Tryz.prog) DN (fun l=>(Lib.compact l).length) (fun l=>Lib.compact_length_le l) AQ (fun _=>rfl) call137 (fun blk cap zs w hH hb hs hc=>slices_Compact_string blk 0 cap zs w hH (by omega) hc) (zs:=ns.map vX) (fun e=>by simp at e;subst e;simp at h0) (by simpa using hl);rw[<- DL,DM,dD] at h;rw[pz,dD];exact h
theorem FV:aF Tryz.prog 137 [.row 1 []] [.cW 0 1 0 0] (.cW 0 1 0 0) [.row 1 []]:=Iv call137 slices_Compact_string_empty
theorem FW (ns:List ByteArray):(AP ns).take (pz ns).length=pz ns:=by
 simp only[AP,pz,DN,vO,dD];rw[RW (by simp)]
theorem IW (ns:List ByteArray):(AP ns).length=ns.length:=by simp[AP,AQ]
theorem qJ (ns:List ByteArray):(pq ns).length=ns.length:=by simp[pq]
def eX (c:Int) (l:List Bd):List ByteArray:=(l.filter fun b=>eW b.eo b.to c).map (·.name)
def jr (c:Int) (l:List Bd):List ByteArray:=pz (pq (eX c l))
theorem vm (c:Int) (b:Bd) (l:List Bd):eX c (b::l)=if eW b.eo b.to c=true then b.name::eX c l else eX c l:=by
 unfold eX;rw[List.filter_cons]
 split<;>rfl
theorem FX (c:Int) (l:List Bd):(eX c l).length<=l.length:=by
 unfold eX;rw[dD];exact Vp _ _
theorem mF {l:List Bd} {c:Int} (hl:l.length<=100000):ak Tryz.prog 58 [.sl 4 (l.map ag),i6 c] (.sl 1 ((jr c l).map eE)) []:=by
 refine dL [] [7,16,20,21,24,26] Tryz.func58 (by kernel_rfl) Tryz.ntmps58 rfl rfl ⟨rfl,rfl⟩ (by simp(disch:=omega)only[seval,go_sem,cI,List.replicate,l_2,l_1];rfl) ?_;((repeat'(first|simp only[seval,go_sem]|(with_reducible refine aV (st:=[]) ?_))));(refine ay.fT 5 21 1 (by first|(simp only[seval,go_sem])) (by first|(simp only[seval,go_sem])) (by simp only[seval,go_sem];rfl) ?_)
 (with_reducible refine ay.cX (fun (t:Nat×List ByteArray)=>[(10,i6 t.1),(5,.cW 21 1 0 t.2.length),(7,.any)]++aN 11 12) (fun (t:Nat×List ByteArray)=>[(21,.row 1 (t.2.map eE)),(7,.dead),(16,.dead),(20,.dead)]) (fun (t:Nat×List ByteArray)=>t.1<=l.length/\t.2.length<=t.1/\t.2++eX c (l.drop t.1)=eX c l) (fun (t:Nat×List ByteArray)=>l.length-t.1) ((0,[])) (⟨ek _,by simp,rfl⟩) (by intro _;simp(disch:=omega)only[seval,go_sem,cI];rfl) (by simp only[seval,go_sem]) (fun t hI=>?_))
 obtain ⟨k,ns⟩:=t;obtain ⟨hk,hnl,hf⟩:=hI;simp only at hk hnl hf;by_cases hlt:k<l.length
 ·obtain ⟨b,hb⟩:=aZ hlt;have hb':=get_map ag hb;rw[aH hb,vm] at hf;cases hh:eW b.eo b.to c with
  | true=>
    rw[bC hh] at hf;((repeat'(first|simp only[seval,go_sem,ag,hb',hh]|((with_reducible refine bJ ?_);refine aq.c (mX) ?_)|(with_reducible first|refine aD (st:=[]) ?_|refine aV (st:=[]) ?_|refine ai (by simp(disch:=omega)only[seval,go_sem,cI,ag,hb',hh];rfl) ?_))));all_goals(try(refine aP ((k+1,ns++[b.name])) (by simp only[seval,go_sem,eE];first|((repeat'(with_reducible apply And.intro))<;>first|rfl|(simp[eE];done))) ?_ ?_<;>(try(omega))))
    all_goals(try(exact ⟨by simp only;omega,by simp only[bW,List.length_cons,List.length_nil];omega,by simp only[lS,List.cons_append,List.nil_append];exact hf⟩))
  | false=>
    rw[aE (by simp[hh])] at hf;((repeat'(first|simp only[seval,go_sem,ag,hb',hh]|((with_reducible refine bJ ?_);refine aq.c (mX) ?_)|(with_reducible first|refine aD (st:=[]) ?_|refine aV (st:=[]) ?_|refine ai (by simp(disch:=omega)only[seval,go_sem,cI,ag,hb',hh];rfl) ?_))));all_goals(try(refine aP ((k+1,ns)) (by simp only[seval,go_sem];first|((repeat'(with_reducible apply And.intro))<;>first|rfl)) ?_ ?_<;>(try(omega))))
    all_goals(try(exact ⟨by simp only;omega,by simp only;omega,hf⟩))
 ·rw[j9 (by omega),show eX c []=[] from rfl,yP] at hf;subst hf;unfold jr;by_cases hz:(eX c l).length=0
  ·have e:eX c l=[]:=tY hz;have e2:pz (pq [])=[]:=by simp[pz,pq,Lib.compact,Lib.compactUpTo]
   rw[e] at hnl ⊢;rw[e2]
   ((repeat'(first|simp only[seval,go_sem,List.length_nil,eM]|((with_reducible refine au ?_);((with_reducible refine cq (st:=[]) 0 ?_);simp only[seval,go_sem,List.length_nil,eM];first|refine bZ.c (FU) ?_|refine bZ.c (FV) ?_))|(with_reducible refine aB ?_;(refine aC.gu 21 (by simp only[seval,go_sem];rfl) (by simp only[seval,go_sem,List.length_nil,eM];rfl) ?_);(with_reducible refine aB ?_;refine aC.q rfl rfl (by simp only[seval,go_sem];rfl) (by decide) (by simp only[seval,go_sem];rfl) (by simp only[seval,go_sem];rfl) rfl ?_<;>(try simp only[seval,go_sem,List.length_nil,eM])<;>(repeat'(with_reducible apply And.intro))<;>(try rfl)))|(with_reducible first|refine aV (st:=[]) ?_|refine ai (by simp(disch:=omega)only[seval,go_sem,cI,List.length_nil,eM];rfl) ?_))))
   all_goals trace_state
  ·have hs:=qJ (eX c l);have hr:=FW (pq (eX c l));have MJ:=congrArg (List.map eE) hr;rw[Qy] at MJ;have wR:((AP (pq (eX c l))).map eE).length=(eX c l).length:=by rw[dD,IW,qJ]
   have lF:(pz (pq (eX c l))).length<=(eX c l).length:=by
    have:=Lib.compact_length_le ((pq (eX c l)).map vX);rw[dD,qJ] at this;simp only[pz,dD];exact this
   ((repeat'(first|simp only[seval,go_sem,MJ,wR,hs,lF]|((with_reducible refine au ?_);((with_reducible refine cq (st:=[]) 0 ?_);simp only[seval,go_sem,MJ,wR,hs,lF];first|refine bZ.c (DP ?_ ?_ ?_) ?_|refine bZ.c (DQ ?_ ?_ ?_) ?_))|(with_reducible refine aB ?_;(refine aC.gu 21 (by simp only[seval,go_sem];rfl) (by simp only[seval,go_sem,MJ,wR,hs,lF];rfl) ?_);(with_reducible refine aB ?_;refine aC.q rfl rfl (by simp only[seval,go_sem];rfl) (by decide) (by simp only[seval,go_sem];rfl) (by simp only[seval,go_sem];rfl) rfl ?_<;>(try simp only[seval,go_sem,MJ,wR,hs,lF])<;>(repeat'(with_reducible apply And.intro))<;>(try rfl)))|(with_reducible first|refine aV (st:=[]) ?_|refine ai (by simp(disch:=omega)only[seval,go_sem,cI,MJ,wR,hs,lF];rfl) ?_)))<;>(try(((with_reducible show (_:Nat)<=_);omega))))
   all_goals(try omega)
def Qf (l:List ByteArray):Prop:=l.Pairwise (fun x y=>rj x y=true)
theorem jG (s:ByteArray):s.toList=vX s:=SJ s
theorem Rz (x y:ByteArray):rj x y=Op.bytesLess (vX x) (vX y):=by rw[rj,jG,jG]
theorem BU {x y:ByteArray} (h:vX x=vX y):x=y:=by rw[<- tv x,h,tv]
theorem lP {x y:ByteArray}:lq x y=true↔x=y:=by
 rw[lq,jG,jG,nX];exact ⟨BU,fun h=>by rw[h]⟩
theorem iB (x:ByteArray):rj x x=false:=nP _
theorem uJ {x y z:ByteArray} (h:rj x y=true) (g:rj y z=true):rj x z=true:=qi h g
theorem IX (x y:ByteArray):rj x y=true\/x=y\/rj y x=true:=by
 rcases mA x.toList y.toList with h|h|h
 ·exact .inl h
 ·rw[jG,jG] at h;exact .inr (.inl (BU h))
 ·exact .inr (.inr h)
theorem Hy:∀ {a b:List ByteArray},Qf a->Qf b->(∀ x,x∈a↔x∈b)->a=b
 | [],[],_,_,_=>rfl
 | [],y::b,_,_,h=>by have:=(h y).2 (RT ..);cases this
 | x::a,[],_,_,h=>by have:=(h x).1 (RT ..);cases this
 | x::a,y::b,ha,hb,h=>by
   have gM:=M9.1 ha;have hb':=M9.1 hb
   have e:x=y:=by
    rcases lp.1 ((h x).1 (RT ..)) with e|e
    ·exact e
    ·rcases lp.1 ((h y).2 (RT ..)) with e2|e2
     ·exact e2.symm
     ·have h1:=hb'.1 x e;have h2:=gM.1 y e2;have:=uJ h1 h2;rw[iB] at this;cases this
   subst e;rw[Hy gM.2 hb'.2 fun z=>?_];constructor
   ·intro hz;rcases lp.1 ((h z).1 (HZ _ hz)) with e|e
    ·subst e;have:=gM.1 z hz;rw[iB] at this;cases this
    ·exact e
   ·intro hz;rcases lp.1 ((h z).2 (HZ _ hz)) with e|e
    ·subst e;have:=hb'.1 z hz;rw[iB] at this;cases this
    ·exact e
theorem xL (n:ByteArray):∀ (l:List ByteArray) (x:ByteArray),x∈tw n l↔x=n\/x∈l
 | [],x=>by simp[tw]
 | y::l,x=>by
   unfold tw
   split
   ·rw[lp,xL n l x,lp];constructor
    ·rintro (h|h|h)<;>simp_all
    ·rintro (h|h|h)<;>simp_all
   ·split
    ·rename_i h;have:=lP.1 h;subst this;simp
    ·simp
theorem DS (n:ByteArray):∀ {l:List ByteArray},Qf l->Qf (tw n l)
 | [],_=>Vl _ _
 | y::l,h=>by
   have h':=M9.1 h;unfold tw
   split
   ·rename_i h1;refine List.Pairwise.cons (fun x hx=>?_) (DS n h'.2);rcases (xL n l x).1 hx with rfl|hx
    ·exact h1
    ·exact h'.1 x hx
   ·rename_i h1
    split
    ·exact h
    ·rename_i h2
     have h3:rj n y=true:=by
      rcases IX n y with g|g|g
      ·exact g
      ·exact absurd (lP.2 g.symm) h2
      ·exact absurd g h1
     refine List.Pairwise.cons (fun x hx=>?_) h;rcases lp.1 hx with rfl|hx
     ·exact h3
     ·exact uJ h3 (h'.1 x hx)
theorem r8 (c:Int):∀ (l:List Bd) (a:List ByteArray),Qf a->Qf (i7 c l a)/\∀ x,x∈i7 c l a↔x∈a\/x∈eX c l
 | [],a,h=>⟨h,fun x=>by simp[i7,eX]⟩
 | b::l,a,h=>by
   rw[i7,vm]
   split
   ·obtain ⟨h1,h2⟩:=r8 c l _ (DS b.name h);refine ⟨h1,fun x=>?_⟩;rw[h2,xL,lp];constructor
    ·rintro ((h|h)|h)<;>simp_all
    ·rintro (h|h|h)<;>simp_all
   ·exact r8 c l a h
theorem vn (d:Array (List UInt8)) (hs:∀ i j,i<j->j<d.size->d[i]! <=d[j]!):∀ m,m<=d.size->
  (Lib.compactUpTo d m).Pairwise (fun x y=>Op.bytesLess x y=true)/\(∀ x,x∈Lib.compactUpTo d m↔∃ i,i<m/\d[i]! = x)
 | 0,_=>by simp[Lib.compactUpTo]
 | m+1,hm=>by
   obtain ⟨h1,h2⟩:=vn d hs m (by omega);rw[Lib.compactUpTo_succ];by_cases hk:Lib.keeps d m=true
   ·rw[bC hk];refine ⟨JF.2 ⟨h1,Vl _ _,fun x hx y hy=>?_⟩,fun x=>?_⟩
    ·obtain ⟨i,hi,rfl⟩:=(h2 x).1 hx;rw[rG] at hy;subst hy
     have hk':m≠0/\d[m]! ≠d[m-1]! \/m=0:=by
      unfold Lib.keeps at hk;rcases of_decide_eq_true hk with g|g
      ·exact .inr g
      ·by_cases h0:m=0
       ·exact .inr h0
       ·exact .inl ⟨h0,g⟩
     rcases hk' with ⟨h0,hne⟩|h0
     ·have a1:d[i]! <=d[m-1]! :=by
       rcases Pw i (m-1) with g|g
       ·exact hs i (m-1) g (by omega)
       ·have:i=m-1:=by omega
        subst this;exact List.le_refl _
      have a2:d[m-1]! <=d[m]! :=hs (m-1) m (by omega) (by omega);have b1:Op.bytesLess (d[m-1]!) (d[i]!)=false:=by rw[bytesLess_eq];exact HW a1
      have b2:Op.bytesLess (d[m]!) (d[m-1]!)=false:=by rw[bytesLess_eq];exact HW a2
      have c2:=uG b2 (fun e=>hne e.symm);rcases mA (d[i]!) (d[m-1]!) with g|g|g
      ·exact qi g c2
      ·rw[g];exact c2
      ·rw[b1] at g;cases g
     ·omega
    ·rw[lU,h2,rG];constructor
     ·rintro (⟨i,hi,e⟩|e)
      ·exact ⟨i,by omega,e⟩
      ·exact ⟨m,by omega,e.symm⟩
     ·rintro ⟨i,hi,e⟩;rcases Pw i m with g|g
      ·exact .inl ⟨i,g,e⟩
      ·have:i=m:=by omega
       subst this;exact .inr e.symm
   ·rw[aE hk,yP];refine ⟨h1,fun x=>?_⟩;rw[h2]
    have hk':m≠0/\d[m]! = d[m-1]! :=by
     unfold Lib.keeps at hk;simp only[pP,vM,ne_eq,Decidable.not_not] at hk;exact hk
    constructor
    ·rintro ⟨i,hi,e⟩;exact ⟨i,by omega,e⟩
    ·rintro ⟨i,hi,e⟩;rcases Pw i m with g|g
     ·exact ⟨i,g,e⟩
     ·have:i=m:=by omega
      subst this;exact ⟨i-1,by omega,by rw[<- hk'.2];exact e⟩
theorem FY (c:Int) (l:List Bd):Qf (jr c l)/\∀ x,x∈jr c l↔x∈eX c l:=by
 have UO:((eX c l).map vX).mergeSort (fun x y=>decide (x<=y)) |>.Pairwise (fun x y=>x<=y):=by
  have:=List.pairwise_mergeSort (le:=fun x y:List UInt8=>decide (x<=y)) (fun a b c h1 h2=>by simp only[pP] at *;exact List.le_trans h1 h2) (fun a b=>by simp only[vN,pP];exact List.le_total a b) ((eX c l).map vX);exact this.imp (fun h=>by simpa using h)
 have hmem:∀ z,z∈((eX c l).map vX).mergeSort (fun x y=>decide (x<=y))↔z∈(eX c l).map vX:=fun z=>List.mem_mergeSort;unfold jr pz pq;generalize ((eX c l).map vX).mergeSort (fun x y=>decide (x<=y))=Z at UO hmem
 have hz:(Z.map MU).map vX=Z:=by
  rw[Ia]
  conv=>rhs;rw[<- List.map_id Z]
  exact Pr (fun z _=>BT z)
 rw[hz]
 have hsp:=vn Z.toArray (fun i j hij hj=>by
  have hj':j<Z.length:=by simpa using hj
  have:=JW.1 UO i j (by omega) hj' hij;rw[Nc Z.toArray i (by simp;omega),Nc Z.toArray j hj]
  simpa using this) Z.length (by simp)
 obtain ⟨h1,h2⟩:=hsp;change (Lib.compact Z).Pairwise _ at h1;change ∀ x,x∈Lib.compact Z↔_ at h2;refine ⟨?_,fun x=>?_⟩
 ·unfold Qf;rw[List.pairwise_map];exact h1.imp (fun {a b} h=>by rw[Rz,BT,BT];exact h)
 ·rw[qu];constructor
  ·rintro ⟨z,qW,rfl⟩;obtain ⟨i,hi,e⟩:=(h2 z).1 qW
   have:z∈Z:=by
    rw[Nc Z.toArray i (by simpa using hi)] at e;rw[<- e];simp
   obtain ⟨y,hy,e2⟩:=qu.1 ((hmem z).1 this);rw[<- e2,tv];exact hy
  ·intro hx;have:vX x∈Z:=(hmem _).2 (qu.2 ⟨x,hx,rfl⟩);obtain ⟨i,hi,e⟩:=RS.1 this;refine ⟨vX x,(h2 _).2 ⟨i,hi,?_⟩,tv x⟩;rw[Nc Z.toArray i (by simpa using hi)];simpa using e
theorem tC (c:Int) (l:List Bd):jr c l=i7 c l []:=by
 obtain ⟨h1,h2⟩:=FY c l;obtain ⟨g1,g2⟩:=r8 c l [] List.Pairwise.nil;exact Hy h1 g1 fun x=>by rw[h2,g2];simp
end Go.Proofs.YteemiclhnfkekaaGreat
namespace Go.Proofs.YteemiclhnfkekaaGreat
open Go.RowKit Go.fe
def Hz (p:List Pn) (b:Bd):Bool:=b.to==0||dY b.eo b.to p
def gi (p:List Pn) (l:List Bd):List Bd:=l.filter (Hz p)
theorem vo (p:List Pn) (b:Bd) (l:List Bd):gi p (b::l)=if Hz p b=true then b::gi p l else gi p l:=by
 unfold gi;rw[List.filter_cons]
theorem DT {l:List Bd} {p:List Pn} (hl:l.length<=100000) (hp:p.length<=100000):ak Tryz.prog 124 [.sl 4 (l.map ag), .sl 2 (p.map aW)] (.sl 4 ((gi p l).map ag)) []:=by
 refine dL [] [7,23,27,28] Tryz.func124 (by kernel_rfl) Tryz.ntmps124 rfl rfl ⟨rfl,rfl⟩ (by simp(disch:=omega)only[seval,go_sem,cI,List.replicate,l_2,l_1];rfl) ?_;((repeat'(first|simp only[seval,go_sem]|(with_reducible refine aV (st:=[]) ?_))));(refine ay.fT 5 28 4 (by first|(simp only[seval,go_sem])) (by first|(simp only[seval,go_sem])) (by simp only[seval,go_sem];rfl) ?_)
 (with_reducible refine ay.cX (fun (t:Nat×List Bd)=>[(10,i6 t.1),(5,.cW 28 4 0 t.2.length),(7,.any)]++aN 11 19) (fun (t:Nat×List Bd)=>[(28,.row 4 (t.2.map ag)),(7,.dead),(23,.dead),(27,.dead)]) (fun (t:Nat×List Bd)=>t.1<=l.length/\t.2.length<=t.1/\t.2++gi p (l.drop t.1)=gi p l) (fun (t:Nat×List Bd)=>l.length-t.1) ((0,[])) (⟨ek _,by simp,rfl⟩) (by intro _;simp(disch:=omega)only[seval,go_sem,cI];rfl) (by simp only[seval,go_sem]) (fun t hI=>?_))
 obtain ⟨k,o⟩:=t;obtain ⟨hk,hnl,hf⟩:=hI;simp only at hk hnl hf;by_cases hlt:k<l.length
 ·obtain ⟨b,hb⟩:=aZ hlt;have hb':=get_map ag hb;rw[aH hb,vo,Hz] at hf;by_cases h1:b.to=0
  ·rw[nX.2 h1,Cl,bC rfl] at hf;((repeat'(first|simp only[seval,go_sem,hb',ag]|(with_reducible refine aV (st:=[]) ?_)|(with_reducible refine ai (by simp(disch:=omega)only[seval,go_sem,cI,hb',ag];rfl) ?_))));all_goals(try(refine aP ((k+1,o++[b])) (by simp only[seval,go_sem,ag];first|((repeat'(with_reducible apply And.intro))<;>first|rfl|(simp[ag];done))) ?_ ?_<;>(try(omega))))
   all_goals(try(exact ⟨by simp only;omega,by simp only[bW,List.length_cons,List.length_nil];omega,by simp only[lS,List.cons_append,List.nil_append];exact hf⟩))
  ·rw[y8.2 h1,wo] at hf;cases h2:dY b.eo b.to p with
   | true=>
     rw[bC h2] at hf;((repeat'(first|simp only[seval,go_sem,ag,hb',h2]|((with_reducible refine bJ ?_);refine aq.c (lN ?_) ?_)|(with_reducible first|refine aD (st:=[]) ?_|refine aV (st:=[]) ?_|refine ai (by simp(disch:=omega)only[seval,go_sem,cI,ag,hb',h2];rfl) ?_)))<;>(try((with_reducible assumption))));all_goals(try(refine aP ((k+1,o++[b])) (by simp only[seval,go_sem,ag];first|((repeat'(with_reducible apply And.intro))<;>first|rfl|(simp[ag];done))) ?_ ?_<;>(try(omega))))
     all_goals(try(exact ⟨by simp only;omega,by simp only[bW,List.length_cons,List.length_nil];omega,by simp only[lS,List.cons_append,List.nil_append];exact hf⟩))
   | false=>
     rw[aE (by simp[h2])] at hf;((repeat'(first|simp only[seval,go_sem,ag,hb',h2]|((with_reducible refine bJ ?_);refine aq.c (lN ?_) ?_)|(with_reducible first|refine aD (st:=[]) ?_|refine aV (st:=[]) ?_|refine ai (by simp(disch:=omega)only[seval,go_sem,cI,ag,hb',h2];rfl) ?_)))<;>(try((with_reducible assumption))));all_goals(try(refine aP ((k+1,o)) (by simp only[seval,go_sem];first|((repeat'(with_reducible apply And.intro))<;>first|rfl)) ?_ ?_<;>(try(omega))))
     all_goals(try(exact ⟨by simp only;omega,by simp only;omega,hf⟩))
 ·rw[j9 (by omega),show gi p []=[] from rfl,yP] at hf;rw[<- hf]
  ((repeat'(first|simp only[seval,go_sem]|(with_reducible refine aB ?_;(refine aC.gu 28 (by simp only[seval,go_sem];rfl) (by simp only[seval,go_sem];rfl) ?_);(with_reducible refine aB ?_;refine aC.q rfl rfl (by simp only[seval,go_sem];rfl) (by decide) (by simp only[seval,go_sem];rfl) (by simp only[seval,go_sem];rfl) rfl ?_<;>(try simp only[seval,go_sem])<;>(repeat'(with_reducible apply And.intro))<;>(try rfl)))|(with_reducible first|refine aV (st:=[]) ?_|refine ai (by simp(disch:=omega)only[seval,go_sem,cI];rfl) ?_))))
theorem BV {l:List Bd} {p:List Pn} (hl:l.length<=100000) (hp:p.length<=100000):ak Tryz.prog 125 [.sl 4 (l.map ag), .sl 2 (p.map aW)] (.sl 4 ((gi p l).map ag)) []:=by
 refine dL [] [31,38,39] Tryz.func125 (by kernel_rfl) Tryz.ntmps125 rfl rfl ⟨rfl,rfl⟩ (by simp(disch:=omega)only[seval,go_sem,cI,List.replicate,l_2,l_1];rfl) ?_;((repeat'(first|simp only[seval,go_sem]|(with_reducible refine aV (st:=[]) ?_))));(refine ay.fT 5 39 4 (by first|(simp only[seval,go_sem])) (by first|(simp only[seval,go_sem])) (by simp only[seval,go_sem];rfl) ?_)
 (with_reducible refine ay.cX (fun (t:Nat×List Bd)=>[(6,i6 t.1),(5,.cW 39 4 0 t.2.length)]++aN 7 33) (fun (t:Nat×List Bd)=>[(39,.row 4 (t.2.map ag)),(31,.dead),(38,.dead)]) (fun (t:Nat×List Bd)=>t.1<=l.length/\t.2.length<=t.1/\t.2++gi p (l.drop t.1)=gi p l) (fun (t:Nat×List Bd)=>l.length-t.1) ((0,[])) (⟨ek _,by simp,rfl⟩) (by intro _;simp(disch:=omega)only[seval,go_sem,cI];rfl) (by simp only[seval,go_sem]) (fun t hI=>?_))
 obtain ⟨k,o⟩:=t;obtain ⟨hk,hnl,hf⟩:=hI;simp only at hk hnl hf;by_cases hlt:k<l.length
 ·obtain ⟨b,hb⟩:=aZ hlt;have hb':=get_map ag hb;rw[aH hb,vo,Hz] at hf;by_cases h1:b.to=0
  ·rw[nX.2 h1,Cl,bC rfl] at hf;((repeat'(first|simp only[seval,go_sem,hb',ag]|(with_reducible refine br ?_;refine dX mix (by kernel_rfl) ?_)|(with_reducible first|refine aV (st:=[]) ?_|refine dO (by simp(disch:=omega)only[seval,go_sem,cI,hb',ag];rfl) ?_|refine ai (by simp(disch:=omega)only[seval,go_sem,cI,hb',ag];rfl) ?_))));all_goals(try(refine aP ((k+1,o++[b])) (by simp only[seval,go_sem,ag];first|((repeat'(with_reducible apply And.intro))<;>first|rfl|(simp[ag];done))) ?_ ?_<;>(try(omega))))
   all_goals(try(exact ⟨by simp only;omega,by simp only[bW,List.length_cons,List.length_nil];omega,by simp only[lS,List.cons_append,List.nil_append];exact hf⟩))
  ·rw[y8.2 h1,wo] at hf;cases h2:dY b.eo b.to p with
   | true=>
     rw[bC h2] at hf
     ((repeat'(first|simp only[seval,go_sem,ag,hb',h2]|(with_reducible refine br ?_;refine dX mix (by kernel_rfl) ?_)|(with_reducible refine gQ ?_)|((with_reducible refine nA ?_);refine fO.c (kR ?_) ?_)|(with_reducible first|refine aV (st:=[]) ?_|refine dO (by simp(disch:=omega)only[seval,go_sem,cI,ag,hb',h2];rfl) ?_|refine ai (by simp(disch:=omega)only[seval,go_sem,cI,ag,hb',h2];rfl) ?_)))<;>(try((with_reducible assumption))))
     all_goals(try(refine aP ((k+1,o++[b])) (by simp only[seval,go_sem,ag];first|((repeat'(with_reducible apply And.intro))<;>first|rfl|(simp[ag];done))) ?_ ?_<;>(try(omega))))
     all_goals(try(exact ⟨by simp only;omega,by simp only[bW,List.length_cons,List.length_nil];omega,by simp only[lS,List.cons_append,List.nil_append];exact hf⟩))
   | false=>
     rw[aE (by simp[h2])] at hf
     ((repeat'(first|simp only[seval,go_sem,ag,hb',h2]|(with_reducible refine br ?_;refine dX mix (by kernel_rfl) ?_)|(with_reducible refine gQ ?_)|((with_reducible refine nA ?_);refine fO.c (kR ?_) ?_)|(with_reducible first|refine aV (st:=[]) ?_|refine dO (by simp(disch:=omega)only[seval,go_sem,cI,ag,hb',h2];rfl) ?_|refine ai (by simp(disch:=omega)only[seval,go_sem,cI,ag,hb',h2];rfl) ?_)))<;>(try((with_reducible assumption))))
     all_goals(try(refine aP ((k+1,o)) (by simp only[seval,go_sem];first|((repeat'(with_reducible apply And.intro))<;>first|rfl)) ?_ ?_<;>(try(omega))))
     all_goals(try(exact ⟨by simp only;omega,by simp only;omega,hf⟩))
 ·rw[j9 (by omega),show gi p []=[] from rfl,yP] at hf;rw[<- hf]
  ((repeat'(first|simp only[seval,go_sem]|(with_reducible refine aB ?_;(refine aC.gu 39 (by simp only[seval,go_sem];rfl) (by simp only[seval,go_sem];rfl) ?_);(with_reducible refine aB ?_;refine aC.q rfl rfl (by simp only[seval,go_sem];rfl) (by decide) (by simp only[seval,go_sem];rfl) (by simp only[seval,go_sem];rfl) rfl ?_<;>(try simp only[seval,go_sem])<;>(repeat'(with_reducible apply And.intro))<;>(try rfl)))|(with_reducible first|refine aV (st:=[]) ?_|refine ai (by simp(disch:=omega)only[seval,go_sem,cI];rfl) ?_))))
end Go.Proofs.YteemiclhnfkekaaGreat
