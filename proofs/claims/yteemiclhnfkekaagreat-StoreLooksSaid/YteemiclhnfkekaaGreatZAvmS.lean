/- The abstract machine, parts ZJ to ZK. -/
import Derived.Test.YteemiclhnfkekaaGreatZAvmR
import Derived.MapKept
import Derived.ChangeMaps3
set_option linter.unusedSimpArgs false
set_option linter.unusedVariables false
namespace Go.eB
open Go.RowKit Go.Sort
section
variable {α:Type} {enc:α->Value} {P:Program} {f:FuncId}
variable [Inhabited α]
theorem FG (yR:List α->List α) (hd:List α->Nat) (hdl:∀ l,hd l<=l.length) (hlen:∀ l,(yR l).length=l.length) (h1:∀ z,(enc z).oneCell'=true) (rQ:∀ xs w,(callFunc f xs).run P w = .ok (.enter f xs) w)
  (hc:∀ (blk cap:Nat) (zs:List α) (w:World),Holds enc w blk 0 zs.toArray->blk<w.heap.size->zs.length<4611686018427387904->zs.length<=cap->Calls P f #[.slice (some ⟨blk,0,none⟩) zs.length cap] w fun e w'=>e = .returned (.slice (some ⟨blk,0,none⟩) (hd zs) cap)/\∃ n,w'=putRow enc (Sort.ahead w n) blk 0 (yR zs).toArray)
  {zs:List α} (hne:zs≠[]) (hsz:zs.length<=1000000):aF P f [.row 1 (zs.map fun z=>[.sc (enc z)])] [.cW 0 1 0 zs.length] (.cW 0 1 0 (hd zs)) [.row 1 ((yR zs).map fun z=>[.sc (enc z)])]:=by
 refine ⟨rQ,fun w st ρ vs hst hin hargs=>?_⟩;have hpos:0<zs.length:=List.length_pos_iff.2 hne;simp only[RL,R] at hargs;obtain ⟨v,vs',rfl,hv,rfl⟩:=hargs;rcases hv with ⟨_,_,h0,_⟩|⟨g,cap,A,hρ,hsh,hle,hcap,rfl,hA⟩
 ·omega
 have hro:=hin.objs 0;simp only[Po,RO,hρ] at hro;obtain ⟨cur,e,cap',r1,r2,r3,r4,r5⟩:=hro;have Ij:=hA (by omega);simp only[MH] at Ij;subst Ij;have hg:g<w.heap.size:=(zQ.1 r1).1
 have hH:Holds enc w g 0 zs.toArray:=by
  intro j hj;have hj':j<zs.length:=by simpa using hj
  have hz:zs[j]? = some zs[j]:=rF hj';refine ⟨?_,?_⟩
  ·rw[kO,KS r5 hz];simp[hj']
  ·simp[World.frozen?,r1]
 refine Calls.mono (hc g _ zs w hH hg (by omega) (by omega)) ?_;rintro ex w' ⟨rfl,n,hw⟩;have Zn:∀ u:World,grow u #[]=u:=fun u=>by simp[grow]
 rw[<- Zn (putRow enc (Sort.ahead w n) g 0 (yR zs).toArray)] at hw;generalize hos:(#[]:Array _)=os at hw;subst hw
 have hcell:∀ k,(grow (putRow enc (Sort.ahead w n) g 0 (yR zs).toArray) os).heap[k]? = if k<w.heap.size then (if g=k then some (.cells (putCells enc 0 (yR zs).toArray cur) e (0,0)) else w.heap[k]?) else (os[k-w.heap.size]?):=by
  intro k;simp only[grow,Array.getElem?_append,size_putRow,Sort.ahead]
  split
  ·simp only[putRow,mapBlock,Vp]
   split
   ·rename_i e1;subst e1;simp[r1,onCells]
   ·rfl
  ·rfl
 have JK:(grow (putRow enc (Sort.ahead w n) g 0 (yR zs).toArray) os).heap[g]? = some (.cells (putCells enc 0 (yR zs).toArray cur) e (0,0)):=by rw[hcell,bC hg,bC rfl]
 have hsize:w.heap.size<=(grow (putRow enc (Sort.ahead w n) g 0 (yR zs).toArray) os).heap.size:=by
  simp only[grow,Array.size_append,size_putRow,Sort.ahead];omega
 have hcs:(putCells enc 0 (yR zs).toArray cur).size=cur.size:=by simp[putCells]
 refine ⟨_,rfl,ρ,?_,fun _ _=>rfl,?_,fun j=>?_,fun j g' hj hg'=>?_,fun j j' g' hj hj' e1 e2=>?_,fun j g' hj hh=>?_⟩
 ·refine ⟨rfl,rfl,rfl,hsize,fun k hk hn=>?_,fun g' m hs=>?_⟩
  ·rw[hcell,bC hk,aE];rintro rfl;exact hn ⟨0,by simp, .inl hρ⟩
  ·obtain ⟨uq,e2,h3,h4⟩:=hs;have hlt:g'<w.heap.size:=(zQ.1 h3).1;by_cases Ta:g=g'
   ·subst Ta;rw[r1] at h3;cases h3;exact ⟨_,e,JK,by rw[hcs];exact h4⟩
   ·exact ⟨uq,e2,by rw[hcell,bC hlt,aE Ta];exact h3,h4⟩
 ·simp only[R];have:=hdl zs;refine .inr ⟨g,cap,some ⟨g,0,none⟩,hρ,?_,by omega,hcap,rfl,fun _=>by simp⟩;obtain ⟨uq,e2,h3,h4⟩:=hsh;rw[r1] at h3;cases h3;exact ⟨_,e,JK,by rw[hcs];exact h4⟩
 ·cases j with
  | succ j=>simp[RO]
  | zero=>
    simp only[Po,RO,hρ];have lE:zs.length<=cur.size:=by rw[r2.size];simpa using r4
    refine ⟨_,e,cap',JK,⟨by rw[hcs];exact r2.size,fun v hv=>?_⟩,r3,by simpa[hlen] using r4,FE h1 fun j z hj=>?_⟩
    ·obtain ⟨i,hi⟩:=Vs hv;rw[oe,lJ,ku] at hi;obtain ⟨x,hx,Wc⟩:=hi;subst Wc
     split
     ·exact h1 _
     ·exact r2.one x (fS (by rw[oe];exact hx))
    ·have hjl:j<(yR zs).length:=(jM.1 hj).1;have R8:j<cur.size:=by rw[hlen] at hjl;omega
     rw[kO,cell_of_row _ g j _ e (0,0) JK,lJ,Pf R8];simp only[Option.map_some,bC hjl,hj,Option.getD_some]
 ·cases j with
  | succ j=>simp at hj
  | zero=>exact .inr ⟨0,by simp,hg'⟩
 ·cases j with
  | succ j=>simp at hj
  | zero=>
    cases j' with
    | succ j=>simp at hj'
    | zero=>rfl
 ·cases j with
  | succ j=>simp at hj
  | zero=>exact Ie (hin.hlt 0 g' (by simp) hh) hsize
theorem Sh.xB {own:Nat->Prop} (w:World):gL own w w:=⟨rfl,rfl,rfl,iU _,fun _ _ _=>rfl,fun _ _ h=>h⟩
theorem FH (rQ:∀ xs w,(callFunc f xs).run P w = .ok (.enter f xs) w)
  (hc:∀ (p:Option Addr) (cap:Nat) (w:World),Calls P f #[.slice p 0 cap] w fun e w'=>e = .returned (.tuple #[])/\w'=w):aF P f [.row 1 []] [.cW 0 1 0 0] (.cT []) [.row 1 []]:=by
 refine ⟨rQ,fun w st ρ vs hst hin hargs=>?_⟩;simp only[RL,R] at hargs;obtain ⟨v,vs',rfl,hv,rfl⟩:=hargs
 obtain ⟨a,c,rfl⟩:∃ a c,v = .slice a 0 c:=by
  rcases hv with ⟨_,_,_,a,rfl⟩|⟨g,cap,A,_,_,_,_,rfl,_⟩
  ·exact ⟨_,_,rfl⟩
  ·exact ⟨_,_,rfl⟩
 refine Calls.mono (hc a c w) ?_;rintro ex w' ⟨rfl,rfl⟩;refine ⟨_,rfl,ρ,Sh.xB w',fun _ _=>rfl,?_,fun j=>?_,fun j g' hj hg'=>?_,fun j j' g' hj hj' e1 e2=>?_,fun j g' hj hh=>?_⟩
 ·simp[R,RL]
 ·cases j with
  | succ j=>simp[RO]
  | zero=>
    have:=hin.objs 0;simp only[Po,RO,RR] at this ⊢;exact this
 ·cases j with
  | succ j=>simp at hj
  | zero=>exact .inr ⟨0,by simp,hg'⟩
 ·cases j with
  | succ j=>simp at hj
  | zero=>
    cases j' with
    | succ j=>simp at hj'
    | zero=>rfl
 ·cases j with
  | succ j=>simp at hj
  | zero=>exact hin.hlt 0 g' (by simp) hh
theorem IB (rQ:∀ xs w,(callFunc f xs).run P w = .ok (.enter f xs) w)
  (hc:∀ (p:Option Addr) (cap:Nat) (w:World),Calls P f #[.slice p 0 cap] w fun e w'=>e = .returned (.slice p 0 cap)/\w'=w):aF P f [.row 1 []] [.cW 0 1 0 0] (.cW 0 1 0 0) [.row 1 []]:=by
 refine ⟨rQ,fun w st ρ vs hst hin hargs=>?_⟩;simp only[RL,R] at hargs;obtain ⟨v,vs',rfl,hv,rfl⟩:=hargs
 obtain ⟨a,c,rfl⟩:∃ a c,v = .slice a 0 c:=by
  rcases hv with ⟨_,_,_,a,rfl⟩|⟨g,cap,A,_,_,_,_,rfl,_⟩
  ·exact ⟨_,_,rfl⟩
  ·exact ⟨_,_,rfl⟩
 refine Calls.mono (hc a c w) ?_;rintro ex w' ⟨rfl,rfl⟩;refine ⟨_,rfl,ρ,Sh.xB w',fun _ _=>rfl,?_,fun j=>?_,fun j g' hj hg'=>?_,fun j j' g' hj hj' e1 e2=>?_,fun j g' hj hh=>?_⟩
 ·simp only[R];exact hv
 ·cases j with
  | succ j=>simp[RO]
  | zero=>
    have:=hin.objs 0;simp only[Po,RO,RR] at this ⊢;exact this
 ·cases j with
  | succ j=>simp at hj
  | zero=>exact .inr ⟨0,by simp,hg'⟩
 ·cases j with
  | succ j=>simp at hj
  | zero=>
    cases j' with
    | succ j=>simp at hj'
    | zero=>rfl
 ·cases j with
  | succ j=>simp at hj
  | zero=>exact hin.hlt 0 g' (by simp) hh
end
theorem cZ.PN {σ σ' σ2:St} (o:Nat) {k:Nat} {rows:List (List D)} (hg:az σ.heap o = .row k rows) (he:σ.gu o k rows=σ') (h:cZ σ' σ2):cZ σ σ2:=cZ.trans (he▸cZ.freeze σ o k rows hg) h
end Go.eB
namespace Go.eB
open Go.RowKit Go.MapKept
inductive KK where
 | int (k:IntKind)
 | str
def KK.desc:KK->TypeDesc
 | .int k=> .int k
 | .str=> .string
def rR:TK->Option KK
 | .int k=>some (.int k)
 | .string=>some .str
 | _=>none
def k5:TK->Option (TypeId×TypeId)
 | .map k e=>some (k,e)
 | _=>none
def KK.ok:KK->Value->Bool
 | .int k, .int k' _=>decide (k'=k)
 | .str, .string _=>true
 | _,_=>false
theorem KK.isKey {kk:KK} {v:Value} (h:kk.ok v=true):IsKey kk.desc v:=by
 cases kk<;>cases v<;>simp_all[KK.ok,KK.desc,IsKey]
theorem IC {d:TypeDesc} {kk:KK} (h:rR (nD d)=some kk):d=kk.desc:=by
 cases d<;>simp[nD,rR] at h<;>subst h<;>rfl
theorem rS {d:TypeDesc} {k e:TypeId} (h:k5 (nD d)=some (k,e)):d = .map k e:=by
 cases d<;>simp[nD,k5] at h;obtain ⟨rfl,rfl⟩:=h;rfl
def oa:Value->Value->Bool
 | .int _ a, .int _ b=>a==b
 | .string a, .string b=>a.toList==b.toList
 | _,_=>false
theorem s6 {kk:KK} {a b:Value} (ha:IsKey kk.desc a) (hb:IsKey kk.desc b):oa a b=true↔a=b:=by
 cases kk<;>cases a<;>cases b<;>simp_all[KK.desc,IsKey,oa];rename_i x y;rw[SA,SA];constructor
 ·intro h;cases x;cases y;simpa using Ig.1 h
 ·rintro rfl;rfl
def l9 (k:Value):List (Value×D)->Option D
 | []=>none
 | p::l=>if oa p.1 k=true then some p.2 else l9 k l
def qa (k:Value) (v:D):List (Value×D)->List (Value×D)
 | []=>[(k,v)]
 | p::l=>if oa p.1 k=true then (k,v)::l else p::qa k v l
def xC (k:Value):List (Value×D)->List (Value×D)
 | []=>[]
 | p::l=>if oa p.1 k=true then l else p::xC k l
def ME (w:World) (st:Nat->Prop):List (Value×D)->List MapEntry->Prop
 | [],es=>es=[]
 | p::l,es=> ∃ e es',es=e::es'/\e.key=p.1/\R w st (fun _=>none) p.2 e.val/\ME w st l es'
theorem ME.mono {w w':World} {st st':Nat->Prop} (hc:∀ g off,st g->w'.cell? ⟨g,off,none⟩=w.cell? ⟨g,off,none⟩) (hs:∀ g n,Sh w g n->Sh w' g n) (hst:∀ g,st g->st' g):∀ {l:List (Value×D)} {es:List MapEntry},ME w st l es->ME w' st' l es
 | [],_,h=>h
 | _::_,_,h=>by
   obtain ⟨e,es',h1,h2,h3,h4⟩:=h;exact ⟨e,es',h1,h2,R.mono hc hs hst h3,ME.mono hc hs hst h4⟩
theorem ME.length {w:World} {st:Nat->Prop}:∀ {l:List (Value×D)} {es:List MapEntry},ME w st l es->es.length=l.length
 | [],_,h=>by rw[h];rfl
 | _::_,_,h=>by
   obtain ⟨e,es',rfl,_,_,h4⟩:=h;simp[ME.length h4]
theorem ME.push {w:World} {st:Nat->Prop} {k:Value} {d:D} {v:Value} {b:Nat} (hv:R w st (fun _=>none) d v):∀ {l:List (Value×D)} {es:List MapEntry},ME w st l es->ME w st (l++[(k,d)]) (es++[⟨k,v,b⟩])
 | [],_,h=>by
   rw[show _=[] from h];exact ⟨_,[],rfl,rfl,hv,rfl⟩
 | _::_,_,h=>by
   obtain ⟨e,es',rfl,h2,h3,h4⟩:=h;exact ⟨e,_,rfl,h2,h3,ME.push hv h4⟩
theorem ME.find {w:World} {st:Nat->Prop} {kk:KK} {k:Value} (hk:IsKey kk.desc k):∀ {l:List (Value×D)} {es:List MapEntry} (i:Nat),ME w st l es->(∀ x∈es,IsKey kk.desc x.key)->
  (l9 k l=none/\Instr.findNow kk.desc k es i=some none/\(∀ x∈es,x.key≠k)/\(∀ d,qa k d l=l++[(k,d)])/\xC k l=l)\/
   ∃ j e d,l9 k l=some d/\Instr.findNow kk.desc k es i=some (some (i+j,e.val))/\es[j]? = some e/\e.key=k/\R w st (fun _=>none) d e.val/\(∀ d' v' b,R w st (fun _=>none) d' v'->ME w st (qa k d' l) (es.set j ⟨k,v',b⟩))/\ME w st (xC k l) (es.eraseIdx j)
 | [],_,i,h,hks=>by
   rw[show _=[] from h];exact .inl ⟨rfl,rfl,by simp,fun _=>rfl,rfl⟩
 | p::l,_,i,h,hks=>by
   obtain ⟨e,es',rfl,h2,h3,h4⟩:=h;have he:=hks e (.head _);obtain ⟨r,hr,hiff⟩:=sameNow_of_keys hk he;rw[h2] at hr hiff he;cases r with
   | true=>
     have e1:k=p.1:=hiff.1 rfl;have hb:oa p.1 k=true:=(s6 he hk).2 e1.symm;refine .inr ⟨0,e,p.2,by simp[l9,hb],by simp[Instr.findNow,h2,hr],rfl,by rw[h2,e1],h3,fun d' v' b hv=>?_,?_⟩
     ·simp only[qa,hb,jg];exact ⟨_,es',rfl,rfl,hv,h4⟩
     ·simp only[xC,hb,jg];exact h4
   | false=>
     have hne:k≠p.1:=fun q=>by have:=hiff.2 q;cases this
     have hb:oa p.1 k=false:=by rw[Bool.eq_false_iff];exact fun q=>hne ((s6 he hk).1 q).symm
     rcases ME.find hk (i+1) h4 (fun x hx=>hks x (.tail _ hx)) with ⟨f1,f2,f3,f4,f5⟩|⟨j,e',d,f1,f2,f3,f4,f5,f6,f7⟩
     ·refine .inl ⟨by simp[l9,hb,f1],by simp[Instr.findNow,h2,hr,f2],fun x hx=>?_,fun d=>by simp[qa,hb,f4],by simp[xC,hb,f5]⟩;cases hx with
      | head=>rw[h2];exact hne.symm
      | tail _ hx=>exact f3 x hx
     ·refine .inr ⟨j+1,e',d,by simp[l9,hb,f1],by simp[Instr.findNow,h2,hr,f2];omega,by simpa using f3,f4,f5,fun d' v' b hv=>?_,?_⟩
      ·simp only[qa,hb,pT,jd,List.set_cons_succ];exact ⟨e,_,rfl,h2,h3,f6 d' v' b hv⟩
      ·simp only[xC,hb,pT,jd,List.eraseIdx_cons_succ];exact ⟨e,_,rfl,h2,h3,f7⟩
def xD (kk:KK) (l:List (Value×D)):Ext where
 qt:=[]
 φ w st _ _ g:= ∃ es clock,w.heap[g]? = some (.map es clock)/\Stamped es clock/\(∀ x∈es.toList,IsKey kk.desc x.key)/\ME w st l es.toList
 lt h:=by
  obtain ⟨_,_,h1,_⟩:=h;exact (zQ.1 h1).1
 mono hc hs hst hb _ h:=by
  obtain ⟨es,cl,h1,h2,h3,h4⟩:=h;exact ⟨es,cl,hb.trans h1,h2,h3,h4.mono hc hs hst⟩
 loc _ h:=h
theorem KT {kk:KK} {l:List (Value×D)}:(xD kk l).qt=[]:=rfl
def Tc (kk:KK) (l:List (Value×D)) (k:Value) (born:Nat):Ext where
 qt:=[]
 φ w st _ _ g:= ∃ es clock,w.heap[g]? = some (.map es clock)/\Stamped es clock/\(∀ x∈es.toList,IsKey kk.desc x.key)/\ME w st l es.toList/\∃ e∈es.toList,e.key=k/\e.born=born
 lt h:=by
  obtain ⟨_,_,h1,_⟩:=h;exact (zQ.1 h1).1
 mono hc hs hst hb _ h:=by
  obtain ⟨es,cl,h1,h2,h3,h4,h5⟩:=h;exact ⟨es,cl,hb.trans h1,h2,h3,h4.mono hc hs hst,h5⟩
 loc _ h:=h
theorem KU {kk:KK} {l:List (Value×D)} {k:Value} {born:Nat}:(Tc kk l k born).qt=[]:=rfl
attribute [go_sem] KT KU
section
variable {w0:World} {p:Pm} {σ:St} {a:Act} {w:World} {ρ:Nm}
def eF (w:World) (g:Nat) (es:Array MapEntry) (c:Nat):World:={ w with heap:=w.heap.setIfInBounds g (.map es c) }
theorem ig {g:Nat} {es es':Array MapEntry} {c c':Nat} (h:w.heap[g]? = some (.map es c)):(eF w g es' c').heap[g]? = some (.map es' c'):=(heap_set h).1
theorem lK {g k:Nat} {es':Array MapEntry} {c':Nat} (h:k≠g):(eF w g es' c').heap[k]? = w.heap[k]? :=by
 unfold eF;simp[sF h]
theorem qb {g:Nat} {es':Array MapEntry} {c':Nat}:(eF w g es' c').heap.size=w.heap.size:=by simp[eF]
theorem aU.Dr (h:aU w0 p σ a w ρ) {o g:Nat} {x:Obj} {es es':Array MapEntry} {c c':Nat} (eL:az σ.heap o≠ .dead) (hg:ρ o=some (some g)) (nF:w.heap[g]? = some (.map es c))
  (JY:x≠ .dead) (hx:∀ st:Nat->Prop,(∀ k,bO p σ.heap ρ w k->st k)->(∀ k off,bO p σ.heap ρ w k->(eF w g es' c').cell? ⟨k,off,none⟩=w.cell? ⟨k,off,none⟩)->(∀ k n,Sh w k n->Sh (eF w g es' c') k n)->RO (eF w g es' c') st ρ o x):aU w0 p { σ with heap:=aG σ.heap o x } a (eF w g es' c') ρ:=by
 have qY:ec σ.heap o=true:=cC eL;have kT:∀ o',o'≠o->az (aG σ.heap o x) o'=az σ.heap o':=fun o' e=>aM e
 have iZ:∀ o',az (aG σ.heap o x) o'≠ .dead↔az σ.heap o'≠ .dead:=by
  intro o';by_cases e:o'=o
  ·subst e;rw[aX qY];exact ⟨fun _=>eL,fun _=>JY⟩
  ·rw[kT o' e]
 have hb:∀ k,k≠g->(eF w g es' c').heap[k]? = w.heap[k]? :=fun k hk=>lK hk
 have hs:∀ k n,Sh w k n->Sh (eF w g es' c') k n:=by
  intro k n hh;refine ct (hb k ?_) hh;rintro rfl;obtain ⟨cc,e2,h1,h2⟩:=hh;rw[nF] at h1;simp at h1
 have hst:∀ k,bO p σ.heap ρ w k->bO p (aG σ.heap o x) ρ (eF w g es' c') k:=by
  intro k hk;exact ⟨hk.1,by rw[qb];exact hk.2.1,fun o' ho'=>hk.2.2 o' ((iZ o').1 ho')⟩
 have hc:∀ k off,bO p σ.heap ρ w k->(eF w g es' c').cell? ⟨k,off,none⟩=w.cell? ⟨k,off,none⟩:=by
  intro k off hk;refine World.cell?_of_block (w:=w) (a:=⟨k,off,none⟩) (hb k ?_);rintro rfl;exact hk.2.2 o eL (.inl hg)
 refine ⟨h.open_,h.defers,RL.mono hc hs hst h.slots,fun o'=>?_,fun o1 o2 g' h1 h2=>h.inj o1 o2 g' ((iZ o1).1 h1) ((iZ o2).1 h2),fun o1 g' h1=>h.fresh o1 g' ((iZ o1).1 h1),fun o1 g' h1 e1=>by rw[qb];exact h.hlt o1 g' ((iZ o1).1 h1) e1,?_,h.kf⟩
 ·by_cases e':o'=o
  ·subst e';rw[aX qY];exact hx _ hst hc hs
  ·show RO _ _ ρ o' (az (aG σ.heap o x) o');rw[kT o' e'];by_cases hd:az σ.heap o' = .dead
   ·rw[hd];simp[RO]
   ·refine RO.mono hc hs hst (fun k hk=>hb k ?_) (h.objs o');rintro rfl;exact e' (h.inj o' o k hd eL hk (.inl hg))
 ·refine h.below.trans (E9:=fun k=>k=g) ⟨rfl,rfl,rfl,by rw[qb];exact iU _,fun k hk hn=>hb k hn,hs⟩ ?_;rintro k hk rfl;rcases h.fresh o k eL (.inl hg) with h3|h3
  ·omega
  ·exact h3
theorem aU.QZ (h:aU w0 p σ a w ρ) {d:Nat} {kk:KK} (hh:hfree σ.heap d=true):
  aU w0 p { σ.bF [d] with heap:=aG (σ.bF [d]).heap d (.ext (xD kk [])) } a (w.alloc (.map #[] 0)) (fJ ρ d (some (some w.heap.size))):=by
 have hk:aU w0 p (σ.bF [d]) a w (fJ ρ d (some (some w.heap.size))):=h.bF (fun o' e=>gd (fun e'=>e (by simp[e']))) (fun o' h1=>eU (fun e'=>absurd (ep.1 hh).2 (by omega)))
 refine hk.born (gM (by simp)) (by rw[jw];exact (ep.1 hh).1) (fun g hg=>?_) (fun g hg=>by simp[fJ] at hg) (fun g hg _=>Below.heap_alloc w _ g hg) (fun g n hs=>ct (Below.heap_alloc w _ g hs.lt) hs) (by simp) rfl rfl rfl (by simp)
  (fun st hst=>?_)
 ·rw[jR] at hg;simp only[fD] at hg;subst hg;refine ⟨fun hs=>by have:=hs.2.1;omega,fun o' ho' e'=>?_, .inl h.below.size⟩;have:=hk.mQ ho' e';omega
 ·simp only[RO];exact ⟨w.heap.size,bK _ _, #[],0,(heap_alloc w _).1,stamped_empty 0,by simp,rfl⟩
end
section
variable {P:Program} {ds:List (Option Nat)} {Q:Exit->St->Prop} {σ σ':St} {l:List Oper} {dst:Option Nat} {ty:TypeId} {pos:String} {af:Array Edge} {g:Option (Nat×Bool)}
theorem rT {P:Program} {t kt et:TypeId} {ti ki:TI} {kk:KK} (ht:aA P t=some ti) (hk:k5 ti.kind=some (kt,et)) (zf:aA P kt=some ki) (hkk:rR ki.kind=some kk):P.underlying t=some (.map kt et)/\P.underlying kt=some kk.desc:=by
 obtain ⟨i,d,h1,h2,h3,h4,h5,h6⟩:=cr ht;obtain ⟨j,d',g1,g2,g3,g4,g5,g6⟩:=cr zf;rw[<- h6] at hk;rw[<- g6] at hkk;rw[rS hk] at h2;rw[IC hkk] at g2;exact ⟨h2,g2⟩
theorem ah.makeMap {t kt et:TypeId} {ti ki:TI} {kk:KK} {d:Nat} (hg:bq ds g σ=some true) (ht:aA P t=some ti) (hk:k5 ti.kind=some (kt,et)) (zf:aA P kt=some ki) (hkk:rR ki.kind=some kk) (hh:hfree σ.heap d=true)
  (he:σ.BE d (.ext (xD kk [])) (.mp d)=σ') (hn:ah P ds Q l σ'):ah P ds Q (⟨some d, .makeMap t none,ty,pos,af,g⟩::l) σ:=by
 intro all ha w0 p a w hr;have hw:=aT (all:=all) (o:=⟨some d, .makeMap t none,ty,pos,af,g⟩) (by rw[bV ha];exact hg) hr;obtain ⟨ρ,hr⟩:=hr
 have hrun:(execOp a.eval ⟨some d, .makeMap t none,ty,pos,af,g⟩).run P w = .ok (.value (.map (some w.heap.size))) (w.alloc (.map #[] 0)):=by
  simp[execOp,Instr.makeMap,Result.andThen]
 subst he;refine bp hw (.inl hrun) (hn all ha w0 p _ _ ⟨fJ ρ d (some (some w.heap.size)),?_⟩);exact (hr.QZ hh).put (some d) (by simp only[R];exact ⟨_,bK _ _,rfl⟩)
theorem JO {d:Nat} {t:TypeId} {r:Option Operand} (h:ah P ds Q (⟨some d, .makeMap t r,ty,pos,af,g⟩::l) σ):ah P ds Q (⟨some d, .makeMap t r,ty,pos,af,g⟩::l) σ:=h
def NI:Bool->Value->Option D->D
 | true,_,some d=> .cT [d, .sc (.bool true)]
 | true,z,none=> .cT [R1 z, .sc (.bool false)]
 | false,_,some d=>d
 | false,z,none=>R1 z
theorem ah.lookup {t kt et:TypeId} {ti ki ei:TI} {kk:KK} {o:Nat} {x k:Operand} {kv:Value} {m:List (Value×D)} {ok:Bool} {r:Option D} (hg:bq ds g σ=some true) (ht:aA P t=some ti) (hk:k5 ti.kind=some (kt,et)) (zf:aA P kt=some ki) (hkk:rR ki.kind=some kk) (het:aA P et=some ei)
  (hx:bh σ x = .mp o) (hm:az σ.heap o = .ext (xD kk m)) (hkey:bh σ k = .sc kv) (hok:kk.ok kv=true) (hf:l9 kv m=r) (he:σ.put dst (NI ok ei.zero r)=σ') (hn:ah P ds Q l σ'):ah P ds Q (⟨dst, .lookup t x k ok,ty,pos,af,g⟩::l) σ:=by
 intro all ha w0 p a w hr;have hw:=aT (all:=all) (o:=⟨dst, .lookup t x k ok,ty,pos,af,g⟩) (by rw[bV ha];exact hg) hr;obtain ⟨ρ,hr⟩:=hr;obtain ⟨hu,vl⟩:=rT ht hk zf hkk;have h1:=hr.bh x;rw[hx] at h1;simp only[R] at h1;obtain ⟨gm,hρ,mM⟩:=h1;have h2:=hr.bh k;rw[hkey] at h2;simp only[R] at h2;have ho:=hr.objs o;rw[hm] at ho;simp only[RO] at ho;obtain ⟨g',FI,es,cl,hb,hst,hks,hme⟩:=ho;rw[hρ] at FI;simp only[fD] at FI;subst FI;have iF:=KK.isKey hok;have hz:=(ej het w).2.2.2.1;rcases ME.find iF 0 hme hks with ⟨f1,f2,_⟩|⟨j,e,d,f1,f2,f3,f4,f5,_⟩
 ·have hrun:(execOp a.eval ⟨dst, .lookup t x k ok,ty,pos,af,g⟩).run P w = .ok (.value (if ok then .tuple #[ei.zero, .bool false] else ei.zero)) w:=by
   cases ok<;>simp[execOp,Instr.lookup,run_underlying hu,mM,h2,JE hb,run_checkKey vl iF,run_findKey vl f2,hz,Result.andThen]
  refine bp hw (.inl hrun) (hn all ha w0 p _ _ ⟨ρ,?_⟩);subst he;refine hr.put dst ?_;rw[<- hf,f1];cases ok
  ·exact JX _
  ·simp only[NI,R];refine ⟨_,rfl,?_⟩;simp only[RL];exact ⟨_,_,rfl,JX _,_,_,rfl,by simp[R],rfl⟩
 ·have hrun:(execOp a.eval ⟨dst, .lookup t x k ok,ty,pos,af,g⟩).run P w = .ok (.value (if ok then .tuple #[e.val, .bool true] else e.val)) w:=by
   cases ok<;>simp[execOp,Instr.lookup,run_underlying hu,mM,h2,JE hb,run_checkKey vl iF,run_findKey vl f2,Result.andThen]
  refine bp hw (.inl hrun) (hn all ha w0 p _ _ ⟨ρ,?_⟩);subst he;refine hr.put dst ?_;rw[<- hf,f1];cases ok
  ·exact f5.lT
  ·simp only[NI,R];refine ⟨_,rfl,?_⟩;simp only[RL];exact ⟨_,_,rfl,f5.lT,_,_,rfl,by simp[R],rfl⟩
theorem gA {t:TypeId} {x k:Operand} {ok:Bool} (h:ah P ds Q (⟨dst, .lookup t x k ok,ty,pos,af,g⟩::l) σ):ah P ds Q (⟨dst, .lookup t x k ok,ty,pos,af,g⟩::l) σ:=h
theorem NJ {w0:World} {p:Pm} {a:Act} {w:World} {ρ:Nm} (hr:aU w0 p σ a w ρ) {o gm:Nat} {kk:KK} {m:List (Value×D)} {es:Array MapEntry} {cl:Nat} {kv v:Value} {d:D}
  (hm:az σ.heap o≠ .dead) (hρ:ρ o=some (some gm)) (hb:w.heap[gm]? = some (.map es cl)) (hst:Stamped es cl) (hks:∀ x∈es.toList,IsKey kk.desc x.key) (hme:ME w (bO p σ.heap ρ w) m es.toList) (hkey:IsKey kk.desc kv) (hd:R w (bO p σ.heap ρ w) (fun _=>none) d v):
  ∃ es' Sb,aU w0 p { σ with heap:=aG σ.heap o (.ext (xD kk (qa kv d m))) } a (eF w gm es' Sb) ρ/\
    ((l9 kv m=none/\Instr.findNow kk.desc kv es.toList 0=some none/\es'=es.push ⟨kv,v,cl⟩/\Sb=cl+1/\aU w0 p { σ with heap:=aG σ.heap o (.ext (Tc kk (qa kv d m) kv cl)) } a (eF w gm es' Sb) ρ)\/
      ∃ j e dd,l9 kv m=some dd/\Instr.findNow kk.desc kv es.toList 0=some (some (j,e.val))/\es[j]? = some e/\e.key=kv/\R w (bO p σ.heap ρ w) (fun _=>none) dd e.val/\es'=es.modify j (fun e=>{ e with key:=kv,val:=v })/\Sb=cl):=by
 rcases ME.find hkey 0 hme hks with ⟨f1,f2,f3,f4,_⟩|⟨j,e,dd,f1,f2,f3,f4,f5,f6,_⟩
 ·have NK:∀ x∈(es.push ⟨kv,v,cl⟩).toList,IsKey kk.desc x.key:=by
   intro x hx;simp only[Array.toList_push,lS,rG] at hx;rcases hx with hx|rfl
   ·exact hks x hx
   ·exact hkey
  have yZ:=stamped_push hst (val:=v) f3
  have Td:∀ st:Nat->Prop,(∀ k,bO p σ.heap ρ w k->st k)->(∀ k off,bO p σ.heap ρ w k->(eF w gm (es.push ⟨kv,v,cl⟩) (cl+1)).cell? ⟨k,off,none⟩=w.cell? ⟨k,off,none⟩)->(∀ k n,Sh w k n->Sh (eF w gm (es.push ⟨kv,v,cl⟩) (cl+1)) k n)->ME (eF w gm (es.push ⟨kv,v,cl⟩) (cl+1)) st (qa kv d m) (es.push ⟨kv,v,cl⟩).toList:=by
   intro st h1 hc hs;rw[f4,Array.toList_push];exact ME.push (R.mono hc hs h1 hd) (hme.mono hc hs h1)
  refine ⟨es.push ⟨kv,v,cl⟩,cl+1,?_, .inl ⟨f1,f2,rfl,rfl,?_⟩⟩
  ·refine hr.Dr hm hρ hb (by simp) fun st h1 hc hs=>?_;simp only[RO];exact ⟨gm,hρ,_,_,ig hb,yZ,NK,Td st h1 hc hs⟩
  ·refine hr.Dr hm hρ hb (by simp) fun st h1 hc hs=>?_;simp only[RO];exact ⟨gm,hρ,_,_,ig hb,yZ,NK,Td st h1 hc hs,⟨kv,v,cl⟩,by simp,rfl,rfl⟩
 ·have hj:es[j]? = some e:=by simpa using f3
  have hkj:∀ e',es[j]? = some e'->({ e' with key:=kv,val:=v }:MapEntry).key=e'.key:=fun e' he'=>by rw[hj] at he';cases he';exact f4.symm
  refine ⟨es.modify j (fun e=>{ e with key:=kv,val:=v }),cl,?_, .inr ⟨j,e,dd,f1,by simpa using f2,hj,f4,f5,rfl,rfl⟩⟩;refine hr.Dr hm hρ hb (by simp) fun st h1 hc hs=>?_;simp only[RO];refine ⟨gm,hρ,_,_,ig hb,stamped_modify hst _ _ (fun _ _=>rfl) (fun e' _ he'=>hkj e' he'),isKey_modify hks _ _ hkj,?_⟩
  have hmod:(es.modify j (fun e=>{ e with key:=kv,val:=v })).toList=es.toList.set j ⟨kv,v,e.born⟩:=by
   rw[Array.toList_modify];exact Go.ChangeMaps.modify_eq_set _ _ _ _ f3
  rw[hmod];exact (f6 d v e.born hd).mono hc hs h1
theorem qc {w0:World} {p:Pm} {a:Act} {w:World} {ρ:Nm} (hr:aU w0 p σ a w ρ) {x:Operand} {o:Nat} {e:Ext} (hx:bh σ x = .mp o) (hm:az σ.heap o = .ext e):∃ gm,a.eval x = .map (some gm)/\ρ o=some (some gm)/\e.φ w (bO p σ.heap ρ w) ρ (ρ.hid o) gm:=by
 have h1:=hr.bh x;rw[hx] at h1;simp only[R] at h1;obtain ⟨gm,hρ,mM⟩:=h1;have ho:=hr.objs o;rw[hm] at ho;simp only[RO] at ho;obtain ⟨g',FI,h⟩:=ho;rw[hρ] at FI;simp only[fD] at FI;subst FI;exact ⟨gm,mM,hρ,h⟩
theorem ah.mapUpdate {t kt et:TypeId} {ti ki:TI} {kk:KK} {o:Nat} {x k y:Operand} {kv:Value} {m:List (Value×D)} {d:D} (hg:bq ds g σ=some true) (ht:aA P t=some ti) (hk:k5 ti.kind=some (kt,et)) (zf:aA P kt=some ki) (hkk:rR ki.kind=some kk)
  (hx:bh σ x = .mp o) (hm:az σ.heap o = .ext (xD kk m)) (hkey:bh σ k = .sc kv) (hok:kk.ok kv=true) (hy:bh σ y=d) (hp:wW d=true) (he:St.put { σ with heap:=aG σ.heap o (.ext (xD kk (qa kv d m))) } dst (.sc undef)=σ') (hn:ah P ds Q l σ'):ah P ds Q (⟨dst,.mapUpdate t x k y,ty,pos,af,g⟩::l) σ:=by
 intro all ha w0 p a w hr;have hw:=aT (all:=all) (o:=⟨dst, .mapUpdate t x k y,ty,pos,af,g⟩) (by rw[bV ha];exact hg) hr;obtain ⟨ρ,hr⟩:=hr;obtain ⟨hu,vl⟩:=rT ht hk zf hkk;obtain ⟨gm,mM,hρ,es,cl,hb,hst,hks,hme⟩:=qc hr hx hm;have h2:=hr.bh k;rw[hkey] at h2;simp only[R] at h2;have h3:=hr.bh y;rw[hy] at h3;have iF:=KK.isKey hok;obtain ⟨es',Sb,i4,Te⟩:=NJ hr (by rw[hm];simp) hρ hb hst hks hme iF (rK hp h3)
 have hrun:(execOp a.eval ⟨dst, .mapUpdate t x k y,ty,pos,af,g⟩).run P w = .ok .skip (eF w gm es' Sb):=by
  rcases Te with ⟨_,f2,rfl,rfl,_⟩|⟨j,e,dd,_,f2,f3,f4,_,rfl,rfl⟩
  ·simp[execOp,Instr.mapUpdate,run_underlying hu,mM,h2,JE hb,run_checkKey vl iF,run_findKey vl f2,run_setObj_map _ hb,Result.andThen,eF]
  ·simp[execOp,Instr.mapUpdate,run_underlying hu,mM,h2,JE hb,run_checkKey vl iF,run_findKey vl f2,f3,f4,run_keyThatStays iF,run_setObj_map _ hb,Result.andThen,eF]
 refine bp hw (.inr ⟨rfl,hrun⟩) (hn all ha w0 p _ _ ⟨ρ,?_⟩);subst he;exact i4.put dst (by simp[R])
theorem kS {t:TypeId} {x k y:Operand} (h:ah P ds Q (⟨dst, .mapUpdate t x k y,ty,pos,af,g⟩::l) σ):ah P ds Q (⟨dst, .mapUpdate t x k y,ty,pos,af,g⟩::l) σ:=h
theorem ah.IE {t t' kt et:TypeId} {ti ki:TI} {kk:KK} {o:Nat} {x k:Operand} {kv:Value} {m:List (Value×D)} (hg:bq ds g σ=some true) (ht:aA P t=some ti) (hk:k5 ti.kind=some (kt,et)) (zf:aA P kt=some ki) (hkk:rR ki.kind=some kk)
  (hx:bh σ x = .mp o) (hm:az σ.heap o = .ext (xD kk m)) (hkey:bh σ k = .sc kv) (hok:kk.ok kv=true) (he:{ σ with heap:=aG σ.heap o (.ext (xD kk (xC kv m))) }=σ') (hn:ah P ds Q l σ'):ah P ds Q (⟨none,.call { callee:= .builtin .delete,args:= #[x,k],argTypes:= #[t,t'] },ty,pos,af,g⟩::l) σ:=by
 intro all ha w0 p a w hr;have hw:=aT (all:=all) (o:=⟨none, .call { callee:= .builtin .delete,args:= #[x,k],argTypes:= #[t,t'] },ty,pos,af,g⟩) (by rw[bV ha];exact hg) hr;obtain ⟨ρ,hr⟩:=hr;obtain ⟨hu,vl⟩:=rT ht hk zf hkk;obtain ⟨gm,mM,hρ,es,cl,hb,hst,hks,hme⟩:=qc hr hx hm;have h2:=hr.bh k;rw[hkey] at h2;simp only[R] at h2;have iF:=KK.isKey hok;have eL:az σ.heap o≠ .dead:=by rw[hm];simp
 subst he;rcases ME.find iF 0 hme hks with ⟨f1,f2,f3,f4,f5⟩|⟨j,e,dd,f1,f2,f3,f4,f5,f6,f7⟩
 ·have hrun:(execOp a.eval ⟨none, .call { callee:= .builtin .delete,args:= #[x,k],argTypes:= #[t,t'] },ty,pos,af,g⟩).run P w = .ok (.value (.tuple #[])) (eF w gm es cl):=by
   simp[execOp,resolve,invoke,builtin,Builtin.delete_,run_underlying hu,mM,h2,JE hb,run_checkKey vl iF,run_findKey vl f2,run_setObj_map _ hb,Result.andThen,eF]
  refine bp hw (.inl hrun) (hn all ha w0 p _ _ ⟨ρ,?_⟩);refine hr.Dr eL hρ hb (by simp) fun st h1 hc hs=>?_;simp only[RO];rw[f5];exact ⟨gm,hρ,_,_,ig hb,hst,hks,hme.mono hc hs h1⟩
 ·have hrun:(execOp a.eval ⟨none, .call { callee:= .builtin .delete,args:= #[x,k],argTypes:= #[t,t'] },ty,pos,af,g⟩).run P w = .ok (.value (.tuple #[])) (eF w gm (es.eraseIdxIfInBounds j) cl):=by
   simp[execOp,resolve,invoke,builtin,Builtin.delete_,run_underlying hu,mM,h2,JE hb,run_checkKey vl iF,run_findKey vl f2,run_setObj_map _ hb,Result.andThen,eF]
  refine bp hw (.inl hrun) (hn all ha w0 p _ _ ⟨ρ,?_⟩);refine hr.Dr eL hρ hb (by simp) fun st h1 hc hs=>?_;simp only[RO];refine ⟨gm,hρ,_,_,ig hb,stamped_erase hst j,fun y hy=>?_,?_⟩
  ·rw[Vl] at hy;exact hks y (List.mem_of_mem_eraseIdx hy)
  ·rw[Vl];exact f7.mono hc hs h1
theorem isLen {x:Operand} {t:TypeId} (h:ah P ds Q (⟨dst, .call { callee:= .builtin .len,args:= #[x],argTypes:= #[t] },ty,pos,af,g⟩::l) σ):ah P ds Q (⟨dst, .call { callee:= .builtin .len,args:= #[x],argTypes:= #[t] },ty,pos,af,g⟩::l) σ:=h
theorem Ct {x k:Operand} {t t':TypeId} (h:ah P ds Q (⟨none,.call { callee:= .builtin .delete,args:= #[x,k],argTypes:= #[t,t'] },ty,pos,af,g⟩::l) σ):ah P ds Q (⟨none,.call { callee:= .builtin .delete,args:= #[x,k],argTypes:= #[t,t'] },ty,pos,af,g⟩::l) σ:=h
attribute [go_sem] rR k5 NI KK.ok
end
mutual
theorem KW:∀ d:D,Al d d
 | .any=>trivial
 | .sc _=>rfl
 | .agg cs=>lQ cs
 | .sl _ _=>⟨rfl,rfl⟩
 | .cT cs=>lQ cs
 | .ro cs=>lQ cs
 | .ref _ _=>⟨rfl,rfl⟩
 | .jN _ _ _ _=>⟨rfl,rfl,rfl,rfl⟩
 | .cW _ _ _ _=>⟨rfl,rfl,rfl,rfl⟩
 | .fn _ cs=>⟨rfl,lQ cs⟩
 | .mp _=>rfl
theorem lQ:∀ l:List D,qR l l
 | []=>trivial
 | d::l=>⟨KW d,lQ l⟩
end
end Go.eB
