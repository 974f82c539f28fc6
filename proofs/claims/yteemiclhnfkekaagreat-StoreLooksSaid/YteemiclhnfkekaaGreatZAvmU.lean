/- The abstract machine, parts ZQ to ZQ. -/
import Derived.Test.YteemiclhnfkekaaGreatZAvmT
set_option linter.unusedSimpArgs false
set_option linter.unusedVariables false
namespace Go.eB
open Go.RowKit
def pe (k:Nat) (ls:List (List (List D))):Obj:=match ls with
 | []=> .row 1 []
 | l::ls=> .ext (cH k ((l::ls).map .own))
theorem qE {k:Nat} {ls:List (List (List D))} (h:0<ls.length):pe k ls = .ext (cH k (ls.map .own)):=by
 cases ls with
 | nil=>simp at h
 | cons l ls=>rfl
theorem tf:∀ a b:List NC,jz (a++b)=jz a++jz b
 | [],b=>rfl
 | .own _::a,b=>by simp[jz,tf a b]
 | .nm _ _::a,b=>by simp[jz,tf a b]
 | .hole::a,b=>by simp[jz,tf a b]
def Yp (k:Nat) (a b:List (List (List D))):Prop:=Di (pe k a) (pe k b)
theorem uD:∀ {h:List (Nat×Obj)} {o d:Nat} {x y:Obj},o≠d->aG (aG h o x) d y=aG (aG h d y) o x
 | [],_,_,_,_,_=>rfl
 | (p,z)::h,o,d,x,y,hne=>by
   by_cases e:p=o
   ·subst e;simp[aG,hne]
   ·by_cases e':p=d
    ·subst e';simp[aG,e]
    ·simp[aG,e,e',uD (h:=h) hne]
theorem nO:∀ {h:List (Nat×Obj)} {o:Nat} {x y:Obj},aG (aG h o x) o y=aG h o y
 | [],_,_,_=>rfl
 | (p,z)::h,o,x,y=>by
   by_cases e:p=o
   ·simp[aG,e]
   ·simp[aG,e,nO (h:=h)]
theorem uE:∀ {h:List (Nat×Obj)} {o:Nat} {x:Obj},az h o=x->x≠ .dead->aG h o x=h
 | [],_,_,_,_=>rfl
 | (p,z)::h,o,x,hx,hd=>by
   by_cases e:p=o
   ·simp only[az,e,jg] at hx;simp[aG,e,hx]
   ·simp only[az,e,jd] at hx;simp[aG,e,uE hx hd]
theorem uF:∀ {h:List (Nat×Obj)} {o d:Nat} {x:Obj},rI d (aG h o x)=aG (rI d h) o (x.kz d)
 | [],_,_,_=>rfl
 | (p,z)::h,o,d,x=>by
   by_cases e:p=o
   ·simp[aG,rI,e]
   ·simp[aG,rI,e,uF (h:=h)]
section
variable {P:Program} {σ:St}
theorem Lf {σ:St} {h:List (Nat×Obj)} (x:Operand):bh { σ with heap:=h } x=bh σ x:=by cases x<;>rfl
theorem cP.Hp {o:Oper} {s x:Operand} {t:TypeId} {d k L n:Nat} {ti ei:TI} {e:TypeId} {ls:List (List (List D))} {c:NC} (ho:o.op = .call { callee:= .builtin .append,args:= #[s,x],argTypes:= #[t,t] })
  (nJ:o.dst=some d) (ht:aA P t=some ti) (hk:ti.kind.elem? = some e) (he:aA P e=some ei) (h1:ei.size=1) (hzs:ei.zero.cells.size=ei.size) (qZ:ei.zero.cells.toList.all (·.oneCell')=true) (hb0:0<ei.bytes) (hh:hfree σ.heap d=true)
  (hs:bh σ s = .cW L 1 0 n) (hL:az σ.heap L=pe k ls) (hn:n=ls.length) (hne:L≠d) (hx:qf σ k x c) (hm:iP d (jz [c])=false) (hb:(n+1)*ei.bytes<=140737488355328):
  cP P σ o (St.put (({ σ.kill d with heap:=aG (aG (σ.kill d).heap L .dead) d (.ext (cH k (ls.map .own++[c]))) }:St).kill L) (some d) (.cW d 1 0 (n+1))):=by
 cases ls with
 | cons l ls=>
   rw[qE (by simp)] at hL;refine cP.wB ho nJ ht hk he h1 hzs qZ hb0 hh hs hL (by simpa using hn) hne hx ?_ hb;rw[tf,nN,List.nil_append];exact hm
 | nil=>
   simp only[List.length_nil] at hn;subst hn;have hL':az σ.heap L = .row 1 []:=hL;have hlo:az σ.heap L≠ .dead:=by rw[hL'];simp
   rintro w0 p a w ⟨ρ,h⟩;have hro:=h.objs L;rw[hL'] at hro;cases hq:ρ L with
   | none=>simp only[RO,hq] at hro
   | some bo=>
     cases bo with
     | some g=>
       have Wy:aU w0 p { σ with heap:=aG σ.heap L (.ext (cH k [])) } a w ρ:=h.xp hlo (by simp) (fun st hst=>by
        simp only[RO,hq] at hro ⊢;obtain ⟨cur,e',cap,r1,r2,r3,r4,r5⟩:=hro
        exact ⟨g,rfl,cur,e',cap,r1,r2,r3,by simp,[],rfl,by simp,by simp,by simp⟩)
       have hx':qf { σ with heap:=aG σ.heap L (.ext (cH k [])) } k x c:=by
        intro w0 p a w ρ h2
        have h3:aU w0 p { σ with heap:=aG (aG σ.heap L (.ext (cH k []))) L (.row 1 []) } a w ρ:=h2.xp (by rw[show ({ σ with heap:=aG σ.heap L (.ext (cH k [])) }:St).heap=aG σ.heap L (.ext (cH k [])) from rfl,aX (cC hlo)];simp) (by simp) (fun st hst=>by
         have:=h2.objs L;rw[show ({ σ with heap:=aG σ.heap L (.ext (cH k [])) }:St).heap=aG σ.heap L (.ext (cH k [])) from rfl,aX (cC hlo)] at this;simp only[RO] at this ⊢;obtain ⟨g',g1,cur,e',cap,r1,r2,r3,r4,_⟩:=this;rw[g1]
         exact ⟨cur,e',cap,r1,r2,r3,by simp,by simp[RR]⟩)
        rw[nO,uE hL' (by simp)] at h3;obtain ⟨b,cc,u,x1,x2,x3,x4⟩:=hx w0 p a w ρ h3;refine ⟨b,cc,u,x1,x2,x3,iQ.mono (fun _ _ _=>rfl) (fun _ _ hs=>hs) (fun b hb=>⟨hb.1,hb.2.1,fun o' ho'=>hb.2.2 o' ?_⟩) (fun _ _=>rfl) x4⟩;by_cases e':o'=L
        ·subst e';exact hlo
        ·rw[show ({ σ with heap:=aG σ.heap L (.ext (cH k [])) }:St).heap=aG σ.heap L (.ext (cH k [])) from rfl,aM e'] at ho';exact ho'
       have hfr:hfree (aG σ.heap L (.ext (cH k []))) d=true:=by
        obtain ⟨f1,f2⟩:=ep.1 hh;exact ep.2 ⟨by rw[fY];exact f1,f2⟩
       have hap:=cP.wB (σ:={ σ with heap:=aG σ.heap L (.ext (cH k [])) }) (cs:=[]) (c:=c) ho nJ ht hk he h1 hzs qZ hb0 hfr (by rw[Lf];exact hs) (aX (cC hlo)) rfl hne hx' hm hb w0 p a w ⟨ρ,Wy⟩;obtain ⟨v,w',e1,e2⟩:=hap;refine ⟨v,w',e1,?_⟩
       have e3:aG (aG (({ σ with heap:=aG σ.heap L (.ext (cH k [])) }:St).kill d).heap L .dead) d (.ext (cH k ([]++[c])))=aG (aG (σ.kill d).heap L .dead) d (.ext (cH k (([]:List (List (List D))).map .own++[c]))):=by
        simp only[St.kill,uF,eN];rw[uD (h:=rI d σ.heap) hne,nO]
       rw[e3] at e2;exact e2
     | none=>
       obtain ⟨i,dt,hi,hu,z1,z2,z3,z4⟩:=cr ht;obtain ⟨ie,de,Fk,R5,y1,y2,y3,y4⟩:=cr he
       have QB:P.underlying t=some (.slice e):=by
        cases hkk:ti.kind with
        | slice e'=>
          rw[hkk] at hk z4;simp only[TK.elem?,fD] at hk;subst hk;rw[iY z4] at hu;exact hu
        | _=>rw[hkk] at hk;simp[TK.elem?] at hk
       obtain ⟨bx,cc,u,x1,x2,x3,x4⟩:=hx w0 p a w ρ h;have has:=h.bh s;rw[hs] at has;simp only[R,hq] at has;rcases has with ⟨_,_,_,a',has⟩|⟨g,_,_,q1,_⟩
       ·have kg:∀ v w',(Builtin.append_ #[t,t] o.type #[.slice a' 0 0, .slice (some bx) 1 cc]).run P w = .ok v w'->(execOp a.eval o).run P w = .ok (.value v) w':=by
         intro v w' h2;simp[execOp,ho,resolve,invoke,builtin,has,x1,h2]
        have hall:=gR (P:=P) (w:=w) t o.type e ie ei.zero QB Fk y3 a' 0 0 [] (by simp) (iU _) (.inl rfl) (some bx) 1 cc [u] (by rw[y1,h1];rfl) (.inr ⟨bx,rfl,fun j v hj=>by
          cases j with
          | zero=>simp only[dJ,fD] at hj;subst hj;rw[show bx.add 0=bx by cases bx;rfl];exact x2
          | succ j=>simp at hj⟩) (fun v hv=>by rw[rG.1 hv];exact x3)
         (fun _ hle=>by omega) (by unfold maxLen;omega) (by rw[y2];omega) (fun v hv=>yN.1 qZ v hv) (by simp)
        rcases hall with ⟨q,_⟩|⟨_,hle,_⟩|⟨_,hlt,zh,oE,r1,r2,r3,r4,r5⟩
        ·cases q
        ·omega
        ·rw[y1,h1] at r3 r4;simp only[JV,kO,List.nil_append] at r4 r1;have PU:=r3 (by rw[hzs,h1]);refine ⟨_,_, .inl (kg _ _ r5),?_⟩;have hsh:∀ b m,Sh w b m->Sh (w.drew.alloc (.cells oE e)) b m:=fun b m Lc=>ct (Below.heap_alloc w.drew _ b Lc.lt) Lc
         have hnb:=h.drew.jS (ids:=[d]) (o:=d) (x:= .ext (cH k [c])) (cur:=oE) (e:=e) (by simp) hh (by simp) (fun st hst=>by
          simp only[RO];refine ⟨w.heap.size,bK _ _,oE,e,zh,heap_alloc_new w.drew _,PU,r2,r1,[none],rfl,?_,?_,?_⟩
          ·intro j b hj;cases j<;>simp at hj
          ·intro i' j b hi';cases i'<;>simp at hi'
          ·intro j c' bo hj MS;cases j with
           | succ j=>simp at hj
           | zero=>
             simp only[dJ,fD] at hj MS;subst hj MS;refine ⟨u,?_,iQ.vU (ρ:=ρ) (fun o' len e'=>?_) (iQ.mono (fun g off hg=>World.cell?_alloc_lt w.drew _ ⟨g,off,none⟩ hg.2.1) hsh hst (fun b e'=>by cases e') x4)⟩
             ·have:oE.toList[0]? = some u:=by
               have h5:=congrArg (fun l:List Value=>l[0]?) r4;simp only[dJ] at h5
               rwa [EK (by omega)] at h5
              rw[<- oe];exact this
             ·refine eU (fun e2=>?_);subst e2;subst e'
              simp[jz,iP] at hm)
         have hkk:=hnb.kill L (fun _ _=>same.refl) (fun _=>rfl)
         have e3:({ σ.bF [d] with heap:=aG (σ.bF [d]).heap d (.ext (cH k [c])) }:St).kill L=({ σ.kill d with heap:=aG (aG (σ.kill d).heap L .dead) d (.ext (cH k (([]:List (List (List D))).map .own++[c]))) }:St).kill L:=by
          simp only[St.bF,St.kill,uF,eN,List.nil_append];rw[uD (o:=L) (d:=d) hne,nO,nO]
         rw[e3] at hkk;rw[nJ];refine ⟨_,hkk.put (some d) ?_⟩;simp only[R,bK];exact .inr ⟨w.heap.size,zh,_,rfl,⟨oE,e,heap_alloc_new w.drew _,PU.size⟩,by omega,r2,rfl,fun _=>by simp⟩
       ·cases q1
end
section
variable {P:Program} {ds:List (Option Nat)} {Q:Exit->St->Prop} {σ σ':St} {l:List Oper} {dst:Option Nat} {ty:TypeId} {pos:String} {af:Array Edge} {g:Option (Nat×Bool)}
theorem Lg {ls:List (List (List D))} {j:Nat} {c:NC}:((ls.map NC.own).set j c).length=ls.length:=by simp
theorem ah.Hp {s x:Operand} {t:TypeId} {d k L n:Nat} {ti ei:TI} {e:TypeId} {ls:List (List (List D))} {c:NC} (hg:bq ds g σ=some true) (ht:aA P t=some ti) (hk:ti.kind.elem? = some e) (he:aA P e=some ei) (h1:ei.size=1) (hzs:ei.zero.cells.size=ei.size) (qZ:ei.zero.cells.toList.all (·.oneCell')=true) (hb0:0<ei.bytes)
  (hs:bh σ s = .cW L 1 0 n) (hL:az σ.heap L=pe k ls) (hx:qf σ k x c) (hh:hfree σ.heap d=true) (hne:L≠d) (hm:iP d (jz [c])=false) (hn:n=ls.length) (hb:(n+1)*ei.bytes<=140737488355328)
  (hst:St.put (({ σ.kill d with heap:=aG (aG (σ.kill d).heap L .dead) d (.ext (cH k (ls.map .own++[c]))) }:St).kill L) (some d) (.cW d 1 0 (n+1))=σ') (uB:ah P ds Q l σ'):ah P ds Q (⟨some d,.call { callee:= .builtin .append,args:= #[s,x],argTypes:= #[t,t] },ty,pos,af,g⟩::l) σ:=
 fun all ha=>dH.oZ (by rw[bV ha];exact hg) (by subst hst;exact cP.Hp rfl rfl ht hk he h1 hzs qZ hb0 hh hs hL hn hne hx hm hb) (uB all ha)
theorem cZ.PW {σ2:St} (o j d k:Nat) {n:Nat} {ls:List (List (List D))} {rows:List (List D)} (hj:j<ls.length) (ho:az σ.heap o = .ext (cH k ((ls.map .own).set j (.nm d n)))) (hd:az σ.heap d = .row k rows) (hn:n=rows.length) (hk:0<k) (zg:d<1000) (hne:o≠d)
  (he:(({ σ with heap:=aG (aG σ.heap d .dead) o (pe k (ls.set j rows)) }:St).kill d)=σ') (h:cZ σ' σ2):cZ σ σ2:=by
 have e:((ls.map NC.own).set j (NC.nm d n)).set j (NC.own rows)=(ls.set j rows).map .own:=by rw[List.set_set,qN]
 refine cZ.Ld o j d k ho (by rw[uf (by simpa using hj)]) hd hn hk zg hne (by rw[e,nN];rfl) ?_ h;rw[e, <- he,qE (by simpa using (show 0<ls.length by omega))]
theorem ay.PW {c:Code} (o j d k:Nat) {n:Nat} {ls:List (List (List D))} {rows:List (List D)} (hj:j<ls.length) (ho:az σ.heap o = .ext (cH k ((ls.map .own).set j (.nm d n)))) (hd:az σ.heap d = .row k rows) (hn:n=rows.length) (hk:0<k) (zg:d<1000) (hne:o≠d)
  (he:(({ σ with heap:=aG (aG σ.heap d .dead) o (pe k (ls.set j rows)) }:St).kill d)=σ') (h:ay P c Q σ'):ay P c Q σ:=ay.imp (cZ.PW o j d k hj ho hd hn hk zg hne he (cZ.refl _)) h
theorem cZ.PX {σ2:St} (o d k:Nat) {n:Nat} {ls:List (List (List D))} {rows:List (List D)} (ho:az σ.heap o = .ext (cH k (ls.map .own++[.nm d n]))) (hd:az σ.heap d = .row k rows) (hn:n=rows.length) (hk:0<k) (zg:d<1000) (hne:o≠d)
  (he:(({ σ with heap:=aG (aG σ.heap d .dead) o (pe k (ls++[rows])) }:St).kill d)=σ') (h:cZ σ' σ2):cZ σ σ2:=by
 have e:(ls.map NC.own++[NC.nm d n]).set ls.length (NC.own rows)=(ls++[rows]).map .own:=by
  rw[Pk _ _ (by simp)];simp
 refine cZ.Ld o ls.length d k ho (by rw[EJ (by simp)];simp) hd hn hk zg hne (by rw[e,nN];rfl) ?_ h;rw[e, <- he,qE (by simp)]
theorem ay.PX {c:Code} (o d k:Nat) {n:Nat} {ls:List (List (List D))} {rows:List (List D)} (ho:az σ.heap o = .ext (cH k (ls.map .own++[.nm d n]))) (hd:az σ.heap d = .row k rows) (hn:n=rows.length) (hk:0<k) (zg:d<1000) (hne:o≠d)
  (he:(({ σ with heap:=aG (aG σ.heap d .dead) o (pe k (ls++[rows])) }:St).kill d)=σ') (h:ay P c Q σ'):ay P c Q σ:=ay.imp (cZ.PX o d k ho hd hn hk zg hne he (cZ.refl _)) h
theorem cZ.Oi (σ:St) (o k:Nat) {ls:List (List (List D))} (ho:az σ.heap o=pe k ls):cZ σ { σ with heap:=aG σ.heap o (.row 1 (ls.map fun rows=>[.sl k rows])) }:=by
 cases ls with
 | nil=>rw[eN,uE (x:= .row 1 []) ho (by simp)];exact cZ.refl _
 | cons l ls=>exact cZ.eE σ o k (ho.trans (qE (by simp)))
theorem ay.Oi {c:Code} (o k:Nat) {ls:List (List (List D))} (ho:az σ.heap o=pe k ls) (he:({ σ with heap:=aG σ.heap o (.row 1 (ls.map fun rows=>[.sl k rows])) }:St)=σ') (h:ay P c Q σ'):ay P c Q σ:=ay.imp (he▸cZ.Oi σ o k ho) h
theorem aC.Oi {fn:Func} {ins:List Nat} {ret:D} {outs:List Obj} {e:Exit} (o k:Nat) {ls:List (List (List D))} (ho:az σ.heap o=pe k ls) (he:({ σ with heap:=aG σ.heap o (.row 1 (ls.map fun rows=>[.sl k rows])) }:St)=σ') (h:aC P fn ins ret outs e σ'):aC P fn ins ret outs e σ:=aC.imp (he▸cZ.Oi σ o k ho) h
end
section
variable {P:Program} {Q:Exit->St->Prop}
end
theorem GQ {P:Program} {fn:Func} {ins:List Nat} {ret:D} {outs:List Obj} {e:Exit} {σ:St} {rs:List ResultVar} (new:List Nat) {d:D} (hr:fn.results.toList=rs) (he:PK e=true) (hd:iw P σ rs=some d) (h:rB new d ins ret outs σ):aC P fn ins ret outs e σ:=by
 subst hr;unfold rB rC at h
 split at h
 ·rename_i d' xs h1 h2 h3;exact ⟨σ,fun _ _ _ _ h=>h,by cases e<;>simp_all[PK],new,d,l6 h1,hd,⟨d',h2,p7 h.1⟩,xs,h3,l8 h.2⟩
 ·exact h.elim
theorem xI {P:Program} {st:List Nat} {ds:List (Option Nat)} {Q:Exit->St->Prop} {e:Option St} {l:List Oper} (h:rV e P st ds Q l):rV e P st ds Q l:=h
theorem Hq {τ:Type} {I:τ->Prop} {μ:τ->Nat} {m:Nat} {s:List D} {h:List (Nat×Obj)} {s':τ->List D} {h':τ->List (Nat×Obj)} (t':τ) (hs:j4 s (s' t')) (hh:xm h (h' t')) (hI:I t') (hm:μ t'<m):
  ∃ t',I t'/\μ t'<m/\j4 (St.mk s h).slots (s' t')/\xm (St.mk s h).heap (h' t'):=⟨t',hI,hm,hs,hh⟩
theorem Dv {τ:Type} {I:τ->Prop} {μ:τ->Nat} {m:Nat} {σ:St} {s':τ->List D} {h':τ->List (Nat×Obj)} (t':τ) (hi:cZ σ { slots:=s' t',heap:=h' t' }) (hI:I t') (hm:μ t'<m):
  ∃ t',I t'/\μ t'<m/\cZ σ { slots:=s' t',heap:=h' t' }:=⟨t',hI,hm,hi⟩
attribute [go_sem] List.set_set Lg
end Go.eB
namespace Go.eB
open Go.RowKit Go.MapKept
inductive BC where
 | own (cs:List D)
 | nm (o:Nat)
def j7:List (Value×BC)->List Nat
 | []=>[]
 | (_, .own _)::l=>j7 l
 | (_, .nm o)::l=>o::j7 l
theorem tg {o:Nat} {k:Value}:∀ {l:List (Value×BC)} {j:Nat},l[j]? = some (k, .nm o)->o∈j7 l
 | [],j,h=>by simp at h
 | (k',c)::l,0,h=>by simp at h;obtain ⟨rfl,rfl⟩:=h;simp[j7]
 | (k',c)::l,j+1,h=>by
   have:=tg (l:=l) (j:=j) (by simpa using h);cases c<;>simp[j7,this]
def tj (w:World) (st:Nat->Prop) (ρ:Nat->Option (Option Nat)) (v:Value) (bo:Option Nat):BC->Prop
 | .own cs=> ∃ b cur e,bo=some b/\v = .pointer (some ⟨b,0,none⟩)/\w.heap[b]? = some (.cells cur e (0,0))/\RL w st (fun _=>none) cs cur.toList
 | .nm o=>bo=none/\R w st ρ (.ref o 0) v
theorem tj.mono {w w':World} {st st':Nat->Prop} {ρ:Nat->Option (Option Nat)} {c:BC} {v:Value} {bo:Option Nat} (hc:∀ g off,st g->w'.cell? ⟨g,off,none⟩=w.cell? ⟨g,off,none⟩) (hs:∀ g n,Sh w g n->Sh w' g n) (hst:∀ g,st g->st' g)
  (hb:∀ b,bo=some b->w'.heap[b]? = w.heap[b]?) (h:tj w st ρ v bo c):tj w' st' ρ v bo c:=by
 cases c with
 | own cs=>
   obtain ⟨b,cur,e,h1,h2,h3,h4⟩:=h;exact ⟨b,cur,e,h1,h2,(hb b h1).trans h3,RL.mono hc hs hst h4⟩
 | nm o=>exact ⟨h.1,R.mono hc hs hst h.2⟩
theorem tj.vU {w:World} {st:Nat->Prop} {ρ ρ':Nat->Option (Option Nat)} {c:BC} {v:Value} {bo:Option Nat} (hn:∀ o,c = .nm o->ρ' o=ρ o) (h:tj w st ρ v bo c):tj w st ρ' v bo c:=by
 cases c with
 | own cs=>exact h
 | nm o=>
   refine ⟨h.1,?_⟩;have:=h.2;simp only[R,hn o rfl] at this ⊢;exact this
def MB (w:World) (st:Nat->Prop) (ρ:Nat->Option (Option Nat)) (hd:Nat->Prop) (g:Nat) (l:List (Value×BC)) (es:List MapEntry) (bs:List (Option Nat)):Prop:=
 es.length=l.length/\bs.length=l.length/\(∀ (j b:Nat),bs[j]? = some (some b)->hd b/\b≠g)/\(∀ (i j b:Nat),bs[i]? = some (some b)->bs[j]? = some (some b)->i=j)/\
  ∀ (j:Nat) k c,l[j]? = some (k,c)->∃ e bo,es[j]? = some e/\bs[j]? = some bo/\e.key=k/\tj w st ρ e.val bo c
def eO (kk:KK) (l:List (Value×BC)):Ext where
 qt:=j7 l
 φ w st ρ hd g:= ∃ es clock,w.heap[g]? = some (.map es clock)/\Stamped es clock/\(∀ x∈es.toList,IsKey kk.desc x.key)/\∃ bs,MB w st ρ hd g l es.toList bs
 lt h:=by
  obtain ⟨_,_,h1,_⟩:=h;exact (zQ.1 h1).1
 mono hc hs hst hg hb h:=by
  obtain ⟨es,cl,h1,h2,h3,bs,m1,m2,m3,m4,m5⟩:=h;refine ⟨es,cl,hg.trans h1,h2,h3,bs,m1,m2,m3,m4,fun j k c hj=>?_⟩;obtain ⟨e,bo,e1,e2,e3,e4⟩:=m5 j k c hj;exact ⟨e,bo,e1,e2,e3,e4.mono hc hs hst (fun b h=>hb b (m3 j b (by rw[e2,h])).1)⟩
 loc hl h:=by
  obtain ⟨es,cl,h1,h2,h3,bs,m1,m2,m3,m4,m5⟩:=h;refine ⟨es,cl,h1,h2,h3,bs,m1,m2,m3,m4,fun j k c hj=>?_⟩;obtain ⟨e,bo,e1,e2,e3,e4⟩:=m5 j k c hj;exact ⟨e,bo,e1,e2,e3,e4.vU fun o h=>hl o (tg (by rw[hj,h]))⟩
theorem Dw {kk:KK} {l:List (Value×BC)}:(eO kk l).qt=j7 l:=rfl
section
variable {w:World} {st:Nat->Prop} {g:Nat} {ρ:Nat->Option (Option Nat)} {hd:Nat->Prop} {l:List (Value×BC)} {es:List MapEntry} {bs:List (Option Nat)}
theorem MB.set {hd':Nat->Prop} {st':Nat->Prop} {ρ':Nat->Option (Option Nat)} {j:Nat} {k:Value} {c c0:BC} {bo:Option Nat} (h:MB w st ρ hd g l es bs) (hj:l[j]? = some (k,c0))
  (Ds:∀ i k c bi v,i≠j->l[i]? = some (k,c)->bs[i]? = some bi->tj w st ρ v bi c->tj w st' ρ' v bi c)
  (N8:∀ i b,i≠j->bs[i]? = some (some b)->hd' b) (o9:∀ b,bo=some b->hd' b/\b≠g/\∀ i,i≠j->bs[i]? ≠some (some b)) (hc:∀ e bi,es[j]? = some e->bs[j]? = some bi->tj w st ρ e.val bi c0->tj w st' ρ' e.val bo c):MB w st' ρ' hd' g (l.set j (k,c)) es (bs.set j bo):=by
 obtain ⟨n0,n1,n2,n3,n4⟩:=h;have hjl:=(jM.1 hj).1;have hjb:j<bs.length:=by omega
 refine ⟨by simp[n0],by simp[n1],fun i b hi=>?_,fun i i' b hi hi'=>?_,fun i k' c' hi=>?_⟩
 ·by_cases e:i=j
  ·subst e;rw[uf hjb] at hi;have:=o9 b (by simpa using hi);exact ⟨this.1,this.2.1⟩
  ·rw[ua (sF e)] at hi;exact ⟨N8 i b e hi,(n2 i b hi).2⟩
 ·by_cases e:i=j<;>by_cases e':i'=j
  ·rw[e,e']
  ·subst e;rw[uf hjb] at hi;rw[ua (sF e')] at hi';exact absurd hi' ((o9 b (by simpa using hi)).2.2 i' e')
  ·subst e';rw[uf hjb] at hi';rw[ua (sF e)] at hi;exact absurd hi ((o9 b (by simpa using hi')).2.2 i e)
  ·rw[ua (sF e)] at hi;rw[ua (sF e')] at hi';exact n3 i i' b hi hi'
 ·by_cases e:i=j
  ·subst e;rw[uf hjl] at hi;simp only[fD,RY] at hi;obtain ⟨rfl,rfl⟩:=hi;obtain ⟨e0,bi,x1,x2,x3,x4⟩:=n4 i _ _ hj;exact ⟨e0,bo,x1,uf hjb,x3,hc e0 bi x1 x2 x4⟩
  ·rw[ua (sF e)] at hi;obtain ⟨e0,bi,x1,x2,x3,x4⟩:=n4 i k' c' hi;exact ⟨e0,bi,x1,by rw[ua (sF e)];exact x2,x3,Ds i k' c' bi e0.val e hi x2 x4⟩
end
theorem cZ.i7 (σ:St) (o j d:Nat) {kk:KK} {l:List (Value×BC)} {k:Value} {cs:List D} (ho:az σ.heap o = .ext (eO kk l)) (hj:l[j]? = some (k, .own cs)) (hd:hfree σ.heap d=true) (hne:o≠d) (hm:iP d (j7 l)=false):
  cZ σ { σ.kill d with heap:=aG (aG (σ.kill d).heap o (.ext (eO kk (l.set j (k, .nm d))))) d (.box cs) }:=by
 rintro w0 p a w ⟨ρ,h⟩;obtain ⟨QY,R9⟩:=ep.1 hd;have hro:=h.objs o;rw[ho] at hro;simp only[RO] at hro;obtain ⟨g,hg,es,cl,c1,c2,c3,bs,hN⟩:=hro;obtain ⟨e0,bo,hx1,o9,Zs,bb,cur,ee,rfl,hv,nF,Wz⟩:=hN.2.2.2.2 j _ _ hj
 let ρ1:Nm:=⟨fun y=>if y=d then some (some bb) else ρ y,fun y=>if y=d then fun _=>False else ρ.hid y⟩
 let ρ':Nm:=⟨fun y=>if y=d then some (some bb) else ρ y,fun y=>if y=d then fun _=>False else if y=o then fun b=>ρ.hid o b/\bb≠b else ρ.hid y⟩
 have hk:aU w0 p (σ.kill d) a w ρ1:=h.kill d (fun y e=>⟨by simp[ρ1,e],by simp[ρ1,e]⟩) (fun h1=>by omega);have hlo:az σ.heap o≠ .dead:=by rw[ho];simp
 have hmo:az (σ.kill d).heap o = .ext (eO kk l):=by
  rw[fI,aE hne,ho,Obj.kz,Dw,hm];rfl
 have N9:ec (σ.kill d).heap o=true:=cC (by rw[hmo];simp);have N8:ec (σ.kill d).heap d=true:=by rw[St.kill,fY,kC];exact QY
 have g1:az (aG (aG (σ.kill d).heap o (.ext (eO kk (l.set j (k, .nm d))))) d (.box cs)) d = .box cs:=aX (by rw[fY];exact N8);have g2:az (aG (aG (σ.kill d).heap o (.ext (eO kk (l.set j (k, .nm d))))) d (.box cs)) o = .ext (eO kk (l.set j (k, .nm d))):=by rw[aM hne,aX N9]
 have r2:ρ1.hid o=ρ.hid o:=by simp[ρ1,hne]
 have q1:∀ b,ow ρ' o b->ow ρ1 o b:=by
  intro b hb;rcases hb with hb|hb
  ·exact .inl hb
  ·right;simp only[ρ',hne,jd,jg] at hb;rw[r2];exact hb.1
 have q2:∀ b,ow ρ' d b->bb=b:=by
  intro b hb;rcases hb with hb|hb
  ·simpa[ρ'] using hb
  ·simp[ρ'] at hb
 have q3:ρ.hid o bb/\bb≠g:=hN.2.2.1 j bb o9
 have kW:=hk.turn (ρ':=ρ') (w':=w) (heap':=aG (aG (σ.kill d).heap o (.ext (eO kk (l.set j (k, .nm d))))) d (.box cs)) (fun y=>y=o\/y=d) (fun y=>rfl)
  (fun y hy=>by simp only[vQ] at hy;simp only[ρ',ρ1,hy.1,hy.2,jd])
  (fun y hy=>by simp only[vQ] at hy;rw[aM hy.2,aM hy.1])
  (fun y b hy hl hb=>by
   refine .inr ⟨o, .inl rfl,by rw[hmo];simp,?_⟩;rcases hy with rfl|rfl
   ·exact q1 b hb
   ·right;rw[r2, <- q2 b hb];exact q3.1)
  (fun y y' b hy hy' hl hl' hb hb'=>by
   have u7:ow ρ' o b->ow ρ' d b->False:=by
    intro u v;have e1:=q2 b v;rcases u with u|u
    ·have:ρ o=some (some b):=by simpa[ρ',hne] using u
     rw[hg] at this;simp only[fD] at this;exact q3.2 (e1.trans this.symm)
    ·simp only[ρ',hne,jd,jg] at u;exact u.2 e1
   rcases hy with rfl|rfl<;>rcases hy' with rfl|rfl
   ·rfl
   ·exact (u7 hb hb').elim
   ·exact (u7 hb' hb).elim
   ·rfl)
  (fun y b hy hl hb=>by
   rcases hy with rfl|rfl
   ·simp only[ρ',hne,jd,jg] at hb;exact h.hlt y b hlo hb.1
   ·simp[ρ'] at hb)
  (fun _ _ _=>rfl) (fun _ _ hs=>hs) (iU _) rfl rfl rfl
  (fun y hy st h1 h2=>by
   have hst:∀ b,bO p σ.heap ρ w b->st b:=fun b hb=>h1 b ⟨hb.1,hb.2.1,fun y' hy'=>by
    rw[fI] at hy';by_cases e:y'=d
    ·simp[e] at hy'
    ·rw[aE e,Obj.jP] at hy';have:same ρ ρ1 y':=⟨by simp[ρ1,e],by simp[ρ1,e]⟩
     rw[this.ow];exact hb.2.2 y' hy'⟩
   rcases hy with rfl|rfl
   ·rw[g2];refine ⟨g,by simpa[ρ',hne] using hg,es,cl,c1,c2,c3,bs.set j none,?_⟩;refine hN.set hj (fun i k' c bi v hi Oa _ hc=>?_) (fun i b hi kQ=>?_) (fun b hb=>by cases hb) (fun e bi he kQ _=>?_)
    ·refine tj.vU (ρ:=ρ) (fun o' e'=>?_) (tj.mono (fun _ _ _=>rfl) (fun _ _ hs=>hs) hst (fun _ _=>rfl) hc)
     have Tw:o'≠d:=fun e=>by
      have:=lU.2 (tg (by rw[Oa,e']));rw[e,hm] at this;cases this
     show ρ'.nm o'=ρ.nm o';simp[ρ',Tw]
    ·show ρ'.hid y b;simp only[ρ',hne,jd,jg];refine ⟨(hN.2.2.1 i b kQ).1,fun e=>hi (hN.2.2.2.1 i j b kQ (by rw[o9,e]))⟩
    ·rw[hx1] at he;simp only[fD] at he;subst he;refine ⟨rfl,?_⟩;simp only[R];exact ⟨bb,by simp[ρ'],hv⟩
   ·rw[g1];refine ⟨bb,cur,ee,by simp[ρ'],nF,?_⟩
    exact RL.lT (RL.mono (fun _ _ _=>rfl) (fun _ _ hs=>hs) hst Wz))
 exact ⟨ρ',kW.1⟩
theorem cZ.PY (σ:St) (o j d:Nat) {kk:KK} {l:List (Value×BC)} {k:Value} {cs:List D} (ho:az σ.heap o = .ext (eO kk l)) (hj:l[j]? = some (k,.nm d)) (hd:az σ.heap d = .box cs) (hp:jA cs=true) (zg:d<1000) (hne:o≠d) (hm:iP d (j7 (l.set j (k,.own cs)))=false):
  cZ σ (({ σ with heap:=aG (aG σ.heap d .dead) o (.ext (eO kk (l.set j (k, .own cs)))) }:St).kill d):=by
 rintro w0 p a w ⟨ρ,h⟩;have hro:=h.objs o;rw[ho] at hro;simp only[RO] at hro;obtain ⟨g,hg,es,cl,c1,c2,c3,bs,hN⟩:=hro;obtain ⟨e0,bo,hx1,o9,Zs,rfl,hno⟩:=hN.2.2.2.2 j _ _ hj;have hrd:=h.objs d;rw[hd] at hrd;simp only[RO] at hrd;obtain ⟨bd,cur,ee,hbd,nF,Wz⟩:=hrd;simp only[R] at hno;obtain ⟨bd',Rc,hv⟩:=hno;have WA:ρ.nm d=some (some bd):=hbd;rw[WA] at Rc;simp only[fD] at Rc;subst Rc;have hlo:az σ.heap o≠ .dead:=by rw[ho];simp
 have K8:az σ.heap d≠ .dead:=by rw[hd];simp
 have N9:ec σ.heap o=true:=cC hlo
 let ρ':Nm:=⟨ρ.nm,fun y=>if y=o then fun b=>ρ.hid o b\/bd=b else ρ.hid y⟩
 have g1:az (aG (aG σ.heap d .dead) o (.ext (eO kk (l.set j (k, .own cs))))) o = .ext (eO kk (l.set j (k, .own cs))):=aX (by rw[fY];exact N9);have g2:az (aG (aG σ.heap d .dead) o (.ext (eO kk (l.set j (k, .own cs))))) d = .dead:=by rw[aM (sF hne),aX (cC K8)]
 have q1:∀ b,ow ρ' o b->ow ρ o b\/ow ρ d b:=by
  intro b hb;rcases hb with hb|hb
  ·exact .inl (.inl hb)
  ·simp only[ρ',jg] at hb;rcases hb with hb|rfl
   ·exact .inl (.inr hb)
   ·exact .inr (.inl hbd)
 have kW:=h.turn (ρ':=ρ') (w':=w) (heap':=aG (aG σ.heap d .dead) o (.ext (eO kk (l.set j (k, .own cs))))) (fun y=>y=o\/y=d) (fun y=>rfl)
  (fun y hy=>by simp only[vQ] at hy;simp only[ρ',hy.1,jd])
  (fun y hy=>by simp only[vQ] at hy;rw[aM hy.1,aM hy.2])
  (fun y b hy hl hb=>by
   rcases hy with rfl|rfl
   ·rcases q1 b hb with h1|h1
    ·exact .inr ⟨y, .inl rfl,hlo,h1⟩
    ·exact .inr ⟨d, .inr rfl,K8,h1⟩
   ·exact absurd g2 hl)
  (fun y y' b hy hy' hl hl' hb hb'=>by
   rcases hy with rfl|rfl<;>rcases hy' with rfl|rfl
   ·rfl
   ·exact absurd g2 hl'
   ·exact absurd g2 hl
   ·rfl)
  (fun y b hy hl hb=>by
   rcases hy with rfl|rfl
   ·simp only[ρ',jg] at hb;rcases hb with hb|rfl
    ·exact h.hlt y b hlo hb
    ·exact h.mQ K8 (.inl hbd)
   ·exact absurd g2 hl)
  (fun _ _ _=>rfl) (fun _ _ hs=>hs) (iU _) rfl rfl rfl
  (fun y hy st hst _=>by
   rcases hy with rfl|rfl
   ·rw[g1];refine ⟨g,hg,es,cl,c1,c2,c3,bs.set j (some bd),?_⟩;have eh:ρ'.hid y=fun b=>ρ.hid y b\/bd=b:=by simp[ρ']
    refine hN.set hj (fun i k' c bi v hi Oa kQ hc=>tj.mono (fun _ _ _=>rfl) (fun _ _ hs=>hs) hst (fun _ _=>rfl) hc) (fun i b hi kQ=>by rw[eh];exact .inl (hN.2.2.1 i b kQ).1) (fun b hb=>?_) (fun e bi he kQ _=>?_)
    ·simp only[fD] at hb;subst hb;refine ⟨by rw[eh];exact .inr rfl,fun e'=>?_,fun i hi kQ=>?_⟩
     ·subst e';exact hne (h.inj y d bd hlo K8 (.inl hg) (.inl hbd))
     ·exact hne (h.inj y d bd hlo K8 (.inr (hN.2.2.1 i bd kQ).1) (.inl hbd))
    ·rw[hx1] at he;simp only[fD] at he;subst he;exact ⟨bd,cur,ee,rfl,hv,nF,jv hp (RL.mono (fun _ _ _=>rfl) (fun _ _ hs=>hs) hst Wz)⟩
   ·rw[g2];simp[RO])
 exact ⟨ρ',kW.1.kill d (fun _ _=>same.refl) (fun _=>rfl)⟩
end Go.eB
