/- The abstract machine, parts ZQ to ZQ. -/
import Derived.Test.YteemiclhnfkekaaGreatZAvmT
set_option linter.unusedSimpArgs false
set_option linter.unusedVariables false
namespace Go.fe
open Go.RowKit
def pe (k:Nat) (ls:List (List (List D))):Obj:=match ls with
 | []=> .row 1 []
 | l::ls=> .ext (cH k ((l::ls).map .own))
theorem qG {k:Nat} {ls:List (List (List D))} (h:0<ls.length):pe k ls = .ext (cH k (ls.map .own)):=by
 cases ls with
 | nil=>simp at h
 | cons l ls=>rfl
theorem s6:∀ a b:List NC,jz (a++b)=jz a++jz b
 | [],b=>rfl
 | .own _::a,b=>by simp[jz,s6 a b]
 | .nm _ _::a,b=>by simp[jz,s6 a b]
 | .hole::a,b=>by simp[jz,s6 a b]
def Yp (k:Nat) (a b:List (List (List D))):Prop:=Dd (pe k a) (pe k b)
theorem uB:∀ {h:List (Nat×Obj)} {o d:Nat} {x y:Obj},o≠d->aG (aG h o x) d y=aG (aG h d y) o x
 | [],_,_,_,_,_=>rfl
 | (p,z)::h,o,d,x,y,hne=>by
   by_cases e:p=o
   ·subst e;simp[aG,hne]
   ·by_cases e':p=d
    ·subst e';simp[aG,e]
    ·simp[aG,e,e',uB (h:=h) hne]
theorem nO:∀ {h:List (Nat×Obj)} {o:Nat} {x y:Obj},aG (aG h o x) o y=aG h o y
 | [],_,_,_=>rfl
 | (p,z)::h,o,x,y=>by
   by_cases e:p=o
   ·simp[aG,e]
   ·simp[aG,e,nO (h:=h)]
theorem uC:∀ {h:List (Nat×Obj)} {o:Nat} {x:Obj},az h o=x->x≠ .dead->aG h o x=h
 | [],_,_,_,_=>rfl
 | (p,z)::h,o,x,hx,hd=>by
   by_cases e:p=o
   ·simp only[az,e,jg] at hx;simp[aG,e,hx]
   ·simp only[az,e,jc] at hx;simp[aG,e,uC hx hd]
theorem uD:∀ {h:List (Nat×Obj)} {o d:Nat} {x:Obj},rK d (aG h o x)=aG (rK d h) o (x.ku d)
 | [],_,_,_=>rfl
 | (p,z)::h,o,d,x=>by
   by_cases e:p=o
   ·simp[aG,rK,e]
   ·simp[aG,rK,e,uD (h:=h)]
section
variable {P:Program} {σ:St}
theorem Lp {σ:St} {h:List (Nat×Obj)} (x:Operand):bg { σ with heap:=h } x=bg σ x:=by cases x<;>rfl
theorem cP.Hp {o:Oper} {s x:Operand} {t:TypeId} {d k L n:Nat} {ti ei:TI} {e:TypeId} {ls:List (List (List D))} {c:NC} (ho:o.op = .call { callee:= .builtin .append,args:= #[s,x],argTypes:= #[t,t] })
  (nJ:o.dst=some d) (ht:aA P t=some ti) (hk:ti.kind.elem? = some e) (he:aA P e=some ei) (h1:ei.size=1) (hzs:ei.zero.cells.size=ei.size) (qW:ei.zero.cells.toList.all (·.oneCell')=true) (hb0:0<ei.bytes) (hh:hfree σ.heap d=true)
  (hs:bg σ s = .cW L 1 0 n) (hL:az σ.heap L=pe k ls) (hn:n=ls.length) (hne:L≠d) (hx:qg σ k x c) (hm:iQ d (jz [c])=false) (hb:(n+1)*ei.bytes<=140737488355328):
  cP P σ o (St.put (({ σ.kill d with heap:=aG (aG (σ.kill d).heap L .dead) d (.ext (cH k (ls.map .own++[c]))) }:St).kill L) (some d) (.cW d 1 0 (n+1))):=by
 cases ls with
 | cons l ls=>
   rw[qG (by simp)] at hL;refine cP.wB ho nJ ht hk he h1 hzs qW hb0 hh hs hL (by simpa using hn) hne hx ?_ hb;rw[s6,nN,List.nil_append];exact hm
 | nil=>
   simp only[List.length_nil] at hn;subst hn;have hL':az σ.heap L = .row 1 []:=hL;have hlo:az σ.heap L≠ .dead:=by rw[hL'];simp
   rintro w0 p a w ⟨ρ,h⟩;have hro:=h.objs L;rw[hL'] at hro;cases hq:ρ L with
   | none=>simp only[RO,hq] at hro
   | some bo=>
     cases bo with
     | some g=>
       have Wv:aU w0 p { σ with heap:=aG σ.heap L (.ext (cH k [])) } a w ρ:=h.w5 hlo (by simp) (fun st hst=>by
        simp only[RO,hq] at hro ⊢;obtain ⟨cur,e',cap,r1,r2,r3,r4,r5⟩:=hro
        exact ⟨g,rfl,cur,e',cap,r1,r2,r3,by simp,[],rfl,by simp,by simp,by simp⟩)
       have hx':qg { σ with heap:=aG σ.heap L (.ext (cH k [])) } k x c:=by
        intro w0 p a w ρ h2
        have h3:aU w0 p { σ with heap:=aG (aG σ.heap L (.ext (cH k []))) L (.row 1 []) } a w ρ:=h2.w5 (by rw[show ({ σ with heap:=aG σ.heap L (.ext (cH k [])) }:St).heap=aG σ.heap L (.ext (cH k [])) from rfl,aX (cC hlo)];simp) (by simp) (fun st hst=>by
         have:=h2.objs L;rw[show ({ σ with heap:=aG σ.heap L (.ext (cH k [])) }:St).heap=aG σ.heap L (.ext (cH k [])) from rfl,aX (cC hlo)] at this;simp only[RO] at this ⊢;obtain ⟨g',g1,cur,e',cap,r1,r2,r3,r4,_⟩:=this;rw[g1]
         exact ⟨cur,e',cap,r1,r2,r3,by simp,by simp[RR]⟩)
        rw[nO,uC hL' (by simp)] at h3;obtain ⟨b,cc,u,x1,x2,x3,x4⟩:=hx w0 p a w ρ h3;refine ⟨b,cc,u,x1,x2,x3,iR.mono (fun _ _ _=>rfl) (fun _ _ hs=>hs) (fun b hb=>⟨hb.1,hb.2.1,fun o' ho'=>hb.2.2 o' ?_⟩) (fun _ _=>rfl) x4⟩;by_cases e':o'=L
        ·subst e';exact hlo
        ·rw[show ({ σ with heap:=aG σ.heap L (.ext (cH k [])) }:St).heap=aG σ.heap L (.ext (cH k [])) from rfl,aM e'] at ho';exact ho'
       have hfr:hfree (aG σ.heap L (.ext (cH k []))) d=true:=by
        obtain ⟨f1,f2⟩:=ep.1 hh;exact ep.2 ⟨by rw[fY];exact f1,f2⟩
       have hap:=cP.wB (σ:={ σ with heap:=aG σ.heap L (.ext (cH k [])) }) (cs:=[]) (c:=c) ho nJ ht hk he h1 hzs qW hb0 hfr (by rw[Lp];exact hs) (aX (cC hlo)) rfl hne hx' hm hb w0 p a w ⟨ρ,Wv⟩;obtain ⟨v,w',e1,e2⟩:=hap;refine ⟨v,w',e1,?_⟩
       have e3:aG (aG (({ σ with heap:=aG σ.heap L (.ext (cH k [])) }:St).kill d).heap L .dead) d (.ext (cH k ([]++[c])))=aG (aG (σ.kill d).heap L .dead) d (.ext (cH k (([]:List (List (List D))).map .own++[c]))):=by
        simp only[St.kill,uD,eM];rw[uB (h:=rK d σ.heap) hne,nO]
       rw[e3] at e2;exact e2
     | none=>
       obtain ⟨i,dt,hi,hu,z1,z2,z3,z4⟩:=cr ht;obtain ⟨ie,de,Fj,R4,y1,y2,y3,y4⟩:=cr he
       have QE:P.underlying t=some (.slice e):=by
        cases hkk:ti.kind with
        | slice e'=>
          rw[hkk] at hk z4;simp only[TK.elem?,fF] at hk;subst hk;rw[iW z4] at hu;exact hu
        | _=>rw[hkk] at hk;simp[TK.elem?] at hk
       obtain ⟨bx,cc,u,x1,x2,x3,x4⟩:=hx w0 p a w ρ h;have has:=h.bg s;rw[hs] at has;simp only[R,hq] at has;rcases has with ⟨_,_,_,a',has⟩|⟨g,_,_,q1,_⟩
       ·have kg:∀ v w',(Builtin.append_ #[t,t] o.type #[.slice a' 0 0, .slice (some bx) 1 cc]).run P w = .ok v w'->(execOp a.eval o).run P w = .ok (.value v) w':=by
         intro v w' h2;simp[execOp,ho,resolve,invoke,builtin,has,x1,h2]
        have hall:=gR (P:=P) (w:=w) t o.type e ie ei.zero QE Fj y3 a' 0 0 [] (by simp) (iU _) (.inl rfl) (some bx) 1 cc [u] (by rw[y1,h1];rfl) (.inr ⟨bx,rfl,fun j v hj=>by
          cases j with
          | zero=>simp only[dJ,fF] at hj;subst hj;rw[show bx.add 0=bx by cases bx;rfl];exact x2
          | succ j=>simp at hj⟩) (fun v hv=>by rw[rG.1 hv];exact x3)
         (fun _ hle=>by omega) (by unfold maxLen;omega) (by rw[y2];omega) (fun v hv=>yO.1 qW v hv) (by simp)
        rcases hall with ⟨q,_⟩|⟨_,hle,_⟩|⟨_,hlt,zm,oA,r1,r2,r3,r4,r5⟩
        ·cases q
        ·omega
        ·rw[y1,h1] at r3 r4;simp only[J3,kO,List.nil_append] at r4 r1;have PX:=r3 (by rw[hzs,h1]);refine ⟨_,_, .inl (kg _ _ r5),?_⟩;have hsh:∀ b m,Sh w b m->Sh (w.drew.alloc (.cells oA e)) b m:=fun b m Ll=>ct (Below.heap_alloc w.drew _ b Ll.lt) Ll
         have hnb:=h.drew.jS (ids:=[d]) (o:=d) (x:= .ext (cH k [c])) (cur:=oA) (e:=e) (by simp) hh (by simp) (fun st hst=>by
          simp only[RO];refine ⟨w.heap.size,bK _ _,oA,e,zm,heap_alloc_new w.drew _,PX,r2,r1,[none],rfl,?_,?_,?_⟩
          ·intro j b hj;cases j<;>simp at hj
          ·intro i' j b hi';cases i'<;>simp at hi'
          ·intro j c' bo hj MR;cases j with
           | succ j=>simp at hj
           | zero=>
             simp only[dJ,fF] at hj MR;subst hj MR;refine ⟨u,?_,iR.vS (ρ:=ρ) (fun o' len e'=>?_) (iR.mono (fun g off hg=>World.cell?_alloc_lt w.drew _ ⟨g,off,none⟩ hg.2.1) hsh hst (fun b e'=>by cases e') x4)⟩
             ·have:oA.toList[0]? = some u:=by
               have h5:=congrArg (fun l:List Value=>l[0]?) r4;simp only[dJ] at h5
               rwa [EJ (by omega)] at h5
              rw[<- nZ];exact this
             ·refine eT (fun e2=>?_);subst e2;subst e'
              simp[jz,iQ] at hm)
         have hkk:=hnb.kill L (fun _ _=>same.refl) (fun _=>rfl)
         have e3:({ σ.bF [d] with heap:=aG (σ.bF [d]).heap d (.ext (cH k [c])) }:St).kill L=({ σ.kill d with heap:=aG (aG (σ.kill d).heap L .dead) d (.ext (cH k (([]:List (List (List D))).map .own++[c]))) }:St).kill L:=by
          simp only[St.bF,St.kill,uD,eM,List.nil_append];rw[uB (o:=L) (d:=d) hne,nO,nO]
         rw[e3] at hkk;rw[nJ];refine ⟨_,hkk.put (some d) ?_⟩;simp only[R,bK];exact .inr ⟨w.heap.size,zm,_,rfl,⟨oA,e,heap_alloc_new w.drew _,PX.size⟩,by omega,r2,rfl,fun _=>by simp⟩
       ·cases q1
end
section
variable {P:Program} {ds:List (Option Nat)} {Q:Exit->St->Prop} {σ σ':St} {l:List Oper} {dst:Option Nat} {ty:TypeId} {pos:String} {af:Array Edge} {g:Option (Nat×Bool)}
theorem Lr {ls:List (List (List D))} {j:Nat} {c:NC}:((ls.map NC.own).set j c).length=ls.length:=by simp
theorem ah.Hp {s x:Operand} {t:TypeId} {d k L n:Nat} {ti ei:TI} {e:TypeId} {ls:List (List (List D))} {c:NC} (hg:bq ds g σ=some true) (ht:aA P t=some ti) (hk:ti.kind.elem? = some e) (he:aA P e=some ei) (h1:ei.size=1) (hzs:ei.zero.cells.size=ei.size) (qW:ei.zero.cells.toList.all (·.oneCell')=true) (hb0:0<ei.bytes)
  (hs:bg σ s = .cW L 1 0 n) (hL:az σ.heap L=pe k ls) (hx:qg σ k x c) (hh:hfree σ.heap d=true) (hne:L≠d) (hm:iQ d (jz [c])=false) (hn:n=ls.length) (hb:(n+1)*ei.bytes<=140737488355328)
  (hst:St.put (({ σ.kill d with heap:=aG (aG (σ.kill d).heap L .dead) d (.ext (cH k (ls.map .own++[c]))) }:St).kill L) (some d) (.cW d 1 0 (n+1))=σ') (uz:ah P ds Q l σ'):ah P ds Q (⟨some d,.call { callee:= .builtin .append,args:= #[s,x],argTypes:= #[t,t] },ty,pos,af,g⟩::l) σ:=
 fun all ha=>dG.oZ (by rw[bV ha];exact hg) (by subst hst;exact cP.Hp rfl rfl ht hk he h1 hzs qW hb0 hh hs hL hn hne hx hm hb) (uz all ha)
theorem cZ.PZ {σ2:St} (o j d k:Nat) {n:Nat} {ls:List (List (List D))} {rows:List (List D)} (hj:j<ls.length) (ho:az σ.heap o = .ext (cH k ((ls.map .own).set j (.nm d n)))) (hd:az σ.heap d = .row k rows) (hn:n=rows.length) (hk:0<k) (zl:d<1000) (hne:o≠d)
  (he:(({ σ with heap:=aG (aG σ.heap d .dead) o (pe k (ls.set j rows)) }:St).kill d)=σ') (h:cZ σ' σ2):cZ σ σ2:=by
 have e:((ls.map NC.own).set j (NC.nm d n)).set j (NC.own rows)=(ls.set j rows).map .own:=by rw[List.set_set,qO]
 refine cZ.Lm o j d k ho (by rw[tZ (by simpa using hj)]) hd hn hk zl hne (by rw[e,nN];rfl) ?_ h;rw[e, <- he,qG (by simpa using (show 0<ls.length by omega))]
theorem ay.PZ {c:Code} (o j d k:Nat) {n:Nat} {ls:List (List (List D))} {rows:List (List D)} (hj:j<ls.length) (ho:az σ.heap o = .ext (cH k ((ls.map .own).set j (.nm d n)))) (hd:az σ.heap d = .row k rows) (hn:n=rows.length) (hk:0<k) (zl:d<1000) (hne:o≠d)
  (he:(({ σ with heap:=aG (aG σ.heap d .dead) o (pe k (ls.set j rows)) }:St).kill d)=σ') (h:ay P c Q σ'):ay P c Q σ:=ay.imp (cZ.PZ o j d k hj ho hd hn hk zl hne he (cZ.refl _)) h
theorem cZ.P0 {σ2:St} (o d k:Nat) {n:Nat} {ls:List (List (List D))} {rows:List (List D)} (ho:az σ.heap o = .ext (cH k (ls.map .own++[.nm d n]))) (hd:az σ.heap d = .row k rows) (hn:n=rows.length) (hk:0<k) (zl:d<1000) (hne:o≠d)
  (he:(({ σ with heap:=aG (aG σ.heap d .dead) o (pe k (ls++[rows])) }:St).kill d)=σ') (h:cZ σ' σ2):cZ σ σ2:=by
 have e:(ls.map NC.own++[NC.nm d n]).set ls.length (NC.own rows)=(ls++[rows]).map .own:=by
  rw[Ph _ _ (by simp)];simp
 refine cZ.Lm o ls.length d k ho (by rw[EI (by simp)];simp) hd hn hk zl hne (by rw[e,nN];rfl) ?_ h;rw[e, <- he,qG (by simp)]
theorem ay.P0 {c:Code} (o d k:Nat) {n:Nat} {ls:List (List (List D))} {rows:List (List D)} (ho:az σ.heap o = .ext (cH k (ls.map .own++[.nm d n]))) (hd:az σ.heap d = .row k rows) (hn:n=rows.length) (hk:0<k) (zl:d<1000) (hne:o≠d)
  (he:(({ σ with heap:=aG (aG σ.heap d .dead) o (pe k (ls++[rows])) }:St).kill d)=σ') (h:ay P c Q σ'):ay P c Q σ:=ay.imp (cZ.P0 o d k ho hd hn hk zl hne he (cZ.refl _)) h
theorem cZ.Oj (σ:St) (o k:Nat) {ls:List (List (List D))} (ho:az σ.heap o=pe k ls):cZ σ { σ with heap:=aG σ.heap o (.row 1 (ls.map fun rows=>[.sl k rows])) }:=by
 cases ls with
 | nil=>rw[eM,uC (x:= .row 1 []) ho (by simp)];exact cZ.refl _
 | cons l ls=>exact cZ.eE σ o k (ho.trans (qG (by simp)))
theorem ay.Oj {c:Code} (o k:Nat) {ls:List (List (List D))} (ho:az σ.heap o=pe k ls) (he:({ σ with heap:=aG σ.heap o (.row 1 (ls.map fun rows=>[.sl k rows])) }:St)=σ') (h:ay P c Q σ'):ay P c Q σ:=ay.imp (he▸cZ.Oj σ o k ho) h
theorem aC.Oj {fn:Func} {ins:List Nat} {ret:D} {outs:List Obj} {e:Exit} (o k:Nat) {ls:List (List (List D))} (ho:az σ.heap o=pe k ls) (he:({ σ with heap:=aG σ.heap o (.row 1 (ls.map fun rows=>[.sl k rows])) }:St)=σ') (h:aC P fn ins ret outs e σ'):aC P fn ins ret outs e σ:=aC.imp (he▸cZ.Oj σ o k ho) h
end
section
variable {P:Program} {Q:Exit->St->Prop}
end
theorem GO {P:Program} {fn:Func} {ins:List Nat} {ret:D} {outs:List Obj} {e:Exit} {σ:St} {rs:List ResultVar} (new:List Nat) {d:D} (hr:fn.results.toList=rs) (he:PO e=true) (hd:iq P σ rs=some d) (h:rB new d ins ret outs σ):aC P fn ins ret outs e σ:=by
 subst hr;unfold rB rC at h
 split at h
 ·rename_i d' xs h1 h2 h3;exact ⟨σ,fun _ _ _ _ h=>h,by cases e<;>simp_all[PO],new,d,l8 h1,hd,⟨d',h2,p8 h.1⟩,xs,h3,mc h.2⟩
 ·exact h.elim
theorem xq {P:Program} {st:List Nat} {ds:List (Option Nat)} {Q:Exit->St->Prop} {e:Option St} {l:List Oper} (h:rX e P st ds Q l):rX e P st ds Q l:=h
theorem Hq {τ:Type} {I:τ->Prop} {μ:τ->Nat} {m:Nat} {s:List D} {h:List (Nat×Obj)} {s':τ->List D} {h':τ->List (Nat×Obj)} (t':τ) (hs:j3 s (s' t')) (hh:wZ h (h' t')) (hI:I t') (hm:μ t'<m):
  ∃ t',I t'/\μ t'<m/\j3 (St.mk s h).slots (s' t')/\wZ (St.mk s h).heap (h' t'):=⟨t',hI,hm,hs,hh⟩
theorem Dq {τ:Type} {I:τ->Prop} {μ:τ->Nat} {m:Nat} {σ:St} {s':τ->List D} {h':τ->List (Nat×Obj)} (t':τ) (hi:cZ σ { slots:=s' t',heap:=h' t' }) (hI:I t') (hm:μ t'<m):
  ∃ t',I t'/\μ t'<m/\cZ σ { slots:=s' t',heap:=h' t' }:=⟨t',hI,hm,hi⟩
attribute [go_sem] List.set_set Lr
end Go.fe
namespace Go.fe
open Go.RowKit Go.MapKept
inductive BC where
 | own (cs:List D)
 | nm (o:Nat)
def j7:List (Value×BC)->List Nat
 | []=>[]
 | (_, .own _)::l=>j7 l
 | (_, .nm o)::l=>o::j7 l
theorem s7 {o:Nat} {k:Value}:∀ {l:List (Value×BC)} {j:Nat},l[j]? = some (k, .nm o)->o∈j7 l
 | [],j,h=>by simp at h
 | (k',c)::l,0,h=>by simp at h;obtain ⟨rfl,rfl⟩:=h;simp[j7]
 | (k',c)::l,j+1,h=>by
   have:=s7 (l:=l) (j:=j) (by simpa using h);cases c<;>simp[j7,this]
def s9 (w:World) (st:Nat->Prop) (ρ:Nat->Option (Option Nat)) (v:Value) (bo:Option Nat):BC->Prop
 | .own cs=> ∃ b cur e,bo=some b/\v = .pointer (some ⟨b,0,none⟩)/\w.heap[b]? = some (.cells cur e (0,0))/\RL w st (fun _=>none) cs cur.toList
 | .nm o=>bo=none/\R w st ρ (.ref o 0) v
theorem s9.mono {w w':World} {st st':Nat->Prop} {ρ:Nat->Option (Option Nat)} {c:BC} {v:Value} {bo:Option Nat} (hc:∀ g off,st g->w'.cell? ⟨g,off,none⟩=w.cell? ⟨g,off,none⟩) (hs:∀ g n,Sh w g n->Sh w' g n) (hst:∀ g,st g->st' g)
  (hb:∀ b,bo=some b->w'.heap[b]? = w.heap[b]?) (h:s9 w st ρ v bo c):s9 w' st' ρ v bo c:=by
 cases c with
 | own cs=>
   obtain ⟨b,cur,e,h1,h2,h3,h4⟩:=h;exact ⟨b,cur,e,h1,h2,(hb b h1).trans h3,RL.mono hc hs hst h4⟩
 | nm o=>exact ⟨h.1,R.mono hc hs hst h.2⟩
theorem s9.vS {w:World} {st:Nat->Prop} {ρ ρ':Nat->Option (Option Nat)} {c:BC} {v:Value} {bo:Option Nat} (hn:∀ o,c = .nm o->ρ' o=ρ o) (h:s9 w st ρ v bo c):s9 w st ρ' v bo c:=by
 cases c with
 | own cs=>exact h
 | nm o=>
   refine ⟨h.1,?_⟩;have:=h.2;simp only[R,hn o rfl] at this ⊢;exact this
def MB (w:World) (st:Nat->Prop) (ρ:Nat->Option (Option Nat)) (hd:Nat->Prop) (g:Nat) (l:List (Value×BC)) (es:List MapEntry) (bs:List (Option Nat)):Prop:=
 es.length=l.length/\bs.length=l.length/\(∀ (j b:Nat),bs[j]? = some (some b)->hd b/\b≠g)/\(∀ (i j b:Nat),bs[i]? = some (some b)->bs[j]? = some (some b)->i=j)/\
  ∀ (j:Nat) k c,l[j]? = some (k,c)->∃ e bo,es[j]? = some e/\bs[j]? = some bo/\e.key=k/\s9 w st ρ e.val bo c
def eN (kk:KK) (l:List (Value×BC)):Ext where
 qv:=j7 l
 φ w st ρ hd g:= ∃ es clock,w.heap[g]? = some (.map es clock)/\Stamped es clock/\(∀ x∈es.toList,IsKey kk.desc x.key)/\∃ bs,MB w st ρ hd g l es.toList bs
 lt h:=by
  obtain ⟨_,_,h1,_⟩:=h;exact (zQ.1 h1).1
 mono hc hs hst hg hb h:=by
  obtain ⟨es,cl,h1,h2,h3,bs,m1,m2,m3,m4,m5⟩:=h;refine ⟨es,cl,hg.trans h1,h2,h3,bs,m1,m2,m3,m4,fun j k c hj=>?_⟩;obtain ⟨e,bo,e1,e2,e3,e4⟩:=m5 j k c hj;exact ⟨e,bo,e1,e2,e3,e4.mono hc hs hst (fun b h=>hb b (m3 j b (by rw[e2,h])).1)⟩
 loc hl h:=by
  obtain ⟨es,cl,h1,h2,h3,bs,m1,m2,m3,m4,m5⟩:=h;refine ⟨es,cl,h1,h2,h3,bs,m1,m2,m3,m4,fun j k c hj=>?_⟩;obtain ⟨e,bo,e1,e2,e3,e4⟩:=m5 j k c hj;exact ⟨e,bo,e1,e2,e3,e4.vS fun o h=>hl o (s7 (by rw[hj,h]))⟩
theorem Dr {kk:KK} {l:List (Value×BC)}:(eN kk l).qv=j7 l:=rfl
section
variable {w:World} {st:Nat->Prop} {g:Nat} {ρ:Nat->Option (Option Nat)} {hd:Nat->Prop} {l:List (Value×BC)} {es:List MapEntry} {bs:List (Option Nat)}
theorem MB.set {hd':Nat->Prop} {st':Nat->Prop} {ρ':Nat->Option (Option Nat)} {j:Nat} {k:Value} {c c0:BC} {bo:Option Nat} (h:MB w st ρ hd g l es bs) (hj:l[j]? = some (k,c0))
  (Dl:∀ i k c bi v,i≠j->l[i]? = some (k,c)->bs[i]? = some bi->s9 w st ρ v bi c->s9 w st' ρ' v bi c)
  (N9:∀ i b,i≠j->bs[i]? = some (some b)->hd' b) (o9:∀ b,bo=some b->hd' b/\b≠g/\∀ i,i≠j->bs[i]? ≠some (some b)) (hc:∀ e bi,es[j]? = some e->bs[j]? = some bi->s9 w st ρ e.val bi c0->s9 w st' ρ' e.val bo c):MB w st' ρ' hd' g (l.set j (k,c)) es (bs.set j bo):=by
 obtain ⟨n0,n1,n2,n3,n4⟩:=h;have hjl:=(jL.1 hj).1;have hjb:j<bs.length:=by omega
 refine ⟨by simp[n0],by simp[n1],fun i b hi=>?_,fun i i' b hi hi'=>?_,fun i k' c' hi=>?_⟩
 ·by_cases e:i=j
  ·subst e;rw[tZ hjb] at hi;have:=o9 b (by simpa using hi);exact ⟨this.1,this.2.1⟩
  ·rw[ua (sF e)] at hi;exact ⟨N9 i b e hi,(n2 i b hi).2⟩
 ·by_cases e:i=j<;>by_cases e':i'=j
  ·rw[e,e']
  ·subst e;rw[tZ hjb] at hi;rw[ua (sF e')] at hi';exact absurd hi' ((o9 b (by simpa using hi)).2.2 i' e')
  ·subst e';rw[tZ hjb] at hi';rw[ua (sF e)] at hi;exact absurd hi ((o9 b (by simpa using hi')).2.2 i e)
  ·rw[ua (sF e)] at hi;rw[ua (sF e')] at hi';exact n3 i i' b hi hi'
 ·by_cases e:i=j
  ·subst e;rw[tZ hjl] at hi;simp only[fF,RX] at hi;obtain ⟨rfl,rfl⟩:=hi;obtain ⟨e0,bi,x1,x2,x3,x4⟩:=n4 i _ _ hj;exact ⟨e0,bo,x1,tZ hjb,x3,hc e0 bi x1 x2 x4⟩
  ·rw[ua (sF e)] at hi;obtain ⟨e0,bi,x1,x2,x3,x4⟩:=n4 i k' c' hi;exact ⟨e0,bi,x1,by rw[ua (sF e)];exact x2,x3,Dl i k' c' bi e0.val e hi x2 x4⟩
end
theorem cZ.i4 (σ:St) (o j d:Nat) {kk:KK} {l:List (Value×BC)} {k:Value} {cs:List D} (ho:az σ.heap o = .ext (eN kk l)) (hj:l[j]? = some (k, .own cs)) (hd:hfree σ.heap d=true) (hne:o≠d) (hm:iQ d (j7 l)=false):
  cZ σ { σ.kill d with heap:=aG (aG (σ.kill d).heap o (.ext (eN kk (l.set j (k, .nm d))))) d (.box cs) }:=by
 rintro w0 p a w ⟨ρ,h⟩;obtain ⟨Q5,R8⟩:=ep.1 hd;have hro:=h.objs o;rw[ho] at hro;simp only[RO] at hro;obtain ⟨g,hg,es,cl,c1,c2,c3,bs,hN⟩:=hro;obtain ⟨e0,bo,hx1,o9,Zs,bb,cur,ee,rfl,hv,nF,Ww⟩:=hN.2.2.2.2 j _ _ hj
 let ρ1:Nm:=⟨fun y=>if y=d then some (some bb) else ρ y,fun y=>if y=d then fun _=>False else ρ.hid y⟩
 let ρ':Nm:=⟨fun y=>if y=d then some (some bb) else ρ y,fun y=>if y=d then fun _=>False else if y=o then fun b=>ρ.hid o b/\bb≠b else ρ.hid y⟩
 have hk:aU w0 p (σ.kill d) a w ρ1:=h.kill d (fun y e=>⟨by simp[ρ1,e],by simp[ρ1,e]⟩) (fun h1=>by omega);have hlo:az σ.heap o≠ .dead:=by rw[ho];simp
 have hmo:az (σ.kill d).heap o = .ext (eN kk l):=by
  rw[fI,aE hne,ho,Obj.ku,Dr,hm];rfl
 have Oa:ec (σ.kill d).heap o=true:=cC (by rw[hmo];simp);have N9:ec (σ.kill d).heap d=true:=by rw[St.kill,fY,kz];exact Q5
 have g1:az (aG (aG (σ.kill d).heap o (.ext (eN kk (l.set j (k, .nm d))))) d (.box cs)) d = .box cs:=aX (by rw[fY];exact N9);have g2:az (aG (aG (σ.kill d).heap o (.ext (eN kk (l.set j (k, .nm d))))) d (.box cs)) o = .ext (eN kk (l.set j (k, .nm d))):=by rw[aM hne,aX Oa]
 have r2:ρ1.hid o=ρ.hid o:=by simp[ρ1,hne]
 have q1:∀ b,ow ρ' o b->ow ρ1 o b:=by
  intro b hb;rcases hb with hb|hb
  ·exact .inl hb
  ·right;simp only[ρ',hne,jc,jg] at hb;rw[r2];exact hb.1
 have q2:∀ b,ow ρ' d b->bb=b:=by
  intro b hb;rcases hb with hb|hb
  ·simpa[ρ'] using hb
  ·simp[ρ'] at hb
 have q3:ρ.hid o bb/\bb≠g:=hN.2.2.1 j bb o9
 have kY:=hk.turn (ρ':=ρ') (w':=w) (heap':=aG (aG (σ.kill d).heap o (.ext (eN kk (l.set j (k, .nm d))))) d (.box cs)) (fun y=>y=o\/y=d) (fun y=>rfl)
  (fun y hy=>by simp only[vM] at hy;simp only[ρ',ρ1,hy.1,hy.2,jc])
  (fun y hy=>by simp only[vM] at hy;rw[aM hy.2,aM hy.1])
  (fun y b hy hl hb=>by
   refine .inr ⟨o, .inl rfl,by rw[hmo];simp,?_⟩;rcases hy with rfl|rfl
   ·exact q1 b hb
   ·right;rw[r2, <- q2 b hb];exact q3.1)
  (fun y y' b hy hy' hl hl' hb hb'=>by
   have u0:ow ρ' o b->ow ρ' d b->False:=by
    intro u v;have e1:=q2 b v;rcases u with u|u
    ·have:ρ o=some (some b):=by simpa[ρ',hne] using u
     rw[hg] at this;simp only[fF] at this;exact q3.2 (e1.trans this.symm)
    ·simp only[ρ',hne,jc,jg] at u;exact u.2 e1
   rcases hy with rfl|rfl<;>rcases hy' with rfl|rfl
   ·rfl
   ·exact (u0 hb hb').elim
   ·exact (u0 hb' hb).elim
   ·rfl)
  (fun y b hy hl hb=>by
   rcases hy with rfl|rfl
   ·simp only[ρ',hne,jc,jg] at hb;exact h.hlt y b hlo hb.1
   ·simp[ρ'] at hb)
  (fun _ _ _=>rfl) (fun _ _ hs=>hs) (iU _) rfl rfl rfl
  (fun y hy st h1 h2=>by
   have hst:∀ b,bO p σ.heap ρ w b->st b:=fun b hb=>h1 b ⟨hb.1,hb.2.1,fun y' hy'=>by
    rw[fI] at hy';by_cases e:y'=d
    ·simp[e] at hy'
    ·rw[aE e,Obj.jP] at hy';have:same ρ ρ1 y':=⟨by simp[ρ1,e],by simp[ρ1,e]⟩
     rw[this.ow];exact hb.2.2 y' hy'⟩
   rcases hy with rfl|rfl
   ·rw[g2];refine ⟨g,by simpa[ρ',hne] using hg,es,cl,c1,c2,c3,bs.set j none,?_⟩;refine hN.set hj (fun i k' c bi v hi Oc _ hc=>?_) (fun i b hi kQ=>?_) (fun b hb=>by cases hb) (fun e bi he kQ _=>?_)
    ·refine s9.vS (ρ:=ρ) (fun o' e'=>?_) (s9.mono (fun _ _ _=>rfl) (fun _ _ hs=>hs) hst (fun _ _=>rfl) hc)
     have TB:o'≠d:=fun e=>by
      have:=lW.2 (s7 (by rw[Oc,e']));rw[e,hm] at this;cases this
     show ρ'.nm o'=ρ.nm o';simp[ρ',TB]
    ·show ρ'.hid y b;simp only[ρ',hne,jc,jg];refine ⟨(hN.2.2.1 i b kQ).1,fun e=>hi (hN.2.2.2.1 i j b kQ (by rw[o9,e]))⟩
    ·rw[hx1] at he;simp only[fF] at he;subst he;refine ⟨rfl,?_⟩;simp only[R];exact ⟨bb,by simp[ρ'],hv⟩
   ·rw[g1];refine ⟨bb,cur,ee,by simp[ρ'],nF,?_⟩
    exact RL.lV (RL.mono (fun _ _ _=>rfl) (fun _ _ hs=>hs) hst Ww))
 exact ⟨ρ',kY.1⟩
theorem cZ.P3 (σ:St) (o j d:Nat) {kk:KK} {l:List (Value×BC)} {k:Value} {cs:List D} (ho:az σ.heap o = .ext (eN kk l)) (hj:l[j]? = some (k,.nm d)) (hd:az σ.heap d = .box cs) (hp:jB cs=true) (zl:d<1000) (hne:o≠d) (hm:iQ d (j7 (l.set j (k,.own cs)))=false):
  cZ σ (({ σ with heap:=aG (aG σ.heap d .dead) o (.ext (eN kk (l.set j (k, .own cs)))) }:St).kill d):=by
 rintro w0 p a w ⟨ρ,h⟩;have hro:=h.objs o;rw[ho] at hro;simp only[RO] at hro;obtain ⟨g,hg,es,cl,c1,c2,c3,bs,hN⟩:=hro;obtain ⟨e0,bo,hx1,o9,Zs,rfl,hno⟩:=hN.2.2.2.2 j _ _ hj;have hrd:=h.objs d;rw[hd] at hrd;simp only[RO] at hrd;obtain ⟨bd,cur,ee,hbd,nF,Ww⟩:=hrd;simp only[R] at hno;obtain ⟨bd',Rh,hv⟩:=hno;have Wx:ρ.nm d=some (some bd):=hbd;rw[Wx] at Rh;simp only[fF] at Rh;subst Rh;have hlo:az σ.heap o≠ .dead:=by rw[ho];simp
 have Lh:az σ.heap d≠ .dead:=by rw[hd];simp
 have Oa:ec σ.heap o=true:=cC hlo
 let ρ':Nm:=⟨ρ.nm,fun y=>if y=o then fun b=>ρ.hid o b\/bd=b else ρ.hid y⟩
 have g1:az (aG (aG σ.heap d .dead) o (.ext (eN kk (l.set j (k, .own cs))))) o = .ext (eN kk (l.set j (k, .own cs))):=aX (by rw[fY];exact Oa);have g2:az (aG (aG σ.heap d .dead) o (.ext (eN kk (l.set j (k, .own cs))))) d = .dead:=by rw[aM (sF hne),aX (cC Lh)]
 have q1:∀ b,ow ρ' o b->ow ρ o b\/ow ρ d b:=by
  intro b hb;rcases hb with hb|hb
  ·exact .inl (.inl hb)
  ·simp only[ρ',jg] at hb;rcases hb with hb|rfl
   ·exact .inl (.inr hb)
   ·exact .inr (.inl hbd)
 have kY:=h.turn (ρ':=ρ') (w':=w) (heap':=aG (aG σ.heap d .dead) o (.ext (eN kk (l.set j (k, .own cs))))) (fun y=>y=o\/y=d) (fun y=>rfl)
  (fun y hy=>by simp only[vM] at hy;simp only[ρ',hy.1,jc])
  (fun y hy=>by simp only[vM] at hy;rw[aM hy.1,aM hy.2])
  (fun y b hy hl hb=>by
   rcases hy with rfl|rfl
   ·rcases q1 b hb with h1|h1
    ·exact .inr ⟨y, .inl rfl,hlo,h1⟩
    ·exact .inr ⟨d, .inr rfl,Lh,h1⟩
   ·exact absurd g2 hl)
  (fun y y' b hy hy' hl hl' hb hb'=>by
   rcases hy with rfl|rfl<;>rcases hy' with rfl|rfl
   ·rfl
   ·exact absurd g2 hl'
   ·exact absurd g2 hl
   ·rfl)
  (fun y b hy hl hb=>by
   rcases hy with rfl|rfl
   ·simp only[ρ',jg] at hb;rcases hb with hb|rfl
    ·exact h.hlt y b hlo hb
    ·exact h.mR Lh (.inl hbd)
   ·exact absurd g2 hl)
  (fun _ _ _=>rfl) (fun _ _ hs=>hs) (iU _) rfl rfl rfl
  (fun y hy st hst _=>by
   rcases hy with rfl|rfl
   ·rw[g1];refine ⟨g,hg,es,cl,c1,c2,c3,bs.set j (some bd),?_⟩;have eh:ρ'.hid y=fun b=>ρ.hid y b\/bd=b:=by simp[ρ']
    refine hN.set hj (fun i k' c bi v hi Oc kQ hc=>s9.mono (fun _ _ _=>rfl) (fun _ _ hs=>hs) hst (fun _ _=>rfl) hc) (fun i b hi kQ=>by rw[eh];exact .inl (hN.2.2.1 i b kQ).1) (fun b hb=>?_) (fun e bi he kQ _=>?_)
    ·simp only[fF] at hb;subst hb;refine ⟨by rw[eh];exact .inr rfl,fun e'=>?_,fun i hi kQ=>?_⟩
     ·subst e';exact hne (h.inj y d bd hlo Lh (.inl hg) (.inl hbd))
     ·exact hne (h.inj y d bd hlo Lh (.inr (hN.2.2.1 i bd kQ).1) (.inl hbd))
    ·rw[hx1] at he;simp only[fF] at he;subst he;exact ⟨bd,cur,ee,rfl,hv,nF,jv hp (RL.mono (fun _ _ _=>rfl) (fun _ _ hs=>hs) hst Ww)⟩
   ·rw[g2];simp[RO])
 exact ⟨ρ',kY.1.kill d (fun _ _=>same.refl) (fun _=>rfl)⟩
end Go.fe
