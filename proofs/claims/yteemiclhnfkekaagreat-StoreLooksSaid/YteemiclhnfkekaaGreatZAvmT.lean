/- The abstract machine, parts ZL to ZP. -/
import Derived.Test.YteemiclhnfkekaaGreatZAvmS
import Derived.ScopeJumps
set_option linter.unusedSimpArgs false
set_option linter.unusedVariables false
namespace Go.eB
open Go.RowKit
section
variable {P:Program} {ds:List (Option Nat)} {Q:Exit->St->Prop} {σ σ':St} {l:List Oper} {op op2:Op} {ty Q0 ty':TypeId} {pos pos2 pos':String} {af Q5 NG:Array Edge} {i ta t1 t2 t3:Nat} {b b':Bool} {d:D}
end
def Hh (P:Program) (st:List Nat) (dst:Option Nat) (op:Op) (σ:St):Option St:=if pZ op then BF P σ ⟨dst,op,0, "", #[],none⟩ else (gS P σ op).map (σ.put dst)
def Au (st:List Nat):Option Nat->Bool
 | none=>false
 | some d=>De d st
def LV (P:Program) (st:List Nat) (ds:List (Option Nat)) (Q:Exit->St->Prop):List Oper->St->Prop
 | [],σ=>Q .normal σ
 | o::l,σ=>if Au st o.dst then ah P ds Q (o::l) σ else match bq ds o.guard σ with
   | some true=>(match Hh P st o.dst o.op σ with
     | some σ'=>LV P st ds Q l σ'
     | none=>ah P ds Q (o::l) σ)
   | some false=>LV P st ds Q l (σ.put o.dst (.sc undef))
   | none=>ah P ds Q (o::l) σ
def oV (e:Option St) (P:Program) (st:List Nat) (ds:List (Option Nat)) (Q:Exit->St->Prop) (o:Oper) (l:List Oper) (σ:St):Prop:=
 match e with
 | some σ'=>LV P st ds Q l σ'
 | none=>ah P ds Q (o::l) σ
def gV (e:Option Bool) (P:Program) (st:List Nat) (ds:List (Option Nat)) (Q:Exit->St->Prop) (o:Oper) (l:List Oper) (σ:St):Prop:=
 match e with
 | some true=>oV (Hh P st o.dst o.op σ) P st ds Q o l σ
 | some false=>LV P st ds Q l (σ.put o.dst (.sc undef))
 | none=>ah P ds Q (o::l) σ
def sV (e:Bool) (P:Program) (st:List Nat) (ds:List (Option Nat)) (Q:Exit->St->Prop) (o:Oper) (l:List Oper) (σ:St):Prop:=
 if e then ah P ds Q (o::l) σ else gV (bq ds o.guard σ) P st ds Q o l σ
section
variable {P:Program} {st:List Nat} {ds:List (Option Nat)} {Q:Exit->St->Prop} {o:Oper} {l:List Oper} {σ σ':St} {dst:Option Nat} {op:Op} {ty:TypeId} {pos:String} {af:Array Edge} {g:Option (Nat×Bool)}
theorem Q6:LV P st ds Q [] σ=Q .normal σ:=rfl
theorem Hj:LV P st ds Q (o::l) σ=sV (Au st o.dst) P st ds Q o l σ:=by
 rw[LV,sV];cases Au st o.dst with
 | true=>rfl
 | false=>
   simp only[pT,jd,gV];cases bq ds o.guard σ with
   | none=>rfl
   | some b=>cases b<;>rfl
theorem Wd:sV true P st ds Q o l σ=ah P ds Q (o::l) σ:=rfl
theorem Wf:sV false P st ds Q ⟨dst,op,ty,pos,af,g⟩ l σ=gV (bq ds g σ) P st ds Q ⟨dst,op,ty,pos,af,g⟩ l σ:=rfl
theorem NN:oV (some σ') P st ds Q o l σ=LV P st ds Q l σ':=rfl
theorem NP:oV none P st ds Q o l σ=ah P ds Q (o::l) σ:=rfl
theorem Wg:gV (some true) P st ds Q ⟨dst,op,ty,pos,af,g⟩ l σ=oV (Hh P st dst op σ) P st ds Q ⟨dst,op,ty,pos,af,g⟩ l σ:=rfl
theorem Wh:gV (some false) P st ds Q ⟨dst,op,ty,pos,af,g⟩ l σ=oV (some (σ.put dst (.sc undef))) P st ds Q ⟨dst,op,ty,pos,af,g⟩ l σ:=rfl
theorem NQ:gV none P st ds Q o l σ=ah P ds Q (o::l) σ:=rfl
theorem KX:Hh P st dst op σ=if pZ op then BF P σ ⟨dst,op,0, "", #[],none⟩ else (gS P σ op).map (σ.put dst):=rfl
theorem dI:∀ {l:List Oper} {σ:St},LV P st ds Q l σ->ah P ds Q l σ
 | [],σ,h=>ah.nil h
 | o::l,σ,h=>by
   obtain ⟨dst,op,ty,pos,af,g⟩:=o;rw[LV] at h;simp only at h
   split at h
   ·exact h
   ·split at h
    ·rename_i hg
     split at h
     ·rename_i σ' hb;exact ah.step (by rw[nk,hg];exact hb) (dI h)
     ·exact h
    ·rename_i hg;exact ah.step (by rw[nk,hg];rfl) (dI h)
    ·exact h
theorem KY {b:Bool} {e:Option Bool} {t:Nat} {x:Nat×Bool} (ht:kY ds (some x)=some t) (hb:σ.slots.getD t .any = .sc (.bool b)) (he:bq ds (some x) σ=e)
  (h1:b=true->LV P st ds Q (⟨dst,op,ty,pos,af,some x⟩::l) (σ.put (some t) (.sc (.bool true)))) (h2:b=false->LV P st ds Q (⟨dst,op,ty,pos,af,some x⟩::l) (σ.put (some t) (.sc (.bool false))))
  (hs:Au st dst=false):gV e P st ds Q ⟨dst,op,ty,pos,af,some x⟩ l σ:=by
 subst he;have hc:∀ σ,LV P st ds Q (⟨dst,op,ty,pos,af,some x⟩::l) σ=gV (bq ds (some x) σ) P st ds Q ⟨dst,op,ty,pos,af,some x⟩ l σ:=fun σ=>by rw[Hj];simp only[hs];rfl
 cases b
 ·have:=h2 rfl;rw[jC hb,hc] at this;exact this
 ·have:=h1 rfl;rw[jC hb,hc] at this;exact this
end
def TV (P:Program) (st:List Nat):Code->(Exit->St->Prop)->St->Prop
 | .seq x y,Q,σ=>TV P st x (fun e σ'=>match e with | .normal=>TV P st y Q σ'|e=>Q e σ') σ
 | .block id c,Q,σ=>TV P st c (fun e σ'=>match e with | .exit id'=>if id'=id then Q .normal σ' else Q (.exit id') σ'|e=>Q e σ') σ
 | .skip,Q,σ=>Q .normal σ
 | .ret,Q,σ=>Q .ret σ
 | .exit id,Q,σ=>Q (.exit id) σ
 | .label _,Q,σ=>Q .normal σ
 | .goto l,Q,σ=>Q (.goto l) σ
 | .cond c x y,Q,σ=>match bh σ c with
   | .sc (.bool true)=>TV P st x Q σ
   | .sc (.bool false)=>TV P st y Q σ
   | _=>ay P (.cond c x y) Q σ
 | .region id a false,Q,σ=>LV P st (a.toList.map (·.dst)) Q a.toList σ
 | c,Q,σ=>ay P c Q σ
def xF (P:Program) (st:List Nat) (y:Code) (Q:Exit->St->Prop):Exit->St->Prop:=fun e σ'=>match e with | .normal=>TV P st y Q σ'|e=>Q e σ'
def rU (id:Nat) (Q:Exit->St->Prop):Exit->St->Prop:=fun e σ'=>match e with | .exit id'=>if id'=id then Q .normal σ' else Q (.exit id') σ'|e=>Q e σ'
def cV (d:D) (P:Program) (st:List Nat) (c:Operand) (x y:Code) (Q:Exit->St->Prop) (σ:St):Prop:=match d with
 | .sc (.bool true)=>TV P st x Q σ
 | .sc (.bool false)=>TV P st y Q σ
 | _=>ay P (.cond c x y) Q σ
def Av:List Oper->List (Option Nat)
 | []=>[]
 | o::l=>o.dst::Av l
theorem xH:∀ l:List Oper,Av l=l.map (·.dst)
 | []=>rfl
 | o::l=>by rw[Av,xH l];rfl
section
variable {P:Program} {st:List Nat} {Q:Exit->St->Prop} {σ:St} {x y c:Code} {id id':Nat} {a:Array Oper} {co:Operand} {N:St->Prop}
theorem Q7:TV P st (.seq x y) Q σ=TV P st x (xF P st y Q) σ:=rfl
theorem KZ:TV P st (.block id c) Q σ=TV P st c (rU id Q) σ:=rfl
theorem NR:TV P st .skip Q σ=Q .normal σ:=rfl
theorem Q8:TV P st .ret Q σ=Q .ret σ:=rfl
theorem NS:TV P st (.exit id) Q σ=Q (.exit id) σ:=rfl
theorem K1 {l:Nat}:TV P st (.label l) Q σ=Q .normal σ:=rfl
theorem NT {l:Nat}:TV P st (.goto l) Q σ=Q (.goto l) σ:=rfl
theorem NU:TV P st (.cond co x y) Q σ=cV (bh σ co) P st co x y Q σ:=rfl
theorem IF {l:List Oper}:TV P st (.region id l.toArray false) Q σ=LV P st (Av l) Q l σ:=by rw[TV,xH]
theorem K2:TV P st (.region id a true) Q σ=ay P (.region id a true) Q σ:=rfl
theorem NV:TV P st (.loop c) Q σ=ay P (.loop c) Q σ:=rfl
theorem Wi:cV (.sc (.bool true)) P st co x y Q σ=TV P st x Q σ:=rfl
theorem Wj:cV (.sc (.bool false)) P st co x y Q σ=TV P st y Q σ:=rfl
theorem cN {b:Bool} (h1:b=true->TV P st x Q σ) (h2:b=false->TV P st y Q σ):cV (.sc (.bool b)) P st co x y Q σ:=by
 cases b
 ·exact h2 rfl
 ·exact h1 rfl
theorem NW:xF P st y Q .normal σ=TV P st y Q σ:=rfl
theorem NY:xF P st y Q .ret σ=Q .ret σ:=rfl
theorem NZ:xF P st y Q (.exit id) σ=Q (.exit id) σ:=rfl
theorem N0 {l:Nat}:xF P st y Q (.goto l) σ=Q (.goto l) σ:=rfl
theorem K3 {l:Nat}:rU id Q (.goto l) σ=Q (.goto l) σ:=rfl
theorem K4:rU id Q .normal σ=Q .normal σ:=rfl
theorem K5:rU id Q .ret σ=Q .ret σ:=rfl
theorem K6:rU id Q (.exit id') σ=if id'=id then Q .normal σ else Q (.exit id') σ:=rfl
theorem N1:o7 N Q .normal σ=N σ:=rfl
theorem N2:o7 N Q .ret σ=Q .ret σ:=rfl
theorem N3 {l:Nat}:o7 N Q (.goto l) σ=Q (.goto l) σ:=rfl
theorem N4:o7 N Q (.exit id) σ=Q (.exit id) σ:=rfl
theorem Zo:∀ {c:Code} {Q:Exit->St->Prop} {σ:St},TV P st c Q σ->ay P c Q σ:=by
 intro c
 induction c with
 | skip=>intro Q σ h;exact ay.skip h
 | ret=>intro Q σ h;exact ay.ret h
 | exit id=>intro Q σ h;exact ay.exit h
 | label l=>intro Q σ h;exact fun _ _ _ _ hr=>wp_label ⟨σ,h,hr⟩
 | goto l=>intro Q σ h;exact fun _ _ _ _ hr=>wp_goto ⟨σ,h,hr⟩
 | region id a dr=>
   intro Q σ h;cases dr with
   | true=>exact h
   | false=>
     have h2:=dI h;have e:Code.region id a false=Code.region id a.toList.toArray false:=by simp
     rw[e];exact ay.bE rfl h2
 | seq x y Wk Wm=>
   intro Q σ h;refine ay.seq (ay.mono (Wk h) ?_);intro e σ' hq;cases e<;>first|exact Wm hq|exact hq
 | block id c ih=>
   intro Q σ h;refine ay.block (ay.mono (ih h) ?_);intro e σ' hq;cases e<;>exact hq
 | cond co x y Wk Wm=>
   intro Q σ h;rw[TV] at h
   split at h
   ·rename_i hc;exact ay.cond hc (fun _=>Wk h) (fun e=>by cases e)
   ·rename_i hc;exact ay.cond hc (fun e=>by cases e) (fun _=>Wm h)
   ·exact h
 | _=>intro Q σ h;exact h
theorem aV (h:TV P st (.seq x y) Q σ):ay P (.seq x y) Q σ:=Zo h
end
section
variable {P:Program} {st:List Nat} {ds:List (Option Nat)} {Q:Exit->St->Prop} {Qv:St->Prop} {σ σ':St} {l:List Oper} {dst:Option Nat} {ty:TypeId} {pos:String} {af:Array Edge} {g:Option (Nat×Bool)} {f:FuncId} {x:Operand} {xs:Array Operand} {ts:Array TypeId} {caps args:List D} {ret:D} {K:St->Prop} {sn:Bool}
theorem Wn (hx:bh σ x = .fn f caps) (hargs:iu [] (xs.toList.map (bh σ)++caps)=some args) (h:bN P ds g σ dst f args false (fun σ'=>LV P st ds Q l σ')):ah P ds Q (⟨dst, .call { callee:= .value x,args:=xs,argTypes:=ts },ty,pos,af,g⟩::l) σ:=by
 refine ah.dE hx hargs ?_;unfold bN at h ⊢;obtain ⟨new,ret,outs,σ',h1,h2,h3⟩:=h;exact ⟨new,ret,outs,σ',h1,h2,dI h3⟩
theorem Wo (hx:bh σ x = .fn f caps) (hargs:fZ (ef σ [] 4) (xs.toList.map (bh σ)++caps)=some args) (h:bN P ds g σ dst f args true (fun σ'=>LV P st ds Q l σ')):ah P ds Q (⟨dst, .call { callee:= .value x,args:=xs,argTypes:=ts },ty,pos,af,g⟩::l) σ:=by
 refine ah.dS hx hargs ?_;unfold bN at h ⊢;obtain ⟨new,ret,outs,σ',h1,h2,h3⟩:=h;exact ⟨new,ret,outs,σ',h1,h2,dI h3⟩
end
def aq (P:Program) (st:List Nat) (ds:List (Option Nat)) (g:Option (Nat×Bool)) (σ:St) (dst:Option Nat) (f:FuncId) (args:List D) (sn:Bool) (Q:Exit->St->Prop) (l:List Oper):Prop:=bN P ds g σ dst f args sn (fun σ'=>LV P st ds Q l σ')
def cE (e1 e2:Option (List D)) (P:Program) (st:List Nat) (ds:List (Option Nat)) (g:Option (Nat×Bool)) (σ:St) (dst:Option Nat) (f:FuncId) (Q:Exit->St->Prop) (l:List Oper):Prop:=match e1,e2 with
 | some args,_=>aq P st ds g σ dst f args false Q l
 | none,some args=>aq P st ds g σ dst f args true Q l
 | none,none=>False
def cG (d:D) (as:List D) (P:Program) (st:List Nat) (ds:List (Option Nat)) (g:Option (Nat×Bool)) (σ:St) (dst:Option Nat) (Q:Exit->St->Prop) (l:List Oper):Prop:=match d with
 | .fn f caps=>cE (iu [] (as++caps)) (fZ (ef σ [] 4) (as++caps)) P st ds g σ dst f Q l
 | _=>False
def rV (e:Option St) (P:Program) (st:List Nat) (ds:List (Option Nat)) (Q:Exit->St->Prop) (l:List Oper):Prop:=match e with
 | some σ'=>LV P st ds Q l σ'
 | none=>False
def Hl:Option Nat->List Nat
 | none=>[]
 | some d=>[d]
section
variable {P:Program} {st:List Nat} {ds:List (Option Nat)} {Q:Exit->St->Prop} {σ σ':St} {l:List Oper} {dst:Option Nat} {ty:TypeId} {pos:String} {af:Array Edge} {g:Option (Nat×Bool)} {f:FuncId} {x:Operand} {xs:Array Operand} {ts:Array TypeId} {caps args as:List D} {ret:D} {sn:Bool} {outs:List Obj} {e2:Option (List D)}
theorem Wp:cE (some args) e2 P st ds g σ dst f Q l=aq P st ds g σ dst f args false Q l:=by cases e2<;>rfl
theorem Wq:cE none (some args) P st ds g σ dst f Q l=aq P st ds g σ dst f args true Q l:=rfl
theorem Tf:cG (.fn f caps) as P st ds g σ dst Q l=cE (iu [] (as++caps)) (fZ (ef σ [] 4) (as++caps)) P st ds g σ dst f Q l:=rfl
theorem Q9:rV (some σ') P st ds Q l=LV P st ds Q l σ':=rfl
theorem N5 {d:Nat}:Hl (some d)=[d]:=rfl
theorem N6:Hl none=[]:=rfl
theorem aD (h:cG (bh σ x) (xs.toList.map (bh σ)) P st ds g σ dst Q l):ah P ds Q (⟨dst, .call { callee:= .value x,args:=xs,argTypes:=ts },ty,pos,af,g⟩::l) σ:=by
 unfold cG at h
 split at h
 ·rename_i f caps hx;unfold cE at h
  split at h
  ·rename_i he;exact Wn hx he h
  ·rename_i he;exact Wo hx he h
  ·exact h.elim
 ·exact h.elim
theorem aq.w (new:List Nat) (hc:ak P f args ret outs) (h:rV (jY ds g σ dst [] new sn ret outs) P st ds Q l):aq P st ds g σ dst f args sn Q l:=by
 unfold rV at h
 split at h
 ·rename_i σ' he;exact bN.c new hc he h
 ·exact h.elim
theorem aq.c (hc:ak P f args ret outs) (h:rV (jY ds g σ dst [] [] sn ret outs) P st ds Q l):aq P st ds g σ dst f args sn Q l:=aq.w [] hc h
theorem aq.n (hc:ak P f args ret outs) (h:rV (jY ds g σ dst [] (Hl dst) sn ret outs) P st ds Q l):aq P st ds g σ dst f args sn Q l:=aq.w _ hc h
end
attribute [irreducible] aq
def rC (b:Bool) (e1:Option D) (e2:Option (List Obj)) (ret:D) (outs:List Obj):Prop:=match b,e1,e2 with
 | true,some d',some xs=>Al d' ret/\q9 xs outs
 | _,_,_=>False
def rB (new:List Nat) (d:D) (ins:List Nat) (ret:D) (outs:List Obj) (σ:St):Prop:=rC (oC (ins++new)) (um (ins++new) d) (lX (ins++new) σ.heap (ins++new)) ret outs
def rA (e:Option D) (ins:List Nat) (ret:D) (outs:List Obj) (σ:St):Prop:=match e with
 | some d=>rB (jy ins (BL d)) d ins ret outs σ
 | none=>False
section
variable {P:Program} {fn:Func} {ins new:List Nat} {d d' ret:D} {xs outs:List Obj} {e:Exit} {σ:St} {rs:List ResultVar}
theorem Wr:rC true (some d') (some xs) ret outs=(Al d' ret/\q9 xs outs):=rfl
theorem Tg:rB new d ins ret outs σ=rC (oC (ins++new)) (um (ins++new) d) (lX (ins++new) σ.heap (ins++new)) ret outs:=rfl
theorem Ws:rA (some d) ins ret outs σ=rB (jy ins (BL d)) d ins ret outs σ:=rfl
theorem fl (hr:fn.results.toList=rs) (he:PK e=true) (h:rA (iw P σ rs) ins ret outs σ):aC P fn ins ret outs e σ:=by
 subst hr;unfold rA at h
 split at h
 ·rename_i d hd;unfold rB rC at h
  split at h
  ·rename_i d' xs h1 h2 h3;exact ⟨σ,fun _ _ _ _ h=>h,by cases e<;>simp_all[PK],_,d,l6 h1,hd,⟨d',h2,p7 h.1⟩,xs,h3,l8 h.2⟩
  ·exact h.elim
 ·exact h.elim
end
theorem ai {P:Program} {st:List Nat} {ds:List (Option Nat)} {Q:Exit->St->Prop} {o:Oper} {l:List Oper} {σ:St} {a b:Option St} (h:a=b) (hn:oV b P st ds Q o l σ):oV a P st ds Q o l σ:=h▸hn
section
variable {P:Program} {st:List Nat} {ds:List (Option Nat)} {Q:Exit->St->Prop} {o:Oper} {l:List Oper} {σ:St} {dst:Option Nat} {g:Option (Nat×Bool)} {f:FuncId} {x y c:Code} {co:Operand} {args:List D} {sn:Bool} {id:Nat} {e:Exit} {N:St->Prop} {ret:D} {outs:List Obj}
@[congr] theorem Ti {a b:Option St} (h:a=b):oV a P st ds Q o l σ=oV b P st ds Q o l σ:=by rw[h]
@[congr] theorem Tj {a b:Option Bool} (h:a=b):gV a P st ds Q o l σ=gV b P st ds Q o l σ:=by rw[h]
@[congr] theorem Tk {a b:Bool} (h:a=b):sV a P st ds Q o l σ=sV b P st ds Q o l σ:=by rw[h]
@[congr] theorem Tl {a b:D} (h:a=b):cV a P st co x y Q σ=cV b P st co x y Q σ:=by rw[h]
@[congr] theorem Tm:LV P st ds Q l σ=LV P st ds Q l σ:=rfl
@[congr] theorem Tn:TV P st c Q σ=TV P st c Q σ:=rfl
@[congr] theorem PO:xF P st y Q e σ=xF P st y Q e σ:=rfl
@[congr] theorem N7:rU id Q e σ=rU id Q e σ:=rfl
@[congr] theorem PR:o7 N Q e σ=o7 N Q e σ:=rfl
@[congr] theorem Ra {a b:Option St} (h:a=b):rV a P st ds Q l=rV b P st ds Q l:=by rw[h]
@[congr] theorem Tp {a b:D} {as bs:List D} (h:a=b) (h2:as=bs):cG a as P st ds g σ dst Q l=cG b bs P st ds g σ dst Q l:=by rw[h,h2]
@[congr] theorem Tq {a b c d:Option (List D)} (h:a=b) (h2:c=d):cE a c P st ds g σ dst f Q l=cE b d P st ds g σ dst f Q l:=by rw[h,h2]
@[congr] theorem PS:aq P st ds g σ dst f args sn Q l=aq P st ds g σ dst f args sn Q l:=rfl
@[congr] theorem Rb:ah P ds Q l σ=ah P ds Q l σ:=rfl
@[congr] theorem Sc:ay P c Q σ=ay P c Q σ:=rfl
end
theorem Tr:(true==true)=true:=rfl
theorem Ts:(true==false)=false:=rfl
theorem Tt:(false==true)=false:=rfl
theorem Tv:(false==false)=true:=rfl
attribute [go_sem] Wp Wq Tf Q9 N5 N6 Wr Tg Ws true_and Tr Ts Tt Tv Q6 Hj Wd Wf NN NP Wg Wh NQ KX Q7 KZ NR Q8 NS K1 NT NU IF K2 NV Wi Wj NW NY NZ N0 K3 N3 K4 K5 K6 N1 N2 N4 Au Av
inductive NC where
 | own (rows:List (List D))
 | nm (o len:Nat)
 | hole
def jz:List NC->List Nat
 | []=>[]
 | .own _::cs=>jz cs
 | .nm o _::cs=>o::jz cs
 | .hole::cs=>jz cs
theorem qd {o len:Nat}:∀ {cs:List NC} {j:Nat},cs[j]? = some (.nm o len)->o∈jz cs
 | [],j,h=>by simp at h
 | c::cs,0,h=>by simp at h;subst h;simp[jz]
 | c::cs,j+1,h=>by
   have:=qd (cs:=cs) (j:=j) (by simpa using h);cases c<;>simp[jz,this]
theorem nN:∀ ls:List (List (List D)),jz (ls.map .own)=[]
 | []=>rfl
 | l::ls=>by simp[jz,nN ls]
def NO (w:World) (st:Nat->Prop) (k:Nat) (rows:List (List D)) (x:Value):Option Nat->Prop
 | none=>rows=[]/\∃ a,x = .slice a 0 0
 | some b=> ∃ cur e cap A,w.heap[b]? = some (.cells cur e (0,0))/\zU cur (cap*k)/\cap<=maxLen/\rows.length<=cap/\RR w st k b 0 rows/\x = .slice A rows.length cap/\(0<cap->A=some ⟨b,0,none⟩)
theorem NO.mono {w w':World} {st st':Nat->Prop} {k:Nat} {rows:List (List D)} {x:Value} {bo:Option Nat} (hc:∀ g off,st g->w'.cell? ⟨g,off,none⟩=w.cell? ⟨g,off,none⟩) (hs:∀ g n,Sh w g n->Sh w' g n) (hst:∀ g,st g->st' g)
  (hb:∀ b,bo=some b->w'.heap[b]? = w.heap[b]?) (h:NO w st k rows x bo):NO w' st' k rows x bo:=by
 cases bo with
 | none=>exact h
 | some b=>
   obtain ⟨cur,e,cap,A,h1,h2,h3,h4,h5,h6⟩:=h;have R6:=hb b rfl;exact ⟨cur,e,cap,A,R6.trans h1,h2,h3,h4,RR.mono hc hs hst (fun off=>World.cell?_of_block (w:=w) (a:=⟨b,off,none⟩) R6) h5,h6⟩
def iQ (w:World) (st:Nat->Prop) (k:Nat) (ρ:Nat->Option (Option Nat)) (x:Value) (bo:Option Nat):NC->Prop
 | .own rows=>NO w st k rows x bo
 | .nm o len=>bo=none/\R w st ρ (.cW o k 0 len) x
 | .hole=>bo=none
theorem iQ.mono {w w':World} {st st':Nat->Prop} {k:Nat} {ρ:Nat->Option (Option Nat)} {c:NC} {x:Value} {bo:Option Nat} (hc:∀ g off,st g->w'.cell? ⟨g,off,none⟩=w.cell? ⟨g,off,none⟩) (hs:∀ g n,Sh w g n->Sh w' g n) (hst:∀ g,st g->st' g)
  (hb:∀ b,bo=some b->w'.heap[b]? = w.heap[b]?) (h:iQ w st k ρ x bo c):iQ w' st' k ρ x bo c:=by
 cases c with
 | own rows=>exact NO.mono hc hs hst hb h
 | nm o len=>exact ⟨h.1,R.mono hc hs hst h.2⟩
 | hole=>exact h
def FJ (w:World) (st:Nat->Prop) (k:Nat) (ρ:Nat->Option (Option Nat)) (hd:Nat->Prop) (g:Nat) (cs:List NC) (cur:Array Value) (bs:List (Option Nat)):Prop:=
 bs.length=cs.length/\(∀ (j b:Nat),bs[j]? = some (some b)->hd b/\b≠g)/\(∀ (i j b:Nat),bs[i]? = some (some b)->bs[j]? = some (some b)->i=j)/\
  ∀ (j:Nat) c bo,cs[j]? = some c->bs[j]? = some bo->∃ x,cur[j]? = some x/\iQ w st k ρ x bo c
def cH (k:Nat) (cs:List NC):Ext where
 qt:=jz cs
 φ w st ρ hd g:= ∃ cur e cap,w.heap[g]? = some (.cells cur e (0,0))/\zU cur (cap*1)/\cap<=maxLen/\cs.length<=cap/\∃ bs,FJ w st k ρ hd g cs cur bs
 lt h:=by
  obtain ⟨cur,e,cap,h1,_⟩:=h;exact (zQ.1 h1).1
 mono hc hs hst hg hb h:=by
  obtain ⟨cur,e,cap,h1,h2,h3,h4,bs,n1,n2,n3,n4⟩:=h;refine ⟨cur,e,cap,hg.trans h1,h2,h3,h4,bs,n1,n2,n3,fun j c bo hj MS=>?_⟩;obtain ⟨x,x1,x2⟩:=n4 j c bo hj MS;exact ⟨x,x1,iQ.mono hc hs hst (fun b e=>hb b (n2 j b (by rw[MS,e])).1) x2⟩
 loc hl h:=by
  obtain ⟨cur,e,cap,h1,h2,h3,h4,bs,n1,n2,n3,n4⟩:=h;refine ⟨cur,e,cap,h1,h2,h3,h4,bs,n1,n2,n3,fun j c bo hj MS=>?_⟩;obtain ⟨x,x1,x2⟩:=n4 j c bo hj MS;refine ⟨x,x1,?_⟩;cases c with
  | own rows=>exact x2
  | hole=>exact x2
  | nm o len=>
    have he:=hl o (qd hj);refine ⟨x2.1,?_⟩;have:=x2.2;simp only[R,he] at this ⊢;exact this
theorem IG {k:Nat} {ls:List (List (List D))}:(cH k (ls.map .own)).qt=[]:=nN ls
section
variable {w:World} {st:Nat->Prop} {k g:Nat} {ρ:Nat->Option (Option Nat)} {hd:Nat->Prop} {cs:List NC} {cur:Array Value} {bs:List (Option Nat)}
theorem FJ.set {hd':Nat->Prop} {st':Nat->Prop} {ρ':Nat->Option (Option Nat)} {j:Nat} {c:NC} {x:Value} {bo:Option Nat} (h:FJ w st k ρ hd g cs cur bs) (hj:j<cs.length)
  (Ds:∀ i c bi x,i≠j->cs[i]? = some c->bs[i]? = some bi->iQ w st k ρ x bi c->iQ w st' k ρ' x bi c)
  (N8:∀ i b,i≠j->bs[i]? = some (some b)->hd' b) (o9:∀ b,bo=some b->hd' b/\b≠g/\∀ i,i≠j->bs[i]? ≠some (some b)) (hx:cur[j]? = some x) (hc:iQ w st' k ρ' x bo c):FJ w st' k ρ' hd' g (cs.set j c) cur (bs.set j bo):=by
 obtain ⟨n1,n2,n3,n4⟩:=h;have hjb:j<bs.length:=by omega
 refine ⟨by simp[n1],fun i b hi=>?_,fun i i' b hi hi'=>?_,fun i c' bi hi kQ=>?_⟩
 ·by_cases e:i=j
  ·subst e;rw[uf hjb] at hi;have:=o9 b (by simpa using hi);exact ⟨this.1,this.2.1⟩
  ·rw[ua (sF e)] at hi;exact ⟨N8 i b e hi,(n2 i b hi).2⟩
 ·by_cases e:i=j<;>by_cases e':i'=j
  ·rw[e,e']
  ·subst e;rw[uf hjb] at hi;rw[ua (sF e')] at hi';exact absurd hi' ((o9 b (by simpa using hi)).2.2 i' e')
  ·subst e';rw[uf hjb] at hi';rw[ua (sF e)] at hi;exact absurd hi ((o9 b (by simpa using hi')).2.2 i e)
  ·rw[ua (sF e)] at hi;rw[ua (sF e')] at hi';exact n3 i i' b hi hi'
 ·by_cases e:i=j
  ·subst e;rw[uf hj] at hi;rw[uf hjb] at kQ;simp only[fD] at hi kQ;subst hi kQ;exact ⟨x,hx,hc⟩
  ·rw[ua (sF e)] at hi kQ;obtain ⟨y,y1,y2⟩:=n4 i c' bi hi kQ;exact ⟨y,y1,Ds i c' bi y e hi kQ y2⟩
end
theorem cZ.takeN (σ:St) (o j d k:Nat) {cs:List NC} {rows:List (List D)} (ho:az σ.heap o = .ext (cH k cs)) (hj:cs[j]? = some (.own rows)) (hd:hfree σ.heap d=true) (hne:o≠d) (hm:iP d (jz cs)=false):
  cZ σ { σ.kill d with heap:=aG (aG (σ.kill d).heap o (.ext (cH k (cs.set j (.nm d rows.length))))) d (.row k rows) }:=by
 rintro w0 p a w ⟨ρ,h⟩;obtain ⟨QY,R9⟩:=ep.1 hd;have hro:=h.objs o;rw[ho] at hro;simp only[RO] at hro;obtain ⟨g,hg,cur,e,cap,c1,c2,c3,c4,bs,hN⟩:=hro;have hjl:j<cs.length:=(jM.1 hj).1;obtain ⟨bo,o9⟩:∃ bo,bs[j]? = some bo:=⟨_,rF (show j<bs.length by rw[hN.1];exact hjl)⟩
 obtain ⟨x,hx,hno⟩:=hN.2.2.2 j _ bo hj o9
 let ρ1:Nm:=⟨fun y=>if y=d then some bo else ρ y,fun y=>if y=d then fun _=>False else ρ.hid y⟩
 let ρ':Nm:=⟨fun y=>if y=d then some bo else ρ y,fun y=>if y=d then fun _=>False else if y=o then fun b=>ρ.hid o b/\bo≠some b else ρ.hid y⟩
 have hk:aU w0 p (σ.kill d) a w ρ1:=h.kill d (fun y e=>⟨by simp[ρ1,e],by simp[ρ1,e]⟩) (fun h1=>by omega);have hlo:az σ.heap o≠ .dead:=by rw[ho];simp
 have hmo:az (σ.kill d).heap o = .ext (cH k cs):=by
  rw[fI,aE hne,ho,Obj.kz,show (cH k cs).qt=jz cs from rfl,hm];rfl
 have N9:ec (σ.kill d).heap o=true:=cC (by rw[hmo];simp);have N8:ec (σ.kill d).heap d=true:=by rw[St.kill,fY,kC];exact QY
 have g1:az (aG (aG (σ.kill d).heap o (.ext (cH k (cs.set j (.nm d rows.length))))) d (.row k rows)) d = .row k rows:=aX (by rw[fY];exact N8);have g2:az (aG (aG (σ.kill d).heap o (.ext (cH k (cs.set j (.nm d rows.length))))) d (.row k rows)) o = .ext (cH k (cs.set j (.nm d rows.length))):=by rw[aM hne,aX N9]
 have r1:ρ1 o=ρ o:=by simp[ρ1,hne]
 have r2:ρ1.hid o=ρ.hid o:=by simp[ρ1,hne]
 have q1:∀ b,ow ρ' o b->ow ρ1 o b:=by
  intro b hb;rcases hb with hb|hb
  ·exact .inl hb
  ·right;simp only[ρ',hne,jd,jg] at hb;rw[r2];exact hb.1
 have q2:∀ b,ow ρ' d b->bo=some b:=by
  intro b hb;rcases hb with hb|hb
  ·simpa[ρ'] using hb
  ·simp[ρ'] at hb
 have q3:∀ b,bo=some b->ρ.hid o b/\b≠g:=fun b e=>hN.2.1 j b (by rw[o9,e])
 have kW:=hk.turn (ρ':=ρ') (w':=w) (heap':=aG (aG (σ.kill d).heap o (.ext (cH k (cs.set j (.nm d rows.length))))) d (.row k rows)) (fun y=>y=o\/y=d) (fun y=>rfl)
  (fun y hy=>by simp only[vQ] at hy;simp only[ρ',ρ1,hy.1,hy.2,jd])
  (fun y hy=>by simp only[vQ] at hy;rw[aM hy.2,aM hy.1])
  (fun y b hy hl hb=>by
   refine .inr ⟨o, .inl rfl,by rw[hmo];simp,?_⟩;rcases hy with rfl|rfl
   ·exact q1 b hb
   ·right;rw[r2];exact (q3 b (q2 b hb)).1)
  (fun y y' b hy hy' hl hl' hb hb'=>by
   have u7:ow ρ' o b->ow ρ' d b->False:=by
    intro u v;have e1:=q2 b v;rcases u with u|u
    ·have:ρ o=some (some b):=by simpa[ρ',hne] using u
     rw[hg] at this;simp only[fD] at this;exact (q3 b e1).2 this.symm
    ·simp only[ρ',hne,jd,jg] at u;exact u.2 e1
   rcases hy with rfl|rfl<;>rcases hy' with rfl|rfl
   ·rfl
   ·exact (u7 hb hb').elim
   ·exact (u7 hb' hb).elim
   ·rfl)
  (fun y b hy hl hb=>by
   rcases hy with rfl|rfl
   ·simp only[ρ',hne,jd,jg] at hb;exact h.hlt y b hlo hb.1
   ·simp[ρ'] at hb)
  (fun _ _ _=>rfl) (fun _ _ hs=>hs) (iU _) rfl rfl rfl
  (fun y hy st h1 h2=>by
   have hst:∀ b,bO p σ.heap ρ w b->st b:=fun b hb=>h1 b ⟨hb.1,hb.2.1,fun y' hy'=>by
    rw[fI] at hy';by_cases e:y'=d
    ·simp[e] at hy'
    ·rw[aE e,Obj.jP] at hy';have:same ρ ρ1 y':=⟨by simp[ρ1,e],by simp[ρ1,e]⟩
     rw[this.ow];exact hb.2.2 y' hy'⟩
   have mono:∀ c bi x,iQ w (bO p σ.heap ρ w) k ρ x bi c->iQ w st k ρ x bi c:=fun c bi x hc=>iQ.mono (fun _ _ _=>rfl) (fun _ _ hs=>hs) hst (fun _ _=>rfl) hc;rcases hy with rfl|rfl
   ·rw[g2];refine ⟨g,by simpa[ρ',hne] using hg,cur,e,cap,c1,c2,c3,by simpa using c4,bs.set j none,?_⟩;refine hN.set hjl (fun i c bi x hi Oa _ hc=>?_) (fun i b hi kQ=>?_) (fun b hb=>by cases hb) hx ?_
    ·have hc:=mono c bi x hc;cases c with
     | own rows=>exact hc
     | hole=>exact hc
     | nm o' len=>
       have Tw:o'≠d:=fun e=>by
        have:=lU.2 (qd Oa);rw[e,hm] at this;cases this
       refine ⟨hc.1,?_⟩;have:=hc.2;simp only[R,show ρ'.nm o'=ρ.nm o' by simp[ρ',Tw]] at this ⊢;exact this
    ·show ρ'.hid y b;simp only[ρ',hne,jd,jg];refine ⟨(hN.2.1 i b kQ).1,fun e=>hi (hN.2.2.1 i j b kQ (by rw[o9,e]))⟩
    ·refine ⟨rfl,?_⟩;have hc:=mono (.own rows) bo x hno;simp only[R,show ρ'.nm d=some bo by simp[ρ']];cases bo with
     | none=>
       obtain ⟨e1,a',e2⟩:=hc;exact .inl ⟨rfl,trivial,by rw[e1];rfl,a',e2⟩
     | some b=>
       obtain ⟨cur',e',cap',A,n1,n2,n3,n4,n5,n6,n7⟩:=hc;exact .inr ⟨b,cap',A,rfl,⟨cur',e',n1,n2.size⟩,by omega,n3,by simpa using n6,fun hh=>by rw[MH];exact n7 hh⟩
   ·rw[g1];have hc:=mono (.own rows) bo x hno;simp only[RO,show ρ'.nm y=some bo by simp[ρ']];cases bo with
    | none=>exact hc.1
    | some b=>
      obtain ⟨cur',e',cap',A,n1,n2,n3,n4,n5,n6,n7⟩:=hc
      exact ⟨cur',e',cap',n1,n2,n3,n4,n5⟩)
 exact ⟨ρ',kW.1⟩
theorem cZ.K7 (σ:St) (o j d k n:Nat) {cs:List NC} {rows:List (List D)} (ho:az σ.heap o = .ext (cH k cs)) (hj:cs[j]? = some (.nm d n)) (hd:az σ.heap d = .row k rows) (hn:n=rows.length) (hk:0<k) (zg:d<1000) (hne:o≠d) (hm:iP d (jz (cs.set j (.own rows)))=false):
  cZ σ (({ σ with heap:=aG (aG σ.heap d .dead) o (.ext (cH k (cs.set j (.own rows)))) }:St).kill d):=by
 rintro w0 p a w ⟨ρ,h⟩;subst hn;have hro:=h.objs o;rw[ho] at hro;simp only[RO] at hro;obtain ⟨g,hg,cur,e,cap,c1,c2,c3,c4,bs,hN⟩:=hro;have hjl:j<cs.length:=(jM.1 hj).1;obtain ⟨bo,o9⟩:∃ bo,bs[j]? = some bo:=⟨_,rF (show j<bs.length by rw[hN.1];exact hjl)⟩
 obtain ⟨x,hx,hb0,hno⟩:=hN.2.2.2 j _ bo hj o9;have hrd:=h.objs d;rw[hd] at hrd;have hlo:az σ.heap o≠ .dead:=by rw[ho];simp
 have K8:az σ.heap d≠ .dead:=by rw[hd];simp
 have N9:ec σ.heap o=true:=cC hlo
  -- the row's block
 obtain ⟨bd,hbd⟩:∃ bd,ρ d=some bd:=by
  cases hq:ρ d with
  | none=>simp only[RO,hq] at hrd
  | some bd=>exact ⟨bd,rfl⟩
 have Zp:∀ st:Nat->Prop,(∀ b,bO p σ.heap ρ w b->st b)->NO w st k rows x bd:=by
  intro st hst;cases bd with
  | none=>
    simp only[RO,hbd] at hrd;simp only[R,hbd] at hno;rcases hno with ⟨_,_,_,a',e'⟩|⟨b,_,_,e1,_⟩
    ·exact ⟨hrd,a',e'⟩
    ·cases e1
  | some b=>
    simp only[RO,hbd] at hrd;obtain ⟨cu,e',cp,n1,n2,n3,n4,n5⟩:=hrd;simp only[R,hbd] at hno;rcases hno with ⟨e1,_⟩|⟨b',Zq,A,e1,⟨Zr,e2,m1,m2⟩,m3,m4,m5,m6⟩
    ·cases e1
    ·simp only[fD] at e1;subst e1;rw[n1] at m1;simp only[fD,Obj.cells.injEq] at m1;obtain ⟨rfl,_⟩:=m1;have lE:cp=Zq:=RQ hk (n2.size.symm.trans m2);subst lE;exact ⟨cu,e',cp,A,n1,n2,n3,n4,RR.mono (fun _ _ _=>rfl) (fun _ _ hs=>hs) hst (fun _=>rfl) n5,by simpa using m5,fun hh=>by have:=m6 hh;simpa using this⟩
 let ρ':Nm:=⟨ρ.nm,fun y=>if y=o then fun b=>ρ.hid o b\/bd=some b else ρ.hid y⟩
 have g1:az (aG (aG σ.heap d .dead) o (.ext (cH k (cs.set j (.own rows))))) o = .ext (cH k (cs.set j (.own rows))):=aX (by rw[fY];exact N9);have g2:az (aG (aG σ.heap d .dead) o (.ext (cH k (cs.set j (.own rows))))) d = .dead:=by rw[aM (sF hne),aX (cC K8)]
 have q1:∀ b,ow ρ' o b->ow ρ o b\/ow ρ d b:=by
  intro b hb;rcases hb with hb|hb
  ·exact .inl (.inl hb)
  ·simp only[ρ',jg] at hb;rcases hb with hb|hb
   ·exact .inl (.inr hb)
   ·exact .inr (.inl (by rw[hbd,hb]))
 have kW:=h.turn (ρ':=ρ') (w':=w) (heap':=aG (aG σ.heap d .dead) o (.ext (cH k (cs.set j (.own rows))))) (fun y=>y=o\/y=d) (fun y=>rfl)
  (fun y hy=>by simp only[vQ] at hy;simp only[ρ',hy.1,jd])
  (fun y hy=>by simp only[vQ] at hy;rw[aM hy.1,aM hy.2])
  (fun y b hy hl hb=>by
   rcases hy with rfl|rfl
   ·rcases q1 b hb with h1|h1
    ·exact .inr ⟨y, .inl rfl,hlo,h1⟩
    ·exact .inr ⟨d, .inr rfl,K8,h1⟩
   ·exact absurd g2 hl)
  (fun y y' b hy hy' hl hl' hb hb'=>by
   rcases hy with rfl|rfl<;>rcases hy' with rfl|rfl
   ·rfl
   ·exact absurd g2 hl'
   ·exact absurd g2 hl
   ·rfl)
  (fun y b hy hl hb=>by
   rcases hy with rfl|rfl
   ·simp only[ρ',jg] at hb;rcases hb with hb|hb
    ·exact h.hlt y b hlo hb
    ·exact h.mQ K8 (.inl (by rw[hbd,hb]))
   ·exact absurd g2 hl)
  (fun _ _ _=>rfl) (fun _ _ hs=>hs) (iU _) rfl rfl rfl
  (fun y hy st hst _=>by
   rcases hy with rfl|rfl
   ·rw[g1];refine ⟨g,hg,cur,e,cap,c1,c2,c3,by simpa using c4,bs.set j bd,?_⟩;have eh:ρ'.hid y=fun b=>ρ.hid y b\/bd=some b:=by simp[ρ']
    refine hN.set hjl (fun i c bi x hi Oa _ hc=>iQ.mono (fun _ _ _=>rfl) (fun _ _ hs=>hs) hst (fun _ _=>rfl) hc) (fun i b hi kQ=>by rw[eh];exact .inl (hN.2.1 i b kQ).1) (fun b hb=>⟨by rw[eh];exact .inr hb,fun e'=>?_,fun i hi kQ=>?_⟩) hx (Zp st hst)
    ·subst e';exact hne (h.inj y d b hlo K8 (.inl hg) (.inl (by rw[hbd,hb])))
    ·exact hne (h.inj y d b hlo K8 (.inr (hN.2.1 i b kQ).1) (.inl (by rw[hbd,hb])))
   ·rw[g2];simp[RO])
 exact ⟨ρ',kW.1.kill d (fun _ _=>same.refl) (fun _=>rfl)⟩
theorem cZ.eE (σ:St) (o k:Nat) {ls:List (List (List D))} (ho:az σ.heap o = .ext (cH k (ls.map .own))):cZ σ { σ with heap:=aG σ.heap o (.row 1 (ls.map fun rows=>[.sl k rows])) }:=by
 rintro w0 p a w ⟨ρ,h⟩;have hro:=h.objs o;rw[ho] at hro;simp only[RO] at hro;obtain ⟨g,hg,cur,e,cap,c1,c2,c3,c4,bs,hN⟩:=hro;have hlo:az σ.heap o≠ .dead:=by rw[ho];simp
 have N9:ec σ.heap o=true:=cC hlo
 let ρ':Nm:=⟨ρ.nm,fun y=>if y=o then fun _=>False else ρ.hid y⟩
 have g1:az (aG σ.heap o (.row 1 (ls.map fun rows=>[.sl k rows]))) o = .row 1 (ls.map fun rows=>[.sl k rows]):=aX N9
 have q1:∀ b,ow ρ' o b->ρ o=some (some b):=by
  intro b hb;rcases hb with hb|hb
  ·exact hb
  ·simp[ρ'] at hb
 have kW:=h.turn (ρ':=ρ') (w':=w) (heap':=aG σ.heap o (.row 1 (ls.map fun rows=>[.sl k rows]))) (fun y=>y=o) (fun y=>rfl)
  (fun y hy=>by simp only[ρ',hy,jd])
  (fun y hy=>aM hy)
  (fun y b hy hl hb=>by subst hy;exact .inr ⟨y,rfl,hlo, .inl (q1 b hb)⟩)
  (fun y y' b hy hy' hl hl' hb hb'=>hy.trans hy'.symm)
  (fun y b hy hl hb=>by subst hy;simp[ρ'] at hb)
  (fun _ _ _=>rfl) (fun _ _ hs=>hs) (iU _) rfl rfl rfl
  (fun y hy st hst Il=>by
   subst hy;rw[g1];simp only[RO,show ρ'.nm y=some (some g) from hg];refine ⟨cur,e,cap,c1,c2,c3,by simpa using c4,?_⟩
   have key:∀ (l2:List (List (List D))) (i:Nat),(∀ j rows,l2[j]? = some rows->ls[i+j]? = some rows)->RR w st 1 g i (l2.map fun rows=>[.sl k rows]):=by
    intro l2
    induction l2 with
    | nil=>intro i _;simp[RR]
    | cons r l2 ih=>
      intro i hl;have h0:ls[i]? = some r:=by have:=hl 0 r (by simp);simpa using this
      have Yo:i<bs.length:=by rw[hN.1,dD];exact (jM.1 h0).1
      obtain ⟨x,x1,x2⟩:=hN.2.2.2 i (.own r) bs[i] (by rw[wR,h0];rfl) (rF Yo);have pP:x.oneCell'=true:=c2.one x (fS (by rw[oe];exact x1));simp only[fk,RR];refine ⟨rfl,?_,ih (i+1) (fun j rows hj=>by have:=hl (j+1) rows (by simpa using hj);rw[show i+1+j=i+(j+1) by omega];exact this)⟩;simp only[RC];refine ⟨⟨x,by rw[cell_of_row w g i cur e (0,0) c1];exact x1,pP,?_⟩,trivial⟩;have kQ:=rF Yo;simp only[R];cases hb:bs[i] with
      | none=>
        rw[hb] at x2;obtain ⟨e1,a',e2⟩:=x2;exact ⟨a',0,by rw[e1];exact e2,by rw[e1];simp,ek _, .inl e1⟩
      | some b=>
        rw[hb] at x2 kQ;obtain ⟨cu,e',cp,A,n1,n2,n3,n4,n5,n6,n7⟩:=x2;refine ⟨A,cp,n6,n4,n3,?_⟩;cases r with
        | nil=>exact .inl rfl
        | cons r0 rs=>
          simp only[List.length_cons] at n4;refine .inr ⟨b,0,n7 (by omega),Il b (.inr ⟨y,rfl,hlo, .inr (hN.2.1 i b kQ).1⟩) (fun y' hy' _ hb'=>?_),RR.mono (fun _ _ _=>rfl) (fun _ _ hs=>hs) hst (fun _=>rfl) n5⟩;subst hy';have:=q1 b hb';rw[hg] at this;simp only[fD] at this;exact (hN.2.1 i b kQ).2 this.symm
   exact key ls 0 (fun j rows hj=>by rw[kO];exact hj))
 exact ⟨ρ',kW.1⟩
def pL (k:Nat):D->Option NC
 | .cW d k' 0 n=>if k'=k then some (.nm d n) else none
 | .sc (.slice none 0 0)=>some (.own [])
 | _=>none
theorem Ho {k:Nat} {u:Value} {c:NC} (h:pL k (.sc u)=some c):u = .slice none 0 0/\c = .own []:=by
 cases u with
 | slice a l cp=>
   cases a with
   | some a=>simp[pL] at h
   | none=>
     cases l with
     | succ l=>simp[pL] at h
     | zero=>
       cases cp with
       | succ cp=>simp[pL] at h
       | zero=>simp only[pL,fD] at h;exact ⟨rfl,h.symm⟩
 | _=>simp[pL] at h
theorem uA {w:World} {st:Nat->Prop} {ρ:Nat->Option (Option Nat)} {k:Nat} {d:D} {c:NC} {v:Value} (h:pL k d=some c) (hr:R w st ρ d v):iQ w st k ρ v none c:=by
 cases d with
 | cW d k' off n=>
   cases off with
   | succ m=>simp[pL] at h
   | zero=>
     simp only[pL] at h
     split at h
     ·rename_i e;subst e;simp only[fD] at h;subst h;exact ⟨rfl,hr⟩
     ·cases h
 | sc u=>
   obtain ⟨rfl,rfl⟩:=Ho h;simp only[R] at hr;exact ⟨rfl,none,hr⟩
 | _=>simp[pL] at h
theorem Dt {k:Nat} {d:D} {c:NC} (h:pL k d=some c):qP d=true/\cellsD d=some [d]:=by
 cases d with
 | cW d k' off n=>exact ⟨rfl,rfl⟩
 | sc u=>
   obtain ⟨rfl,rfl⟩:=Ho h;exact ⟨rfl,rfl⟩
 | _=>simp[pL] at h
theorem iQ.vU {w:World} {st:Nat->Prop} {ρ ρ':Nat->Option (Option Nat)} {k:Nat} {c:NC} {x:Value} {bo:Option Nat} (hn:∀ o len,c = .nm o len->ρ' o=ρ o) (h:iQ w st k ρ x bo c):iQ w st k ρ' x bo c:=by
 cases c with
 | own rows=>exact h
 | hole=>exact h
 | nm o len=>
   have he:=hn o len rfl;refine ⟨h.1,?_⟩;have:=h.2;simp only[R,he] at this ⊢;exact this
section
variable {P:Program} {σ:St}
theorem Sound.PT (t:TypeId) (x:Operand) (ti:TI) {L j k d n:Nat} {cs:List NC} (ht:aA P t=some ti) (hx:bh σ x = .jN L 1 j 0) (hL:az σ.heap L = .ext (cH k cs)) (hj:cs[j]? = some (.nm d n)) (h1:ti.size=1) (EM:ti.kind.isAgg=false):Sound P σ (.load t x) (.cW d k 0 n):=by
 intro w0 p a w ρ o ho h;have ha:=h.bh x;rw[hx] at ha;simp only[R] at ha;obtain ⟨g',a1,a2⟩:=ha;have hro:=h.objs L;rw[hL] at hro;simp only[RO] at hro;obtain ⟨g,hg,cur,e,cap,c1,c2,c3,c4,bs,hN⟩:=hro;rw[hg] at a1;simp only[fD] at a1;subst a1;have hjl:j<cs.length:=(jM.1 hj).1;obtain ⟨v,hv,hb,hR⟩:=hN.2.2.2 j _ _ hj (rF (show j<bs.length by rw[hN.1];exact hjl));obtain ⟨_,hsz,_,_,Wt⟩:=ej ht w;have hc:w.cell? ⟨g,j,none⟩=some v:=by rw[cell_of_row w g j cur e (0,0) c1];exact hv
 simp only[JV,Nat.add_zero] at a2;exact ⟨v,by simp[execOp,ho,Instr.loadAt,a2,Instr.sureAddr,loadVar,Wt,EM,hc],hR⟩
theorem cP.K9 {o:Oper} {t:TypeId} {ax vx:Operand} {ti:TI} {L j k:Nat} {cs:List NC} {c:NC} (ho:o.op = .store t ax vx) (ht:aA P t=some ti) (h1:ti.size=1) (Wu:bh σ ax = .jN L 1 j 0) (hL:az σ.heap L = .ext (cH k cs)) (hj:j<cs.length)
  (hc:pL k (bh σ vx)=some c):cP P σ o (St.put { σ with heap:=aG σ.heap L (.ext (cH k (cs.set j c))) } o.dst (.sc undef)):=by
 rintro w0 p a w ⟨ρ,h⟩;obtain ⟨hone,hcd⟩:=Dt hc;obtain ⟨hu,hcs⟩:=uh hone (h.bh vx);have w6:(a.eval vx).cells.toList=[a.eval vx]:=by rw[hcs]
 have hsz:(a.eval vx).cells.size=ti.size:=by rw[hcs,h1];rfl
 have ha:=h.bh ax;rw[Wu] at ha;simp only[R] at ha;obtain ⟨g',a1,a2⟩:=ha;have hro:=h.objs L;rw[hL] at hro;simp only[RO] at hro;obtain ⟨g,hg,cur,e,cap,c1,c2,c3,c4,bs,hN⟩:=hro;rw[hg] at a1;simp only[fD] at a1;subst a1;simp only[JV,Nat.add_zero] at a2;have BD:cur.toList.length=cur.size:=Array.length_toList;have R8:j<cur.size:=by rw[c2.size];omega
 have hfit:j+(a.eval vx).cells.toList.length<=cur.size:=by rw[w6];simp only[List.length_singleton];omega
 have hrun:=ou ht (w:=w) (g:=g) (off:=j) (v:=a.eval vx) c1 hsz hfit (by rw[w6];intro u pM;rw[rG.1 pM];exact hu);refine ⟨undef,_, .inr ⟨rfl,by simp[execOp,ho,Instr.storeAt,a2,Instr.sureAddr,hrun];rfl⟩,?_⟩;rw[w6];have eL:az σ.heap L≠ .dead:=by rw[hL];simp
 have u0:(splice cur.toList j [a.eval vx]).length=cur.toList.length:=fU (by rw[BD];simp only[List.length_singleton];omega)
 have VA:=h.Vv (o:=L) (g:=g) (x:= .ext (cH k (cs.set j c))) (cur:=cur) (cur':=(splice cur.toList j [a.eval vx]).toArray) (e:=e) eL hg c1 (by rw[zS,u0,BD]) (by simp) (fun st hst=>by
  have hb:∀ b,b≠g->(w.setRow g (splice cur.toList j [a.eval vx]).toArray).heap[b]? = w.heap[b]? :=fun b hb=>setRow_other w g b _ hb
  have lE:∀ b q,bO p σ.heap ρ w b->(w.setRow g (splice cur.toList j [a.eval vx]).toArray).cell? ⟨b,q,none⟩=w.cell? ⟨b,q,none⟩:=by
   intro b q hs;refine World.cell?_of_block (w:=w) (a:=⟨b,q,none⟩) (hb b ?_);rintro rfl;exact hs.2.2 L eL (.inl hg)
  have hsh:∀ b n,Sh w b n->Sh (w.setRow g (splice cur.toList j [a.eval vx]).toArray) b n:=by
   intro b n hh;by_cases e':b=g
   ·subst e';obtain ⟨cu,e2,s1,s2⟩:=hh;rw[c1] at s1;simp only[fD,Obj.cells.injEq] at s1;exact ⟨_,e,setRow_heap w b cur _ e (0,0) c1,by rw[zS,u0,BD,s1.1,s2]⟩
   ·exact ct (hb b e') hh
  have az:∀ i,(splice cur.toList j [a.eval vx]).toArray[i]? = if i=j then some (a.eval vx) else cur[i]? :=by
   intro i;rw[Pj]
   have:splice cur.toList j [a.eval vx]=cur.toList.set j (a.eval vx):=by
    unfold splice;rw[List.length_singleton,List.set_eq_take_append_cons_drop,bC (by rw[BD];exact R8)];simp
   rw[this];by_cases e':i=j
   ·subst e';rw[bC rfl,uf (by rw[BD];exact R8)]
   ·rw[aE e',ua (sF e'),oe]
  simp only[RO];refine ⟨g,hg,_,e,cap,setRow_heap w g cur _ e (0,0) c1,⟨by rw[zS,u0,BD];exact c2.size,fun v hv=>?_⟩,c3,by simpa using c4,bs.set j none,by simp[hN.1],?_,?_,?_⟩
  ·obtain ⟨i,hi⟩:=Vs hv;rw[oe,az] at hi
   split at hi
   ·simp only[fD] at hi;rw[<- hi];exact hu
   ·exact c2.one v (fS (by rw[oe];exact hi))
  ·intro i b hi;by_cases e':i=j
   ·subst e';rw[uf (by rw[hN.1];exact hj)] at hi;simp at hi
   ·rw[ua (sF e')] at hi;exact hN.2.1 i b hi
  ·intro i i' b hi hi';by_cases e1:i=j
   ·subst e1;rw[uf (by rw[hN.1];exact hj)] at hi;simp at hi
   ·by_cases e2:i'=j
    ·subst e2;rw[uf (by rw[hN.1];exact hj)] at hi';simp at hi'
    ·rw[ua (sF e1)] at hi;rw[ua (sF e2)] at hi';exact hN.2.2.1 i i' b hi hi'
  ·intro i c' bi hi kQ;rw[az];by_cases e':i=j
   ·subst e';rw[uf hj] at hi;rw[uf (by rw[hN.1];exact hj)] at kQ;simp only[fD] at hi kQ;subst hi kQ;exact ⟨_,bC rfl,iQ.mono lE hsh hst (fun b hb'=>by cases hb') (uA hc (h.bh vx))⟩
   ·rw[ua (sF e')] at hi kQ;obtain ⟨y,y1,y2⟩:=hN.2.2.2 i c' bi hi kQ
    exact ⟨y,by rw[aE e'];exact y1,iQ.mono lE hsh hst (fun b hb'=>hb b (hN.2.1 i b (by rw[kQ,hb'])).2) y2⟩)
 exact ⟨ρ,VA.put o.dst (by simp only[R])⟩
def s7 (k:Nat):List D->Option (List NC)
 | []=>some []
 | d::ds=>(pL k d).bind fun c=>(s7 k ds).map fun cs=>c::cs
theorem Aw {k:Nat}:∀ {ds:List D} {cs:List NC},s7 k ds=some cs->cs.length=ds.length/\∀ (j:Nat) c,cs[j]? = some c->∃ d,ds[j]? = some d/\pL k d=some c
 | [],cs,h=>by simp only[s7,fD] at h;subst h;simp
 | d::ds,cs,h=>by
   simp only[s7,j3,ku] at h;obtain ⟨c,h1,cs',h2,rfl⟩:=h;obtain ⟨h3,h4⟩:=Aw h2;refine ⟨by simp[h3],fun j c' hj=>?_⟩;cases j with
   | zero=>simp only[dJ,fD] at hj;subst hj;exact ⟨d,rfl,h1⟩
   | succ j=>exact h4 j c' (by simpa using hj)
theorem Ax {k:Nat}:∀ {ds:List D} {cs:List NC},s7 k ds=some cs->ds.all qP=true
 | [],_,_=>rfl
 | d::ds,cs,h=>by
   simp only[s7,j3,ku] at h;obtain ⟨c,h1,cs',h2,rfl⟩:=h;rw[List.all_cons,(Dt h1).1,Ax h2];rfl
theorem cP.La {o:Oper} {t:TypeId} {n d k:Nat} {parts:Array (Nat×Operand)} {ti ei:TI} {e:TypeId} {cells:List D} {cs:List NC} (ho:o.op = .buildSlice t n parts) (nJ:o.dst=some d) (hh:hfree σ.heap d=true) (ht:aA P t=some ti) (hk:ti.kind.elem? = some e)
  (he:aA P e=some ei) (h1:ei.size=1) (hn:n<=16777216) (hf:nK (fun i=>some (i*ei.size,ei.size)) (jB ei.zero (n*ei.size)) (parts.toList.map fun x=>(x.1,bh σ x.2))=some cells)
  (hlen:cells.length=n) (hcs:s7 k cells=some cs) (hm:iP d (jz cs)=false):
  cP P σ o (St.put { σ.bF [d] with heap:=aG (σ.bF [d]).heap d (.ext (cH k cs)) } (some d) (.cW d 1 0 n)):=by
 rintro w0 p a w ⟨ρ,h⟩;have hu:=run_underlying (P:=P) (eV ht hk) w;obtain ⟨_,hs,_,hz,_⟩:=ej he w;have hle:n*ei.size<=16777216:=by rw[h1];omega
 have Nl:RL w (bO p σ.heap ρ w) ρ (jB ei.zero (n*ei.size)) ((List.range (n*ei.size)).map fun i=>ei.zero.cells[i%ei.zero.cells.size]!):=by
  have:jB ei.zero (n*ei.size)=((List.range (n*ei.size)).map fun i=>ei.zero.cells[i%ei.zero.cells.size]!).map .sc:=by simp[jB,H7,Function.comp_def]
  rw[this];exact pU _
 obtain ⟨vs',g1,h2⟩:=nL (ov:=parts.toList.map fun x=>(x.1,a.eval x.2)) Nl (by simp[H7,Function.comp_def]) (sS h parts.toList) hf;have h4:=rJ (Ax hcs) h2;have hvl:=dF h2;obtain ⟨c1,c2⟩:=Aw hcs;refine ⟨.slice (some ⟨w.heap.size,0,none⟩) n n,w.alloc (.cells vs'.toArray e), .inl ?_,?_⟩
 ·have hle':¬ (n*ei.size>2^24):=by omega
  have va:∀ z:Array Value,(n*ei.size=0\/z=ei.zero.cells)->Instr.fill (fun i=>some (i*ei.size,ei.size)) ((Array.range (n*ei.size)).map (z[· % z.size]!)) (parts.map fun x=>(x.1,a.eval x.2)).toList=some vs'.toArray:=by
   intro z yP
   have ez:(Array.range (n*ei.size)).map (z[· % z.size]!)=((List.range (n*ei.size)).map fun i=>ei.zero.cells[i%ei.zero.cells.size]!).toArray:=by
    rcases yP with h0|rfl
    ·rw[h0];simp
    ·apply Ig.1;simp
   rw[ez,Qs];exact g1
  by_cases h0:n*ei.size=0
  ·have Kg:=va #[] (.inl h0);simp only[execOp,ho,Instr.buildSlice,Sem.run_bind,hu,Result.andThen_ok,hs,Sem.run_pure];rw[aE hle'];simp only[Sem.run_bind,Sem.run_pure,Result.andThen_ok,bC h0];simp only[Kg,Sem.run_bind,Sem.run_pure,newRow,run_newObj,Result.andThen_ok];rfl
  ·have Kg:=va ei.zero.cells (.inr rfl);simp only[execOp,ho,Instr.buildSlice,Sem.run_bind,hu,Result.andThen_ok,hs,Sem.run_pure];rw[aE hle'];simp only[Sem.run_bind,Sem.run_pure,Result.andThen_ok,aE h0,hz];simp only[Kg,Sem.run_bind,Sem.run_pure,newRow,run_newObj,Result.andThen_ok];rfl
 ·rw[nJ];have yQ:n<=maxLen:=by unfold maxLen;omega
  have hsz:vs'.length=n:=by rw[hvl,hlen]
  have hnb:=h.jS (ids:=[d]) (o:=d) (x:= .ext (cH k cs)) (cur:=vs'.toArray) (e:=e) (by simp) hh (by simp) (fun st hst=>by
   simp only[RO];refine ⟨w.heap.size,bK _ _,_,e,n,heap_alloc_new w _,⟨by rw[zS,hsz,JV],fun v hv=>h4 v (by simpa using hv)⟩,yQ,by omega,cs.map (fun _=>none),by simp,?_,?_,?_⟩
   ·intro j b hj;rw[wR,ku] at hj;obtain ⟨_,_,hj⟩:=hj;cases hj
   ·intro i j b hi;rw[wR,ku] at hi;obtain ⟨_,_,hi⟩:=hi;cases hi
   ·intro j c bo hj hb;rw[wR,ku] at hb;obtain ⟨_,_,rfl⟩:=hb;obtain ⟨dd,d1,d2⟩:=c2 j c hj;obtain ⟨v,v1,v2⟩:=pV h2 d1;refine ⟨v,by rw[Pj];exact v1,iQ.vU (ρ:=ρ) (fun o' len e'=>?_) (iQ.mono (fun g off hg=>World.cell?_alloc_lt w _ ⟨g,off,none⟩ hg.2.1) (fun g n hs=>ct (Below.heap_alloc w _ g hs.lt) hs) hst (fun b e'=>by cases e') (uA d2 v2))⟩;refine eU (fun e2=>?_);subst e2;subst e';have:=lU.2 (qd hj)
    rw[hm] at this;cases this)
  refine ⟨_,hnb.put (some d) ?_⟩;simp only[R,bK];exact .inr ⟨w.heap.size,n,_,rfl,⟨_,e,heap_alloc_new w _,by rw[zS,hsz,JV]⟩,by omega,yQ,rfl,fun _=>by simp⟩
def qf (σ:St) (k:Nat) (x:Operand) (c:NC):Prop:= ∀ w0 p a w ρ,aU w0 p σ a w ρ->∃ b cc u,a.eval x = .slice (some b) 1 cc/\w.cell? b=some u/\u.oneCell'=true/\iQ w (bO p σ.heap ρ w) k ρ u none c
theorem qf.row {k M:Nat} {x:Operand} {d:D} {c:NC} (hx:bh σ x = .cW M 1 0 1) (hM:az σ.heap M = .row 1 [[d]]) (hc:pL k d=some c):qf σ k x c:=by
 intro w0 p a w ρ h;have ha:=h.bh x;rw[hx] at ha;simp only[R] at ha;have hro:=h.objs M;rw[hM] at hro;rcases ha with ⟨_,_,e,_⟩|⟨g,cap,A,e1,⟨cu,e2,m1,m2⟩,m3,m4,m5,m6⟩
 ·cases e
 ·simp only[RO,e1] at hro;obtain ⟨cur,e',cap',r1,r2,r3,r4,r5⟩:=hro;simp only[RR,RC] at r5;obtain ⟨_,⟨⟨v,v1,v2,v3⟩,_⟩,_⟩:=r5;refine ⟨⟨g,0,none⟩,cap,v,?_,v1,v2,?_⟩
  ·have hA:=m6 (by omega);rw[MH] at hA;rw[m5,hA,Nat.sub_zero]
  ·exact uA hc (R.lT v3)
theorem qf.nest {k M:Nat} {x:Operand} {o n:Nat} (hx:bh σ x = .cW M 1 0 1) (hM:az σ.heap M = .ext (cH k [.nm o n])):qf σ k x (.nm o n):=by
 intro w0 p a w ρ h;have ha:=h.bh x;rw[hx] at ha;simp only[R] at ha;have hro:=h.objs M;rw[hM] at hro;rcases ha with ⟨_,_,e,_⟩|⟨g,cap,A,e1,⟨cu,e2,m1,m2⟩,m3,m4,m5,m6⟩
 ·cases e
 ·simp only[RO,e1] at hro;obtain ⟨g',hg,cur,e',cap',c1,c2,c3,c4,bs,hN⟩:=hro;simp only[fD] at hg;subst hg;obtain ⟨v,v1,v2,v3⟩:=hN.2.2.2 0 (.nm o n) (bs[0]'(by rw[hN.1];simp)) rfl (rF _);refine ⟨⟨g,0,none⟩,cap,v,?_,by rw[cell_of_row w g 0 cur e' (0,0) c1];exact v1,c2.one v (fS (by rw[oe];exact v1)),rfl,v3⟩;have hA:=m6 (by omega);rw[MH] at hA;rw[m5,hA,Nat.sub_zero]
theorem aU.pass {w0:World} {p:Pm} {a:Act} {w w':World} {ρ:Nm} (h:aU w0 p σ a w ρ) {o d:Nat} {X:Obj} {z:Nat} (hlo:az σ.heap o≠ .dead) (hh:hfree σ.heap d=true) (hne:o≠d) (hXd:X≠ .dead)
  (hz:ρ o=some (some z)\/w.heap.size<=z) (hzl:z<w'.heap.size)
  (hw:∀ b,b<w.heap.size->ρ o≠some (some b)->w'.heap[b]? = w.heap[b]?) (hs:∀ g n,Sh w g n->Sh w' g n) (hsz:w.heap.size<=w'.heap.size) (hos:w'.os=w.os) (Nd:w'.tape=w.tape) (hout:w'.output=w.output)
  (hx:∀ st:Nat->Prop,(∀ g,bO p σ.heap ρ w g->st g)->RO w' st ⟨fun y=>if y=d then some (some z) else ρ y,fun y=>if y=d then ρ.hid o else ρ.hid y⟩ d X):
  aU w0 p (({ σ.kill d with heap:=aG (aG (σ.kill d).heap o .dead) d X }:St).kill o) a w' ⟨fun y=>if y=d then some (some z) else ρ y,fun y=>if y=d then ρ.hid o else ρ.hid y⟩:=by
 obtain ⟨QY,R9⟩:=ep.1 hh
 let ρ1:Nm:=⟨fun y=>if y=d then some (some z) else ρ y,fun y=>if y=d then fun _=>False else ρ.hid y⟩
 have hk:aU w0 p (σ.kill d) a w ρ1:=h.kill d (fun y e=>⟨by simp[ρ1,e],by simp[ρ1,e]⟩) (fun h1=>by omega);have Oc:az (σ.kill d).heap o≠ .dead:=by rw[fI,aE hne,Obj.jP];exact hlo
 have N8:ec (σ.kill d).heap d=true:=by rw[St.kill,fY,kC];exact QY
 have g1:az (aG (aG (σ.kill d).heap o .dead) d X) d=X:=aX (by rw[fY];exact N8);have g2:az (aG (aG (σ.kill d).heap o .dead) d X) o = .dead:=by rw[aM hne,aX (cC Oc)]
 have s1:same ρ ρ1 o:=⟨by simp[ρ1,hne],by simp[ρ1,hne]⟩
 have kW:=hk.turn (ρ':=⟨fun y=>if y=d then some (some z) else ρ y,fun y=>if y=d then ρ.hid o else ρ.hid y⟩) (w':=w') (heap':=aG (aG (σ.kill d).heap o .dead) d X) (fun y=>y=o\/y=d) (fun y=>rfl)
  (fun y hy=>by simp only[vQ] at hy;simp only[ρ1,hy.2,jd])
  (fun y hy=>by simp only[vQ] at hy;rw[aM hy.2,aM hy.1])
  (fun y b hy hl hb=>by
   rcases hy with rfl|rfl
   ·exact absurd g2 hl
   ·rcases hb with hb|hb
    ·simp only[jg,fD] at hb;subst hb;rcases hz with hz|hz
     ·exact .inr ⟨o, .inl rfl,Oc,s1.ow.2 (.inl hz)⟩
     ·exact .inl hz
    ·simp only[jg] at hb
     exact .inr ⟨o, .inl rfl,Oc,s1.ow.2 (.inr hb)⟩)
  (fun y y' b hy hy' hl hl' hb hb'=>by
   rcases hy with rfl|rfl<;>rcases hy' with rfl|rfl
   ·rfl
   ·exact absurd g2 hl
   ·exact absurd g2 hl'
   ·rfl)
  (fun y b hy hl hb=>by
   rcases hy with rfl|rfl
   ·exact absurd g2 hl
   ·simp only[jg] at hb
    exact Ie (h.hlt o b hlo hb) hsz)
  (fun b hb hnot=>hw b hb (fun e=>hnot o (.inl rfl) Oc (s1.ow.2 (.inl e)))) hs hsz hos Nd hout
  (fun y hy st h1 _=>by
   rcases hy with rfl|rfl
   ·rw[g2];simp[RO]
   ·rw[g1]
    exact hx st (fun b hb=>h1 b ⟨hb.1,hb.2.1,fun y' hy'=>by
     rw[fI] at hy';by_cases e:y'=y
     ·simp[e] at hy'
     ·rw[aE e,Obj.jP] at hy';have:same ρ ρ1 y':=⟨by simp[ρ1,e],by simp[ρ1,e]⟩
      rw[this.ow];exact hb.2.2 y' hy'⟩))
 exact kW.1.kill o (fun _ _=>same.refl) (fun _=>rfl)
theorem FJ.snoc {w w2:World} {st Vw:Nat->Prop} {k g z:Nat} {ρ ρ2:Nat->Option (Option Nat)} {hd R9:Nat->Prop} {cs:List NC} {cur uq:Array Value} {bs:List (Option Nat)} {c:NC} {u:Value} (h:FJ w st k ρ hd g cs cur bs)
  (az:∀ (i:Nat) x,i<cs.length->cur[i]? = some x->uq[i]? = some x) (hn:uq[cs.length]? = some u) (Ds:∀ (i:Nat) c bi x,cs[i]? = some c->bs[i]? = some bi->iQ w st k ρ x bi c->iQ w2 Vw k ρ2 x bi c)
  (hc:iQ w2 Vw k ρ2 u none c) (hb:∀ (i b:Nat),bs[i]? = some (some b)->R9 b/\b≠z):FJ w2 Vw k ρ2 R9 z (cs++[c]) uq (bs++[none]):=by
 obtain ⟨n1,n2,n3,n4⟩:=h
 have old:∀ (i b:Nat),(bs++[none])[i]? = some (some b)->bs[i]? = some (some b):=by
  intro i b hi;by_cases e:i<bs.length
  ·rwa [Cl e] at hi
  ·rw[EJ (by omega)] at hi;by_cases e2:i-bs.length=0
   ·rw[e2] at hi;simp at hi
   ·rw[GU (by simp;omega)] at hi;cases hi
 refine ⟨by simp[n1],fun i b hi=>hb i b (old i b hi),fun i j b hi hj=>n3 i j b (old i b hi) (old j b hj),fun i c' bi hi kQ=>?_⟩;by_cases e:i<cs.length
 ·rw[Cl e] at hi;rw[Cl (by omega)] at kQ;obtain ⟨x,x1,x2⟩:=n4 i c' bi hi kQ;exact ⟨x,az i x e x1,Ds i c' bi x hi kQ x2⟩
 ·rw[EJ (by omega)] at hi;rw[EJ (by omega),n1] at kQ;by_cases e2:i-cs.length=0
  ·have:i=cs.length:=by omega
   subst this;rw[e2] at hi kQ;simp only[dJ,fD] at hi kQ;subst hi kQ;exact ⟨u,hn,hc⟩
  ·rw[GU (by simp;omega)] at hi;cases hi
theorem cP.wB {o:Oper} {s x:Operand} {t:TypeId} {d k L n:Nat} {ti ei:TI} {e:TypeId} {cs:List NC} {c:NC} (ho:o.op = .call { callee:= .builtin .append,args:= #[s,x],argTypes:= #[t,t] })
  (nJ:o.dst=some d) (ht:aA P t=some ti) (hk:ti.kind.elem? = some e) (he:aA P e=some ei) (h1:ei.size=1) (hzs:ei.zero.cells.size=ei.size) (qZ:ei.zero.cells.toList.all (·.oneCell')=true) (hb0:0<ei.bytes) (hh:hfree σ.heap d=true)
  (hs:bh σ s = .cW L 1 0 n) (hL:az σ.heap L = .ext (cH k cs)) (hn:n=cs.length) (hne:L≠d) (hx:qf σ k x c) (hm:iP d (jz (cs++[c]))=false) (hb:(n+1)*ei.bytes<=140737488355328):
  cP P σ o (St.put (({ σ.kill d with heap:=aG (aG (σ.kill d).heap L .dead) d (.ext (cH k (cs++[c]))) }:St).kill L) (some d) (.cW d 1 0 (n+1))):=by
 rintro w0 p a w ⟨ρ,h⟩;obtain ⟨i,dt,hi,hu,z1,z2,z3,z4⟩:=cr ht;obtain ⟨ie,de,Fk,R5,y1,y2,y3,y4⟩:=cr he
 have QB:P.underlying t=some (.slice e):=by
  cases hkk:ti.kind with
  | slice e'=>
    rw[hkk] at hk z4;simp only[TK.elem?,fD] at hk;subst hk;rw[iY z4] at hu;exact hu
  | _=>rw[hkk] at hk;simp[TK.elem?] at hk
 obtain ⟨bx,cc,u,x1,x2,x3,x4⟩:=hx w0 p a w ρ h
 have h63:n+1<=maxLen:=by
  have:(n+1)*1<=(n+1)*ei.bytes:=Nat.mul_le_mul_left _ hb0;unfold maxLen;omega
 have hro:=h.objs L;rw[hL] at hro;simp only[RO] at hro;obtain ⟨g,hg,cur,e',cap,c1,c2,c3,c4,bs,hN⟩:=hro;have hlo:az σ.heap L≠ .dead:=by rw[hL];simp
 have has:=h.bh s;rw[hs] at has;simp only[R,hg] at has;rcases has with ⟨q,_⟩|⟨g',nr,A,q1,⟨Zr,e2,m1,m2⟩,m3,m4,m5,m6⟩
 ·cases q
 simp only[fD] at q1;subst q1;rw[c1] at m1;simp only[fD,Obj.cells.injEq] at m1;obtain ⟨rfl,_⟩:=m1;have hcap:nr=cap:=by have:=c2.size;omega
 subst hcap;simp only[Nat.sub_zero,kO,MH] at m3 m5 m6;have hcs:cur.size=nr:=by rw[c2.size,JV]
 have Wv:(cur.toList.take n).length=n*ie.size:=by rw[y1,h1,cw,Array.length_toList];omega
 have kg:∀ v w',(Builtin.append_ #[t,t] o.type #[.slice A n nr, .slice (some bx) 1 cc]).run P w = .ok v w'->(execOp a.eval o).run P w = .ok (.value v) w':=by
  intro v w' h2;simp[execOp,ho,resolve,invoke,builtin,m5,x1,h2]
 have hall:=gR (P:=P) (w:=w) t o.type e ie ei.zero QB Fk y3 A n nr (cur.toList.take n) Wv m3 (by
   by_cases hn0:n=0
   ·exact .inl hn0
   ·refine .inr ⟨⟨g,0,none⟩,m6 (by omega),fun j v hj=>?_⟩;rw[JG] at hj
    split at hj
    ·rw[Addr.add_lit,kO,cell_of_row w g j cur e' (0,0) c1, <- oe];exact hj
    ·cases hj) (some bx) 1 cc [u] (by rw[y1,h1];rfl) (.inr ⟨bx,rfl,fun j v hj=>by
   cases j with
   | zero=>simp only[dJ,fD] at hj;subst hj;rw[show bx.add 0=bx by cases bx;rfl];exact x2
   | succ j=>simp at hj⟩) (fun v hv=>by rw[rG.1 hv];exact x3)
  (fun _ hle=>⟨g,0,cur,e',m6 (by omega),c1,by rw[y1,h1];simp only[List.length_singleton];omega⟩) h63 (by rw[y2];exact hb) (fun v hv=>yN.1 qZ v hv) (fun v hv=>c2.one v (zR hv))
 have bM:∀ {z:Nat} {st:Nat->Prop} {w2:World} {xx:Value} {bi:Option Nat} {c':NC},c'∈cs++[c]->iQ w2 st k ρ xx bi c'->iQ w2 st k (fun y=>if y=d then some (some z) else ρ y) xx bi c':=by
  intro z st w2 xx bi c' hmem hc;refine iQ.vU (fun o' len e2=>?_) hc
  have Tw:o'≠d:=by
   rintro rfl;subst e2;obtain ⟨j,hj⟩:=Vs hmem;have:=lU.2 (qd hj);rw[hm] at this;cases this
  simp[Tw]
 rcases hall with ⟨q,_⟩|⟨_,hle,g',q,cur',e3,r1,r2,r3,r4⟩|⟨_,hlt,zh,oE,r1,r2,r3,r4,r5⟩
 ·cases q
 · -- in place
   rw[m6 (by omega)] at r1;simp only[fD,Addr.mk.injEq] at r1;obtain ⟨rfl,rfl,_⟩:=r1;rw[c1] at r2;simp only[fD,Obj.cells.injEq] at r2;obtain ⟨rfl,rfl,_⟩:=r2;rw[y1,h1] at r4;simp only[kO,JV,List.length_singleton] at r4
   have hlen:(cur.toList.take n++[u]++cur.toList.drop (n+1)).toArray.size=cur.size:=by
    simp only[zS,bW,cw,bQ,Array.length_toList,List.length_singleton];omega
   have o9:∀ b,b≠g->(w.setRow g (cur.toList.take n++[u]++cur.toList.drop (n+1)).toArray).heap[b]? = w.heap[b]? :=fun b hb=>setRow_other w g b _ hb
   have hsh:∀ b m,Sh w b m->Sh (w.setRow g (cur.toList.take n++[u]++cur.toList.drop (n+1)).toArray) b m:=by
    intro b m Lc;by_cases e4:b=g
    ·subst e4;obtain ⟨cu,e5,s1,s2⟩:=Lc;rw[c1] at s1;simp only[fD,Obj.cells.injEq] at s1;exact ⟨_,_,setRow_heap w b cur _ _ (0,0) c1,by rw[hlen,s1.1,s2]⟩
    ·exact ct (o9 b e4) Lc
   refine ⟨_,_, .inl (kg _ _ r4),?_⟩
   have hp:=h.pass (o:=L) (d:=d) (X:= .ext (cH k (cs++[c]))) (z:=g) (w':=w.setRow g (cur.toList.take n++[u]++cur.toList.drop (n+1)).toArray) hlo hh hne (by simp) (.inl hg) (by rw[setRow_size];exact (zQ.1 c1).1)
    (fun b _ hb=>o9 b (fun e4=>hb (by rw[hg,e4]))) hsh (by rw[setRow_size];exact iU _) rfl rfl rfl (fun st hst=>by
     have lE:∀ b q,bO p σ.heap ρ w b->(w.setRow g (cur.toList.take n++[u]++cur.toList.drop (n+1)).toArray).cell? ⟨b,q,none⟩=w.cell? ⟨b,q,none⟩:=by
      intro b q hs';refine World.cell?_of_block (w:=w) (a:=⟨b,q,none⟩) (o9 b ?_);rintro rfl;exact hs'.2.2 L hlo (.inl hg)
     simp only[RO];refine ⟨g,by simp,_,_,nr,setRow_heap w g cur _ _ (0,0) c1,⟨by rw[hlen];exact c2.size,fun v hv=>?_⟩,c3,by rw[bW,List.length_singleton];omega,bs++[none],?_⟩
     ·simp only[lS,rG] at hv;rcases hv with (hv|hv)|hv
      ·exact c2.one v (zR hv)
      ·rw[hv];exact x3
      ·exact c2.one v (E8 hv)
     ·have hlt:(cur.toList.take n).length=n:=by rw[cw,Array.length_toList];omega
      refine hN.snoc (u:=u) (fun i' xx hi' Ww=>?_) ?_ (fun i' c' bi xx Oa kQ Nn=>bM (lS.2 (.inl (fS Oa))) (iQ.mono lE hsh hst (fun b hb'=>o9 b (hN.2.1 i' b (by rw[kQ,hb'])).2) Nn)) (bM (by simp) (iQ.mono lE hsh hst (fun b hb'=>by cases hb') x4)) (fun i' b hib=>⟨by simpa using (hN.2.1 i' b hib).1,(hN.2.1 i' b hib).2⟩)
      ·rw[Pj,lR,Cl (by omega),EK (by omega),oe];exact Ww
      ·rw[Pj,lR,EJ (by omega),hlt, <- hn,JI];rfl)
   rw[nJ];refine ⟨_,hp.put (some d) ?_⟩;simp only[R];exact .inr ⟨g,nr,A,by simp,hsh _ _ ⟨cur,_,c1,by rw[JV];exact hcs⟩,by omega,c3,rfl,fun MO=>by rw[MH];exact m6 MO⟩
 · -- grown
   rw[y1,h1] at r3 r4;simp only[JV] at r4;have PU:=r3 (by rw[hzs,h1]);refine ⟨_,_, .inl (kg _ _ r5),?_⟩;have hsh:∀ b m,Sh w b m->Sh (w.drew.alloc (.cells oE e)) b m:=fun b m Lc=>ct (Below.heap_alloc w.drew _ b Lc.lt) Lc
   have w6:∀ i',i'<n+1->oE[i']? = (cur.toList.take n++[u])[i']? :=by
    intro i' hi';rw[<- r4,EK hi',oe]
   have hp:=h.drew.pass (o:=L) (d:=d) (X:= .ext (cH k (cs++[c]))) (z:=w.heap.size) (w':=w.drew.alloc (.cells oE e)) hlo hh hne (by simp) (.inr (iU _)) (zQ.1 (heap_alloc_new w.drew (.cells oE e))).1
    (fun b hb _=>Below.heap_alloc w.drew _ b hb) hsh (by simp[World.alloc]) rfl rfl rfl (fun st hst=>by
     have yZ:∀ b,bO p σ.heap ρ w b->st b:=fun b hb=>hst b hb;have lE:∀ b q,bO p σ.heap ρ w b->(w.drew.alloc (.cells oE e)).cell? ⟨b,q,none⟩=w.cell? ⟨b,q,none⟩:=fun b q hb=>World.cell?_alloc_lt w.drew _ ⟨b,q,none⟩ hb.2.1;simp only[RO];refine ⟨w.heap.size,by simp,oE,e,zh,heap_alloc_new w.drew _,PU,r2,by rw[bW,List.length_singleton];omega,bs++[none],?_⟩;have hlt:(cur.toList.take n).length=n:=by rw[cw,Array.length_toList];omega
     have rW:∀ i' b,bs[i']? = some (some b)->b<w.heap.size:=fun i' b hib=>h.hlt L b hlo (hN.2.1 i' b hib).1;refine hN.snoc (u:=u) (fun i' xx hi' Ww=>?_) ?_ (fun i' c' bi xx Oa kQ Nn=>bM (lS.2 (.inl (fS Oa))) (iQ.mono lE hsh yZ (fun b hb'=>Below.heap_alloc w.drew _ b (rW i' b (by rw[kQ,hb']))) Nn)) (bM (by simp) (iQ.mono lE hsh yZ (fun b hb'=>by cases hb') x4)) (fun i' b hib=>⟨by simpa using (hN.2.1 i' b hib).1,Nat.ne_of_lt (rW i' b hib)⟩)
     ·rw[w6 i' (by omega),Cl (by omega),EK (by omega),oe];exact Ww
     ·rw[<- hn,w6 n (by omega),EJ (by omega),hlt,JI];rfl)
   rw[nJ];refine ⟨_,hp.put (some d) ?_⟩;simp only[R];exact .inr ⟨w.heap.size,zh,_,by simp,⟨oE,e,heap_alloc_new w.drew _,PU.size⟩,by omega,r2,rfl,fun _=>by simp⟩
theorem cP.Du {o:Oper} {s x:Operand} {t:TypeId} {d k:Nat} {ti ei:TI} {e:TypeId} {c:NC} (ho:o.op = .call { callee:= .builtin .append,args:= #[s,x],argTypes:= #[t,t] })
  (nJ:o.dst=some d) (ht:aA P t=some ti) (hk:ti.kind.elem? = some e) (he:aA P e=some ei) (h1:ei.size=1) (hzs:ei.zero.cells.size=ei.size) (qZ:ei.zero.cells.toList.all (·.oneCell')=true) (hb0:0<ei.bytes) (hh:hfree σ.heap d=true)
  (hs:bh σ s = .sc (.slice none 0 0)) (hx:qf σ k x c) (hm:iP d (jz [c])=false) (hb:ei.bytes<=140737488355328):
  cP P σ o (St.put { σ.bF [d] with heap:=aG (σ.bF [d]).heap d (.ext (cH k [c])) } (some d) (.cW d 1 0 1)):=by
 rintro w0 p a w ⟨ρ,h⟩;obtain ⟨i,dt,hi,hu,z1,z2,z3,z4⟩:=cr ht;obtain ⟨ie,de,Fk,R5,y1,y2,y3,y4⟩:=cr he
 have QB:P.underlying t=some (.slice e):=by
  cases hkk:ti.kind with
  | slice e'=>
    rw[hkk] at hk z4;simp only[TK.elem?,fD] at hk;subst hk;rw[iY z4] at hu;exact hu
  | _=>rw[hkk] at hk;simp[TK.elem?] at hk
 obtain ⟨bx,cc,u,x1,x2,x3,x4⟩:=hx w0 p a w ρ h;have has:=h.bh s;rw[hs] at has;simp only[R] at has
 have kg:∀ v w',(Builtin.append_ #[t,t] o.type #[.slice none 0 0, .slice (some bx) 1 cc]).run P w = .ok v w'->(execOp a.eval o).run P w = .ok (.value v) w':=by
  intro v w' h2;simp[execOp,ho,resolve,invoke,builtin,has,x1,h2]
 have hall:=gR (P:=P) (w:=w) t o.type e ie ei.zero QB Fk y3 none 0 0 [] (by simp) (iU _) (.inl rfl) (some bx) 1 cc [u] (by rw[y1,h1];rfl) (.inr ⟨bx,rfl,fun j v hj=>by
   cases j with
   | zero=>simp only[dJ,fD] at hj;subst hj;rw[show bx.add 0=bx by cases bx;rfl];exact x2
   | succ j=>simp at hj⟩) (fun v hv=>by rw[rG.1 hv];exact x3)
  (fun _ hle=>by omega) (by unfold maxLen;omega) (by rw[y2];omega) (fun v hv=>yN.1 qZ v hv) (by simp)
 rcases hall with ⟨q,_⟩|⟨_,hle,_⟩|⟨_,hlt,zh,oE,r1,r2,r3,r4,r5⟩
 ·cases q
 ·omega
 ·rw[y1,h1] at r3 r4;simp only[JV,kO,List.nil_append] at r4 r1;have PU:=r3 (by rw[hzs,h1]);refine ⟨_,_, .inl (kg _ _ r5),?_⟩;have hsh:∀ b m,Sh w b m->Sh (w.drew.alloc (.cells oE e)) b m:=fun b m Lc=>ct (Below.heap_alloc w.drew _ b Lc.lt) Lc
  have hnb:=h.drew.jS (ids:=[d]) (o:=d) (x:= .ext (cH k [c])) (cur:=oE) (e:=e) (by simp) hh (by simp) (fun st hst=>by
   simp only[RO];refine ⟨w.heap.size,bK _ _,oE,e,zh,heap_alloc_new w.drew _,PU,r2,r1,[none],rfl,?_,?_,?_⟩
   ·intro j b hj;cases j<;>simp at hj
   ·intro i' j b hi';cases i'<;>simp at hi'
   ·intro j c' bo hj MS;cases j with
    | succ j=>simp at hj
    | zero=>
      simp only[dJ,fD] at hj MS;subst hj MS;refine ⟨u,?_,iQ.vU (ρ:=ρ) (fun o' len e'=>?_) (iQ.mono (fun g off hg=>World.cell?_alloc_lt w.drew _ ⟨g,off,none⟩ hg.2.1) hsh hst (fun b e'=>by cases e') x4)⟩
      ·have:oE.toList[0]? = some u:=by
        have h5:=congrArg (fun l:List Value=>l[0]?) r4;simp only[dJ] at h5
        rwa [EK (by omega)] at h5
       rw[<- oe];exact this
      ·refine eU (fun e2=>?_);subst e2;subst e'
       simp[jz,iP] at hm)
  rw[nJ];refine ⟨_,hnb.put (some d) ?_⟩;simp only[R,bK];exact .inr ⟨w.heap.size,zh,_,rfl,⟨oE,e,heap_alloc_new w.drew _,PU.size⟩,by omega,r2,rfl,fun _=>by simp⟩
end
section
variable {P:Program} {ds:List (Option Nat)} {Q:Exit->St->Prop} {σ σ':St} {l:List Oper} {dst:Option Nat} {ty:TypeId} {pos:String} {af:Array Edge} {g:Option (Nat×Bool)}
theorem ah.PT {t:TypeId} {x:Operand} {ti:TI} {L j k d n:Nat} {cs:List NC} (hg:bq ds g σ=some true) (ht:aA P t=some ti) (hx:bh σ x = .jN L 1 j 0) (hL:az σ.heap L = .ext (cH k cs)) (hj:cs[j]? = some (.nm d n)) (h1:ti.size=1) (EM:ti.kind.isAgg=false)
  (he:σ.put dst (.cW d k 0 n)=σ') (hn:ah P ds Q l σ'):ah P ds Q (⟨dst, .load t x,ty,pos,af,g⟩::l) σ:=
 fun all ha=>dH.oZ (by rw[bV ha];exact hg) (by subst he;exact (Sound.PT t x ti ht hx hL hj h1 EM).steps) (hn all ha)
theorem ah.K9 {t:TypeId} {ax vx:Operand} {ti:TI} {L j k:Nat} {cs:List NC} {c:NC} (hg:bq ds g σ=some true) (ht:aA P t=some ti) (h1:ti.size=1) (Wu:bh σ ax = .jN L 1 j 0) (hL:az σ.heap L = .ext (cH k cs)) (hc:pL k (bh σ vx)=some c) (hj:j<cs.length)
  (he:St.put { σ with heap:=aG σ.heap L (.ext (cH k (cs.set j c))) } dst (.sc undef)=σ') (hn:ah P ds Q l σ'):ah P ds Q (⟨dst, .store t ax vx,ty,pos,af,g⟩::l) σ:=
 fun all ha=>dH.oZ (by rw[bV ha];exact hg) (by subst he;exact cP.K9 rfl ht h1 Wu hL hj hc) (hn all ha)
theorem ah.La {t:TypeId} {n d k:Nat} {parts:Array (Nat×Operand)} {ti ei:TI} {e:TypeId} {cells:List D} {cs:List NC} (hg:bq ds g σ=some true) (ht:aA P t=some ti) (hk:ti.kind.elem? = some e) (he:aA P e=some ei) (h1:ei.size=1) (hn:n<=16777216)
  (hf:nK (fun i=>some (i*ei.size,ei.size)) (jB ei.zero (n*ei.size)) (parts.toList.map fun x=>(x.1,bh σ x.2))=some cells) (hlen:cells.length=n) (hcs:s7 k cells=some cs) (hh:hfree σ.heap d=true) (hm:iP d (jz cs)=false)
  (hx:St.put { σ.bF [d] with heap:=aG (σ.bF [d]).heap d (.ext (cH k cs)) } (some d) (.cW d 1 0 n)=σ') (uB:ah P ds Q l σ'):ah P ds Q (⟨some d, .buildSlice t n parts,ty,pos,af,g⟩::l) σ:=
 fun all ha=>dH.oZ (by rw[bV ha];exact hg) (by subst hx;exact cP.La rfl rfl hh ht hk he h1 hn hf hlen hcs hm) (uB all ha)
theorem ah.wB {s x:Operand} {t:TypeId} {d k L n:Nat} {ti ei:TI} {e:TypeId} {cs:List NC} {c:NC} (hg:bq ds g σ=some true) (ht:aA P t=some ti) (hk:ti.kind.elem? = some e) (he:aA P e=some ei) (h1:ei.size=1) (hzs:ei.zero.cells.size=ei.size) (qZ:ei.zero.cells.toList.all (·.oneCell')=true) (hb0:0<ei.bytes)
  (hs:bh σ s = .cW L 1 0 n) (hL:az σ.heap L = .ext (cH k cs)) (hx:qf σ k x c) (hh:hfree σ.heap d=true) (hne:L≠d) (hm:iP d (jz (cs++[c]))=false) (hn:n=cs.length) (hb:(n+1)*ei.bytes<=140737488355328)
  (hst:St.put (({ σ.kill d with heap:=aG (aG (σ.kill d).heap L .dead) d (.ext (cH k (cs++[c]))) }:St).kill L) (some d) (.cW d 1 0 (n+1))=σ') (uB:ah P ds Q l σ'):ah P ds Q (⟨some d,.call { callee:= .builtin .append,args:= #[s,x],argTypes:= #[t,t] },ty,pos,af,g⟩::l) σ:=
 fun all ha=>dH.oZ (by rw[bV ha];exact hg) (by subst hst;exact cP.wB rfl rfl ht hk he h1 hzs qZ hb0 hh hs hL hn hne hx hm hb) (uB all ha)
theorem ah.Du {s x:Operand} {t:TypeId} {d k:Nat} {ti ei:TI} {e:TypeId} {c:NC} (hg:bq ds g σ=some true) (ht:aA P t=some ti) (hk:ti.kind.elem? = some e) (he:aA P e=some ei) (h1:ei.size=1) (hzs:ei.zero.cells.size=ei.size) (qZ:ei.zero.cells.toList.all (·.oneCell')=true) (hb0:0<ei.bytes)
  (hs:bh σ s = .sc (.slice none 0 0)) (hx:qf σ k x c) (hh:hfree σ.heap d=true) (hm:iP d (jz [c])=false) (hb:ei.bytes<=140737488355328)
  (hst:St.put { σ.bF [d] with heap:=aG (σ.bF [d]).heap d (.ext (cH k [c])) } (some d) (.cW d 1 0 1)=σ') (uB:ah P ds Q l σ'):ah P ds Q (⟨some d, .call { callee:= .builtin .append,args:= #[s,x],argTypes:= #[t,t] },ty,pos,af,g⟩::l) σ:=
 fun all ha=>dH.oZ (by rw[bV ha];exact hg) (by subst hst;exact cP.Du rfl rfl ht hk he h1 hzs qZ hb0 hh hs hx hm hb) (uB all ha)
theorem ay.takeN {c:Code} (o j d k:Nat) {cs:List NC} {rows:List (List D)} (ho:az σ.heap o = .ext (cH k cs)) (hj:cs[j]? = some (.own rows)) (hd:hfree σ.heap d=true) (hne:o≠d) (hm:iP d (jz cs)=false)
  (he:({ σ.kill d with heap:=aG (aG (σ.kill d).heap o (.ext (cH k (cs.set j (.nm d rows.length))))) d (.row k rows) }:St)=σ') (h:ay P c Q σ'):ay P c Q σ:=ay.imp (he▸cZ.takeN σ o j d k ho hj hd hne hm) h
theorem ay.K7 {c:Code} (o j d k:Nat) {n:Nat} {cs:List NC} {rows:List (List D)} (ho:az σ.heap o = .ext (cH k cs)) (hj:cs[j]? = some (.nm d n)) (hd:az σ.heap d = .row k rows) (hn:n=rows.length) (hk:0<k) (zg:d<1000) (hne:o≠d) (hm:iP d (jz (cs.set j (.own rows)))=false)
  (he:(({ σ with heap:=aG (aG σ.heap d .dead) o (.ext (cH k (cs.set j (.own rows)))) }:St).kill d)=σ') (h:ay P c Q σ'):ay P c Q σ:=ay.imp (he▸cZ.K7 σ o j d k n ho hj hd hn hk zg hne hm) h
theorem cZ.Ld {σ2:St} (o j d k:Nat) {n:Nat} {cs:List NC} {rows:List (List D)} (ho:az σ.heap o = .ext (cH k cs)) (hj:cs[j]? = some (.nm d n)) (hd:az σ.heap d = .row k rows) (hn:n=rows.length) (hk:0<k) (zg:d<1000) (hne:o≠d) (hm:iP d (jz (cs.set j (.own rows)))=false)
  (he:(({ σ with heap:=aG (aG σ.heap d .dead) o (.ext (cH k (cs.set j (.own rows)))) }:St).kill d)=σ') (h:cZ σ' σ2):cZ σ σ2:=cZ.trans (he▸cZ.K7 σ o j d k n ho hj hd hn hk zg hne hm) h
theorem ay.eE {c:Code} (o k:Nat) {ls:List (List (List D))} (ho:az σ.heap o = .ext (cH k (ls.map .own))) (he:({ σ with heap:=aG σ.heap o (.row 1 (ls.map fun rows=>[.sl k rows])) }:St)=σ') (h:ay P c Q σ'):ay P c Q σ:=ay.imp (he▸cZ.eE σ o k ho) h
end
attribute [go_sem] IG pL s7 nN
def s9 (l:Nat) (N:St->Prop) (Q:Exit->St->Prop):Exit->St->Prop
 | .goto l',σ=>l'=l/\N σ
 | e,σ=>Q e σ
section
variable {P:Program} {Q:Exit->St->Prop} {σ:St} {N:St->Prop} {l id:Nat}
theorem Od:s9 l N Q .normal σ=Q .normal σ:=rfl
theorem Oe:s9 l N Q .ret σ=Q .ret σ:=rfl
theorem Og:s9 l N Q (.exit id) σ=Q (.exit id) σ:=rfl
theorem Oh:s9 l N Q (.goto l) σ=N σ:=by simp[s9]
@[congr] theorem PV {e:Exit}:s9 l N Q e σ=s9 l N Q e σ:=rfl
theorem ay.jumps {τ:Type} {c rest:Code} (l:Nat) (f:τ->St) (I:τ->Prop) (μ:τ->Nat) (hf:findLabel c l=some rest)
  (first:ay P c (s9 l (fun σ'=> ∃ t,I t/\cZ σ' (f t)) Q) σ)
  (pass:∀ t,I t->ay P rest (s9 l (fun σ'=> ∃ t',I t'/\μ t'<μ t/\cZ σ' (f t')) Q) (f t)):ay P (.scope c) Q σ:=by
 intro w0 p a w hr b k cs;have hg:gotoIn l (.inScope c::k)=some (.code rest :: .inScope c::k):=by simp[gotoIn,hf]
 have key:∀ n t a w,μ t=n->I t->Rel w0 p (f t) a w->∃ e a' w',(∃ σ',Q e σ'/\Rel w0 p σ' a' w')/\Arrives P (lone (b.at a (.code rest :: .inScope c::k)) cs w) b k cs e a' w':=by
  intro n
  induction n using Nat.strongRecOn with
  | _ n ih=>
    intro t a w hn hI i4;obtain ⟨e,a₁,w₁,⟨σ1,hq,vR⟩,uC⟩:=pass t hI w0 p a w i4 b (.inScope c::k) cs;cases e with
    | normal=>exact ⟨.normal,a₁,w₁,⟨σ1,hq,vR⟩,Steps.trans uC (.one step_inScope)⟩
    | exit id=>exact ⟨.exit id,a₁,w₁,⟨σ1,hq,vR⟩,fun k' hk=>uC k' (by simp[exitTo,hk])⟩
    | goto l'=>
      obtain ⟨rfl,t',Wx,hlt,himp⟩:=hq;obtain ⟨e₂,a₂,w₂,Le,BQ⟩:=ih _ (by omega) t' a₁ w₁ rfl Wx (himp _ _ _ _ vR);exact ⟨e₂,a₂,w₂,Le, .of_steps (uC _ hg) BQ⟩
    | ret=>exact ⟨_,a₁,w₁,⟨σ1,hq,vR⟩,uC⟩
    | panic ch=>exact ⟨_,a₁,w₁,⟨σ1,hq,vR⟩,uC⟩
    | outgrown=>exact ⟨_,a₁,w₁,⟨σ1,hq,vR⟩,uC⟩
 obtain ⟨e,a₁,w₁,⟨σ1,hq,vR⟩,uC⟩:=first w0 p a w hr b (.inScope c::k) cs
 cases e with
 | normal=>exact ⟨.normal,a₁,w₁,⟨σ1,hq,vR⟩, .head step_scope (Steps.trans uC (.one step_inScope))⟩
 | exit id=>exact ⟨.exit id,a₁,w₁,⟨σ1,hq,vR⟩,fun k' hk=> .head step_scope (uC k' (by simp[exitTo,hk]))⟩
 | goto l'=>
   obtain ⟨rfl,t',Wx,himp⟩:=hq;obtain ⟨e₂,a₂,w₂,Le,BQ⟩:=key _ t' a₁ w₁ rfl Wx (himp _ _ _ _ vR);exact ⟨e₂,a₂,w₂,Le, .of_steps (.head step_scope (uC _ hg)) BQ⟩
 | ret=>exact ⟨_,a₁,w₁,⟨σ1,hq,vR⟩, .of_steps (.one step_scope) uC⟩
 | panic ch=>exact ⟨_,a₁,w₁,⟨σ1,hq,vR⟩, .of_steps (.one step_scope) uC⟩
 | outgrown=>exact ⟨_,a₁,w₁,⟨σ1,hq,vR⟩, .of_steps (.one step_scope) uC⟩
end
attribute [go_sem] Od Oe Og Oh
end Go.eB
