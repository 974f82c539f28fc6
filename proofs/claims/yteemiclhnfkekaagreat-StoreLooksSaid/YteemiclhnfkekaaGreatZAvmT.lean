/- The abstract machine, parts ZL to ZP. -/
import Derived.Test.YteemiclhnfkekaaGreatZAvmS
import Derived.ScopeJumps
set_option linter.unusedSimpArgs false
set_option linter.unusedVariables false
namespace Go.fe
open Go.RowKit
section
variable {P:Program} {ds:List (Option Nat)} {Q:Exit->St->Prop} {σ σ':St} {l:List Oper} {op op2:Op} {ty Q7 ty':TypeId} {pos pos2 pos':String} {af Q8 NH:Array Edge} {i ta t1 t2 t3:Nat} {b b':Bool} {d:D}
end
def Hh (P:Program) (st:List Nat) (dst:Option Nat) (op:Op) (σ:St):Option St:=if p5 op then Bz P σ ⟨dst,op,0, "", #[],none⟩ else (gS P σ op).map (σ.put dst)
def Aq (st:List Nat):Option Nat->Bool
 | none=>false
 | some d=>C9 d st
def LV (P:Program) (st:List Nat) (ds:List (Option Nat)) (Q:Exit->St->Prop):List Oper->St->Prop
 | [],σ=>Q .normal σ
 | o::l,σ=>if Aq st o.dst then ah P ds Q (o::l) σ else match bq ds o.guard σ with
   | some true=>(match Hh P st o.dst o.op σ with
     | some σ'=>LV P st ds Q l σ'
     | none=>ah P ds Q (o::l) σ)
   | some false=>LV P st ds Q l (σ.put o.dst (.sc undef))
   | none=>ah P ds Q (o::l) σ
def oV (e:Option St) (P:Program) (st:List Nat) (ds:List (Option Nat)) (Q:Exit->St->Prop) (o:Oper) (l:List Oper) (σ:St):Prop:=
 match e with
 | some σ'=>LV P st ds Q l σ'
 | none=>ah P ds Q (o::l) σ
def gV (e:Option Bool) (P:Program) (st:List Nat) (ds:List (Option Nat)) (Q:Exit->St->Prop) (o:Oper) (l:List Oper) (σ:St):Prop:=
 match e with
 | some true=>oV (Hh P st o.dst o.op σ) P st ds Q o l σ
 | some false=>LV P st ds Q l (σ.put o.dst (.sc undef))
 | none=>ah P ds Q (o::l) σ
def sV (e:Bool) (P:Program) (st:List Nat) (ds:List (Option Nat)) (Q:Exit->St->Prop) (o:Oper) (l:List Oper) (σ:St):Prop:=
 if e then ah P ds Q (o::l) σ else gV (bq ds o.guard σ) P st ds Q o l σ
section
variable {P:Program} {st:List Nat} {ds:List (Option Nat)} {Q:Exit->St->Prop} {o:Oper} {l:List Oper} {σ σ':St} {dst:Option Nat} {op:Op} {ty:TypeId} {pos:String} {af:Array Edge} {g:Option (Nat×Bool)}
theorem Q9:LV P st ds Q [] σ=Q .normal σ:=rfl
theorem Hj:LV P st ds Q (o::l) σ=sV (Aq st o.dst) P st ds Q o l σ:=by
 rw[LV,sV];cases Aq st o.dst with
 | true=>rfl
 | false=>
   simp only[pT,jc,gV];cases bq ds o.guard σ with
   | none=>rfl
   | some b=>cases b<;>rfl
theorem Wa:sV true P st ds Q o l σ=ah P ds Q (o::l) σ:=rfl
theorem Wb:sV false P st ds Q ⟨dst,op,ty,pos,af,g⟩ l σ=gV (bq ds g σ) P st ds Q ⟨dst,op,ty,pos,af,g⟩ l σ:=rfl
theorem NP:oV (some σ') P st ds Q o l σ=LV P st ds Q l σ':=rfl
theorem NQ:oV none P st ds Q o l σ=ah P ds Q (o::l) σ:=rfl
theorem Wc:gV (some true) P st ds Q ⟨dst,op,ty,pos,af,g⟩ l σ=oV (Hh P st dst op σ) P st ds Q ⟨dst,op,ty,pos,af,g⟩ l σ:=rfl
theorem Wd:gV (some false) P st ds Q ⟨dst,op,ty,pos,af,g⟩ l σ=oV (some (σ.put dst (.sc undef))) P st ds Q ⟨dst,op,ty,pos,af,g⟩ l σ:=rfl
theorem NR:gV none P st ds Q o l σ=ah P ds Q (o::l) σ:=rfl
theorem K6:Hh P st dst op σ=if p5 op then Bz P σ ⟨dst,op,0, "", #[],none⟩ else (gS P σ op).map (σ.put dst):=rfl
theorem dI:∀ {l:List Oper} {σ:St},LV P st ds Q l σ->ah P ds Q l σ
 | [],σ,h=>ah.nil h
 | o::l,σ,h=>by
   obtain ⟨dst,op,ty,pos,af,g⟩:=o;rw[LV] at h;simp only at h
   split at h
   ·exact h
   ·split at h
    ·rename_i hg
     split at h
     ·rename_i σ' hb;exact ah.step (by rw[nk,hg];exact hb) (dI h)
     ·exact h
    ·rename_i hg;exact ah.step (by rw[nk,hg];rfl) (dI h)
    ·exact h
theorem K7 {b:Bool} {e:Option Bool} {t:Nat} {x:Nat×Bool} (ht:kZ ds (some x)=some t) (hb:σ.slots.getD t .any = .sc (.bool b)) (he:bq ds (some x) σ=e)
  (h1:b=true->LV P st ds Q (⟨dst,op,ty,pos,af,some x⟩::l) (σ.put (some t) (.sc (.bool true)))) (h2:b=false->LV P st ds Q (⟨dst,op,ty,pos,af,some x⟩::l) (σ.put (some t) (.sc (.bool false))))
  (hs:Aq st dst=false):gV e P st ds Q ⟨dst,op,ty,pos,af,some x⟩ l σ:=by
 subst he;have hc:∀ σ,LV P st ds Q (⟨dst,op,ty,pos,af,some x⟩::l) σ=gV (bq ds (some x) σ) P st ds Q ⟨dst,op,ty,pos,af,some x⟩ l σ:=fun σ=>by rw[Hj];simp only[hs];rfl
 cases b
 ·have:=h2 rfl;rw[jD hb,hc] at this;exact this
 ·have:=h1 rfl;rw[jD hb,hc] at this;exact this
end
def TV (P:Program) (st:List Nat):Code->(Exit->St->Prop)->St->Prop
 | .seq x y,Q,σ=>TV P st x (fun e σ'=>match e with | .normal=>TV P st y Q σ'|e=>Q e σ') σ
 | .block id c,Q,σ=>TV P st c (fun e σ'=>match e with | .exit id'=>if id'=id then Q .normal σ' else Q (.exit id') σ'|e=>Q e σ') σ
 | .skip,Q,σ=>Q .normal σ
 | .ret,Q,σ=>Q .ret σ
 | .exit id,Q,σ=>Q (.exit id) σ
 | .label _,Q,σ=>Q .normal σ
 | .goto l,Q,σ=>Q (.goto l) σ
 | .cond c x y,Q,σ=>match bg σ c with
   | .sc (.bool true)=>TV P st x Q σ
   | .sc (.bool false)=>TV P st y Q σ
   | _=>ay P (.cond c x y) Q σ
 | .region id a false,Q,σ=>LV P st (a.toList.map (·.dst)) Q a.toList σ
 | c,Q,σ=>ay P c Q σ
def xo (P:Program) (st:List Nat) (y:Code) (Q:Exit->St->Prop):Exit->St->Prop:=fun e σ'=>match e with | .normal=>TV P st y Q σ'|e=>Q e σ'
def rW (id:Nat) (Q:Exit->St->Prop):Exit->St->Prop:=fun e σ'=>match e with | .exit id'=>if id'=id then Q .normal σ' else Q (.exit id') σ'|e=>Q e σ'
def cV (d:D) (P:Program) (st:List Nat) (c:Operand) (x y:Code) (Q:Exit->St->Prop) (σ:St):Prop:=match d with
 | .sc (.bool true)=>TV P st x Q σ
 | .sc (.bool false)=>TV P st y Q σ
 | _=>ay P (.cond c x y) Q σ
def As:List Oper->List (Option Nat)
 | []=>[]
 | o::l=>o.dst::As l
theorem xp:∀ l:List Oper,As l=l.map (·.dst)
 | []=>rfl
 | o::l=>by rw[As,xp l];rfl
section
variable {P:Program} {st:List Nat} {Q:Exit->St->Prop} {σ:St} {x y c:Code} {id id':Nat} {a:Array Oper} {co:Operand} {N:St->Prop}
theorem Ra:TV P st (.seq x y) Q σ=TV P st x (xo P st y Q) σ:=rfl
theorem K8:TV P st (.block id c) Q σ=TV P st c (rW id Q) σ:=rfl
theorem NS:TV P st .skip Q σ=Q .normal σ:=rfl
theorem Rb:TV P st .ret Q σ=Q .ret σ:=rfl
theorem NT:TV P st (.exit id) Q σ=Q (.exit id) σ:=rfl
theorem K9 {l:Nat}:TV P st (.label l) Q σ=Q .normal σ:=rfl
theorem NU {l:Nat}:TV P st (.goto l) Q σ=Q (.goto l) σ:=rfl
theorem NV:TV P st (.cond co x y) Q σ=cV (bg σ co) P st co x y Q σ:=rfl
theorem Iy {l:List Oper}:TV P st (.region id l.toArray false) Q σ=LV P st (As l) Q l σ:=by rw[TV,xp]
theorem La:TV P st (.region id a true) Q σ=ay P (.region id a true) Q σ:=rfl
theorem NW:TV P st (.loop c) Q σ=ay P (.loop c) Q σ:=rfl
theorem Wf:cV (.sc (.bool true)) P st co x y Q σ=TV P st x Q σ:=rfl
theorem Wg:cV (.sc (.bool false)) P st co x y Q σ=TV P st y Q σ:=rfl
theorem cO {b:Bool} (h1:b=true->TV P st x Q σ) (h2:b=false->TV P st y Q σ):cV (.sc (.bool b)) P st co x y Q σ:=by
 cases b
 ·exact h2 rfl
 ·exact h1 rfl
theorem NY:xo P st y Q .normal σ=TV P st y Q σ:=rfl
theorem NZ:xo P st y Q .ret σ=Q .ret σ:=rfl
theorem N0:xo P st y Q (.exit id) σ=Q (.exit id) σ:=rfl
theorem N1 {l:Nat}:xo P st y Q (.goto l) σ=Q (.goto l) σ:=rfl
theorem Lc {l:Nat}:rW id Q (.goto l) σ=Q (.goto l) σ:=rfl
theorem Ld:rW id Q .normal σ=Q .normal σ:=rfl
theorem Le:rW id Q .ret σ=Q .ret σ:=rfl
theorem Lf:rW id Q (.exit id') σ=if id'=id then Q .normal σ else Q (.exit id') σ:=rfl
theorem N2:o7 N Q .normal σ=N σ:=rfl
theorem N3:o7 N Q .ret σ=Q .ret σ:=rfl
theorem N4 {l:Nat}:o7 N Q (.goto l) σ=Q (.goto l) σ:=rfl
theorem N5:o7 N Q (.exit id) σ=Q (.exit id) σ:=rfl
theorem Zo:∀ {c:Code} {Q:Exit->St->Prop} {σ:St},TV P st c Q σ->ay P c Q σ:=by
 intro c
 induction c with
 | skip=>intro Q σ h;exact ay.skip h
 | ret=>intro Q σ h;exact ay.ret h
 | exit id=>intro Q σ h;exact ay.exit h
 | label l=>intro Q σ h;exact fun _ _ _ _ hr=>wp_label ⟨σ,h,hr⟩
 | goto l=>intro Q σ h;exact fun _ _ _ _ hr=>wp_goto ⟨σ,h,hr⟩
 | region id a dr=>
   intro Q σ h;cases dr with
   | true=>exact h
   | false=>
     have h2:=dI h;have e:Code.region id a false=Code.region id a.toList.toArray false:=by simp
     rw[e];exact ay.bE rfl h2
 | seq x y Wh Wi=>
   intro Q σ h;refine ay.seq (ay.mono (Wh h) ?_);intro e σ' hq;cases e<;>first|exact Wi hq|exact hq
 | block id c ih=>
   intro Q σ h;refine ay.block (ay.mono (ih h) ?_);intro e σ' hq;cases e<;>exact hq
 | cond co x y Wh Wi=>
   intro Q σ h;rw[TV] at h
   split at h
   ·rename_i hc;exact ay.cond hc (fun _=>Wh h) (fun e=>by cases e)
   ·rename_i hc;exact ay.cond hc (fun e=>by cases e) (fun _=>Wi h)
   ·exact h
 | _=>intro Q σ h;exact h
theorem aV (h:TV P st (.seq x y) Q σ):ay P (.seq x y) Q σ:=Zo h
end
section
variable {P:Program} {st:List Nat} {ds:List (Option Nat)} {Q:Exit->St->Prop} {Qv:St->Prop} {σ σ':St} {l:List Oper} {dst:Option Nat} {ty:TypeId} {pos:String} {af:Array Edge} {g:Option (Nat×Bool)} {f:FuncId} {x:Operand} {xs:Array Operand} {ts:Array TypeId} {caps args:List D} {ret:D} {K:St->Prop} {sn:Bool}
theorem Wj (hx:bg σ x = .fn f caps) (hargs:iy [] (xs.toList.map (bg σ)++caps)=some args) (h:bN P ds g σ dst f args false (fun σ'=>LV P st ds Q l σ')):ah P ds Q (⟨dst, .call { callee:= .value x,args:=xs,argTypes:=ts },ty,pos,af,g⟩::l) σ:=by
 refine ah.dE hx hargs ?_;unfold bN at h ⊢;obtain ⟨new,ret,outs,σ',h1,h2,h3⟩:=h;exact ⟨new,ret,outs,σ',h1,h2,dI h3⟩
theorem Wk (hx:bg σ x = .fn f caps) (hargs:fZ (ef σ [] 4) (xs.toList.map (bg σ)++caps)=some args) (h:bN P ds g σ dst f args true (fun σ'=>LV P st ds Q l σ')):ah P ds Q (⟨dst, .call { callee:= .value x,args:=xs,argTypes:=ts },ty,pos,af,g⟩::l) σ:=by
 refine ah.dS hx hargs ?_;unfold bN at h ⊢;obtain ⟨new,ret,outs,σ',h1,h2,h3⟩:=h;exact ⟨new,ret,outs,σ',h1,h2,dI h3⟩
end
def aq (P:Program) (st:List Nat) (ds:List (Option Nat)) (g:Option (Nat×Bool)) (σ:St) (dst:Option Nat) (f:FuncId) (args:List D) (sn:Bool) (Q:Exit->St->Prop) (l:List Oper):Prop:=bN P ds g σ dst f args sn (fun σ'=>LV P st ds Q l σ')
def cE (e1 e2:Option (List D)) (P:Program) (st:List Nat) (ds:List (Option Nat)) (g:Option (Nat×Bool)) (σ:St) (dst:Option Nat) (f:FuncId) (Q:Exit->St->Prop) (l:List Oper):Prop:=match e1,e2 with
 | some args,_=>aq P st ds g σ dst f args false Q l
 | none,some args=>aq P st ds g σ dst f args true Q l
 | none,none=>False
def cG (d:D) (as:List D) (P:Program) (st:List Nat) (ds:List (Option Nat)) (g:Option (Nat×Bool)) (σ:St) (dst:Option Nat) (Q:Exit->St->Prop) (l:List Oper):Prop:=match d with
 | .fn f caps=>cE (iy [] (as++caps)) (fZ (ef σ [] 4) (as++caps)) P st ds g σ dst f Q l
 | _=>False
def rX (e:Option St) (P:Program) (st:List Nat) (ds:List (Option Nat)) (Q:Exit->St->Prop) (l:List Oper):Prop:=match e with
 | some σ'=>LV P st ds Q l σ'
 | none=>False
def Hl:Option Nat->List Nat
 | none=>[]
 | some d=>[d]
section
variable {P:Program} {st:List Nat} {ds:List (Option Nat)} {Q:Exit->St->Prop} {σ σ':St} {l:List Oper} {dst:Option Nat} {ty:TypeId} {pos:String} {af:Array Edge} {g:Option (Nat×Bool)} {f:FuncId} {x:Operand} {xs:Array Operand} {ts:Array TypeId} {caps args as:List D} {ret:D} {sn:Bool} {outs:List Obj} {e2:Option (List D)}
theorem Wm:cE (some args) e2 P st ds g σ dst f Q l=aq P st ds g σ dst f args false Q l:=by cases e2<;>rfl
theorem Wn:cE none (some args) P st ds g σ dst f Q l=aq P st ds g σ dst f args true Q l:=rfl
theorem Tl:cG (.fn f caps) as P st ds g σ dst Q l=cE (iy [] (as++caps)) (fZ (ef σ [] 4) (as++caps)) P st ds g σ dst f Q l:=rfl
theorem Rc:rX (some σ') P st ds Q l=LV P st ds Q l σ':=rfl
theorem N6 {d:Nat}:Hl (some d)=[d]:=rfl
theorem N7:Hl none=[]:=rfl
theorem aD (h:cG (bg σ x) (xs.toList.map (bg σ)) P st ds g σ dst Q l):ah P ds Q (⟨dst, .call { callee:= .value x,args:=xs,argTypes:=ts },ty,pos,af,g⟩::l) σ:=by
 unfold cG at h
 split at h
 ·rename_i f caps hx;unfold cE at h
  split at h
  ·rename_i he;exact Wj hx he h
  ·rename_i he;exact Wk hx he h
  ·exact h.elim
 ·exact h.elim
theorem aq.w (new:List Nat) (hc:ak P f args ret outs) (h:rX (jY ds g σ dst [] new sn ret outs) P st ds Q l):aq P st ds g σ dst f args sn Q l:=by
 unfold rX at h
 split at h
 ·rename_i σ' he;exact bN.c new hc he h
 ·exact h.elim
theorem aq.c (hc:ak P f args ret outs) (h:rX (jY ds g σ dst [] [] sn ret outs) P st ds Q l):aq P st ds g σ dst f args sn Q l:=aq.w [] hc h
theorem aq.n (hc:ak P f args ret outs) (h:rX (jY ds g σ dst [] (Hl dst) sn ret outs) P st ds Q l):aq P st ds g σ dst f args sn Q l:=aq.w _ hc h
end
attribute [irreducible] aq
def rC (b:Bool) (e1:Option D) (e2:Option (List Obj)) (ret:D) (outs:List Obj):Prop:=match b,e1,e2 with
 | true,some d',some xs=>zO d' ret/\qX xs outs
 | _,_,_=>False
def rB (new:List Nat) (d:D) (ins:List Nat) (ret:D) (outs:List Obj) (σ:St):Prop:=rC (ox (ins++new)) (uj (ins++new) d) (lZ (ins++new) σ.heap (ins++new)) ret outs
def rA (e:Option D) (ins:List Nat) (ret:D) (outs:List Obj) (σ:St):Prop:=match e with
 | some d=>rB (jy ins (BF d)) d ins ret outs σ
 | none=>False
section
variable {P:Program} {fn:Func} {ins new:List Nat} {d d' ret:D} {xs outs:List Obj} {e:Exit} {σ:St} {rs:List ResultVar}
theorem Wo:rC true (some d') (some xs) ret outs=(zO d' ret/\qX xs outs):=rfl
theorem Tm:rB new d ins ret outs σ=rC (ox (ins++new)) (uj (ins++new) d) (lZ (ins++new) σ.heap (ins++new)) ret outs:=rfl
theorem Wp:rA (some d) ins ret outs σ=rB (jy ins (BF d)) d ins ret outs σ:=rfl
theorem fl (hr:fn.results.toList=rs) (he:PO e=true) (h:rA (iq P σ rs) ins ret outs σ):aC P fn ins ret outs e σ:=by
 subst hr;unfold rA at h
 split at h
 ·rename_i d hd;unfold rB rC at h
  split at h
  ·rename_i d' xs h1 h2 h3;exact ⟨σ,fun _ _ _ _ h=>h,by cases e<;>simp_all[PO],_,d,l8 h1,hd,⟨d',h2,p8 h.1⟩,xs,h3,mc h.2⟩
  ·exact h.elim
 ·exact h.elim
end
theorem ai {P:Program} {st:List Nat} {ds:List (Option Nat)} {Q:Exit->St->Prop} {o:Oper} {l:List Oper} {σ:St} {a b:Option St} (h:a=b) (hn:oV b P st ds Q o l σ):oV a P st ds Q o l σ:=h▸hn
section
variable {P:Program} {st:List Nat} {ds:List (Option Nat)} {Q:Exit->St->Prop} {o:Oper} {l:List Oper} {σ:St} {dst:Option Nat} {g:Option (Nat×Bool)} {f:FuncId} {x y c:Code} {co:Operand} {args:List D} {sn:Bool} {id:Nat} {e:Exit} {N:St->Prop} {ret:D} {outs:List Obj}
@[congr] theorem Tn {a b:Option St} (h:a=b):oV a P st ds Q o l σ=oV b P st ds Q o l σ:=by rw[h]
@[congr] theorem Tp {a b:Option Bool} (h:a=b):gV a P st ds Q o l σ=gV b P st ds Q o l σ:=by rw[h]
@[congr] theorem Tq {a b:Bool} (h:a=b):sV a P st ds Q o l σ=sV b P st ds Q o l σ:=by rw[h]
@[congr] theorem Tr {a b:D} (h:a=b):cV a P st co x y Q σ=cV b P st co x y Q σ:=by rw[h]
@[congr] theorem Ts:LV P st ds Q l σ=LV P st ds Q l σ:=rfl
@[congr] theorem Tt:TV P st c Q σ=TV P st c Q σ:=rfl
@[congr] theorem PT:xo P st y Q e σ=xo P st y Q e σ:=rfl
@[congr] theorem N8:rW id Q e σ=rW id Q e σ:=rfl
@[congr] theorem PU:o7 N Q e σ=o7 N Q e σ:=rfl
@[congr] theorem Rf {a b:Option St} (h:a=b):rX a P st ds Q l=rX b P st ds Q l:=by rw[h]
@[congr] theorem Tv {a b:D} {as bs:List D} (h:a=b) (h2:as=bs):cG a as P st ds g σ dst Q l=cG b bs P st ds g σ dst Q l:=by rw[h,h2]
@[congr] theorem Tw {a b c d:Option (List D)} (h:a=b) (h2:c=d):cE a c P st ds g σ dst f Q l=cE b d P st ds g σ dst f Q l:=by rw[h,h2]
@[congr] theorem PV:aq P st ds g σ dst f args sn Q l=aq P st ds g σ dst f args sn Q l:=rfl
@[congr] theorem Rg:ah P ds Q l σ=ah P ds Q l σ:=rfl
@[congr] theorem Sb:ay P c Q σ=ay P c Q σ:=rfl
end
theorem Tx:(true==true)=true:=rfl
theorem Ty:(true==false)=false:=rfl
theorem Tz:(false==true)=false:=rfl
theorem TA:(false==false)=true:=rfl
attribute [go_sem] Wm Wn Tl Rc N6 N7 Wo Tm Wp true_and Tx Ty Tz TA Q9 Hj Wa Wb NP NQ Wc Wd NR K6 Ra K8 NS Rb NT K9 NU NV Iy La NW Wf Wg NY NZ N0 N1 Lc N4 Ld Le Lf N2 N3 N5 Aq As
inductive NC where
 | own (rows:List (List D))
 | nm (o len:Nat)
 | hole
def jz:List NC->List Nat
 | []=>[]
 | .own _::cs=>jz cs
 | .nm o _::cs=>o::jz cs
 | .hole::cs=>jz cs
theorem qf {o len:Nat}:∀ {cs:List NC} {j:Nat},cs[j]? = some (.nm o len)->o∈jz cs
 | [],j,h=>by simp at h
 | c::cs,0,h=>by simp at h;subst h;simp[jz]
 | c::cs,j+1,h=>by
   have:=qf (cs:=cs) (j:=j) (by simpa using h);cases c<;>simp[jz,this]
theorem nN:∀ ls:List (List (List D)),jz (ls.map .own)=[]
 | []=>rfl
 | l::ls=>by simp[jz,nN ls]
def NO (w:World) (st:Nat->Prop) (k:Nat) (rows:List (List D)) (x:Value):Option Nat->Prop
 | none=>rows=[]/\∃ a,x = .slice a 0 0
 | some b=> ∃ cur e cap A,w.heap[b]? = some (.cells cur e (0,0))/\zU cur (cap*k)/\cap<=maxLen/\rows.length<=cap/\RR w st k b 0 rows/\x = .slice A rows.length cap/\(0<cap->A=some ⟨b,0,none⟩)
theorem NO.mono {w w':World} {st st':Nat->Prop} {k:Nat} {rows:List (List D)} {x:Value} {bo:Option Nat} (hc:∀ g off,st g->w'.cell? ⟨g,off,none⟩=w.cell? ⟨g,off,none⟩) (hs:∀ g n,Sh w g n->Sh w' g n) (hst:∀ g,st g->st' g)
  (hb:∀ b,bo=some b->w'.heap[b]? = w.heap[b]?) (h:NO w st k rows x bo):NO w' st' k rows x bo:=by
 cases bo with
 | none=>exact h
 | some b=>
   obtain ⟨cur,e,cap,A,h1,h2,h3,h4,h5,h6⟩:=h;have R5:=hb b rfl;exact ⟨cur,e,cap,A,R5.trans h1,h2,h3,h4,RR.mono hc hs hst (fun off=>World.cell?_of_block (w:=w) (a:=⟨b,off,none⟩) R5) h5,h6⟩
def iR (w:World) (st:Nat->Prop) (k:Nat) (ρ:Nat->Option (Option Nat)) (x:Value) (bo:Option Nat):NC->Prop
 | .own rows=>NO w st k rows x bo
 | .nm o len=>bo=none/\R w st ρ (.cW o k 0 len) x
 | .hole=>bo=none
theorem iR.mono {w w':World} {st st':Nat->Prop} {k:Nat} {ρ:Nat->Option (Option Nat)} {c:NC} {x:Value} {bo:Option Nat} (hc:∀ g off,st g->w'.cell? ⟨g,off,none⟩=w.cell? ⟨g,off,none⟩) (hs:∀ g n,Sh w g n->Sh w' g n) (hst:∀ g,st g->st' g)
  (hb:∀ b,bo=some b->w'.heap[b]? = w.heap[b]?) (h:iR w st k ρ x bo c):iR w' st' k ρ x bo c:=by
 cases c with
 | own rows=>exact NO.mono hc hs hst hb h
 | nm o len=>exact ⟨h.1,R.mono hc hs hst h.2⟩
 | hole=>exact h
def FI (w:World) (st:Nat->Prop) (k:Nat) (ρ:Nat->Option (Option Nat)) (hd:Nat->Prop) (g:Nat) (cs:List NC) (cur:Array Value) (bs:List (Option Nat)):Prop:=
 bs.length=cs.length/\(∀ (j b:Nat),bs[j]? = some (some b)->hd b/\b≠g)/\(∀ (i j b:Nat),bs[i]? = some (some b)->bs[j]? = some (some b)->i=j)/\
  ∀ (j:Nat) c bo,cs[j]? = some c->bs[j]? = some bo->∃ x,cur[j]? = some x/\iR w st k ρ x bo c
def cH (k:Nat) (cs:List NC):Ext where
 qv:=jz cs
 φ w st ρ hd g:= ∃ cur e cap,w.heap[g]? = some (.cells cur e (0,0))/\zU cur (cap*1)/\cap<=maxLen/\cs.length<=cap/\∃ bs,FI w st k ρ hd g cs cur bs
 lt h:=by
  obtain ⟨cur,e,cap,h1,_⟩:=h;exact (zQ.1 h1).1
 mono hc hs hst hg hb h:=by
  obtain ⟨cur,e,cap,h1,h2,h3,h4,bs,n1,n2,n3,n4⟩:=h;refine ⟨cur,e,cap,hg.trans h1,h2,h3,h4,bs,n1,n2,n3,fun j c bo hj MR=>?_⟩;obtain ⟨x,x1,x2⟩:=n4 j c bo hj MR;exact ⟨x,x1,iR.mono hc hs hst (fun b e=>hb b (n2 j b (by rw[MR,e])).1) x2⟩
 loc hl h:=by
  obtain ⟨cur,e,cap,h1,h2,h3,h4,bs,n1,n2,n3,n4⟩:=h;refine ⟨cur,e,cap,h1,h2,h3,h4,bs,n1,n2,n3,fun j c bo hj MR=>?_⟩;obtain ⟨x,x1,x2⟩:=n4 j c bo hj MR;refine ⟨x,x1,?_⟩;cases c with
  | own rows=>exact x2
  | hole=>exact x2
  | nm o len=>
    have he:=hl o (qf hj);refine ⟨x2.1,?_⟩;have:=x2.2;simp only[R,he] at this ⊢;exact this
theorem Iz {k:Nat} {ls:List (List (List D))}:(cH k (ls.map .own)).qv=[]:=nN ls
section
variable {w:World} {st:Nat->Prop} {k g:Nat} {ρ:Nat->Option (Option Nat)} {hd:Nat->Prop} {cs:List NC} {cur:Array Value} {bs:List (Option Nat)}
theorem FI.set {hd':Nat->Prop} {st':Nat->Prop} {ρ':Nat->Option (Option Nat)} {j:Nat} {c:NC} {x:Value} {bo:Option Nat} (h:FI w st k ρ hd g cs cur bs) (hj:j<cs.length)
  (Dl:∀ i c bi x,i≠j->cs[i]? = some c->bs[i]? = some bi->iR w st k ρ x bi c->iR w st' k ρ' x bi c)
  (N9:∀ i b,i≠j->bs[i]? = some (some b)->hd' b) (o9:∀ b,bo=some b->hd' b/\b≠g/\∀ i,i≠j->bs[i]? ≠some (some b)) (hx:cur[j]? = some x) (hc:iR w st' k ρ' x bo c):FI w st' k ρ' hd' g (cs.set j c) cur (bs.set j bo):=by
 obtain ⟨n1,n2,n3,n4⟩:=h;have hjb:j<bs.length:=by omega
 refine ⟨by simp[n1],fun i b hi=>?_,fun i i' b hi hi'=>?_,fun i c' bi hi kQ=>?_⟩
 ·by_cases e:i=j
  ·subst e;rw[tZ hjb] at hi;have:=o9 b (by simpa using hi);exact ⟨this.1,this.2.1⟩
  ·rw[ua (sF e)] at hi;exact ⟨N9 i b e hi,(n2 i b hi).2⟩
 ·by_cases e:i=j<;>by_cases e':i'=j
  ·rw[e,e']
  ·subst e;rw[tZ hjb] at hi;rw[ua (sF e')] at hi';exact absurd hi' ((o9 b (by simpa using hi)).2.2 i' e')
  ·subst e';rw[tZ hjb] at hi';rw[ua (sF e)] at hi;exact absurd hi ((o9 b (by simpa using hi')).2.2 i e)
  ·rw[ua (sF e)] at hi;rw[ua (sF e')] at hi';exact n3 i i' b hi hi'
 ·by_cases e:i=j
  ·subst e;rw[tZ hj] at hi;rw[tZ hjb] at kQ;simp only[fF] at hi kQ;subst hi kQ;exact ⟨x,hx,hc⟩
  ·rw[ua (sF e)] at hi kQ;obtain ⟨y,y1,y2⟩:=n4 i c' bi hi kQ;exact ⟨y,y1,Dl i c' bi y e hi kQ y2⟩
end
theorem cZ.takeN (σ:St) (o j d k:Nat) {cs:List NC} {rows:List (List D)} (ho:az σ.heap o = .ext (cH k cs)) (hj:cs[j]? = some (.own rows)) (hd:hfree σ.heap d=true) (hne:o≠d) (hm:iQ d (jz cs)=false):
  cZ σ { σ.kill d with heap:=aG (aG (σ.kill d).heap o (.ext (cH k (cs.set j (.nm d rows.length))))) d (.row k rows) }:=by
 rintro w0 p a w ⟨ρ,h⟩;obtain ⟨Q5,R8⟩:=ep.1 hd;have hro:=h.objs o;rw[ho] at hro;simp only[RO] at hro;obtain ⟨g,hg,cur,e,cap,c1,c2,c3,c4,bs,hN⟩:=hro;have hjl:j<cs.length:=(jL.1 hj).1;obtain ⟨bo,o9⟩:∃ bo,bs[j]? = some bo:=⟨_,rJ (show j<bs.length by rw[hN.1];exact hjl)⟩
 obtain ⟨x,hx,hno⟩:=hN.2.2.2 j _ bo hj o9
 let ρ1:Nm:=⟨fun y=>if y=d then some bo else ρ y,fun y=>if y=d then fun _=>False else ρ.hid y⟩
 let ρ':Nm:=⟨fun y=>if y=d then some bo else ρ y,fun y=>if y=d then fun _=>False else if y=o then fun b=>ρ.hid o b/\bo≠some b else ρ.hid y⟩
 have hk:aU w0 p (σ.kill d) a w ρ1:=h.kill d (fun y e=>⟨by simp[ρ1,e],by simp[ρ1,e]⟩) (fun h1=>by omega);have hlo:az σ.heap o≠ .dead:=by rw[ho];simp
 have hmo:az (σ.kill d).heap o = .ext (cH k cs):=by
  rw[fI,aE hne,ho,Obj.ku,show (cH k cs).qv=jz cs from rfl,hm];rfl
 have Oa:ec (σ.kill d).heap o=true:=cC (by rw[hmo];simp);have N9:ec (σ.kill d).heap d=true:=by rw[St.kill,fY,kz];exact Q5
 have g1:az (aG (aG (σ.kill d).heap o (.ext (cH k (cs.set j (.nm d rows.length))))) d (.row k rows)) d = .row k rows:=aX (by rw[fY];exact N9);have g2:az (aG (aG (σ.kill d).heap o (.ext (cH k (cs.set j (.nm d rows.length))))) d (.row k rows)) o = .ext (cH k (cs.set j (.nm d rows.length))):=by rw[aM hne,aX Oa]
 have r1:ρ1 o=ρ o:=by simp[ρ1,hne]
 have r2:ρ1.hid o=ρ.hid o:=by simp[ρ1,hne]
 have q1:∀ b,ow ρ' o b->ow ρ1 o b:=by
  intro b hb;rcases hb with hb|hb
  ·exact .inl hb
  ·right;simp only[ρ',hne,jc,jg] at hb;rw[r2];exact hb.1
 have q2:∀ b,ow ρ' d b->bo=some b:=by
  intro b hb;rcases hb with hb|hb
  ·simpa[ρ'] using hb
  ·simp[ρ'] at hb
 have q3:∀ b,bo=some b->ρ.hid o b/\b≠g:=fun b e=>hN.2.1 j b (by rw[o9,e])
 have kY:=hk.turn (ρ':=ρ') (w':=w) (heap':=aG (aG (σ.kill d).heap o (.ext (cH k (cs.set j (.nm d rows.length))))) d (.row k rows)) (fun y=>y=o\/y=d) (fun y=>rfl)
  (fun y hy=>by simp only[vM] at hy;simp only[ρ',ρ1,hy.1,hy.2,jc])
  (fun y hy=>by simp only[vM] at hy;rw[aM hy.2,aM hy.1])
  (fun y b hy hl hb=>by
   refine .inr ⟨o, .inl rfl,by rw[hmo];simp,?_⟩;rcases hy with rfl|rfl
   ·exact q1 b hb
   ·right;rw[r2];exact (q3 b (q2 b hb)).1)
  (fun y y' b hy hy' hl hl' hb hb'=>by
   have u0:ow ρ' o b->ow ρ' d b->False:=by
    intro u v;have e1:=q2 b v;rcases u with u|u
    ·have:ρ o=some (some b):=by simpa[ρ',hne] using u
     rw[hg] at this;simp only[fF] at this;exact (q3 b e1).2 this.symm
    ·simp only[ρ',hne,jc,jg] at u;exact u.2 e1
   rcases hy with rfl|rfl<;>rcases hy' with rfl|rfl
   ·rfl
   ·exact (u0 hb hb').elim
   ·exact (u0 hb' hb).elim
   ·rfl)
  (fun y b hy hl hb=>by
   rcases hy with rfl|rfl
   ·simp only[ρ',hne,jc,jg] at hb;exact h.hlt y b hlo hb.1
   ·simp[ρ'] at hb)
  (fun _ _ _=>rfl) (fun _ _ hs=>hs) (iU _) rfl rfl rfl
  (fun y hy st h1 h2=>by
   have hst:∀ b,bO p σ.heap ρ w b->st b:=fun b hb=>h1 b ⟨hb.1,hb.2.1,fun y' hy'=>by
    rw[fI] at hy';by_cases e:y'=d
    ·simp[e] at hy'
    ·rw[aE e,Obj.jP] at hy';have:same ρ ρ1 y':=⟨by simp[ρ1,e],by simp[ρ1,e]⟩
     rw[this.ow];exact hb.2.2 y' hy'⟩
   have mono:∀ c bi x,iR w (bO p σ.heap ρ w) k ρ x bi c->iR w st k ρ x bi c:=fun c bi x hc=>iR.mono (fun _ _ _=>rfl) (fun _ _ hs=>hs) hst (fun _ _=>rfl) hc;rcases hy with rfl|rfl
   ·rw[g2];refine ⟨g,by simpa[ρ',hne] using hg,cur,e,cap,c1,c2,c3,by simpa using c4,bs.set j none,?_⟩;refine hN.set hjl (fun i c bi x hi Oc _ hc=>?_) (fun i b hi kQ=>?_) (fun b hb=>by cases hb) hx ?_
    ·have hc:=mono c bi x hc;cases c with
     | own rows=>exact hc
     | hole=>exact hc
     | nm o' len=>
       have TB:o'≠d:=fun e=>by
        have:=lW.2 (qf Oc);rw[e,hm] at this;cases this
       refine ⟨hc.1,?_⟩;have:=hc.2;simp only[R,show ρ'.nm o'=ρ.nm o' by simp[ρ',TB]] at this ⊢;exact this
    ·show ρ'.hid y b;simp only[ρ',hne,jc,jg];refine ⟨(hN.2.1 i b kQ).1,fun e=>hi (hN.2.2.1 i j b kQ (by rw[o9,e]))⟩
    ·refine ⟨rfl,?_⟩;have hc:=mono (.own rows) bo x hno;simp only[R,show ρ'.nm d=some bo by simp[ρ']];cases bo with
     | none=>
       obtain ⟨e1,a',e2⟩:=hc;exact .inl ⟨rfl,trivial,by rw[e1];rfl,a',e2⟩
     | some b=>
       obtain ⟨cur',e',cap',A,n1,n2,n3,n4,n5,n6,n7⟩:=hc;exact .inr ⟨b,cap',A,rfl,⟨cur',e',n1,n2.size⟩,by omega,n3,by simpa using n6,fun hh=>by rw[MG];exact n7 hh⟩
   ·rw[g1];have hc:=mono (.own rows) bo x hno;simp only[RO,show ρ'.nm y=some bo by simp[ρ']];cases bo with
    | none=>exact hc.1
    | some b=>
      obtain ⟨cur',e',cap',A,n1,n2,n3,n4,n5,n6,n7⟩:=hc
      exact ⟨cur',e',cap',n1,n2,n3,n4,n5⟩)
 exact ⟨ρ',kY.1⟩
theorem cZ.Lg (σ:St) (o j d k n:Nat) {cs:List NC} {rows:List (List D)} (ho:az σ.heap o = .ext (cH k cs)) (hj:cs[j]? = some (.nm d n)) (hd:az σ.heap d = .row k rows) (hn:n=rows.length) (hk:0<k) (zl:d<1000) (hne:o≠d) (hm:iQ d (jz (cs.set j (.own rows)))=false):
  cZ σ (({ σ with heap:=aG (aG σ.heap d .dead) o (.ext (cH k (cs.set j (.own rows)))) }:St).kill d):=by
 rintro w0 p a w ⟨ρ,h⟩;subst hn;have hro:=h.objs o;rw[ho] at hro;simp only[RO] at hro;obtain ⟨g,hg,cur,e,cap,c1,c2,c3,c4,bs,hN⟩:=hro;have hjl:j<cs.length:=(jL.1 hj).1;obtain ⟨bo,o9⟩:∃ bo,bs[j]? = some bo:=⟨_,rJ (show j<bs.length by rw[hN.1];exact hjl)⟩
 obtain ⟨x,hx,hb0,hno⟩:=hN.2.2.2 j _ bo hj o9;have hrd:=h.objs d;rw[hd] at hrd;have hlo:az σ.heap o≠ .dead:=by rw[ho];simp
 have Lh:az σ.heap d≠ .dead:=by rw[hd];simp
 have Oa:ec σ.heap o=true:=cC hlo
  -- the row's block
 obtain ⟨bd,hbd⟩:∃ bd,ρ d=some bd:=by
  cases hq:ρ d with
  | none=>simp only[RO,hq] at hrd
  | some bd=>exact ⟨bd,rfl⟩
 have Zp:∀ st:Nat->Prop,(∀ b,bO p σ.heap ρ w b->st b)->NO w st k rows x bd:=by
  intro st hst;cases bd with
  | none=>
    simp only[RO,hbd] at hrd;simp only[R,hbd] at hno;rcases hno with ⟨_,_,_,a',e'⟩|⟨b,_,_,e1,_⟩
    ·exact ⟨hrd,a',e'⟩
    ·cases e1
  | some b=>
    simp only[RO,hbd] at hrd;obtain ⟨cu,e',cp,n1,n2,n3,n4,n5⟩:=hrd;simp only[R,hbd] at hno;rcases hno with ⟨e1,_⟩|⟨b',Zq,A,e1,⟨Zr,e2,m1,m2⟩,m3,m4,m5,m6⟩
    ·cases e1
    ·simp only[fF] at e1;subst e1;rw[n1] at m1;simp only[fF,Obj.cells.injEq] at m1;obtain ⟨rfl,_⟩:=m1;have lF:cp=Zq:=RP hk (n2.size.symm.trans m2);subst lF;exact ⟨cu,e',cp,A,n1,n2,n3,n4,RR.mono (fun _ _ _=>rfl) (fun _ _ hs=>hs) hst (fun _=>rfl) n5,by simpa using m5,fun hh=>by have:=m6 hh;simpa using this⟩
 let ρ':Nm:=⟨ρ.nm,fun y=>if y=o then fun b=>ρ.hid o b\/bd=some b else ρ.hid y⟩
 have g1:az (aG (aG σ.heap d .dead) o (.ext (cH k (cs.set j (.own rows))))) o = .ext (cH k (cs.set j (.own rows))):=aX (by rw[fY];exact Oa);have g2:az (aG (aG σ.heap d .dead) o (.ext (cH k (cs.set j (.own rows))))) d = .dead:=by rw[aM (sF hne),aX (cC Lh)]
 have q1:∀ b,ow ρ' o b->ow ρ o b\/ow ρ d b:=by
  intro b hb;rcases hb with hb|hb
  ·exact .inl (.inl hb)
  ·simp only[ρ',jg] at hb;rcases hb with hb|hb
   ·exact .inl (.inr hb)
   ·exact .inr (.inl (by rw[hbd,hb]))
 have kY:=h.turn (ρ':=ρ') (w':=w) (heap':=aG (aG σ.heap d .dead) o (.ext (cH k (cs.set j (.own rows))))) (fun y=>y=o\/y=d) (fun y=>rfl)
  (fun y hy=>by simp only[vM] at hy;simp only[ρ',hy.1,jc])
  (fun y hy=>by simp only[vM] at hy;rw[aM hy.1,aM hy.2])
  (fun y b hy hl hb=>by
   rcases hy with rfl|rfl
   ·rcases q1 b hb with h1|h1
    ·exact .inr ⟨y, .inl rfl,hlo,h1⟩
    ·exact .inr ⟨d, .inr rfl,Lh,h1⟩
   ·exact absurd g2 hl)
  (fun y y' b hy hy' hl hl' hb hb'=>by
   rcases hy with rfl|rfl<;>rcases hy' with rfl|rfl
   ·rfl
   ·exact absurd g2 hl'
   ·exact absurd g2 hl
   ·rfl)
  (fun y b hy hl hb=>by
   rcases hy with rfl|rfl
   ·simp only[ρ',jg] at hb;rcases hb with hb|hb
    ·exact h.hlt y b hlo hb
    ·exact h.mR Lh (.inl (by rw[hbd,hb]))
   ·exact absurd g2 hl)
  (fun _ _ _=>rfl) (fun _ _ hs=>hs) (iU _) rfl rfl rfl
  (fun y hy st hst _=>by
   rcases hy with rfl|rfl
   ·rw[g1];refine ⟨g,hg,cur,e,cap,c1,c2,c3,by simpa using c4,bs.set j bd,?_⟩;have eh:ρ'.hid y=fun b=>ρ.hid y b\/bd=some b:=by simp[ρ']
    refine hN.set hjl (fun i c bi x hi Oc _ hc=>iR.mono (fun _ _ _=>rfl) (fun _ _ hs=>hs) hst (fun _ _=>rfl) hc) (fun i b hi kQ=>by rw[eh];exact .inl (hN.2.1 i b kQ).1) (fun b hb=>⟨by rw[eh];exact .inr hb,fun e'=>?_,fun i hi kQ=>?_⟩) hx (Zp st hst)
    ·subst e';exact hne (h.inj y d b hlo Lh (.inl hg) (.inl (by rw[hbd,hb])))
    ·exact hne (h.inj y d b hlo Lh (.inr (hN.2.1 i b kQ).1) (.inl (by rw[hbd,hb])))
   ·rw[g2];simp[RO])
 exact ⟨ρ',kY.1.kill d (fun _ _=>same.refl) (fun _=>rfl)⟩
theorem cZ.eE (σ:St) (o k:Nat) {ls:List (List (List D))} (ho:az σ.heap o = .ext (cH k (ls.map .own))):cZ σ { σ with heap:=aG σ.heap o (.row 1 (ls.map fun rows=>[.sl k rows])) }:=by
 rintro w0 p a w ⟨ρ,h⟩;have hro:=h.objs o;rw[ho] at hro;simp only[RO] at hro;obtain ⟨g,hg,cur,e,cap,c1,c2,c3,c4,bs,hN⟩:=hro;have hlo:az σ.heap o≠ .dead:=by rw[ho];simp
 have Oa:ec σ.heap o=true:=cC hlo
 let ρ':Nm:=⟨ρ.nm,fun y=>if y=o then fun _=>False else ρ.hid y⟩
 have g1:az (aG σ.heap o (.row 1 (ls.map fun rows=>[.sl k rows]))) o = .row 1 (ls.map fun rows=>[.sl k rows]):=aX Oa
 have q1:∀ b,ow ρ' o b->ρ o=some (some b):=by
  intro b hb;rcases hb with hb|hb
  ·exact hb
  ·simp[ρ'] at hb
 have kY:=h.turn (ρ':=ρ') (w':=w) (heap':=aG σ.heap o (.row 1 (ls.map fun rows=>[.sl k rows]))) (fun y=>y=o) (fun y=>rfl)
  (fun y hy=>by simp only[ρ',hy,jc])
  (fun y hy=>aM hy)
  (fun y b hy hl hb=>by subst hy;exact .inr ⟨y,rfl,hlo, .inl (q1 b hb)⟩)
  (fun y y' b hy hy' hl hl' hb hb'=>hy.trans hy'.symm)
  (fun y b hy hl hb=>by subst hy;simp[ρ'] at hb)
  (fun _ _ _=>rfl) (fun _ _ hs=>hs) (iU _) rfl rfl rfl
  (fun y hy st hst Ie=>by
   subst hy;rw[g1];simp only[RO,show ρ'.nm y=some (some g) from hg];refine ⟨cur,e,cap,c1,c2,c3,by simpa using c4,?_⟩
   have key:∀ (l2:List (List (List D))) (i:Nat),(∀ j rows,l2[j]? = some rows->ls[i+j]? = some rows)->RR w st 1 g i (l2.map fun rows=>[.sl k rows]):=by
    intro l2
    induction l2 with
    | nil=>intro i _;simp[RR]
    | cons r l2 ih=>
      intro i hl;have h0:ls[i]? = some r:=by have:=hl 0 r (by simp);simpa using this
      have Yo:i<bs.length:=by rw[hN.1,dD];exact (jL.1 h0).1
      obtain ⟨x,x1,x2⟩:=hN.2.2.2 i (.own r) bs[i] (by rw[wH,h0];rfl) (rJ Yo);have pQ:x.oneCell'=true:=c2.one x (fS (by rw[nZ];exact x1));simp only[fk,RR];refine ⟨rfl,?_,ih (i+1) (fun j rows hj=>by have:=hl (j+1) rows (by simpa using hj);rw[show i+1+j=i+(j+1) by omega];exact this)⟩;simp only[RC];refine ⟨⟨x,by rw[cell_of_row w g i cur e (0,0) c1];exact x1,pQ,?_⟩,trivial⟩;have kQ:=rJ Yo;simp only[R];cases hb:bs[i] with
      | none=>
        rw[hb] at x2;obtain ⟨e1,a',e2⟩:=x2;exact ⟨a',0,by rw[e1];exact e2,by rw[e1];simp,ek _, .inl e1⟩
      | some b=>
        rw[hb] at x2 kQ;obtain ⟨cu,e',cp,A,n1,n2,n3,n4,n5,n6,n7⟩:=x2;refine ⟨A,cp,n6,n4,n3,?_⟩;cases r with
        | nil=>exact .inl rfl
        | cons r0 rs=>
          simp only[List.length_cons] at n4;refine .inr ⟨b,0,n7 (by omega),Ie b (.inr ⟨y,rfl,hlo, .inr (hN.2.1 i b kQ).1⟩) (fun y' hy' _ hb'=>?_),RR.mono (fun _ _ _=>rfl) (fun _ _ hs=>hs) hst (fun _=>rfl) n5⟩;subst hy';have:=q1 b hb';rw[hg] at this;simp only[fF] at this;exact (hN.2.1 i b kQ).2 this.symm
   exact key ls 0 (fun j rows hj=>by rw[kO];exact hj))
 exact ⟨ρ',kY.1⟩
def pL (k:Nat):D->Option NC
 | .cW d k' 0 n=>if k'=k then some (.nm d n) else none
 | .sc (.slice none 0 0)=>some (.own [])
 | _=>none
theorem Ho {k:Nat} {u:Value} {c:NC} (h:pL k (.sc u)=some c):u = .slice none 0 0/\c = .own []:=by
 cases u with
 | slice a l cp=>
   cases a with
   | some a=>simp[pL] at h
   | none=>
     cases l with
     | succ l=>simp[pL] at h
     | zero=>
       cases cp with
       | succ cp=>simp[pL] at h
       | zero=>simp only[pL,fF] at h;exact ⟨rfl,h.symm⟩
 | _=>simp[pL] at h
theorem uy {w:World} {st:Nat->Prop} {ρ:Nat->Option (Option Nat)} {k:Nat} {d:D} {c:NC} {v:Value} (h:pL k d=some c) (hr:R w st ρ d v):iR w st k ρ v none c:=by
 cases d with
 | cW d k' off n=>
   cases off with
   | succ m=>simp[pL] at h
   | zero=>
     simp only[pL] at h
     split at h
     ·rename_i e;subst e;simp only[fF] at h;subst h;exact ⟨rfl,hr⟩
     ·cases h
 | sc u=>
   obtain ⟨rfl,rfl⟩:=Ho h;simp only[R] at hr;exact ⟨rfl,none,hr⟩
 | _=>simp[pL] at h
theorem Dn {k:Nat} {d:D} {c:NC} (h:pL k d=some c):qQ d=true/\cellsD d=some [d]:=by
 cases d with
 | cW d k' off n=>exact ⟨rfl,rfl⟩
 | sc u=>
   obtain ⟨rfl,rfl⟩:=Ho h;exact ⟨rfl,rfl⟩
 | _=>simp[pL] at h
theorem iR.vS {w:World} {st:Nat->Prop} {ρ ρ':Nat->Option (Option Nat)} {k:Nat} {c:NC} {x:Value} {bo:Option Nat} (hn:∀ o len,c = .nm o len->ρ' o=ρ o) (h:iR w st k ρ x bo c):iR w st k ρ' x bo c:=by
 cases c with
 | own rows=>exact h
 | hole=>exact h
 | nm o len=>
   have he:=hn o len rfl;refine ⟨h.1,?_⟩;have:=h.2;simp only[R,he] at this ⊢;exact this
section
variable {P:Program} {σ:St}
theorem Sound.PW (t:TypeId) (x:Operand) (ti:TI) {L j k d n:Nat} {cs:List NC} (ht:aA P t=some ti) (hx:bg σ x = .jN L 1 j 0) (hL:az σ.heap L = .ext (cH k cs)) (hj:cs[j]? = some (.nm d n)) (h1:ti.size=1) (EL:ti.kind.isAgg=false):Sound P σ (.load t x) (.cW d k 0 n):=by
 intro w0 p a w ρ o ho h;have ha:=h.bg x;rw[hx] at ha;simp only[R] at ha;obtain ⟨g',a1,a2⟩:=ha;have hro:=h.objs L;rw[hL] at hro;simp only[RO] at hro;obtain ⟨g,hg,cur,e,cap,c1,c2,c3,c4,bs,hN⟩:=hro;rw[hg] at a1;simp only[fF] at a1;subst a1;have hjl:j<cs.length:=(jL.1 hj).1;obtain ⟨v,hv,hb,hR⟩:=hN.2.2.2 j _ _ hj (rJ (show j<bs.length by rw[hN.1];exact hjl));obtain ⟨_,hsz,_,_,Wq⟩:=ej ht w;have hc:w.cell? ⟨g,j,none⟩=some v:=by rw[cell_of_row w g j cur e (0,0) c1];exact hv
 simp only[J3,Nat.add_zero] at a2;exact ⟨v,by simp[execOp,ho,Instr.loadAt,a2,Instr.sureAddr,loadVar,Wq,EL,hc],hR⟩
theorem cP.Lj {o:Oper} {t:TypeId} {ax vx:Operand} {ti:TI} {L j k:Nat} {cs:List NC} {c:NC} (ho:o.op = .store t ax vx) (ht:aA P t=some ti) (h1:ti.size=1) (Wr:bg σ ax = .jN L 1 j 0) (hL:az σ.heap L = .ext (cH k cs)) (hj:j<cs.length)
  (hc:pL k (bg σ vx)=some c):cP P σ o (St.put { σ with heap:=aG σ.heap L (.ext (cH k (cs.set j c))) } o.dst (.sc undef)):=by
 rintro w0 p a w ⟨ρ,h⟩;obtain ⟨hone,hcd⟩:=Dn hc;obtain ⟨hu,hcs⟩:=uf hone (h.bg vx);have wR:(a.eval vx).cells.toList=[a.eval vx]:=by rw[hcs]
 have hsz:(a.eval vx).cells.size=ti.size:=by rw[hcs,h1];rfl
 have ha:=h.bg ax;rw[Wr] at ha;simp only[R] at ha;obtain ⟨g',a1,a2⟩:=ha;have hro:=h.objs L;rw[hL] at hro;simp only[RO] at hro;obtain ⟨g,hg,cur,e,cap,c1,c2,c3,c4,bs,hN⟩:=hro;rw[hg] at a1;simp only[fF] at a1;subst a1;simp only[J3,Nat.add_zero] at a2;have Bv:cur.toList.length=cur.size:=Array.length_toList;have R7:j<cur.size:=by rw[c2.size];omega
 have hfit:j+(a.eval vx).cells.toList.length<=cur.size:=by rw[wR];simp only[List.length_singleton];omega
 have hrun:=og ht (w:=w) (g:=g) (off:=j) (v:=a.eval vx) c1 hsz hfit (by rw[wR];intro u pH;rw[rG.1 pH];exact hu);refine ⟨undef,_, .inr ⟨rfl,by simp[execOp,ho,Instr.storeAt,a2,Instr.sureAddr,hrun];rfl⟩,?_⟩;rw[wR];have eH:az σ.heap L≠ .dead:=by rw[hL];simp
 have uY:(splice cur.toList j [a.eval vx]).length=cur.toList.length:=fU (by rw[Bv];simp only[List.length_singleton];omega)
 have Vz:=h.Vu (o:=L) (g:=g) (x:= .ext (cH k (cs.set j c))) (cur:=cur) (cur':=(splice cur.toList j [a.eval vx]).toArray) (e:=e) eH hg c1 (by rw[zS,uY,Bv]) (by simp) (fun st hst=>by
  have hb:∀ b,b≠g->(w.setRow g (splice cur.toList j [a.eval vx]).toArray).heap[b]? = w.heap[b]? :=fun b hb=>setRow_other w g b _ hb
  have lF:∀ b q,bO p σ.heap ρ w b->(w.setRow g (splice cur.toList j [a.eval vx]).toArray).cell? ⟨b,q,none⟩=w.cell? ⟨b,q,none⟩:=by
   intro b q hs;refine World.cell?_of_block (w:=w) (a:=⟨b,q,none⟩) (hb b ?_);rintro rfl;exact hs.2.2 L eH (.inl hg)
  have hsh:∀ b n,Sh w b n->Sh (w.setRow g (splice cur.toList j [a.eval vx]).toArray) b n:=by
   intro b n hh;by_cases e':b=g
   ·subst e';obtain ⟨cu,e2,s1,s2⟩:=hh;rw[c1] at s1;simp only[fF,Obj.cells.injEq] at s1;exact ⟨_,e,setRow_heap w b cur _ e (0,0) c1,by rw[zS,uY,Bv,s1.1,s2]⟩
   ·exact ct (hb b e') hh
  have az:∀ i,(splice cur.toList j [a.eval vx]).toArray[i]? = if i=j then some (a.eval vx) else cur[i]? :=by
   intro i;rw[Po]
   have:splice cur.toList j [a.eval vx]=cur.toList.set j (a.eval vx):=by
    unfold splice;rw[List.length_singleton,List.set_eq_take_append_cons_drop,bC (by rw[Bv];exact R7)];simp
   rw[this];by_cases e':i=j
   ·subst e';rw[bC rfl,tZ (by rw[Bv];exact R7)]
   ·rw[aE e',ua (sF e'),nZ]
  simp only[RO];refine ⟨g,hg,_,e,cap,setRow_heap w g cur _ e (0,0) c1,⟨by rw[zS,uY,Bv];exact c2.size,fun v hv=>?_⟩,c3,by simpa using c4,bs.set j none,by simp[hN.1],?_,?_,?_⟩
  ·obtain ⟨i,hi⟩:=Vr hv;rw[nZ,az] at hi
   split at hi
   ·simp only[fF] at hi;rw[<- hi];exact hu
   ·exact c2.one v (fS (by rw[nZ];exact hi))
  ·intro i b hi;by_cases e':i=j
   ·subst e';rw[tZ (by rw[hN.1];exact hj)] at hi;simp at hi
   ·rw[ua (sF e')] at hi;exact hN.2.1 i b hi
  ·intro i i' b hi hi';by_cases e1:i=j
   ·subst e1;rw[tZ (by rw[hN.1];exact hj)] at hi;simp at hi
   ·by_cases e2:i'=j
    ·subst e2;rw[tZ (by rw[hN.1];exact hj)] at hi';simp at hi'
    ·rw[ua (sF e1)] at hi;rw[ua (sF e2)] at hi';exact hN.2.2.1 i i' b hi hi'
  ·intro i c' bi hi kQ;rw[az];by_cases e':i=j
   ·subst e';rw[tZ hj] at hi;rw[tZ (by rw[hN.1];exact hj)] at kQ;simp only[fF] at hi kQ;subst hi kQ;exact ⟨_,bC rfl,iR.mono lF hsh hst (fun b hb'=>by cases hb') (uy hc (h.bg vx))⟩
   ·rw[ua (sF e')] at hi kQ;obtain ⟨y,y1,y2⟩:=hN.2.2.2 i c' bi hi kQ
    exact ⟨y,by rw[aE e'];exact y1,iR.mono lF hsh hst (fun b hb'=>hb b (hN.2.1 i b (by rw[kQ,hb'])).2) y2⟩)
 exact ⟨ρ,Vz.put o.dst (by simp only[R])⟩
def sZ (k:Nat):List D->Option (List NC)
 | []=>some []
 | d::ds=>(pL k d).bind fun c=>(sZ k ds).map fun cs=>c::cs
theorem Au {k:Nat}:∀ {ds:List D} {cs:List NC},sZ k ds=some cs->cs.length=ds.length/\∀ (j:Nat) c,cs[j]? = some c->∃ d,ds[j]? = some d/\pL k d=some c
 | [],cs,h=>by simp only[sZ,fF] at h;subst h;simp
 | d::ds,cs,h=>by
   simp only[sZ,j4,kr] at h;obtain ⟨c,h1,cs',h2,rfl⟩:=h;obtain ⟨h3,h4⟩:=Au h2;refine ⟨by simp[h3],fun j c' hj=>?_⟩;cases j with
   | zero=>simp only[dJ,fF] at hj;subst hj;exact ⟨d,rfl,h1⟩
   | succ j=>exact h4 j c' (by simpa using hj)
theorem Av {k:Nat}:∀ {ds:List D} {cs:List NC},sZ k ds=some cs->ds.all qQ=true
 | [],_,_=>rfl
 | d::ds,cs,h=>by
   simp only[sZ,j4,kr] at h;obtain ⟨c,h1,cs',h2,rfl⟩:=h;rw[List.all_cons,(Dn h1).1,Av h2];rfl
theorem cP.Lk {o:Oper} {t:TypeId} {n d k:Nat} {parts:Array (Nat×Operand)} {ti ei:TI} {e:TypeId} {cells:List D} {cs:List NC} (ho:o.op = .buildSlice t n parts) (nJ:o.dst=some d) (hh:hfree σ.heap d=true) (ht:aA P t=some ti) (hk:ti.kind.elem? = some e)
  (he:aA P e=some ei) (h1:ei.size=1) (hn:n<=16777216) (hf:nK (fun i=>some (i*ei.size,ei.size)) (jC ei.zero (n*ei.size)) (parts.toList.map fun x=>(x.1,bg σ x.2))=some cells)
  (hlen:cells.length=n) (hcs:sZ k cells=some cs) (hm:iQ d (jz cs)=false):
  cP P σ o (St.put { σ.bF [d] with heap:=aG (σ.bF [d]).heap d (.ext (cH k cs)) } (some d) (.cW d 1 0 n)):=by
 rintro w0 p a w ⟨ρ,h⟩;have hu:=run_underlying (P:=P) (eU ht hk) w;obtain ⟨_,hs,_,hz,_⟩:=ej he w;have hle:n*ei.size<=16777216:=by rw[h1];omega
 have Nn:RL w (bO p σ.heap ρ w) ρ (jC ei.zero (n*ei.size)) ((List.range (n*ei.size)).map fun i=>ei.zero.cells[i%ei.zero.cells.size]!):=by
  have:jC ei.zero (n*ei.size)=((List.range (n*ei.size)).map fun i=>ei.zero.cells[i%ei.zero.cells.size]!).map .sc:=by simp[jC,Ia,Function.comp_def]
  rw[this];exact pU _
 obtain ⟨vs',g1,h2⟩:=nL (oh:=parts.toList.map fun x=>(x.1,a.eval x.2)) Nn (by simp[Ia,Function.comp_def]) (sP h parts.toList) hf;have h4:=rL (Av hcs) h2;have hvl:=dF h2;obtain ⟨c1,c2⟩:=Au hcs;refine ⟨.slice (some ⟨w.heap.size,0,none⟩) n n,w.alloc (.cells vs'.toArray e), .inl ?_,?_⟩
 ·have hle':¬ (n*ei.size>2^24):=by omega
  have u7:∀ z:Array Value,(n*ei.size=0\/z=ei.zero.cells)->Instr.fill (fun i=>some (i*ei.size,ei.size)) ((Array.range (n*ei.size)).map (z[· % z.size]!)) (parts.map fun x=>(x.1,a.eval x.2)).toList=some vs'.toArray:=by
   intro z yN
   have ez:(Array.range (n*ei.size)).map (z[· % z.size]!)=((List.range (n*ei.size)).map fun i=>ei.zero.cells[i%ei.zero.cells.size]!).toArray:=by
    rcases yN with h0|rfl
    ·rw[h0];simp
    ·apply H8.1;simp
   rw[ez,Qw];exact g1
  by_cases h0:n*ei.size=0
  ·have Ko:=u7 #[] (.inl h0);simp only[execOp,ho,Instr.buildSlice,Sem.run_bind,hu,Result.andThen_ok,hs,Sem.run_pure];rw[aE hle'];simp only[Sem.run_bind,Sem.run_pure,Result.andThen_ok,bC h0];simp only[Ko,Sem.run_bind,Sem.run_pure,newRow,run_newObj,Result.andThen_ok];rfl
  ·have Ko:=u7 ei.zero.cells (.inr rfl);simp only[execOp,ho,Instr.buildSlice,Sem.run_bind,hu,Result.andThen_ok,hs,Sem.run_pure];rw[aE hle'];simp only[Sem.run_bind,Sem.run_pure,Result.andThen_ok,aE h0,hz];simp only[Ko,Sem.run_bind,Sem.run_pure,newRow,run_newObj,Result.andThen_ok];rfl
 ·rw[nJ];have yM:n<=maxLen:=by unfold maxLen;omega
  have hsz:vs'.length=n:=by rw[hvl,hlen]
  have hnb:=h.jS (ids:=[d]) (o:=d) (x:= .ext (cH k cs)) (cur:=vs'.toArray) (e:=e) (by simp) hh (by simp) (fun st hst=>by
   simp only[RO];refine ⟨w.heap.size,bK _ _,_,e,n,heap_alloc_new w _,⟨by rw[zS,hsz,J3],fun v hv=>h4 v (by simpa using hv)⟩,yM,by omega,cs.map (fun _=>none),by simp,?_,?_,?_⟩
   ·intro j b hj;rw[wH,kr] at hj;obtain ⟨_,_,hj⟩:=hj;cases hj
   ·intro i j b hi;rw[wH,kr] at hi;obtain ⟨_,_,hi⟩:=hi;cases hi
   ·intro j c bo hj hb;rw[wH,kr] at hb;obtain ⟨_,_,rfl⟩:=hb;obtain ⟨dd,d1,d2⟩:=c2 j c hj;obtain ⟨v,v1,v2⟩:=pV h2 d1;refine ⟨v,by rw[Po];exact v1,iR.vS (ρ:=ρ) (fun o' len e'=>?_) (iR.mono (fun g off hg=>World.cell?_alloc_lt w _ ⟨g,off,none⟩ hg.2.1) (fun g n hs=>ct (Below.heap_alloc w _ g hs.lt) hs) hst (fun b e'=>by cases e') (uy d2 v2))⟩;refine eT (fun e2=>?_);subst e2;subst e';have:=lW.2 (qf hj)
    rw[hm] at this;cases this)
  refine ⟨_,hnb.put (some d) ?_⟩;simp only[R,bK];exact .inr ⟨w.heap.size,n,_,rfl,⟨_,e,heap_alloc_new w _,by rw[zS,hsz,J3]⟩,by omega,yM,rfl,fun _=>by simp⟩
def qg (σ:St) (k:Nat) (x:Operand) (c:NC):Prop:= ∀ w0 p a w ρ,aU w0 p σ a w ρ->∃ b cc u,a.eval x = .slice (some b) 1 cc/\w.cell? b=some u/\u.oneCell'=true/\iR w (bO p σ.heap ρ w) k ρ u none c
theorem qg.row {k M:Nat} {x:Operand} {d:D} {c:NC} (hx:bg σ x = .cW M 1 0 1) (hM:az σ.heap M = .row 1 [[d]]) (hc:pL k d=some c):qg σ k x c:=by
 intro w0 p a w ρ h;have ha:=h.bg x;rw[hx] at ha;simp only[R] at ha;have hro:=h.objs M;rw[hM] at hro;rcases ha with ⟨_,_,e,_⟩|⟨g,cap,A,e1,⟨cu,e2,m1,m2⟩,m3,m4,m5,m6⟩
 ·cases e
 ·simp only[RO,e1] at hro;obtain ⟨cur,e',cap',r1,r2,r3,r4,r5⟩:=hro;simp only[RR,RC] at r5;obtain ⟨_,⟨⟨v,v1,v2,v3⟩,_⟩,_⟩:=r5;refine ⟨⟨g,0,none⟩,cap,v,?_,v1,v2,?_⟩
  ·have hA:=m6 (by omega);rw[MG] at hA;rw[m5,hA,Nat.sub_zero]
  ·exact uy hc (R.lV v3)
theorem qg.nest {k M:Nat} {x:Operand} {o n:Nat} (hx:bg σ x = .cW M 1 0 1) (hM:az σ.heap M = .ext (cH k [.nm o n])):qg σ k x (.nm o n):=by
 intro w0 p a w ρ h;have ha:=h.bg x;rw[hx] at ha;simp only[R] at ha;have hro:=h.objs M;rw[hM] at hro;rcases ha with ⟨_,_,e,_⟩|⟨g,cap,A,e1,⟨cu,e2,m1,m2⟩,m3,m4,m5,m6⟩
 ·cases e
 ·simp only[RO,e1] at hro;obtain ⟨g',hg,cur,e',cap',c1,c2,c3,c4,bs,hN⟩:=hro;simp only[fF] at hg;subst hg;obtain ⟨v,v1,v2,v3⟩:=hN.2.2.2 0 (.nm o n) (bs[0]'(by rw[hN.1];simp)) rfl (rJ _);refine ⟨⟨g,0,none⟩,cap,v,?_,by rw[cell_of_row w g 0 cur e' (0,0) c1];exact v1,c2.one v (fS (by rw[nZ];exact v1)),rfl,v3⟩;have hA:=m6 (by omega);rw[MG] at hA;rw[m5,hA,Nat.sub_zero]
theorem aU.pass {w0:World} {p:Pm} {a:Act} {w w':World} {ρ:Nm} (h:aU w0 p σ a w ρ) {o d:Nat} {X:Obj} {z:Nat} (hlo:az σ.heap o≠ .dead) (hh:hfree σ.heap d=true) (hne:o≠d) (hXd:X≠ .dead)
  (hz:ρ o=some (some z)\/w.heap.size<=z) (hzl:z<w'.heap.size)
  (hw:∀ b,b<w.heap.size->ρ o≠some (some b)->w'.heap[b]? = w.heap[b]?) (hs:∀ g n,Sh w g n->Sh w' g n) (hsz:w.heap.size<=w'.heap.size) (hos:w'.os=w.os) (Nf:w'.tape=w.tape) (hout:w'.output=w.output)
  (hx:∀ st:Nat->Prop,(∀ g,bO p σ.heap ρ w g->st g)->RO w' st ⟨fun y=>if y=d then some (some z) else ρ y,fun y=>if y=d then ρ.hid o else ρ.hid y⟩ d X):
  aU w0 p (({ σ.kill d with heap:=aG (aG (σ.kill d).heap o .dead) d X }:St).kill o) a w' ⟨fun y=>if y=d then some (some z) else ρ y,fun y=>if y=d then ρ.hid o else ρ.hid y⟩:=by
 obtain ⟨Q5,R8⟩:=ep.1 hh
 let ρ1:Nm:=⟨fun y=>if y=d then some (some z) else ρ y,fun y=>if y=d then fun _=>False else ρ.hid y⟩
 have hk:aU w0 p (σ.kill d) a w ρ1:=h.kill d (fun y e=>⟨by simp[ρ1,e],by simp[ρ1,e]⟩) (fun h1=>by omega);have Od:az (σ.kill d).heap o≠ .dead:=by rw[fI,aE hne,Obj.jP];exact hlo
 have N9:ec (σ.kill d).heap d=true:=by rw[St.kill,fY,kz];exact Q5
 have g1:az (aG (aG (σ.kill d).heap o .dead) d X) d=X:=aX (by rw[fY];exact N9);have g2:az (aG (aG (σ.kill d).heap o .dead) d X) o = .dead:=by rw[aM hne,aX (cC Od)]
 have s1:same ρ ρ1 o:=⟨by simp[ρ1,hne],by simp[ρ1,hne]⟩
 have kY:=hk.turn (ρ':=⟨fun y=>if y=d then some (some z) else ρ y,fun y=>if y=d then ρ.hid o else ρ.hid y⟩) (w':=w') (heap':=aG (aG (σ.kill d).heap o .dead) d X) (fun y=>y=o\/y=d) (fun y=>rfl)
  (fun y hy=>by simp only[vM] at hy;simp only[ρ1,hy.2,jc])
  (fun y hy=>by simp only[vM] at hy;rw[aM hy.2,aM hy.1])
  (fun y b hy hl hb=>by
   rcases hy with rfl|rfl
   ·exact absurd g2 hl
   ·rcases hb with hb|hb
    ·simp only[jg,fF] at hb;subst hb;rcases hz with hz|hz
     ·exact .inr ⟨o, .inl rfl,Od,s1.ow.2 (.inl hz)⟩
     ·exact .inl hz
    ·simp only[jg] at hb
     exact .inr ⟨o, .inl rfl,Od,s1.ow.2 (.inr hb)⟩)
  (fun y y' b hy hy' hl hl' hb hb'=>by
   rcases hy with rfl|rfl<;>rcases hy' with rfl|rfl
   ·rfl
   ·exact absurd g2 hl
   ·exact absurd g2 hl'
   ·rfl)
  (fun y b hy hl hb=>by
   rcases hy with rfl|rfl
   ·exact absurd g2 hl
   ·simp only[jg] at hb
    exact H6 (h.hlt o b hlo hb) hsz)
  (fun b hb hnot=>hw b hb (fun e=>hnot o (.inl rfl) Od (s1.ow.2 (.inl e)))) hs hsz hos Nf hout
  (fun y hy st h1 _=>by
   rcases hy with rfl|rfl
   ·rw[g2];simp[RO]
   ·rw[g1]
    exact hx st (fun b hb=>h1 b ⟨hb.1,hb.2.1,fun y' hy'=>by
     rw[fI] at hy';by_cases e:y'=y
     ·simp[e] at hy'
     ·rw[aE e,Obj.jP] at hy';have:same ρ ρ1 y':=⟨by simp[ρ1,e],by simp[ρ1,e]⟩
      rw[this.ow];exact hb.2.2 y' hy'⟩))
 exact kY.1.kill o (fun _ _=>same.refl) (fun _=>rfl)
theorem FI.snoc {w w2:World} {st Vv:Nat->Prop} {k g z:Nat} {ρ ρ2:Nat->Option (Option Nat)} {hd R8:Nat->Prop} {cs:List NC} {cur um:Array Value} {bs:List (Option Nat)} {c:NC} {u:Value} (h:FI w st k ρ hd g cs cur bs)
  (az:∀ (i:Nat) x,i<cs.length->cur[i]? = some x->um[i]? = some x) (hn:um[cs.length]? = some u) (Dl:∀ (i:Nat) c bi x,cs[i]? = some c->bs[i]? = some bi->iR w st k ρ x bi c->iR w2 Vv k ρ2 x bi c)
  (hc:iR w2 Vv k ρ2 u none c) (hb:∀ (i b:Nat),bs[i]? = some (some b)->R8 b/\b≠z):FI w2 Vv k ρ2 R8 z (cs++[c]) um (bs++[none]):=by
 obtain ⟨n1,n2,n3,n4⟩:=h
 have old:∀ (i b:Nat),(bs++[none])[i]? = some (some b)->bs[i]? = some (some b):=by
  intro i b hi;by_cases e:i<bs.length
  ·rwa [Ck e] at hi
  ·rw[EI (by omega)] at hi;by_cases e2:i-bs.length=0
   ·rw[e2] at hi;simp at hi
   ·rw[GV (by simp;omega)] at hi;cases hi
 refine ⟨by simp[n1],fun i b hi=>hb i b (old i b hi),fun i j b hi hj=>n3 i j b (old i b hi) (old j b hj),fun i c' bi hi kQ=>?_⟩;by_cases e:i<cs.length
 ·rw[Ck e] at hi;rw[Ck (by omega)] at kQ;obtain ⟨x,x1,x2⟩:=n4 i c' bi hi kQ;exact ⟨x,az i x e x1,Dl i c' bi x hi kQ x2⟩
 ·rw[EI (by omega)] at hi;rw[EI (by omega),n1] at kQ;by_cases e2:i-cs.length=0
  ·have:i=cs.length:=by omega
   subst this;rw[e2] at hi kQ;simp only[dJ,fF] at hi kQ;subst hi kQ;exact ⟨u,hn,hc⟩
  ·rw[GV (by simp;omega)] at hi;cases hi
theorem cP.wB {o:Oper} {s x:Operand} {t:TypeId} {d k L n:Nat} {ti ei:TI} {e:TypeId} {cs:List NC} {c:NC} (ho:o.op = .call { callee:= .builtin .append,args:= #[s,x],argTypes:= #[t,t] })
  (nJ:o.dst=some d) (ht:aA P t=some ti) (hk:ti.kind.elem? = some e) (he:aA P e=some ei) (h1:ei.size=1) (hzs:ei.zero.cells.size=ei.size) (qW:ei.zero.cells.toList.all (·.oneCell')=true) (hb0:0<ei.bytes) (hh:hfree σ.heap d=true)
  (hs:bg σ s = .cW L 1 0 n) (hL:az σ.heap L = .ext (cH k cs)) (hn:n=cs.length) (hne:L≠d) (hx:qg σ k x c) (hm:iQ d (jz (cs++[c]))=false) (hb:(n+1)*ei.bytes<=140737488355328):
  cP P σ o (St.put (({ σ.kill d with heap:=aG (aG (σ.kill d).heap L .dead) d (.ext (cH k (cs++[c]))) }:St).kill L) (some d) (.cW d 1 0 (n+1))):=by
 rintro w0 p a w ⟨ρ,h⟩;obtain ⟨i,dt,hi,hu,z1,z2,z3,z4⟩:=cr ht;obtain ⟨ie,de,Fj,R4,y1,y2,y3,y4⟩:=cr he
 have QE:P.underlying t=some (.slice e):=by
  cases hkk:ti.kind with
  | slice e'=>
    rw[hkk] at hk z4;simp only[TK.elem?,fF] at hk;subst hk;rw[iW z4] at hu;exact hu
  | _=>rw[hkk] at hk;simp[TK.elem?] at hk
 obtain ⟨bx,cc,u,x1,x2,x3,x4⟩:=hx w0 p a w ρ h
 have h63:n+1<=maxLen:=by
  have:(n+1)*1<=(n+1)*ei.bytes:=Nat.mul_le_mul_left _ hb0;unfold maxLen;omega
 have hro:=h.objs L;rw[hL] at hro;simp only[RO] at hro;obtain ⟨g,hg,cur,e',cap,c1,c2,c3,c4,bs,hN⟩:=hro;have hlo:az σ.heap L≠ .dead:=by rw[hL];simp
 have has:=h.bg s;rw[hs] at has;simp only[R,hg] at has;rcases has with ⟨q,_⟩|⟨g',nr,A,q1,⟨Zr,e2,m1,m2⟩,m3,m4,m5,m6⟩
 ·cases q
 simp only[fF] at q1;subst q1;rw[c1] at m1;simp only[fF,Obj.cells.injEq] at m1;obtain ⟨rfl,_⟩:=m1;have hcap:nr=cap:=by have:=c2.size;omega
 subst hcap;simp only[Nat.sub_zero,kO,MG] at m3 m5 m6;have hcs:cur.size=nr:=by rw[c2.size,J3]
 have Ws:(cur.toList.take n).length=n*ie.size:=by rw[y1,h1,cw,Array.length_toList];omega
 have kg:∀ v w',(Builtin.append_ #[t,t] o.type #[.slice A n nr, .slice (some bx) 1 cc]).run P w = .ok v w'->(execOp a.eval o).run P w = .ok (.value v) w':=by
  intro v w' h2;simp[execOp,ho,resolve,invoke,builtin,m5,x1,h2]
 have hall:=gR (P:=P) (w:=w) t o.type e ie ei.zero QE Fj y3 A n nr (cur.toList.take n) Ws m3 (by
   by_cases hn0:n=0
   ·exact .inl hn0
   ·refine .inr ⟨⟨g,0,none⟩,m6 (by omega),fun j v hj=>?_⟩;rw[JG] at hj
    split at hj
    ·rw[Addr.add_lit,kO,cell_of_row w g j cur e' (0,0) c1, <- nZ];exact hj
    ·cases hj) (some bx) 1 cc [u] (by rw[y1,h1];rfl) (.inr ⟨bx,rfl,fun j v hj=>by
   cases j with
   | zero=>simp only[dJ,fF] at hj;subst hj;rw[show bx.add 0=bx by cases bx;rfl];exact x2
   | succ j=>simp at hj⟩) (fun v hv=>by rw[rG.1 hv];exact x3)
  (fun _ hle=>⟨g,0,cur,e',m6 (by omega),c1,by rw[y1,h1];simp only[List.length_singleton];omega⟩) h63 (by rw[y2];exact hb) (fun v hv=>yO.1 qW v hv) (fun v hv=>c2.one v (zR hv))
 have bM:∀ {z:Nat} {st:Nat->Prop} {w2:World} {xx:Value} {bi:Option Nat} {c':NC},c'∈cs++[c]->iR w2 st k ρ xx bi c'->iR w2 st k (fun y=>if y=d then some (some z) else ρ y) xx bi c':=by
  intro z st w2 xx bi c' hmem hc;refine iR.vS (fun o' len e2=>?_) hc
  have TB:o'≠d:=by
   rintro rfl;subst e2;obtain ⟨j,hj⟩:=Vr hmem;have:=lW.2 (qf hj);rw[hm] at this;cases this
  simp[TB]
 rcases hall with ⟨q,_⟩|⟨_,hle,g',q,cur',e3,r1,r2,r3,r4⟩|⟨_,hlt,zm,oA,r1,r2,r3,r4,r5⟩
 ·cases q
 · -- in place
   rw[m6 (by omega)] at r1;simp only[fF,Addr.mk.injEq] at r1;obtain ⟨rfl,rfl,_⟩:=r1;rw[c1] at r2;simp only[fF,Obj.cells.injEq] at r2;obtain ⟨rfl,rfl,_⟩:=r2;rw[y1,h1] at r4;simp only[kO,J3,List.length_singleton] at r4
   have hlen:(cur.toList.take n++[u]++cur.toList.drop (n+1)).toArray.size=cur.size:=by
    simp only[zS,bW,cw,bQ,Array.length_toList,List.length_singleton];omega
   have o9:∀ b,b≠g->(w.setRow g (cur.toList.take n++[u]++cur.toList.drop (n+1)).toArray).heap[b]? = w.heap[b]? :=fun b hb=>setRow_other w g b _ hb
   have hsh:∀ b m,Sh w b m->Sh (w.setRow g (cur.toList.take n++[u]++cur.toList.drop (n+1)).toArray) b m:=by
    intro b m Ll;by_cases e4:b=g
    ·subst e4;obtain ⟨cu,e5,s1,s2⟩:=Ll;rw[c1] at s1;simp only[fF,Obj.cells.injEq] at s1;exact ⟨_,_,setRow_heap w b cur _ _ (0,0) c1,by rw[hlen,s1.1,s2]⟩
    ·exact ct (o9 b e4) Ll
   refine ⟨_,_, .inl (kg _ _ r4),?_⟩
   have hp:=h.pass (o:=L) (d:=d) (X:= .ext (cH k (cs++[c]))) (z:=g) (w':=w.setRow g (cur.toList.take n++[u]++cur.toList.drop (n+1)).toArray) hlo hh hne (by simp) (.inl hg) (by rw[setRow_size];exact (zQ.1 c1).1)
    (fun b _ hb=>o9 b (fun e4=>hb (by rw[hg,e4]))) hsh (by rw[setRow_size];exact iU _) rfl rfl rfl (fun st hst=>by
     have lF:∀ b q,bO p σ.heap ρ w b->(w.setRow g (cur.toList.take n++[u]++cur.toList.drop (n+1)).toArray).cell? ⟨b,q,none⟩=w.cell? ⟨b,q,none⟩:=by
      intro b q hs';refine World.cell?_of_block (w:=w) (a:=⟨b,q,none⟩) (o9 b ?_);rintro rfl;exact hs'.2.2 L hlo (.inl hg)
     simp only[RO];refine ⟨g,by simp,_,_,nr,setRow_heap w g cur _ _ (0,0) c1,⟨by rw[hlen];exact c2.size,fun v hv=>?_⟩,c3,by rw[bW,List.length_singleton];omega,bs++[none],?_⟩
     ·simp only[lU,rG] at hv;rcases hv with (hv|hv)|hv
      ·exact c2.one v (zR hv)
      ·rw[hv];exact x3
      ·exact c2.one v (E7 hv)
     ·have hlt:(cur.toList.take n).length=n:=by rw[cw,Array.length_toList];omega
      refine hN.snoc (u:=u) (fun i' xx hi' Wt=>?_) ?_ (fun i' c' bi xx Oc kQ Np=>bM (lU.2 (.inl (fS Oc))) (iR.mono lF hsh hst (fun b hb'=>o9 b (hN.2.1 i' b (by rw[kQ,hb'])).2) Np)) (bM (by simp) (iR.mono lF hsh hst (fun b hb'=>by cases hb') x4)) (fun i' b hib=>⟨by simpa using (hN.2.1 i' b hib).1,(hN.2.1 i' b hib).2⟩)
      ·rw[Po,lS,Ck (by omega),EJ (by omega),nZ];exact Wt
      ·rw[Po,lS,EI (by omega),hlt, <- hn,JC];rfl)
   rw[nJ];refine ⟨_,hp.put (some d) ?_⟩;simp only[R];exact .inr ⟨g,nr,A,by simp,hsh _ _ ⟨cur,_,c1,by rw[J3];exact hcs⟩,by omega,c3,rfl,fun MN=>by rw[MG];exact m6 MN⟩
 · -- grown
   rw[y1,h1] at r3 r4;simp only[J3] at r4;have PX:=r3 (by rw[hzs,h1]);refine ⟨_,_, .inl (kg _ _ r5),?_⟩;have hsh:∀ b m,Sh w b m->Sh (w.drew.alloc (.cells oA e)) b m:=fun b m Ll=>ct (Below.heap_alloc w.drew _ b Ll.lt) Ll
   have wR:∀ i',i'<n+1->oA[i']? = (cur.toList.take n++[u])[i']? :=by
    intro i' hi';rw[<- r4,EJ hi',nZ]
   have hp:=h.drew.pass (o:=L) (d:=d) (X:= .ext (cH k (cs++[c]))) (z:=w.heap.size) (w':=w.drew.alloc (.cells oA e)) hlo hh hne (by simp) (.inr (iU _)) (zQ.1 (heap_alloc_new w.drew (.cells oA e))).1
    (fun b hb _=>Below.heap_alloc w.drew _ b hb) hsh (by simp[World.alloc]) rfl rfl rfl (fun st hst=>by
     have za:∀ b,bO p σ.heap ρ w b->st b:=fun b hb=>hst b hb;have lF:∀ b q,bO p σ.heap ρ w b->(w.drew.alloc (.cells oA e)).cell? ⟨b,q,none⟩=w.cell? ⟨b,q,none⟩:=fun b q hb=>World.cell?_alloc_lt w.drew _ ⟨b,q,none⟩ hb.2.1;simp only[RO];refine ⟨w.heap.size,by simp,oA,e,zm,heap_alloc_new w.drew _,PX,r2,by rw[bW,List.length_singleton];omega,bs++[none],?_⟩;have hlt:(cur.toList.take n).length=n:=by rw[cw,Array.length_toList];omega
     have rY:∀ i' b,bs[i']? = some (some b)->b<w.heap.size:=fun i' b hib=>h.hlt L b hlo (hN.2.1 i' b hib).1;refine hN.snoc (u:=u) (fun i' xx hi' Wt=>?_) ?_ (fun i' c' bi xx Oc kQ Np=>bM (lU.2 (.inl (fS Oc))) (iR.mono lF hsh za (fun b hb'=>Below.heap_alloc w.drew _ b (rY i' b (by rw[kQ,hb']))) Np)) (bM (by simp) (iR.mono lF hsh za (fun b hb'=>by cases hb') x4)) (fun i' b hib=>⟨by simpa using (hN.2.1 i' b hib).1,Nat.ne_of_lt (rY i' b hib)⟩)
     ·rw[wR i' (by omega),Ck (by omega),EJ (by omega),nZ];exact Wt
     ·rw[<- hn,wR n (by omega),EI (by omega),hlt,JC];rfl)
   rw[nJ];refine ⟨_,hp.put (some d) ?_⟩;simp only[R];exact .inr ⟨w.heap.size,zm,_,by simp,⟨oA,e,heap_alloc_new w.drew _,PX.size⟩,by omega,r2,rfl,fun _=>by simp⟩
theorem cP.Dp {o:Oper} {s x:Operand} {t:TypeId} {d k:Nat} {ti ei:TI} {e:TypeId} {c:NC} (ho:o.op = .call { callee:= .builtin .append,args:= #[s,x],argTypes:= #[t,t] })
  (nJ:o.dst=some d) (ht:aA P t=some ti) (hk:ti.kind.elem? = some e) (he:aA P e=some ei) (h1:ei.size=1) (hzs:ei.zero.cells.size=ei.size) (qW:ei.zero.cells.toList.all (·.oneCell')=true) (hb0:0<ei.bytes) (hh:hfree σ.heap d=true)
  (hs:bg σ s = .sc (.slice none 0 0)) (hx:qg σ k x c) (hm:iQ d (jz [c])=false) (hb:ei.bytes<=140737488355328):
  cP P σ o (St.put { σ.bF [d] with heap:=aG (σ.bF [d]).heap d (.ext (cH k [c])) } (some d) (.cW d 1 0 1)):=by
 rintro w0 p a w ⟨ρ,h⟩;obtain ⟨i,dt,hi,hu,z1,z2,z3,z4⟩:=cr ht;obtain ⟨ie,de,Fj,R4,y1,y2,y3,y4⟩:=cr he
 have QE:P.underlying t=some (.slice e):=by
  cases hkk:ti.kind with
  | slice e'=>
    rw[hkk] at hk z4;simp only[TK.elem?,fF] at hk;subst hk;rw[iW z4] at hu;exact hu
  | _=>rw[hkk] at hk;simp[TK.elem?] at hk
 obtain ⟨bx,cc,u,x1,x2,x3,x4⟩:=hx w0 p a w ρ h;have has:=h.bg s;rw[hs] at has;simp only[R] at has
 have kg:∀ v w',(Builtin.append_ #[t,t] o.type #[.slice none 0 0, .slice (some bx) 1 cc]).run P w = .ok v w'->(execOp a.eval o).run P w = .ok (.value v) w':=by
  intro v w' h2;simp[execOp,ho,resolve,invoke,builtin,has,x1,h2]
 have hall:=gR (P:=P) (w:=w) t o.type e ie ei.zero QE Fj y3 none 0 0 [] (by simp) (iU _) (.inl rfl) (some bx) 1 cc [u] (by rw[y1,h1];rfl) (.inr ⟨bx,rfl,fun j v hj=>by
   cases j with
   | zero=>simp only[dJ,fF] at hj;subst hj;rw[show bx.add 0=bx by cases bx;rfl];exact x2
   | succ j=>simp at hj⟩) (fun v hv=>by rw[rG.1 hv];exact x3)
  (fun _ hle=>by omega) (by unfold maxLen;omega) (by rw[y2];omega) (fun v hv=>yO.1 qW v hv) (by simp)
 rcases hall with ⟨q,_⟩|⟨_,hle,_⟩|⟨_,hlt,zm,oA,r1,r2,r3,r4,r5⟩
 ·cases q
 ·omega
 ·rw[y1,h1] at r3 r4;simp only[J3,kO,List.nil_append] at r4 r1;have PX:=r3 (by rw[hzs,h1]);refine ⟨_,_, .inl (kg _ _ r5),?_⟩;have hsh:∀ b m,Sh w b m->Sh (w.drew.alloc (.cells oA e)) b m:=fun b m Ll=>ct (Below.heap_alloc w.drew _ b Ll.lt) Ll
  have hnb:=h.drew.jS (ids:=[d]) (o:=d) (x:= .ext (cH k [c])) (cur:=oA) (e:=e) (by simp) hh (by simp) (fun st hst=>by
   simp only[RO];refine ⟨w.heap.size,bK _ _,oA,e,zm,heap_alloc_new w.drew _,PX,r2,r1,[none],rfl,?_,?_,?_⟩
   ·intro j b hj;cases j<;>simp at hj
   ·intro i' j b hi';cases i'<;>simp at hi'
   ·intro j c' bo hj MR;cases j with
    | succ j=>simp at hj
    | zero=>
      simp only[dJ,fF] at hj MR;subst hj MR;refine ⟨u,?_,iR.vS (ρ:=ρ) (fun o' len e'=>?_) (iR.mono (fun g off hg=>World.cell?_alloc_lt w.drew _ ⟨g,off,none⟩ hg.2.1) hsh hst (fun b e'=>by cases e') x4)⟩
      ·have:oA.toList[0]? = some u:=by
        have h5:=congrArg (fun l:List Value=>l[0]?) r4;simp only[dJ] at h5
        rwa [EJ (by omega)] at h5
       rw[<- nZ];exact this
      ·refine eT (fun e2=>?_);subst e2;subst e'
       simp[jz,iQ] at hm)
  rw[nJ];refine ⟨_,hnb.put (some d) ?_⟩;simp only[R,bK];exact .inr ⟨w.heap.size,zm,_,rfl,⟨oA,e,heap_alloc_new w.drew _,PX.size⟩,by omega,r2,rfl,fun _=>by simp⟩
end
section
variable {P:Program} {ds:List (Option Nat)} {Q:Exit->St->Prop} {σ σ':St} {l:List Oper} {dst:Option Nat} {ty:TypeId} {pos:String} {af:Array Edge} {g:Option (Nat×Bool)}
theorem ah.PW {t:TypeId} {x:Operand} {ti:TI} {L j k d n:Nat} {cs:List NC} (hg:bq ds g σ=some true) (ht:aA P t=some ti) (hx:bg σ x = .jN L 1 j 0) (hL:az σ.heap L = .ext (cH k cs)) (hj:cs[j]? = some (.nm d n)) (h1:ti.size=1) (EL:ti.kind.isAgg=false)
  (he:σ.put dst (.cW d k 0 n)=σ') (hn:ah P ds Q l σ'):ah P ds Q (⟨dst, .load t x,ty,pos,af,g⟩::l) σ:=
 fun all ha=>dG.oZ (by rw[bV ha];exact hg) (by subst he;exact (Sound.PW t x ti ht hx hL hj h1 EL).steps) (hn all ha)
theorem ah.Lj {t:TypeId} {ax vx:Operand} {ti:TI} {L j k:Nat} {cs:List NC} {c:NC} (hg:bq ds g σ=some true) (ht:aA P t=some ti) (h1:ti.size=1) (Wr:bg σ ax = .jN L 1 j 0) (hL:az σ.heap L = .ext (cH k cs)) (hc:pL k (bg σ vx)=some c) (hj:j<cs.length)
  (he:St.put { σ with heap:=aG σ.heap L (.ext (cH k (cs.set j c))) } dst (.sc undef)=σ') (hn:ah P ds Q l σ'):ah P ds Q (⟨dst, .store t ax vx,ty,pos,af,g⟩::l) σ:=
 fun all ha=>dG.oZ (by rw[bV ha];exact hg) (by subst he;exact cP.Lj rfl ht h1 Wr hL hj hc) (hn all ha)
theorem ah.Lk {t:TypeId} {n d k:Nat} {parts:Array (Nat×Operand)} {ti ei:TI} {e:TypeId} {cells:List D} {cs:List NC} (hg:bq ds g σ=some true) (ht:aA P t=some ti) (hk:ti.kind.elem? = some e) (he:aA P e=some ei) (h1:ei.size=1) (hn:n<=16777216)
  (hf:nK (fun i=>some (i*ei.size,ei.size)) (jC ei.zero (n*ei.size)) (parts.toList.map fun x=>(x.1,bg σ x.2))=some cells) (hlen:cells.length=n) (hcs:sZ k cells=some cs) (hh:hfree σ.heap d=true) (hm:iQ d (jz cs)=false)
  (hx:St.put { σ.bF [d] with heap:=aG (σ.bF [d]).heap d (.ext (cH k cs)) } (some d) (.cW d 1 0 n)=σ') (uz:ah P ds Q l σ'):ah P ds Q (⟨some d, .buildSlice t n parts,ty,pos,af,g⟩::l) σ:=
 fun all ha=>dG.oZ (by rw[bV ha];exact hg) (by subst hx;exact cP.Lk rfl rfl hh ht hk he h1 hn hf hlen hcs hm) (uz all ha)
theorem ah.wB {s x:Operand} {t:TypeId} {d k L n:Nat} {ti ei:TI} {e:TypeId} {cs:List NC} {c:NC} (hg:bq ds g σ=some true) (ht:aA P t=some ti) (hk:ti.kind.elem? = some e) (he:aA P e=some ei) (h1:ei.size=1) (hzs:ei.zero.cells.size=ei.size) (qW:ei.zero.cells.toList.all (·.oneCell')=true) (hb0:0<ei.bytes)
  (hs:bg σ s = .cW L 1 0 n) (hL:az σ.heap L = .ext (cH k cs)) (hx:qg σ k x c) (hh:hfree σ.heap d=true) (hne:L≠d) (hm:iQ d (jz (cs++[c]))=false) (hn:n=cs.length) (hb:(n+1)*ei.bytes<=140737488355328)
  (hst:St.put (({ σ.kill d with heap:=aG (aG (σ.kill d).heap L .dead) d (.ext (cH k (cs++[c]))) }:St).kill L) (some d) (.cW d 1 0 (n+1))=σ') (uz:ah P ds Q l σ'):ah P ds Q (⟨some d,.call { callee:= .builtin .append,args:= #[s,x],argTypes:= #[t,t] },ty,pos,af,g⟩::l) σ:=
 fun all ha=>dG.oZ (by rw[bV ha];exact hg) (by subst hst;exact cP.wB rfl rfl ht hk he h1 hzs qW hb0 hh hs hL hn hne hx hm hb) (uz all ha)
theorem ah.Dp {s x:Operand} {t:TypeId} {d k:Nat} {ti ei:TI} {e:TypeId} {c:NC} (hg:bq ds g σ=some true) (ht:aA P t=some ti) (hk:ti.kind.elem? = some e) (he:aA P e=some ei) (h1:ei.size=1) (hzs:ei.zero.cells.size=ei.size) (qW:ei.zero.cells.toList.all (·.oneCell')=true) (hb0:0<ei.bytes)
  (hs:bg σ s = .sc (.slice none 0 0)) (hx:qg σ k x c) (hh:hfree σ.heap d=true) (hm:iQ d (jz [c])=false) (hb:ei.bytes<=140737488355328)
  (hst:St.put { σ.bF [d] with heap:=aG (σ.bF [d]).heap d (.ext (cH k [c])) } (some d) (.cW d 1 0 1)=σ') (uz:ah P ds Q l σ'):ah P ds Q (⟨some d, .call { callee:= .builtin .append,args:= #[s,x],argTypes:= #[t,t] },ty,pos,af,g⟩::l) σ:=
 fun all ha=>dG.oZ (by rw[bV ha];exact hg) (by subst hst;exact cP.Dp rfl rfl ht hk he h1 hzs qW hb0 hh hs hx hm hb) (uz all ha)
theorem ay.takeN {c:Code} (o j d k:Nat) {cs:List NC} {rows:List (List D)} (ho:az σ.heap o = .ext (cH k cs)) (hj:cs[j]? = some (.own rows)) (hd:hfree σ.heap d=true) (hne:o≠d) (hm:iQ d (jz cs)=false)
  (he:({ σ.kill d with heap:=aG (aG (σ.kill d).heap o (.ext (cH k (cs.set j (.nm d rows.length))))) d (.row k rows) }:St)=σ') (h:ay P c Q σ'):ay P c Q σ:=ay.imp (he▸cZ.takeN σ o j d k ho hj hd hne hm) h
theorem ay.Lg {c:Code} (o j d k:Nat) {n:Nat} {cs:List NC} {rows:List (List D)} (ho:az σ.heap o = .ext (cH k cs)) (hj:cs[j]? = some (.nm d n)) (hd:az σ.heap d = .row k rows) (hn:n=rows.length) (hk:0<k) (zl:d<1000) (hne:o≠d) (hm:iQ d (jz (cs.set j (.own rows)))=false)
  (he:(({ σ with heap:=aG (aG σ.heap d .dead) o (.ext (cH k (cs.set j (.own rows)))) }:St).kill d)=σ') (h:ay P c Q σ'):ay P c Q σ:=ay.imp (he▸cZ.Lg σ o j d k n ho hj hd hn hk zl hne hm) h
theorem cZ.Lm {σ2:St} (o j d k:Nat) {n:Nat} {cs:List NC} {rows:List (List D)} (ho:az σ.heap o = .ext (cH k cs)) (hj:cs[j]? = some (.nm d n)) (hd:az σ.heap d = .row k rows) (hn:n=rows.length) (hk:0<k) (zl:d<1000) (hne:o≠d) (hm:iQ d (jz (cs.set j (.own rows)))=false)
  (he:(({ σ with heap:=aG (aG σ.heap d .dead) o (.ext (cH k (cs.set j (.own rows)))) }:St).kill d)=σ') (h:cZ σ' σ2):cZ σ σ2:=cZ.trans (he▸cZ.Lg σ o j d k n ho hj hd hn hk zl hne hm) h
theorem ay.eE {c:Code} (o k:Nat) {ls:List (List (List D))} (ho:az σ.heap o = .ext (cH k (ls.map .own))) (he:({ σ with heap:=aG σ.heap o (.row 1 (ls.map fun rows=>[.sl k rows])) }:St)=σ') (h:ay P c Q σ'):ay P c Q σ:=ay.imp (he▸cZ.eE σ o k ho) h
end
attribute [go_sem] Iz pL sZ nN
def s0 (l:Nat) (N:St->Prop) (Q:Exit->St->Prop):Exit->St->Prop
 | .goto l',σ=>l'=l/\N σ
 | e,σ=>Q e σ
section
variable {P:Program} {Q:Exit->St->Prop} {σ:St} {N:St->Prop} {l id:Nat}
theorem Oe:s0 l N Q .normal σ=Q .normal σ:=rfl
theorem Og:s0 l N Q .ret σ=Q .ret σ:=rfl
theorem Oh:s0 l N Q (.exit id) σ=Q (.exit id) σ:=rfl
theorem Oi:s0 l N Q (.goto l) σ=N σ:=by simp[s0]
@[congr] theorem PY {e:Exit}:s0 l N Q e σ=s0 l N Q e σ:=rfl
theorem ay.jumps {τ:Type} {c rest:Code} (l:Nat) (f:τ->St) (I:τ->Prop) (μ:τ->Nat) (hf:findLabel c l=some rest)
  (first:ay P c (s0 l (fun σ'=> ∃ t,I t/\cZ σ' (f t)) Q) σ)
  (pass:∀ t,I t->ay P rest (s0 l (fun σ'=> ∃ t',I t'/\μ t'<μ t/\cZ σ' (f t')) Q) (f t)):ay P (.scope c) Q σ:=by
 intro w0 p a w hr b k cs;have hg:gotoIn l (.inScope c::k)=some (.code rest :: .inScope c::k):=by simp[gotoIn,hf]
 have key:∀ n t a w,μ t=n->I t->Rel w0 p (f t) a w->∃ e a' w',(∃ σ',Q e σ'/\Rel w0 p σ' a' w')/\Arrives P (lone (b.at a (.code rest :: .inScope c::k)) cs w) b k cs e a' w':=by
  intro n
  induction n using Nat.strongRecOn with
  | _ n ih=>
    intro t a w hn hI iY;obtain ⟨e,a₁,w₁,⟨σ1,hq,vP⟩,uA⟩:=pass t hI w0 p a w iY b (.inScope c::k) cs;cases e with
    | normal=>exact ⟨.normal,a₁,w₁,⟨σ1,hq,vP⟩,Steps.trans uA (.one step_inScope)⟩
    | exit id=>exact ⟨.exit id,a₁,w₁,⟨σ1,hq,vP⟩,fun k' hk=>uA k' (by simp[exitTo,hk])⟩
    | goto l'=>
      obtain ⟨rfl,t',Wu,hlt,himp⟩:=hq;obtain ⟨e₂,a₂,w₂,Ln,BM⟩:=ih _ (by omega) t' a₁ w₁ rfl Wu (himp _ _ _ _ vP);exact ⟨e₂,a₂,w₂,Ln, .of_steps (uA _ hg) BM⟩
    | ret=>exact ⟨_,a₁,w₁,⟨σ1,hq,vP⟩,uA⟩
    | panic ch=>exact ⟨_,a₁,w₁,⟨σ1,hq,vP⟩,uA⟩
    | outgrown=>exact ⟨_,a₁,w₁,⟨σ1,hq,vP⟩,uA⟩
 obtain ⟨e,a₁,w₁,⟨σ1,hq,vP⟩,uA⟩:=first w0 p a w hr b (.inScope c::k) cs
 cases e with
 | normal=>exact ⟨.normal,a₁,w₁,⟨σ1,hq,vP⟩, .head step_scope (Steps.trans uA (.one step_inScope))⟩
 | exit id=>exact ⟨.exit id,a₁,w₁,⟨σ1,hq,vP⟩,fun k' hk=> .head step_scope (uA k' (by simp[exitTo,hk]))⟩
 | goto l'=>
   obtain ⟨rfl,t',Wu,himp⟩:=hq;obtain ⟨e₂,a₂,w₂,Ln,BM⟩:=key _ t' a₁ w₁ rfl Wu (himp _ _ _ _ vP);exact ⟨e₂,a₂,w₂,Ln, .of_steps (.head step_scope (uA _ hg)) BM⟩
 | ret=>exact ⟨_,a₁,w₁,⟨σ1,hq,vP⟩, .of_steps (.one step_scope) uA⟩
 | panic ch=>exact ⟨_,a₁,w₁,⟨σ1,hq,vP⟩, .of_steps (.one step_scope) uA⟩
 | outgrown=>exact ⟨_,a₁,w₁,⟨σ1,hq,vP⟩, .of_steps (.one step_scope) uA⟩
end
attribute [go_sem] Oe Og Oh Oi
end Go.fe
