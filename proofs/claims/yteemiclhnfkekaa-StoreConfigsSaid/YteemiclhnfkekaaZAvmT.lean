/- The abstract machine, parts ZL to ZP. -/
import Derived.Test.YteemiclhnfkekaaZAvmS
import Derived.ScopeJumps
/- The abstract machine, part ZL: what is handed back may be named by a box that was handed in. -/
namespace Go.Avm
set_option linter.unusedVariables false
set_option linter.unusedSimpArgs false
open Go.RowKit
section
variable {P:Program} {ds:List (Option Nat)} {Q:Exit→St→Prop} {σ σ':St} {l:List Oper} {op op2:Op} {ty ty2 ty':TypeId} {pos pos2 pos':String} {af af2 af':Array Edge} {i ta t1 t2 t3:Nat} {b b':Bool} {d:D}
end
end Go.Avm
/- The abstract machine, part ZM: straight code told as one proposition that simplification works out. -/
namespace Go.Avm
set_option linter.unusedVariables false
set_option linter.unusedSimpArgs false
open Go.RowKit
/-- An operation that is wanted; those of the slots st are left to other rules. -/
def bodyC (P:Program) (st:List Nat) (dst:Option Nat) (op:Op) (σ:St):Option St:=if isEff op then aeff P σ ⟨dst,op,0, "", #[],none⟩ else (aval P σ op).map (σ.put dst)
def stopB (st:List Nat):Option Nat→Bool
 | none=>false
 | some d=>memB d st
/-- The rest of a list of operations, as a proposition. -/
def LV (P:Program) (st:List Nat) (ds:List (Option Nat)) (Q:Exit→St→Prop):List Oper→St→Prop
 | [],σ=>Q .normal σ
 | o::l,σ=>if stopB st o.dst then TriD P ds Q (o::l) σ else match aguardC ds o.guard σ with
   | some true=>(match bodyC P st o.dst o.op σ with
     | some σ'=>LV P st ds Q l σ'
     | none=>TriD P ds Q (o::l) σ)
   | some false=>LV P st ds Q l (σ.put o.dst (.sc undef))
   | none=>TriD P ds Q (o::l) σ
def oV (e:Option St) (P:Program) (st:List Nat) (ds:List (Option Nat)) (Q:Exit→St→Prop) (o:Oper) (l:List Oper) (σ:St):Prop:=
 match e with
 | some σ'=>LV P st ds Q l σ'
 | none=>TriD P ds Q (o::l) σ
def gV (e:Option Bool) (P:Program) (st:List Nat) (ds:List (Option Nat)) (Q:Exit→St→Prop) (o:Oper) (l:List Oper) (σ:St):Prop:=
 match e with
 | some true=>oV (bodyC P st o.dst o.op σ) P st ds Q o l σ
 | some false=>LV P st ds Q l (σ.put o.dst (.sc undef))
 | none=>TriD P ds Q (o::l) σ
def sV (e:Bool) (P:Program) (st:List Nat) (ds:List (Option Nat)) (Q:Exit→St→Prop) (o:Oper) (l:List Oper) (σ:St):Prop:=
 if e then TriD P ds Q (o::l) σ else gV (aguardC ds o.guard σ) P st ds Q o l σ
section
variable {P:Program} {st:List Nat} {ds:List (Option Nat)} {Q:Exit→St→Prop} {o:Oper} {l:List Oper} {σ σ':St} {dst:Option Nat} {op:Op} {ty:TypeId} {pos:String} {af:Array Edge} {g:Option (Nat×Bool)}
theorem LV_nil:LV P st ds Q [] σ=Q .normal σ:=rfl
theorem LV_cons:LV P st ds Q (o::l) σ=sV (stopB st o.dst) P st ds Q o l σ:=by
 rw [LV,sV]
 cases stopB st o.dst with
 | true=>rfl
 | false=>
   simp only [Bool.false_eq_true,if_false,gV]
   cases aguardC ds o.guard σ with
   | none=>rfl
   | some b=>cases b<;>rfl
theorem sV_t:sV true P st ds Q o l σ=TriD P ds Q (o::l) σ:=rfl
theorem sV_f:sV false P st ds Q ⟨dst,op,ty,pos,af,g⟩ l σ=gV (aguardC ds g σ) P st ds Q ⟨dst,op,ty,pos,af,g⟩ l σ:=rfl
theorem oV_some:oV (some σ') P st ds Q o l σ=LV P st ds Q l σ':=rfl
theorem oV_none:oV none P st ds Q o l σ=TriD P ds Q (o::l) σ:=rfl
theorem gV_t:gV (some true) P st ds Q ⟨dst,op,ty,pos,af,g⟩ l σ=oV (bodyC P st dst op σ) P st ds Q ⟨dst,op,ty,pos,af,g⟩ l σ:=rfl
theorem gV_f:gV (some false) P st ds Q ⟨dst,op,ty,pos,af,g⟩ l σ=oV (some (σ.put dst (.sc undef))) P st ds Q ⟨dst,op,ty,pos,af,g⟩ l σ:=rfl
theorem gV_none:gV none P st ds Q o l σ=TriD P ds Q (o::l) σ:=rfl
theorem bodyC_eq:bodyC P st dst op σ=if isEff op then aeff P σ ⟨dst,op,0, "", #[],none⟩ else (aval P σ op).map (σ.put dst):=rfl
theorem LVs: ∀ {l:List Oper} {σ:St},LV P st ds Q l σ→TriD P ds Q l σ
 | [],σ,h=>TriD.nil h
 | o::l,σ,h=>by
   obtain ⟨dst,op,ty,pos,af,g⟩:=o
   rw [LV] at h
   simp only at h
   split at h
   ·exact h
   ·split at h
    ·rename_i hg
     split at h
     ·rename_i σ' hb
      exact TriD.step (by rw [bstepC,hg];exact hb) (LVs h)
     ·exact h
    ·rename_i hg
     exact TriD.step (by rw [bstepC,hg];rfl) (LVs h)
    ·exact h
/-- A guard that hangs on an unknown flag. -/
theorem gV_split {b:Bool} {e:Option Bool} {t:Nat} {x:Nat×Bool} (ht:gslot ds (some x)=some t) (hb:σ.slots.getD t .any = .sc (.bool b)) (he:aguardC ds (some x) σ=e)
  (h1:b=true→LV P st ds Q (⟨dst,op,ty,pos,af,some x⟩::l) (σ.put (some t) (.sc (.bool true)))) (h2:b=false→LV P st ds Q (⟨dst,op,ty,pos,af,some x⟩::l) (σ.put (some t) (.sc (.bool false))))
  (hs:stopB st dst=false):gV e P st ds Q ⟨dst,op,ty,pos,af,some x⟩ l σ:=by
 subst he
 have hc: ∀ σ,LV P st ds Q (⟨dst,op,ty,pos,af,some x⟩::l) σ=gV (aguardC ds (some x) σ) P st ds Q ⟨dst,op,ty,pos,af,some x⟩ l σ:=fun σ=>by rw [LV_cons];simp only [hs];rfl
 cases b
 ·have:=h2 rfl;rw [put_known hb,hc] at this;exact this
 ·have:=h1 rfl;rw [put_known hb,hc] at this;exact this
end
/-- Code as a proposition: loops and drawn regions are left to their own rules. -/
def TV (P:Program) (st:List Nat):Code→(Exit→St→Prop)→St→Prop
 | .seq x y,Q,σ=>TV P st x (fun e σ'=>match e with | .normal=>TV P st y Q σ'|e=>Q e σ') σ
 | .block id c,Q,σ=>TV P st c (fun e σ'=>match e with | .exit id'=>if id'=id then Q .normal σ' else Q (.exit id') σ'|e=>Q e σ') σ
 | .skip,Q,σ=>Q .normal σ
 | .ret,Q,σ=>Q .ret σ
 | .exit id,Q,σ=>Q (.exit id) σ
 | .label _,Q,σ=>Q .normal σ
 | .goto l,Q,σ=>Q (.goto l) σ
 | .cond c x y,Q,σ=>match evl σ c with
   | .sc (.bool true)=>TV P st x Q σ
   | .sc (.bool false)=>TV P st y Q σ
   | _=>Tri P (.cond c x y) Q σ
 | .region id a false,Q,σ=>LV P st (a.toList.map (·.dst)) Q a.toList σ
 | c,Q,σ=>Tri P c Q σ
def thenV (P:Program) (st:List Nat) (y:Code) (Q:Exit→St→Prop):Exit→St→Prop:=fun e σ'=>match e with | .normal=>TV P st y Q σ'|e=>Q e σ'
def blockV (id:Nat) (Q:Exit→St→Prop):Exit→St→Prop:=fun e σ'=>match e with | .exit id'=>if id'=id then Q .normal σ' else Q (.exit id') σ'|e=>Q e σ'
def cV (d:D) (P:Program) (st:List Nat) (c:Operand) (x y:Code) (Q:Exit→St→Prop) (σ:St):Prop:=match d with
 | .sc (.bool true)=>TV P st x Q σ
 | .sc (.bool false)=>TV P st y Q σ
 | _=>Tri P (.cond c x y) Q σ
def dstsL:List Oper→List (Option Nat)
 | []=>[]
 | o::l=>o.dst::dstsL l
theorem dstsL_eq: ∀ l:List Oper,dstsL l=l.map (·.dst)
 | []=>rfl
 | o::l=>by rw [dstsL,dstsL_eq l];rfl
section
variable {P:Program} {st:List Nat} {Q:Exit→St→Prop} {σ:St} {x y c:Code} {id id':Nat} {a:Array Oper} {co:Operand} {N:St→Prop}
theorem TV_seq:TV P st (.seq x y) Q σ=TV P st x (thenV P st y Q) σ:=rfl
theorem TV_block:TV P st (.block id c) Q σ=TV P st c (blockV id Q) σ:=rfl
theorem TV_skip:TV P st .skip Q σ=Q .normal σ:=rfl
theorem TV_ret:TV P st .ret Q σ=Q .ret σ:=rfl
theorem TV_exit:TV P st (.exit id) Q σ=Q (.exit id) σ:=rfl
theorem TV_label {l:Nat}:TV P st (.label l) Q σ=Q .normal σ:=rfl
theorem TV_goto {l:Nat}:TV P st (.goto l) Q σ=Q (.goto l) σ:=rfl
theorem TV_cond:TV P st (.cond co x y) Q σ=cV (evl σ co) P st co x y Q σ:=rfl
theorem TV_region {l:List Oper}:TV P st (.region id l.toArray false) Q σ=LV P st (dstsL l) Q l σ:=by rw [TV,dstsL_eq]
theorem TV_drawn:TV P st (.region id a true) Q σ=Tri P (.region id a true) Q σ:=rfl
theorem TV_loop:TV P st (.loop c) Q σ=Tri P (.loop c) Q σ:=rfl
theorem cV_t:cV (.sc (.bool true)) P st co x y Q σ=TV P st x Q σ:=rfl
theorem cV_f:cV (.sc (.bool false)) P st co x y Q σ=TV P st y Q σ:=rfl
theorem cV_split {b:Bool} (h1:b=true→TV P st x Q σ) (h2:b=false→TV P st y Q σ):cV (.sc (.bool b)) P st co x y Q σ:=by
 cases b
 ·exact h2 rfl
 ·exact h1 rfl
theorem thenV_n:thenV P st y Q .normal σ=TV P st y Q σ:=rfl
theorem thenV_r:thenV P st y Q .ret σ=Q .ret σ:=rfl
theorem thenV_e:thenV P st y Q (.exit id) σ=Q (.exit id) σ:=rfl
theorem thenV_g {l:Nat}:thenV P st y Q (.goto l) σ=Q (.goto l) σ:=rfl
theorem blockV_g {l:Nat}:blockV id Q (.goto l) σ=Q (.goto l) σ:=rfl
theorem blockV_n:blockV id Q .normal σ=Q .normal σ:=rfl
theorem blockV_r:blockV id Q .ret σ=Q .ret σ:=rfl
theorem blockV_e:blockV id Q (.exit id') σ=if id'=id then Q .normal σ else Q (.exit id') σ:=rfl
theorem loopV_n:loopQ N Q .normal σ=N σ:=rfl
theorem loopV_r:loopQ N Q .ret σ=Q .ret σ:=rfl
theorem loopV_g {l:Nat}:loopQ N Q (.goto l) σ=Q (.goto l) σ:=rfl
theorem loopV_e:loopQ N Q (.exit id) σ=Q (.exit id) σ:=rfl
theorem TVs: ∀ {c:Code} {Q:Exit→St→Prop} {σ:St},TV P st c Q σ→Tri P c Q σ:=by
 intro c
 induction c with
 | skip=>intro Q σ h;exact Tri.skip h
 | ret=>intro Q σ h;exact Tri.ret h
 | exit id=>intro Q σ h;exact Tri.exit h
 | label l=>intro Q σ h;exact fun _ _ _ _ hr=>wp_label ⟨σ,h,hr⟩
 | goto l=>intro Q σ h;exact fun _ _ _ _ hr=>wp_goto ⟨σ,h,hr⟩
 | region id a dr=>
   intro Q σ h
   cases dr with
   | true=>exact h
   | false=>
     have h2:=LVs h
     have e:Code.region id a false=Code.region id a.toList.toArray false:=by simp
     rw [e]
     exact Tri.regionD rfl h2
 | seq x y ihx ihy=>
   intro Q σ h
   refine Tri.seq (Tri.mono (ihx h) ?_)
   intro e σ' hq
   cases e<;>first|exact ihy hq|exact hq
 | block id c ih=>
   intro Q σ h
   refine Tri.block (Tri.mono (ih h) ?_)
   intro e σ' hq
   cases e<;>exact hq
 | cond co x y ihx ihy=>
   intro Q σ h
   rw [TV] at h
   split at h
   ·rename_i hc
    exact Tri.cond hc (fun _=>ihx h) (fun e=>by cases e)
   ·rename_i hc
    exact Tri.cond hc (fun e=>by cases e) (fun _=>ihy h)
   ·exact h
 | _=>intro Q σ h;exact h
theorem TVq (h:TV P st (.seq x y) Q σ):Tri P (.seq x y) Q σ:=TVs h
end
section
variable {P:Program} {st:List Nat} {ds:List (Option Nat)} {Q:Exit→St→Prop} {Qv:St→Prop} {σ σ':St} {l:List Oper} {dst:Option Nat} {ty:TypeId} {pos:String} {af:Array Edge} {g:Option (Nat×Bool)} {f:FuncId} {x:Operand} {xs:Array Operand} {ts:Array TypeId} {caps args:List D} {ret:D} {K:St→Prop} {sn:Bool}
theorem LVdE (hx:evl σ x = .fn f caps) (hargs:renL [] (xs.toList.map (evl σ)++caps)=some args) (h:CallK P ds g σ dst f args false (fun σ'=>LV P st ds Q l σ')):TriD P ds Q (⟨dst, .call { callee:= .value x,args:=xs,argTypes:=ts },ty,pos,af,g⟩::l) σ:=by
 refine TriD.dE hx hargs ?_
 unfold CallK at h ⊢
 obtain ⟨new,ret,outs,σ',h1,h2,h3⟩:=h
 exact ⟨new,ret,outs,σ',h1,h2,LVs h3⟩
theorem LVdS (hx:evl σ x = .fn f caps) (hargs:mapO (snapD σ [] 4) (xs.toList.map (evl σ)++caps)=some args) (h:CallK P ds g σ dst f args true (fun σ'=>LV P st ds Q l σ')):TriD P ds Q (⟨dst, .call { callee:= .value x,args:=xs,argTypes:=ts },ty,pos,af,g⟩::l) σ:=by
 refine TriD.dS hx hargs ?_
 unfold CallK at h ⊢
 obtain ⟨new,ret,outs,σ',h1,h2,h3⟩:=h
 exact ⟨new,ret,outs,σ',h1,h2,LVs h3⟩
end
/-- A call of a function by value, its callee and arguments worked out, and what follows. -/
def CallL (P:Program) (st:List Nat) (ds:List (Option Nat)) (g:Option (Nat×Bool)) (σ:St) (dst:Option Nat) (f:FuncId) (args:List D) (sn:Bool) (Q:Exit→St→Prop) (l:List Oper):Prop:=CallK P ds g σ dst f args sn (fun σ'=>LV P st ds Q l σ')
def cE (e1 e2:Option (List D)) (P:Program) (st:List Nat) (ds:List (Option Nat)) (g:Option (Nat×Bool)) (σ:St) (dst:Option Nat) (f:FuncId) (Q:Exit→St→Prop) (l:List Oper):Prop:=match e1,e2 with
 | some args,_=>CallL P st ds g σ dst f args false Q l
 | none,some args=>CallL P st ds g σ dst f args true Q l
 | none,none=>False
def cG (d:D) (as:List D) (P:Program) (st:List Nat) (ds:List (Option Nat)) (g:Option (Nat×Bool)) (σ:St) (dst:Option Nat) (Q:Exit→St→Prop) (l:List Oper):Prop:=match d with
 | .fn f caps=>cE (renL [] (as++caps)) (mapO (snapD σ [] 4) (as++caps)) P st ds g σ dst f Q l
 | _=>False
def resV (e:Option St) (P:Program) (st:List Nat) (ds:List (Option Nat)) (Q:Exit→St→Prop) (l:List Oper):Prop:=match e with
 | some σ'=>LV P st ds Q l σ'
 | none=>False
def newOf:Option Nat→List Nat
 | none=>[]
 | some d=>[d]
section
variable {P:Program} {st:List Nat} {ds:List (Option Nat)} {Q:Exit→St→Prop} {σ σ':St} {l:List Oper} {dst:Option Nat} {ty:TypeId} {pos:String} {af:Array Edge} {g:Option (Nat×Bool)} {f:FuncId} {x:Operand} {xs:Array Operand} {ts:Array TypeId} {caps args as:List D} {ret:D} {sn:Bool} {outs:List Obj} {e2:Option (List D)}
theorem cE_s:cE (some args) e2 P st ds g σ dst f Q l=CallL P st ds g σ dst f args false Q l:=by cases e2<;>rfl
theorem cE_n:cE none (some args) P st ds g σ dst f Q l=CallL P st ds g σ dst f args true Q l:=rfl
theorem cG_fn:cG (.fn f caps) as P st ds g σ dst Q l=cE (renL [] (as++caps)) (mapO (snapD σ [] 4) (as++caps)) P st ds g σ dst f Q l:=rfl
theorem resV_s:resV (some σ') P st ds Q l=LV P st ds Q l σ':=rfl
theorem newOf_s {d:Nat}:newOf (some d)=[d]:=rfl
theorem newOf_n:newOf none=[]:=rfl
theorem LVcall (h:cG (evl σ x) (xs.toList.map (evl σ)) P st ds g σ dst Q l):TriD P ds Q (⟨dst, .call { callee:= .value x,args:=xs,argTypes:=ts },ty,pos,af,g⟩::l) σ:=by
 unfold cG at h
 split at h
 ·rename_i f caps hx
  unfold cE at h
  split at h
  ·rename_i he
   exact LVdE hx he h
  ·rename_i he
   exact LVdS hx he h
  ·exact h.elim
 ·exact h.elim
theorem CallL.w (new:List Nat) (hc:ACalls P f args ret outs) (h:resV (callR ds g σ dst [] new sn ret outs) P st ds Q l):CallL P st ds g σ dst f args sn Q l:=by
 unfold resV at h
 split at h
 ·rename_i σ' he
  exact CallK.c new hc he h
 ·exact h.elim
theorem CallL.c (hc:ACalls P f args ret outs) (h:resV (callR ds g σ dst [] [] sn ret outs) P st ds Q l):CallL P st ds g σ dst f args sn Q l:=CallL.w [] hc h
theorem CallL.n (hc:ACalls P f args ret outs) (h:resV (callR ds g σ dst [] (newOf dst) sn ret outs) P st ds Q l):CallL P st ds g σ dst f args sn Q l:=CallL.w _ hc h
end
attribute [irreducible] CallL
/-- A body's end, worked out. -/
def rC (b:Bool) (e1:Option D) (e2:Option (List Obj)) (ret:D) (outs:List Obj):Prop:=match b,e1,e2 with
 | true,some d',some xs=>leQ d' ret∧leQOs xs outs
 | _,_,_=>False
def rB (new:List Nat) (d:D) (ins:List Nat) (ret:D) (outs:List Obj) (σ:St):Prop:=rC (nodupB (ins++new)) (renD (ins++new) d) (outsOf (ins++new) σ.heap (ins++new)) ret outs
def rA (e:Option D) (ins:List Nat) (ret:D) (outs:List Obj) (σ:St):Prop:=match e with
 | some d=>rB (dedupN ins (nmsD d)) d ins ret outs σ
 | none=>False
section
variable {P:Program} {fn:Func} {ins new:List Nat} {d d' ret:D} {xs outs:List Obj} {e:Exit} {σ:St} {rs:List ResultVar}
theorem rC_t:rC true (some d') (some xs) ret outs=(leQ d' ret∧leQOs xs outs):=rfl
theorem rB_eq:rB new d ins ret outs σ=rC (nodupB (ins++new)) (renD (ins++new) d) (outsOf (ins++new) σ.heap (ins++new)) ret outs:=rfl
theorem rA_s:rA (some d) ins ret outs σ=rB (dedupN ins (nmsD d)) d ins ret outs σ:=rfl
theorem RetV (hr:fn.results.toList=rs) (he:exB e=true) (h:rA (retD P σ rs) ins ret outs σ):RetOK P fn ins ret outs e σ:=by
 subst hr
 unfold rA at h
 split at h
 ·rename_i d hd
  unfold rB rC at h
  split at h
  ·rename_i d' xs h1 h2 h3
   exact ⟨σ,fun _ _ _ _ h=>h,by cases e<;>simp_all [exB],_,d,nodupB_iff h1,hd,⟨d',h2,leQ_spec h.1⟩,xs,h3,leQOs_spec h.2⟩
  ·exact h.elim
 ·exact h.elim
end
theorem oV_st {P:Program} {st:List Nat} {ds:List (Option Nat)} {Q:Exit→St→Prop} {o:Oper} {l:List Oper} {σ:St} {a b:Option St} (h:a=b) (hn:oV b P st ds Q o l σ):oV a P st ds Q o l σ:=h▸hn
section
variable {P:Program} {st:List Nat} {ds:List (Option Nat)} {Q:Exit→St→Prop} {o:Oper} {l:List Oper} {σ:St} {dst:Option Nat} {g:Option (Nat×Bool)} {f:FuncId} {x y c:Code} {co:Operand} {args:List D} {sn:Bool} {id:Nat} {e:Exit} {N:St→Prop} {ret:D} {outs:List Obj}
@[congr] theorem oV_congr {a b:Option St} (h:a=b):oV a P st ds Q o l σ=oV b P st ds Q o l σ:=by rw [h]
@[congr] theorem gV_congr {a b:Option Bool} (h:a=b):gV a P st ds Q o l σ=gV b P st ds Q o l σ:=by rw [h]
@[congr] theorem sV_congr {a b:Bool} (h:a=b):sV a P st ds Q o l σ=sV b P st ds Q o l σ:=by rw [h]
@[congr] theorem cV_congr {a b:D} (h:a=b):cV a P st co x y Q σ=cV b P st co x y Q σ:=by rw [h]
@[congr] theorem LV_congr:LV P st ds Q l σ=LV P st ds Q l σ:=rfl
@[congr] theorem TV_congr:TV P st c Q σ=TV P st c Q σ:=rfl
@[congr] theorem thenV_congr:thenV P st y Q e σ=thenV P st y Q e σ:=rfl
@[congr] theorem blockV_congr:blockV id Q e σ=blockV id Q e σ:=rfl
@[congr] theorem loopQ_congr:loopQ N Q e σ=loopQ N Q e σ:=rfl
@[congr] theorem resV_congr {a b:Option St} (h:a=b):resV a P st ds Q l=resV b P st ds Q l:=by rw [h]
@[congr] theorem cG_congr {a b:D} {as bs:List D} (h:a=b) (h2:as=bs):cG a as P st ds g σ dst Q l=cG b bs P st ds g σ dst Q l:=by rw [h,h2]
@[congr] theorem cE_congr {a b c d:Option (List D)} (h:a=b) (h2:c=d):cE a c P st ds g σ dst f Q l=cE b d P st ds g σ dst f Q l:=by rw [h,h2]
@[congr] theorem CallL_congr:CallL P st ds g σ dst f args sn Q l=CallL P st ds g σ dst f args sn Q l:=rfl
@[congr] theorem TriD_congr:TriD P ds Q l σ=TriD P ds Q l σ:=rfl
@[congr] theorem Tri_congr:Tri P c Q σ=Tri P c Q σ:=rfl
end
theorem bq_tt:(true==true)=true:=rfl
theorem bq_tf:(true==false)=false:=rfl
theorem bq_ft:(false==true)=false:=rfl
theorem bq_ff:(false==false)=true:=rfl
attribute [go_sem] cE_s cE_n cG_fn resV_s newOf_s newOf_n rC_t rB_eq rA_s true_and bq_tt bq_tf bq_ft bq_ff LV_nil LV_cons sV_t sV_f oV_some oV_none gV_t gV_f gV_none bodyC_eq TV_seq TV_block TV_skip TV_ret TV_exit TV_label TV_goto TV_cond TV_region TV_drawn TV_loop cV_t cV_f thenV_n thenV_r thenV_e thenV_g blockV_g loopV_g blockV_n blockV_r blockV_e loopV_n loopV_r loopV_e stopB dstsL
end Go.Avm
/- The abstract machine, part ZN: nests: a row of slices, each with a row of its own. -/
namespace Go.Avm
set_option linter.unusedVariables false
set_option linter.unusedSimpArgs false
open Go.RowKit
/-- A cell of a nest: a slice of a row that the nest holds, or a slice of a named object. -/
inductive NC where
 | own (rows:List (List D))
 | nm (o len:Nat)
 | hole
/-- The names in the cells of a nest. -/
def nmsN:List NC→List Nat
 | []=>[]
 | .own _::cs=>nmsN cs
 | .nm o _::cs=>o::nmsN cs
 | .hole::cs=>nmsN cs
theorem mem_nmsN {o len:Nat}: ∀ {cs:List NC} {j:Nat},cs[j]? = some (.nm o len)→o∈nmsN cs
 | [],j,h=>by simp at h
 | c::cs,0,h=>by simp at h;subst h;simp [nmsN]
 | c::cs,j+1,h=>by
   have:=mem_nmsN (cs:=cs) (j:=j) (by simpa using h)
   cases c<;>simp [nmsN,this]
theorem nmsN_own: ∀ ls:List (List (List D)),nmsN (ls.map .own)=[]
 | []=>rfl
 | l::ls=>by simp [nmsN,nmsN_own ls]
/-- The slice x holds the whole of a row of its own: none, or block b. -/
def NO (w:World) (st:Nat→Prop) (k:Nat) (rows:List (List D)) (x:Value):Option Nat→Prop
 | none=>rows=[]∧ ∃ a,x = .slice a 0 0
 | some b=> ∃ cur e cap A,w.heap[b]? = some (.cells cur e (0,0))∧SzOne cur (cap*k)∧cap≤maxLen∧rows.length≤cap∧RR w st k b 0 rows∧x = .slice A rows.length cap∧(0<cap→A=some ⟨b,0,none⟩)
theorem NO.mono {w w':World} {st st':Nat→Prop} {k:Nat} {rows:List (List D)} {x:Value} {bo:Option Nat} (hc: ∀ g off,st g→w'.cell? ⟨g,off,none⟩=w.cell? ⟨g,off,none⟩) (hs: ∀ g n,Sh w g n→Sh w' g n) (hst: ∀ g,st g→st' g)
  (hb: ∀ b,bo=some b→w'.heap[b]? = w.heap[b]?) (h:NO w st k rows x bo):NO w' st' k rows x bo:=by
 cases bo with
 | none=>exact h
 | some b=>
   obtain ⟨cur,e,cap,A,h1,h2,h3,h4,h5,h6⟩:=h
   have hbb:=hb b rfl
   exact ⟨cur,e,cap,A,hbb.trans h1,h2,h3,h4,RR.mono hc hs hst (fun off=>World.cell?_of_block (w:=w) (a:=⟨b,off,none⟩) hbb) h5,h6⟩
def NCok (w:World) (st:Nat→Prop) (k:Nat) (ρ:Nat→Option (Option Nat)) (x:Value) (bo:Option Nat):NC→Prop
 | .own rows=>NO w st k rows x bo
 | .nm o len=>bo=none∧R w st ρ (.slo o k 0 len) x
 | .hole=>bo=none
theorem NCok.mono {w w':World} {st st':Nat→Prop} {k:Nat} {ρ:Nat→Option (Option Nat)} {c:NC} {x:Value} {bo:Option Nat} (hc: ∀ g off,st g→w'.cell? ⟨g,off,none⟩=w.cell? ⟨g,off,none⟩) (hs: ∀ g n,Sh w g n→Sh w' g n) (hst: ∀ g,st g→st' g)
  (hb: ∀ b,bo=some b→w'.heap[b]? = w.heap[b]?) (h:NCok w st k ρ x bo c):NCok w' st' k ρ x bo c:=by
 cases c with
 | own rows=>exact NO.mono hc hs hst hb h
 | nm o len=>exact ⟨h.1,R.mono hc hs hst h.2⟩
 | hole=>exact h
/-- What a nest's own block and those that it holds are. -/
def Nest (w:World) (st:Nat→Prop) (k:Nat) (ρ:Nat→Option (Option Nat)) (hd:Nat→Prop) (g:Nat) (cs:List NC) (cur:Array Value) (bs:List (Option Nat)):Prop:=
 bs.length=cs.length∧(∀ (j b:Nat),bs[j]? = some (some b)→hd b∧b≠g)∧(∀ (i j b:Nat),bs[i]? = some (some b)→bs[j]? = some (some b)→i=j)∧
  ∀ (j:Nat) c bo,cs[j]? = some c→bs[j]? = some bo→ ∃ x,cur[j]? = some x∧NCok w st k ρ x bo c
def nestX (k:Nat) (cs:List NC):Ext where
 nms:=nmsN cs
 φ w st ρ hd g:= ∃ cur e cap,w.heap[g]? = some (.cells cur e (0,0))∧SzOne cur (cap*1)∧cap≤maxLen∧cs.length≤cap∧ ∃ bs,Nest w st k ρ hd g cs cur bs
 lt h:=by
  obtain ⟨cur,e,cap,h1,_⟩:=h
  exact (Array.getElem?_eq_some_iff.1 h1).1
 mono hc hs hst hg hb h:=by
  obtain ⟨cur,e,cap,h1,h2,h3,h4,bs,n1,n2,n3,n4⟩:=h
  refine ⟨cur,e,cap,hg.trans h1,h2,h3,h4,bs,n1,n2,n3,fun j c bo hj hbj=>?_⟩
  obtain ⟨x,x1,x2⟩:=n4 j c bo hj hbj
  exact ⟨x,x1,NCok.mono hc hs hst (fun b e=>hb b (n2 j b (by rw [hbj,e])).1) x2⟩
 loc hl h:=by
  obtain ⟨cur,e,cap,h1,h2,h3,h4,bs,n1,n2,n3,n4⟩:=h
  refine ⟨cur,e,cap,h1,h2,h3,h4,bs,n1,n2,n3,fun j c bo hj hbj=>?_⟩
  obtain ⟨x,x1,x2⟩:=n4 j c bo hj hbj
  refine ⟨x,x1,?_⟩
  cases c with
  | own rows=>exact x2
  | hole=>exact x2
  | nm o len=>
    have he:=hl o (mem_nmsN hj)
    refine ⟨x2.1,?_⟩
    have:=x2.2
    simp only [R,he] at this ⊢
    exact this
theorem nestX_nms {k:Nat} {ls:List (List (List D))}:(nestX k (ls.map .own)).nms=[]:=nmsN_own ls
section
variable {w:World} {st:Nat→Prop} {k g:Nat} {ρ:Nat→Option (Option Nat)} {hd:Nat→Prop} {cs:List NC} {cur:Array Value} {bs:List (Option Nat)}
/-- A nest's cell told otherwise. -/
theorem Nest.set {hd':Nat→Prop} {st':Nat→Prop} {ρ':Nat→Option (Option Nat)} {j:Nat} {c:NC} {x:Value} {bo:Option Nat} (h:Nest w st k ρ hd g cs cur bs) (hj:j<cs.length)
  (hrest: ∀ i c bi x,i≠j→cs[i]? = some c→bs[i]? = some bi→NCok w st k ρ x bi c→NCok w st' k ρ' x bi c)
  (hhd: ∀ i b,i≠j→bs[i]? = some (some b)→hd' b) (hbo: ∀ b,bo=some b→hd' b∧b≠g∧ ∀ i,i≠j→bs[i]? ≠some (some b)) (hx:cur[j]? = some x) (hc:NCok w st' k ρ' x bo c):Nest w st' k ρ' hd' g (cs.set j c) cur (bs.set j bo):=by
 obtain ⟨n1,n2,n3,n4⟩:=h
 have hjb:j<bs.length:=by omega
 refine ⟨by simp [n1],fun i b hi=>?_,fun i i' b hi hi'=>?_,fun i c' bi hi hbi=>?_⟩
 ·by_cases e:i=j
  ·subst e
   rw [List.getElem?_set_self hjb] at hi
   have:=hbo b (by simpa using hi)
   exact ⟨this.1,this.2.1⟩
  ·rw [List.getElem?_set_ne (Ne.symm e)] at hi
   exact ⟨hhd i b e hi,(n2 i b hi).2⟩
 ·by_cases e:i=j<;>by_cases e':i'=j
  ·rw [e,e']
  ·subst e
   rw [List.getElem?_set_self hjb] at hi
   rw [List.getElem?_set_ne (Ne.symm e')] at hi'
   exact absurd hi' ((hbo b (by simpa using hi)).2.2 i' e')
  ·subst e'
   rw [List.getElem?_set_self hjb] at hi'
   rw [List.getElem?_set_ne (Ne.symm e)] at hi
   exact absurd hi ((hbo b (by simpa using hi')).2.2 i e)
  ·rw [List.getElem?_set_ne (Ne.symm e)] at hi
   rw [List.getElem?_set_ne (Ne.symm e')] at hi'
   exact n3 i i' b hi hi'
 ·by_cases e:i=j
  ·subst e
   rw [List.getElem?_set_self hj] at hi
   rw [List.getElem?_set_self hjb] at hbi
   simp only [l_5] at hi hbi
   subst hi hbi
   exact ⟨x,hx,hc⟩
  ·rw [List.getElem?_set_ne (Ne.symm e)] at hi hbi
   obtain ⟨y,y1,y2⟩:=n4 i c' bi hi hbi
   exact ⟨y,y1,hrest i c' bi y e hi hbi y2⟩
end
/-- The row of a nest's cell gets a name. -/
theorem Imp.takeN (σ:St) (o j d k:Nat) {cs:List NC} {rows:List (List D)} (ho:hget σ.heap o = .ext (nestX k cs)) (hj:cs[j]? = some (.own rows)) (hd:hfree σ.heap d=true) (hne:o≠d) (hm:memN d (nmsN cs)=false):
  Imp σ { σ.kill d with heap:=hset (hset (σ.kill d).heap o (.ext (nestX k (cs.set j (.nm d rows.length))))) d (.row k rows) }:=by
 rintro w0 p a w ⟨ρ,h⟩
 obtain ⟨hd1,hd2⟩:=hfree_iff.1 hd
 have hro:=h.objs o
 rw [ho] at hro
 simp only [RO] at hro
 obtain ⟨g,hg,cur,e,cap,c1,c2,c3,c4,bs,hN⟩:=hro
 have hjl:j<cs.length:=(List.getElem?_eq_some_iff.1 hj).1
 obtain ⟨bo,hbo⟩: ∃ bo,bs[j]? = some bo:=⟨_,List.getElem?_eq_getElem (show j<bs.length by rw [hN.1];exact hjl)⟩
 obtain ⟨x,hx,hno⟩:=hN.2.2.2 j _ bo hj hbo
 let ρ1:Nm:=⟨fun y=>if y=d then some bo else ρ y,fun y=>if y=d then fun _=>False else ρ.hid y⟩
 let ρ':Nm:=⟨fun y=>if y=d then some bo else ρ y,fun y=>if y=d then fun _=>False else if y=o then fun b=>ρ.hid o b∧bo≠some b else ρ.hid y⟩
 have hk:RelAt w0 p (σ.kill d) a w ρ1:=h.kill d (fun y e=>⟨by simp [ρ1,e],by simp [ρ1,e]⟩) (fun h1=>by omega)
 have hlo:hget σ.heap o≠ .dead:=by rw [ho];simp
 have hmo:hget (σ.kill d).heap o = .ext (nestX k cs):=by
  rw [hget_kill,if_neg hne,ho,Obj.clr,show (nestX k cs).nms=nmsN cs from rfl,hm];rfl
 have hho:hhas (σ.kill d).heap o=true:=hhas_of_hget (by rw [hmo];simp)
 have hhd:hhas (σ.kill d).heap d=true:=by rw [St.kill,hhas_hset,hhas_hclr];exact hd1
 have g1:hget (hset (hset (σ.kill d).heap o (.ext (nestX k (cs.set j (.nm d rows.length))))) d (.row k rows)) d = .row k rows:=hget_hset_same (by rw [hhas_hset];exact hhd)
 have g2:hget (hset (hset (σ.kill d).heap o (.ext (nestX k (cs.set j (.nm d rows.length))))) d (.row k rows)) o = .ext (nestX k (cs.set j (.nm d rows.length))):=by rw [hget_hset_other hne,hget_hset_same hho]
 have r1:ρ1 o=ρ o:=by simp [ρ1,hne]
 have r2:ρ1.hid o=ρ.hid o:=by simp [ρ1,hne]
 have q1: ∀ b,ow ρ' o b→ow ρ1 o b:=by
  intro b hb
  rcases hb with hb|hb
  ·exact .inl hb
  ·right;simp only [ρ',hne,if_false,if_true] at hb;rw [r2];exact hb.1
 have q2: ∀ b,ow ρ' d b→bo=some b:=by
  intro b hb
  rcases hb with hb|hb
  ·simpa [ρ'] using hb
  ·simp [ρ'] at hb
 have q3: ∀ b,bo=some b→ρ.hid o b∧b≠g:=fun b e=>hN.2.1 j b (by rw [hbo,e])
 have hturn:=hk.turn (ρ':=ρ') (w':=w) (heap':=hset (hset (σ.kill d).heap o (.ext (nestX k (cs.set j (.nm d rows.length))))) d (.row k rows)) (fun y=>y=o∨y=d) (fun y=>rfl)
  (fun y hy=>by simp only [not_or] at hy;simp only [ρ',ρ1,hy.1,hy.2,if_false])
  (fun y hy=>by simp only [not_or] at hy;rw [hget_hset_other hy.2,hget_hset_other hy.1])
  (fun y b hy hl hb=>by
   refine .inr ⟨o, .inl rfl,by rw [hmo];simp,?_⟩
   rcases hy with rfl|rfl
   ·exact q1 b hb
   ·right;rw [r2];exact (q3 b (q2 b hb)).1)
  (fun y y' b hy hy' hl hl' hb hb'=>by
   have cross:ow ρ' o b→ow ρ' d b→False:=by
    intro u v
    have e1:=q2 b v
    rcases u with u|u
    ·have:ρ o=some (some b):=by simpa [ρ',hne] using u
     rw [hg] at this
     simp only [l_5] at this
     exact (q3 b e1).2 this.symm
    ·simp only [ρ',hne,if_false,if_true] at u
     exact u.2 e1
   rcases hy with rfl|rfl<;>rcases hy' with rfl|rfl
   ·rfl
   ·exact (cross hb hb').elim
   ·exact (cross hb' hb).elim
   ·rfl)
  (fun y b hy hl hb=>by
   rcases hy with rfl|rfl
   ·simp only [ρ',hne,if_false,if_true] at hb;exact h.hlt y b hlo hb.1
   ·simp [ρ'] at hb)
  (fun _ _ _=>rfl) (fun _ _ hs=>hs) (Nat.le_refl _) rfl rfl rfl
  (fun y hy st h1 h2=>by
   have hst: ∀ b,stab p σ.heap ρ w b→st b:=fun b hb=>h1 b ⟨hb.1,hb.2.1,fun y' hy'=>by
    rw [hget_kill] at hy'
    by_cases e:y'=d
    ·simp [e] at hy'
    ·rw [if_neg e,Obj.clr_dead] at hy'
     have:same ρ ρ1 y':=⟨by simp [ρ1,e],by simp [ρ1,e]⟩
     rw [this.ow];exact hb.2.2 y' hy'⟩
   have mono: ∀ c bi x,NCok w (stab p σ.heap ρ w) k ρ x bi c→NCok w st k ρ x bi c:=fun c bi x hc=>NCok.mono (fun _ _ _=>rfl) (fun _ _ hs=>hs) hst (fun _ _=>rfl) hc
   rcases hy with rfl|rfl
   ·rw [g2]
    refine ⟨g,by simpa [ρ',hne] using hg,cur,e,cap,c1,c2,c3,by simpa using c4,bs.set j none,?_⟩
    refine hN.set hjl (fun i c bi x hi hci _ hc=>?_) (fun i b hi hbi=>?_) (fun b hb=>by cases hb) hx ?_
    ·have hc:=mono c bi x hc
     cases c with
     | own rows=>exact hc
     | hole=>exact hc
     | nm o' len=>
       have hod:o'≠d:=fun e=>by
        have:=memN_iff.2 (mem_nmsN hci)
        rw [e,hm] at this;cases this
       refine ⟨hc.1,?_⟩
       have:=hc.2
       simp only [R,show ρ'.nm o'=ρ.nm o' by simp [ρ',hod]] at this ⊢
       exact this
    ·show ρ'.hid y b
     simp only [ρ',hne,if_false,if_true]
     refine ⟨(hN.2.1 i b hbi).1,fun e=>hi (hN.2.2.1 i j b hbi (by rw [hbo,e]))⟩
    ·refine ⟨rfl,?_⟩
     have hc:=mono (.own rows) bo x hno
     simp only [R,show ρ'.nm d=some bo by simp [ρ']]
     cases bo with
     | none=>
       obtain ⟨e1,a',e2⟩:=hc
       exact .inl ⟨rfl,trivial,by rw [e1];rfl,a',e2⟩
     | some b=>
       obtain ⟨cur',e',cap',A,n1,n2,n3,n4,n5,n6,n7⟩:=hc
       exact .inr ⟨b,cap',A,rfl,⟨cur',e',n1,n2.size⟩,by omega,n3,by simpa using n6,fun hh=>by rw [Nat.zero_mul];exact n7 hh⟩
   ·rw [g1]
    have hc:=mono (.own rows) bo x hno
    simp only [RO,show ρ'.nm y=some bo by simp [ρ']]
    cases bo with
    | none=>exact hc.1
    | some b=>
      obtain ⟨cur',e',cap',A,n1,n2,n3,n4,n5,n6,n7⟩:=hc
      exact ⟨cur',e',cap',n1,n2,n3,n4,n5⟩)
 exact ⟨ρ',hturn.1⟩
/-- A named row goes back into the nest's cell that names it. -/
theorem Imp.healN (σ:St) (o j d k n:Nat) {cs:List NC} {rows:List (List D)} (ho:hget σ.heap o = .ext (nestX k cs)) (hj:cs[j]? = some (.nm d n)) (hd:hget σ.heap d = .row k rows) (hn:n=rows.length) (hk:0<k) (hd3:d<1000) (hne:o≠d) (hm:memN d (nmsN (cs.set j (.own rows)))=false):
  Imp σ (({ σ with heap:=hset (hset σ.heap d .dead) o (.ext (nestX k (cs.set j (.own rows)))) }:St).kill d):=by
 rintro w0 p a w ⟨ρ,h⟩
 subst hn
 have hro:=h.objs o
 rw [ho] at hro
 simp only [RO] at hro
 obtain ⟨g,hg,cur,e,cap,c1,c2,c3,c4,bs,hN⟩:=hro
 have hjl:j<cs.length:=(List.getElem?_eq_some_iff.1 hj).1
 obtain ⟨bo,hbo⟩: ∃ bo,bs[j]? = some bo:=⟨_,List.getElem?_eq_getElem (show j<bs.length by rw [hN.1];exact hjl)⟩
 obtain ⟨x,hx,hb0,hno⟩:=hN.2.2.2 j _ bo hj hbo
 have hrd:=h.objs d
 rw [hd] at hrd
 have hlo:hget σ.heap o≠ .dead:=by rw [ho];simp
 have hld:hget σ.heap d≠ .dead:=by rw [hd];simp
 have hho:hhas σ.heap o=true:=hhas_of_hget hlo
  -- the row's block
 obtain ⟨bd,hbd⟩: ∃ bd,ρ d=some bd:=by
  cases hq:ρ d with
  | none=>simp only [RO,hq] at hrd
  | some bd=>exact ⟨bd,rfl⟩
 have hNO: ∀ st:Nat→Prop,(∀ b,stab p σ.heap ρ w b→st b)→NO w st k rows x bd:=by
  intro st hst
  cases bd with
  | none=>
    simp only [RO,hbd] at hrd
    simp only [R,hbd] at hno
    rcases hno with ⟨_,_,_,a',e'⟩|⟨b,_,_,e1,_⟩
    ·exact ⟨hrd,a',e'⟩
    ·cases e1
  | some b=>
    simp only [RO,hbd] at hrd
    obtain ⟨cu,e',cp,n1,n2,n3,n4,n5⟩:=hrd
    simp only [R,hbd] at hno
    rcases hno with ⟨e1,_⟩|⟨b',cp',A,e1,⟨cu2,e2,m1,m2⟩,m3,m4,m5,m6⟩
    ·cases e1
    ·simp only [l_5] at e1
     subst e1
     rw [n1] at m1
     simp only [l_5,Obj.cells.injEq] at m1
     obtain ⟨rfl,_⟩:=m1
     have hcc:cp=cp':=Nat.eq_of_mul_eq_mul_right hk (n2.size.symm.trans m2)
     subst hcc
     exact ⟨cu,e',cp,A,n1,n2,n3,n4,RR.mono (fun _ _ _=>rfl) (fun _ _ hs=>hs) hst (fun _=>rfl) n5,by simpa using m5,fun hh=>by have:=m6 hh;simpa using this⟩
 let ρ':Nm:=⟨ρ.nm,fun y=>if y=o then fun b=>ρ.hid o b∨bd=some b else ρ.hid y⟩
 have g1:hget (hset (hset σ.heap d .dead) o (.ext (nestX k (cs.set j (.own rows))))) o = .ext (nestX k (cs.set j (.own rows))):=hget_hset_same (by rw [hhas_hset];exact hho)
 have g2:hget (hset (hset σ.heap d .dead) o (.ext (nestX k (cs.set j (.own rows))))) d = .dead:=by rw [hget_hset_other (Ne.symm hne),hget_hset_same (hhas_of_hget hld)]
 have q1: ∀ b,ow ρ' o b→ow ρ o b∨ow ρ d b:=by
  intro b hb
  rcases hb with hb|hb
  ·exact .inl (.inl hb)
  ·simp only [ρ',if_true] at hb
   rcases hb with hb|hb
   ·exact .inl (.inr hb)
   ·exact .inr (.inl (by rw [hbd,hb]))
 have hturn:=h.turn (ρ':=ρ') (w':=w) (heap':=hset (hset σ.heap d .dead) o (.ext (nestX k (cs.set j (.own rows))))) (fun y=>y=o∨y=d) (fun y=>rfl)
  (fun y hy=>by simp only [not_or] at hy;simp only [ρ',hy.1,if_false])
  (fun y hy=>by simp only [not_or] at hy;rw [hget_hset_other hy.1,hget_hset_other hy.2])
  (fun y b hy hl hb=>by
   rcases hy with rfl|rfl
   ·rcases q1 b hb with h1|h1
    ·exact .inr ⟨y, .inl rfl,hlo,h1⟩
    ·exact .inr ⟨d, .inr rfl,hld,h1⟩
   ·exact absurd g2 hl)
  (fun y y' b hy hy' hl hl' hb hb'=>by
   rcases hy with rfl|rfl<;>rcases hy' with rfl|rfl
   ·rfl
   ·exact absurd g2 hl'
   ·exact absurd g2 hl
   ·rfl)
  (fun y b hy hl hb=>by
   rcases hy with rfl|rfl
   ·simp only [ρ',if_true] at hb
    rcases hb with hb|hb
    ·exact h.hlt y b hlo hb
    ·exact h.lt_ow hld (.inl (by rw [hbd,hb]))
   ·exact absurd g2 hl)
  (fun _ _ _=>rfl) (fun _ _ hs=>hs) (Nat.le_refl _) rfl rfl rfl
  (fun y hy st hst _=>by
   rcases hy with rfl|rfl
   ·rw [g1]
    refine ⟨g,hg,cur,e,cap,c1,c2,c3,by simpa using c4,bs.set j bd,?_⟩
    have eh:ρ'.hid y=fun b=>ρ.hid y b∨bd=some b:=by simp [ρ']
    refine hN.set hjl (fun i c bi x hi hci _ hc=>NCok.mono (fun _ _ _=>rfl) (fun _ _ hs=>hs) hst (fun _ _=>rfl) hc) (fun i b hi hbi=>by rw [eh];exact .inl (hN.2.1 i b hbi).1) (fun b hb=>⟨by rw [eh];exact .inr hb,fun e'=>?_,fun i hi hbi=>?_⟩) hx (hNO st hst)
    ·subst e'
     exact hne (h.inj y d b hlo hld (.inl hg) (.inl (by rw [hbd,hb])))
    ·exact hne (h.inj y d b hlo hld (.inr (hN.2.1 i b hbi).1) (.inl (by rw [hbd,hb])))
   ·rw [g2];simp [RO])
 exact ⟨ρ',hturn.1.kill d (fun _ _=>same.refl) (fun _=>rfl)⟩
/-- A nest whose cells are all its own, as a row of slices. -/
theorem Imp.rowN (σ:St) (o k:Nat) {ls:List (List (List D))} (ho:hget σ.heap o = .ext (nestX k (ls.map .own))):Imp σ { σ with heap:=hset σ.heap o (.row 1 (ls.map fun rows=>[.sl k rows])) }:=by
 rintro w0 p a w ⟨ρ,h⟩
 have hro:=h.objs o
 rw [ho] at hro
 simp only [RO] at hro
 obtain ⟨g,hg,cur,e,cap,c1,c2,c3,c4,bs,hN⟩:=hro
 have hlo:hget σ.heap o≠ .dead:=by rw [ho];simp
 have hho:hhas σ.heap o=true:=hhas_of_hget hlo
 let ρ':Nm:=⟨ρ.nm,fun y=>if y=o then fun _=>False else ρ.hid y⟩
 have g1:hget (hset σ.heap o (.row 1 (ls.map fun rows=>[.sl k rows]))) o = .row 1 (ls.map fun rows=>[.sl k rows]):=hget_hset_same hho
 have q1: ∀ b,ow ρ' o b→ρ o=some (some b):=by
  intro b hb
  rcases hb with hb|hb
  ·exact hb
  ·simp [ρ'] at hb
 have hturn:=h.turn (ρ':=ρ') (w':=w) (heap':=hset σ.heap o (.row 1 (ls.map fun rows=>[.sl k rows]))) (fun y=>y=o) (fun y=>rfl)
  (fun y hy=>by simp only [ρ',hy,if_false])
  (fun y hy=>hget_hset_other hy)
  (fun y b hy hl hb=>by subst hy;exact .inr ⟨y,rfl,hlo, .inl (q1 b hb)⟩)
  (fun y y' b hy hy' hl hl' hb hb'=>hy.trans hy'.symm)
  (fun y b hy hl hb=>by subst hy;simp [ρ'] at hb)
  (fun _ _ _=>rfl) (fun _ _ hs=>hs) (Nat.le_refl _) rfl rfl rfl
  (fun y hy st hst hst2=>by
   subst hy
   rw [g1]
   simp only [RO,show ρ'.nm y=some (some g) from hg]
   refine ⟨cur,e,cap,c1,c2,c3,by simpa using c4,?_⟩
   have key: ∀ (l2:List (List (List D))) (i:Nat),(∀ j rows,l2[j]? = some rows→ls[i+j]? = some rows)→RR w st 1 g i (l2.map fun rows=>[.sl k rows]):=by
    intro l2
    induction l2 with
    | nil=>intro i _;simp [RR]
    | cons r l2 ih=>
      intro i hl
      have h0:ls[i]? = some r:=by have:=hl 0 r (by simp);simpa using this
      have hil:i<bs.length:=by rw [hN.1,List.length_map];exact (List.getElem?_eq_some_iff.1 h0).1
      obtain ⟨x,x1,x2⟩:=hN.2.2.2 i (.own r) bs[i] (by rw [List.getElem?_map,h0];rfl) (List.getElem?_eq_getElem hil)
      have hxl:x.oneCell'=true:=c2.one x (List.mem_of_getElem? (by rw [Array.getElem?_toList];exact x1))
      simp only [l_3,RR]
      refine ⟨rfl,?_,ih (i+1) (fun j rows hj=>by have:=hl (j+1) rows (by simpa using hj);rw [show i+1+j=i+(j+1) by omega];exact this)⟩
      simp only [RC]
      refine ⟨⟨x,by rw [cell_of_row w g i cur e (0,0) c1];exact x1,hxl,?_⟩,trivial⟩
      have hbi:=List.getElem?_eq_getElem hil
      simp only [R]
      cases hb:bs[i] with
      | none=>
        rw [hb] at x2
        obtain ⟨e1,a',e2⟩:=x2
        exact ⟨a',0,by rw [e1];exact e2,by rw [e1];simp,Nat.zero_le _, .inl e1⟩
      | some b=>
        rw [hb] at x2 hbi
        obtain ⟨cu,e',cp,A,n1,n2,n3,n4,n5,n6,n7⟩:=x2
        refine ⟨A,cp,n6,n4,n3,?_⟩
        cases r with
        | nil=>exact .inl rfl
        | cons r0 rs=>
          simp only [List.length_cons] at n4
          refine .inr ⟨b,0,n7 (by omega),hst2 b (.inr ⟨y,rfl,hlo, .inr (hN.2.1 i b hbi).1⟩) (fun y' hy' _ hb'=>?_),RR.mono (fun _ _ _=>rfl) (fun _ _ hs=>hs) hst (fun _=>rfl) n5⟩
          subst hy'
          have:=q1 b hb'
          rw [hg] at this
          simp only [l_5] at this
          exact (hN.2.1 i b hbi).2 this.symm
   exact key ls 0 (fun j rows hj=>by rw [Nat.zero_add];exact hj))
 exact ⟨ρ',hturn.1⟩
end Go.Avm
/- The abstract machine, part ZO: what is done to nests: cells loaded and stored, nests built and appended to. -/
namespace Go.Avm
set_option linter.unusedVariables false
set_option linter.unusedSimpArgs false
open Go.RowKit
/-- A slice as a nest's cell. -/
def ncOf (k:Nat):D→Option NC
 | .slo d k' 0 n=>if k'=k then some (.nm d n) else none
 | .sc (.slice none 0 0)=>some (.own [])
 | _=>none
theorem ncOf_sc {k:Nat} {u:Value} {c:NC} (h:ncOf k (.sc u)=some c):u = .slice none 0 0∧c = .own []:=by
 cases u with
 | slice a l cp=>
   cases a with
   | some a=>simp [ncOf] at h
   | none=>
     cases l with
     | succ l=>simp [ncOf] at h
     | zero=>
       cases cp with
       | succ cp=>simp [ncOf] at h
       | zero=>simp only [ncOf,l_5] at h;exact ⟨rfl,h.symm⟩
 | _=>simp [ncOf] at h
theorem ncOf_spec {w:World} {st:Nat→Prop} {ρ:Nat→Option (Option Nat)} {k:Nat} {d:D} {c:NC} {v:Value} (h:ncOf k d=some c) (hr:R w st ρ d v):NCok w st k ρ v none c:=by
 cases d with
 | slo d k' off n=>
   cases off with
   | succ m=>simp [ncOf] at h
   | zero=>
     simp only [ncOf] at h
     split at h
     ·rename_i e
      subst e
      simp only [l_5] at h
      subst h
      exact ⟨rfl,hr⟩
     ·cases h
 | sc u=>
   obtain ⟨rfl,rfl⟩:=ncOf_sc h
   simp only [R] at hr
   exact ⟨rfl,none,hr⟩
 | _=>simp [ncOf] at h
theorem ncOf_one {k:Nat} {d:D} {c:NC} (h:ncOf k d=some c):oneD d=true∧cellsD d=some [d]:=by
 cases d with
 | slo d k' off n=>exact ⟨rfl,rfl⟩
 | sc u=>
   obtain ⟨rfl,rfl⟩:=ncOf_sc h
   exact ⟨rfl,rfl⟩
 | _=>simp [ncOf] at h
theorem NCok.ren {w:World} {st:Nat→Prop} {ρ ρ':Nat→Option (Option Nat)} {k:Nat} {c:NC} {x:Value} {bo:Option Nat} (hn: ∀ o len,c = .nm o len→ρ' o=ρ o) (h:NCok w st k ρ x bo c):NCok w st k ρ' x bo c:=by
 cases c with
 | own rows=>exact h
 | hole=>exact h
 | nm o len=>
   have he:=hn o len rfl
   refine ⟨h.1,?_⟩
   have:=h.2
   simp only [R,he] at this ⊢
   exact this
section
variable {P:Program} {σ:St}
/-- A cell of a nest that names a row is loaded. -/
theorem Sound.loadN (t:TypeId) (x:Operand) (ti:TI) {L j k d n:Nat} {cs:List NC} (ht:tiGet P t=some ti) (hx:evl σ x = .elt L 1 j 0) (hL:hget σ.heap L = .ext (nestX k cs)) (hj:cs[j]? = some (.nm d n)) (h1:ti.size=1) (hag:ti.kind.isAgg=false):Sound P σ (.load t x) (.slo d k 0 n):=by
 intro w0 p a w ρ o ho h
 have ha:=h.evl x
 rw [hx] at ha
 simp only [R] at ha
 obtain ⟨g',a1,a2⟩:=ha
 have hro:=h.objs L
 rw [hL] at hro
 simp only [RO] at hro
 obtain ⟨g,hg,cur,e,cap,c1,c2,c3,c4,bs,hN⟩:=hro
 rw [hg] at a1
 simp only [l_5] at a1
 subst a1
 have hjl:j<cs.length:=(List.getElem?_eq_some_iff.1 hj).1
 obtain ⟨v,hv,hb,hR⟩:=hN.2.2.2 j _ _ hj (List.getElem?_eq_getElem (show j<bs.length by rw [hN.1];exact hjl))
 obtain ⟨_,hsz,_,_,hag'⟩:=run_ti ht w
 have hc:w.cell? ⟨g,j,none⟩=some v:=by rw [cell_of_row w g j cur e (0,0) c1];exact hv
 simp only [Nat.mul_one,Nat.add_zero] at a2
 exact ⟨v,by simp [execOp,ho,Instr.loadAt,a2,Instr.sureAddr,loadVar,hag',hag,hc],hR⟩
/-- A slice is stored into a cell of a nest. -/
theorem Steps1.storeN {o:Oper} {t:TypeId} {ax vx:Operand} {ti:TI} {L j k:Nat} {cs:List NC} {c:NC} (ho:o.op = .store t ax vx) (ht:tiGet P t=some ti) (h1:ti.size=1) (hax:evl σ ax = .elt L 1 j 0) (hL:hget σ.heap L = .ext (nestX k cs)) (hj:j<cs.length)
  (hc:ncOf k (evl σ vx)=some c):Steps1 P σ o (St.put { σ with heap:=hset σ.heap L (.ext (nestX k (cs.set j c))) } o.dst (.sc undef)):=by
 rintro w0 p a w ⟨ρ,h⟩
 obtain ⟨hone,hcd⟩:=ncOf_one hc
 obtain ⟨hu,hcs⟩:=oneD_spec hone (h.evl vx)
 have hcl:(a.eval vx).cells.toList=[a.eval vx]:=by rw [hcs]
 have hsz:(a.eval vx).cells.size=ti.size:=by rw [hcs,h1];rfl
 have ha:=h.evl ax
 rw [hax] at ha
 simp only [R] at ha
 obtain ⟨g',a1,a2⟩:=ha
 have hro:=h.objs L
 rw [hL] at hro
 simp only [RO] at hro
 obtain ⟨g,hg,cur,e,cap,c1,c2,c3,c4,bs,hN⟩:=hro
 rw [hg] at a1
 simp only [l_5] at a1
 subst a1
 simp only [Nat.mul_one,Nat.add_zero] at a2
 have hct:cur.toList.length=cur.size:=Array.length_toList
 have hjc:j<cur.size:=by rw [c2.size];omega
 have hfit:j+(a.eval vx).cells.toList.length≤cur.size:=by rw [hcl];simp only [List.length_singleton];omega
 have hrun:=run_storeVar ht (w:=w) (g:=g) (off:=j) (v:=a.eval vx) c1 hsz hfit (by rw [hcl];intro u hu';rw [List.mem_singleton.1 hu'];exact hu)
 refine ⟨undef,_, .inr ⟨rfl,by simp [execOp,ho,Instr.storeAt,a2,Instr.sureAddr,hrun];rfl⟩,?_⟩
 rw [hcl]
 have hlive:hget σ.heap L≠ .dead:=by rw [hL];simp
 have hsl:(splice cur.toList j [a.eval vx]).length=cur.toList.length:=splice_length (by rw [hct];simp only [List.length_singleton];omega)
 have hup:=h.upd (o:=L) (g:=g) (x:= .ext (nestX k (cs.set j c))) (cur:=cur) (cur':=(splice cur.toList j [a.eval vx]).toArray) (e:=e) hlive hg c1 (by rw [List.size_toArray,hsl,hct]) (by simp) (fun st hst=>by
  have hb: ∀ b,b≠g→(w.setRow g (splice cur.toList j [a.eval vx]).toArray).heap[b]? = w.heap[b]? :=fun b hb=>setRow_other w g b _ hb
  have hcc: ∀ b q,stab p σ.heap ρ w b→(w.setRow g (splice cur.toList j [a.eval vx]).toArray).cell? ⟨b,q,none⟩=w.cell? ⟨b,q,none⟩:=by
   intro b q hs
   refine World.cell?_of_block (w:=w) (a:=⟨b,q,none⟩) (hb b ?_)
   rintro rfl
   exact hs.2.2 L hlive (.inl hg)
  have hsh: ∀ b n,Sh w b n→Sh (w.setRow g (splice cur.toList j [a.eval vx]).toArray) b n:=by
   intro b n hh
   by_cases e':b=g
   ·subst e'
    obtain ⟨cu,e2,s1,s2⟩:=hh
    rw [c1] at s1
    simp only [l_5,Obj.cells.injEq] at s1
    exact ⟨_,e,setRow_heap w b cur _ e (0,0) c1,by rw [List.size_toArray,hsl,hct,s1.1,s2]⟩
   ·exact Sh_of_block (hb b e') hh
  have hget: ∀ i,(splice cur.toList j [a.eval vx]).toArray[i]? = if i=j then some (a.eval vx) else cur[i]? :=by
   intro i
   rw [List.getElem?_toArray]
   have:splice cur.toList j [a.eval vx]=cur.toList.set j (a.eval vx):=by
    unfold splice
    rw [List.length_singleton,List.set_eq_take_append_cons_drop,if_pos (by rw [hct];exact hjc)]
    simp
   rw [this]
   by_cases e':i=j
   ·subst e';rw [if_pos rfl,List.getElem?_set_self (by rw [hct];exact hjc)]
   ·rw [if_neg e',List.getElem?_set_ne (Ne.symm e'),Array.getElem?_toList]
  simp only [RO]
  refine ⟨g,hg,_,e,cap,setRow_heap w g cur _ e (0,0) c1,⟨by rw [List.size_toArray,hsl,hct];exact c2.size,fun v hv=>?_⟩,c3,by simpa using c4,bs.set j none,by simp [hN.1],?_,?_,?_⟩
  ·obtain ⟨i,hi⟩:=List.getElem?_of_mem hv
   rw [Array.getElem?_toList,hget] at hi
   split at hi
   ·simp only [l_5] at hi;rw [← hi];exact hu
   ·exact c2.one v (List.mem_of_getElem? (by rw [Array.getElem?_toList];exact hi))
  ·intro i b hi
   by_cases e':i=j
   ·subst e'
    rw [List.getElem?_set_self (by rw [hN.1];exact hj)] at hi;simp at hi
   ·rw [List.getElem?_set_ne (Ne.symm e')] at hi
    exact hN.2.1 i b hi
  ·intro i i' b hi hi'
   by_cases e1:i=j
   ·subst e1;rw [List.getElem?_set_self (by rw [hN.1];exact hj)] at hi;simp at hi
   ·by_cases e2:i'=j
    ·subst e2;rw [List.getElem?_set_self (by rw [hN.1];exact hj)] at hi';simp at hi'
    ·rw [List.getElem?_set_ne (Ne.symm e1)] at hi
     rw [List.getElem?_set_ne (Ne.symm e2)] at hi'
     exact hN.2.2.1 i i' b hi hi'
  ·intro i c' bi hi hbi
   rw [hget]
   by_cases e':i=j
   ·subst e'
    rw [List.getElem?_set_self hj] at hi
    rw [List.getElem?_set_self (by rw [hN.1];exact hj)] at hbi
    simp only [l_5] at hi hbi
    subst hi hbi
    exact ⟨_,if_pos rfl,NCok.mono hcc hsh hst (fun b hb'=>by cases hb') (ncOf_spec hc (h.evl vx))⟩
   ·rw [List.getElem?_set_ne (Ne.symm e')] at hi hbi
    obtain ⟨y,y1,y2⟩:=hN.2.2.2 i c' bi hi hbi
    exact ⟨y,by rw [if_neg e'];exact y1,NCok.mono hcc hsh hst (fun b hb'=>hb b (hN.2.1 i b (by rw [hbi,hb'])).2) y2⟩)
 exact ⟨ρ,hup.put o.dst (by simp only [R])⟩
/-- The cells of a nest, from the values that are put into it. -/
def ncsOf (k:Nat):List D→Option (List NC)
 | []=>some []
 | d::ds=>(ncOf k d).bind fun c=>(ncsOf k ds).map fun cs=>c::cs
theorem ncsOf_get {k:Nat}: ∀ {ds:List D} {cs:List NC},ncsOf k ds=some cs→cs.length=ds.length∧ ∀ (j:Nat) c,cs[j]? = some c→ ∃ d,ds[j]? = some d∧ncOf k d=some c
 | [],cs,h=>by simp only [ncsOf,l_5] at h;subst h;simp
 | d::ds,cs,h=>by
   simp only [ncsOf,Option.bind_eq_some_iff,Option.map_eq_some_iff] at h
   obtain ⟨c,h1,cs',h2,rfl⟩:=h
   obtain ⟨h3,h4⟩:=ncsOf_get h2
   refine ⟨by simp [h3],fun j c' hj=>?_⟩
   cases j with
   | zero=>simp only [l_6,l_5] at hj;subst hj;exact ⟨d,rfl,h1⟩
   | succ j=>exact h4 j c' (by simpa using hj)
theorem ncsOf_one {k:Nat}: ∀ {ds:List D} {cs:List NC},ncsOf k ds=some cs→ds.all oneD=true
 | [],_,_=>rfl
 | d::ds,cs,h=>by
   simp only [ncsOf,Option.bind_eq_some_iff,Option.map_eq_some_iff] at h
   obtain ⟨c,h1,cs',h2,rfl⟩:=h
   rw [List.all_cons,(ncOf_one h1).1,ncsOf_one h2];rfl
/-- A nest is built of slices. -/
theorem Steps1.buildN {o:Oper} {t:TypeId} {n d k:Nat} {parts:Array (Nat×Operand)} {ti ei:TI} {e:TypeId} {cells:List D} {cs:List NC} (ho:o.op = .buildSlice t n parts) (hdst:o.dst=some d) (hh:hfree σ.heap d=true) (ht:tiGet P t=some ti) (hk:ti.kind.elem? = some e)
  (he:tiGet P e=some ei) (h1:ei.size=1) (hn:n≤16777216) (hf:fillD (fun i=>some (i*ei.size,ei.size)) (zeroD ei.zero (n*ei.size)) (parts.toList.map fun x=>(x.1,evl σ x.2))=some cells)
  (hlen:cells.length=n) (hcs:ncsOf k cells=some cs) (hm:memN d (nmsN cs)=false):
  Steps1 P σ o (St.put { σ.kills [d] with heap:=hset (σ.kills [d]).heap d (.ext (nestX k cs)) } (some d) (.slo d 1 0 n)):=by
 rintro w0 p a w ⟨ρ,h⟩
 have hu:=run_underlying (P:=P) (slice_of_ti ht hk) w
 obtain ⟨_,hs,_,hz,_⟩:=run_ti he w
 have hle:n*ei.size≤16777216:=by rw [h1];omega
 have hz0:RL w (stab p σ.heap ρ w) ρ (zeroD ei.zero (n*ei.size)) ((List.range (n*ei.size)).map fun i=>ei.zero.cells[i%ei.zero.cells.size]!):=by
  have:zeroD ei.zero (n*ei.size)=((List.range (n*ei.size)).map fun i=>ei.zero.cells[i%ei.zero.cells.size]!).map .sc:=by simp [zeroD,List.map_map,Function.comp_def]
  rw [this];exact RL_sc _
 obtain ⟨vs',g1,h2⟩:=fill_spec (vparts:=parts.toList.map fun x=>(x.1,a.eval x.2)) hz0 (by simp [List.map_map,Function.comp_def]) (RL_parts h parts.toList) hf
 have h4:=RL_one (ncsOf_one hcs) h2
 have hvl:=RL_length h2
 obtain ⟨c1,c2⟩:=ncsOf_get hcs
 refine ⟨.slice (some ⟨w.heap.size,0,none⟩) n n,w.alloc (.cells vs'.toArray e), .inl ?_,?_⟩
 ·have hle': ¬ (n*ei.size>2^24):=by omega
  have hfill: ∀ z:Array Value,(n*ei.size=0∨z=ei.zero.cells)→Instr.fill (fun i=>some (i*ei.size,ei.size)) ((Array.range (n*ei.size)).map (z[· % z.size]!)) (parts.map fun x=>(x.1,a.eval x.2)).toList=some vs'.toArray:=by
   intro z hz'
   have ez:(Array.range (n*ei.size)).map (z[· % z.size]!)=((List.range (n*ei.size)).map fun i=>ei.zero.cells[i%ei.zero.cells.size]!).toArray:=by
    rcases hz' with h0|rfl
    ·rw [h0];simp
    ·apply Array.toList_inj.1;simp
   rw [ez,Array.toList_map];exact g1
  by_cases h0:n*ei.size=0
  ·have hf0:=hfill #[] (.inl h0)
   simp only [execOp,ho,Instr.buildSlice,Sem.run_bind,hu,Result.andThen_ok,hs,Sem.run_pure]
   rw [if_neg hle']
   simp only [Sem.run_bind,Sem.run_pure,Result.andThen_ok,if_pos h0]
   simp only [hf0,Sem.run_bind,Sem.run_pure,newRow,run_newObj,Result.andThen_ok]
   rfl
  ·have hf0:=hfill ei.zero.cells (.inr rfl)
   simp only [execOp,ho,Instr.buildSlice,Sem.run_bind,hu,Result.andThen_ok,hs,Sem.run_pure]
   rw [if_neg hle']
   simp only [Sem.run_bind,Sem.run_pure,Result.andThen_ok,if_neg h0,hz]
   simp only [hf0,Sem.run_bind,Sem.run_pure,newRow,run_newObj,Result.andThen_ok]
   rfl
 ·rw [hdst]
  have hk0:n≤maxLen:=by unfold maxLen;omega
  have hsz:vs'.length=n:=by rw [hvl,hlen]
  have hnb:=h.newBlock (ids:=[d]) (o:=d) (x:= .ext (nestX k cs)) (cur:=vs'.toArray) (e:=e) (by simp) hh (by simp) (fun st hst=>by
   simp only [RO]
   refine ⟨w.heap.size,updρ_same _ _,_,e,n,heap_alloc_new w _,⟨by rw [List.size_toArray,hsz,Nat.mul_one],fun v hv=>h4 v (by simpa using hv)⟩,hk0,by omega,cs.map (fun _=>none),by simp,?_,?_,?_⟩
   ·intro j b hj
    rw [List.getElem?_map,Option.map_eq_some_iff] at hj
    obtain ⟨_,_,hj⟩:=hj
    cases hj
   ·intro i j b hi
    rw [List.getElem?_map,Option.map_eq_some_iff] at hi
    obtain ⟨_,_,hi⟩:=hi
    cases hi
   ·intro j c bo hj hb
    rw [List.getElem?_map,Option.map_eq_some_iff] at hb
    obtain ⟨_,_,rfl⟩:=hb
    obtain ⟨dd,d1,d2⟩:=c2 j c hj
    obtain ⟨v,v1,v2⟩:=RL_get h2 d1
    refine ⟨v,by rw [List.getElem?_toArray];exact v1,NCok.ren (ρ:=ρ) (fun o' len e'=>?_) (NCok.mono (fun g off hg=>World.cell?_alloc_lt w _ ⟨g,off,none⟩ hg.2.1) (fun g n hs=>Sh_of_block (Below.heap_alloc w _ g hs.lt) hs) hst (fun b e'=>by cases e') (ncOf_spec d2 v2))⟩
    refine updρ_other (fun e2=>?_)
    subst e2
    subst e'
    have:=memN_iff.2 (mem_nmsN hj)
    rw [hm] at this;cases this)
  refine ⟨_,hnb.put (some d) ?_⟩
  simp only [R,updρ_same]
  exact .inr ⟨w.heap.size,n,_,rfl,⟨_,e,heap_alloc_new w _,by rw [List.size_toArray,hsz,Nat.mul_one]⟩,by omega,hk0,rfl,fun _=>by simp⟩
/-- One value, at the head of a slice, that may become a nest's cell. -/
def HeadN (σ:St) (k:Nat) (x:Operand) (c:NC):Prop:= ∀ w0 p a w ρ,RelAt w0 p σ a w ρ→ ∃ b cc u,a.eval x = .slice (some b) 1 cc∧w.cell? b=some u∧u.oneCell'=true∧NCok w (stab p σ.heap ρ w) k ρ u none c
/-- From a row of one cell. -/
theorem HeadN.row {k M:Nat} {x:Operand} {d:D} {c:NC} (hx:evl σ x = .slo M 1 0 1) (hM:hget σ.heap M = .row 1 [[d]]) (hc:ncOf k d=some c):HeadN σ k x c:=by
 intro w0 p a w ρ h
 have ha:=h.evl x
 rw [hx] at ha
 simp only [R] at ha
 have hro:=h.objs M
 rw [hM] at hro
 rcases ha with ⟨_,_,e,_⟩|⟨g,cap,A,e1,⟨cu,e2,m1,m2⟩,m3,m4,m5,m6⟩
 ·cases e
 ·simp only [RO,e1] at hro
  obtain ⟨cur,e',cap',r1,r2,r3,r4,r5⟩:=hro
  simp only [RR,RC] at r5
  obtain ⟨_,⟨⟨v,v1,v2,v3⟩,_⟩,_⟩:=r5
  refine ⟨⟨g,0,none⟩,cap,v,?_,v1,v2,?_⟩
  ·have hA:=m6 (by omega)
   rw [Nat.zero_mul] at hA
   rw [m5,hA,Nat.sub_zero]
  ·exact ncOf_spec hc (R.ofNone v3)
/-- From a nest of one cell that names a row. -/
theorem HeadN.nest {k M:Nat} {x:Operand} {o n:Nat} (hx:evl σ x = .slo M 1 0 1) (hM:hget σ.heap M = .ext (nestX k [.nm o n])):HeadN σ k x (.nm o n):=by
 intro w0 p a w ρ h
 have ha:=h.evl x
 rw [hx] at ha
 simp only [R] at ha
 have hro:=h.objs M
 rw [hM] at hro
 rcases ha with ⟨_,_,e,_⟩|⟨g,cap,A,e1,⟨cu,e2,m1,m2⟩,m3,m4,m5,m6⟩
 ·cases e
 ·simp only [RO,e1] at hro
  obtain ⟨g',hg,cur,e',cap',c1,c2,c3,c4,bs,hN⟩:=hro
  simp only [l_5] at hg
  subst hg
  obtain ⟨v,v1,v2,v3⟩:=hN.2.2.2 0 (.nm o n) (bs[0]'(by rw [hN.1];simp)) rfl (List.getElem?_eq_getElem _)
  refine ⟨⟨g,0,none⟩,cap,v,?_,by rw [cell_of_row w g 0 cur e' (0,0) c1];exact v1,c2.one v (List.mem_of_getElem? (by rw [Array.getElem?_toList];exact v1)),rfl,v3⟩
  have hA:=m6 (by omega)
  rw [Nat.zero_mul] at hA
  rw [m5,hA,Nat.sub_zero]
/-- An object passes to another name; its block, or what takes its place, has another content. -/
theorem RelAt.pass {w0:World} {p:Pm} {a:Act} {w w':World} {ρ:Nm} (h:RelAt w0 p σ a w ρ) {o d:Nat} {X:Obj} {z:Nat} (hlo:hget σ.heap o≠ .dead) (hh:hfree σ.heap d=true) (hne:o≠d) (hXd:X≠ .dead)
  (hz:ρ o=some (some z)∨w.heap.size≤z) (hzl:z<w'.heap.size)
  (hw: ∀ b,b<w.heap.size→ρ o≠some (some b)→w'.heap[b]? = w.heap[b]?) (hs: ∀ g n,Sh w g n→Sh w' g n) (hsz:w.heap.size≤w'.heap.size) (hos:w'.os=w.os) (htp:w'.tape=w.tape) (hout:w'.output=w.output)
  (hx: ∀ st:Nat→Prop,(∀ g,stab p σ.heap ρ w g→st g)→RO w' st ⟨fun y=>if y=d then some (some z) else ρ y,fun y=>if y=d then ρ.hid o else ρ.hid y⟩ d X):
  RelAt w0 p (({ σ.kill d with heap:=hset (hset (σ.kill d).heap o .dead) d X }:St).kill o) a w' ⟨fun y=>if y=d then some (some z) else ρ y,fun y=>if y=d then ρ.hid o else ρ.hid y⟩:=by
 obtain ⟨hd1,hd2⟩:=hfree_iff.1 hh
 let ρ1:Nm:=⟨fun y=>if y=d then some (some z) else ρ y,fun y=>if y=d then fun _=>False else ρ.hid y⟩
 have hk:RelAt w0 p (σ.kill d) a w ρ1:=h.kill d (fun y e=>⟨by simp [ρ1,e],by simp [ρ1,e]⟩) (fun h1=>by omega)
 have hlo1:hget (σ.kill d).heap o≠ .dead:=by rw [hget_kill,if_neg hne,Obj.clr_dead];exact hlo
 have hhd:hhas (σ.kill d).heap d=true:=by rw [St.kill,hhas_hset,hhas_hclr];exact hd1
 have g1:hget (hset (hset (σ.kill d).heap o .dead) d X) d=X:=hget_hset_same (by rw [hhas_hset];exact hhd)
 have g2:hget (hset (hset (σ.kill d).heap o .dead) d X) o = .dead:=by rw [hget_hset_other hne,hget_hset_same (hhas_of_hget hlo1)]
 have s1:same ρ ρ1 o:=⟨by simp [ρ1,hne],by simp [ρ1,hne]⟩
 have hturn:=hk.turn (ρ':=⟨fun y=>if y=d then some (some z) else ρ y,fun y=>if y=d then ρ.hid o else ρ.hid y⟩) (w':=w') (heap':=hset (hset (σ.kill d).heap o .dead) d X) (fun y=>y=o∨y=d) (fun y=>rfl)
  (fun y hy=>by simp only [not_or] at hy;simp only [ρ1,hy.2,if_false])
  (fun y hy=>by simp only [not_or] at hy;rw [hget_hset_other hy.2,hget_hset_other hy.1])
  (fun y b hy hl hb=>by
   rcases hy with rfl|rfl
   ·exact absurd g2 hl
   ·rcases hb with hb|hb
    ·simp only [if_true,l_5] at hb
     subst hb
     rcases hz with hz|hz
     ·exact .inr ⟨o, .inl rfl,hlo1,s1.ow.2 (.inl hz)⟩
     ·exact .inl hz
    ·simp only [if_true] at hb
     exact .inr ⟨o, .inl rfl,hlo1,s1.ow.2 (.inr hb)⟩)
  (fun y y' b hy hy' hl hl' hb hb'=>by
   rcases hy with rfl|rfl<;>rcases hy' with rfl|rfl
   ·rfl
   ·exact absurd g2 hl
   ·exact absurd g2 hl'
   ·rfl)
  (fun y b hy hl hb=>by
   rcases hy with rfl|rfl
   ·exact absurd g2 hl
   ·simp only [if_true] at hb
    exact Nat.lt_of_lt_of_le (h.hlt o b hlo hb) hsz)
  (fun b hb hnot=>hw b hb (fun e=>hnot o (.inl rfl) hlo1 (s1.ow.2 (.inl e)))) hs hsz hos htp hout
  (fun y hy st h1 _=>by
   rcases hy with rfl|rfl
   ·rw [g2];simp [RO]
   ·rw [g1]
    exact hx st (fun b hb=>h1 b ⟨hb.1,hb.2.1,fun y' hy'=>by
     rw [hget_kill] at hy'
     by_cases e:y'=y
     ·simp [e] at hy'
     ·rw [if_neg e,Obj.clr_dead] at hy'
      have:same ρ ρ1 y':=⟨by simp [ρ1,e],by simp [ρ1,e]⟩
      rw [this.ow];exact hb.2.2 y' hy'⟩))
 exact hturn.1.kill o (fun _ _=>same.refl) (fun _=>rfl)
theorem Nest.snoc {w w2:World} {st st2:Nat→Prop} {k g z:Nat} {ρ ρ2:Nat→Option (Option Nat)} {hd hd2:Nat→Prop} {cs:List NC} {cur cur2:Array Value} {bs:List (Option Nat)} {c:NC} {u:Value} (h:Nest w st k ρ hd g cs cur bs)
  (hget: ∀ (i:Nat) x,i<cs.length→cur[i]? = some x→cur2[i]? = some x) (hn:cur2[cs.length]? = some u) (hrest: ∀ (i:Nat) c bi x,cs[i]? = some c→bs[i]? = some bi→NCok w st k ρ x bi c→NCok w2 st2 k ρ2 x bi c)
  (hc:NCok w2 st2 k ρ2 u none c) (hb: ∀ (i b:Nat),bs[i]? = some (some b)→hd2 b∧b≠z):Nest w2 st2 k ρ2 hd2 z (cs++[c]) cur2 (bs++[none]):=by
 obtain ⟨n1,n2,n3,n4⟩:=h
 have old: ∀ (i b:Nat),(bs++[none])[i]? = some (some b)→bs[i]? = some (some b):=by
  intro i b hi
  by_cases e:i<bs.length
  ·rwa [List.getElem?_append_left e] at hi
  ·rw [List.getElem?_append_right (by omega)] at hi
   by_cases e2:i-bs.length=0
   ·rw [e2] at hi;simp at hi
   ·rw [List.getElem?_eq_none (by simp;omega)] at hi;cases hi
 refine ⟨by simp [n1],fun i b hi=>hb i b (old i b hi),fun i j b hi hj=>n3 i j b (old i b hi) (old j b hj),fun i c' bi hi hbi=>?_⟩
 by_cases e:i<cs.length
 ·rw [List.getElem?_append_left e] at hi
  rw [List.getElem?_append_left (by omega)] at hbi
  obtain ⟨x,x1,x2⟩:=n4 i c' bi hi hbi
  exact ⟨x,hget i x e x1,hrest i c' bi x hi hbi x2⟩
 ·rw [List.getElem?_append_right (by omega)] at hi
  rw [List.getElem?_append_right (by omega),n1] at hbi
  by_cases e2:i-cs.length=0
  ·have:i=cs.length:=by omega
   subst this
   rw [e2] at hi hbi
   simp only [l_6,l_5] at hi hbi
   subst hi hbi
   exact ⟨u,hn,hc⟩
  ·rw [List.getElem?_eq_none (by simp;omega)] at hi;cases hi
/-- A slice is appended to a nest. -/
theorem Steps1.appendN {o:Oper} {s x:Operand} {t:TypeId} {d k L n:Nat} {ti ei:TI} {e:TypeId} {cs:List NC} {c:NC} (ho:o.op = .call { callee:= .builtin .append,args:= #[s,x],argTypes:= #[t,t] })
  (hdst:o.dst=some d) (ht:tiGet P t=some ti) (hk:ti.kind.elem? = some e) (he:tiGet P e=some ei) (h1:ei.size=1) (hzs:ei.zero.cells.size=ei.size) (hz1:ei.zero.cells.toList.all (·.oneCell')=true) (hb0:0<ei.bytes) (hh:hfree σ.heap d=true)
  (hs:evl σ s = .slo L 1 0 n) (hL:hget σ.heap L = .ext (nestX k cs)) (hn:n=cs.length) (hne:L≠d) (hx:HeadN σ k x c) (hm:memN d (nmsN (cs++[c]))=false) (hb:(n+1)*ei.bytes≤140737488355328):
  Steps1 P σ o (St.put (({ σ.kill d with heap:=hset (hset (σ.kill d).heap L .dead) d (.ext (nestX k (cs++[c]))) }:St).kill L) (some d) (.slo d 1 0 (n+1))):=by
 rintro w0 p a w ⟨ρ,h⟩
 obtain ⟨i,dt,hi,hu,z1,z2,z3,z4⟩:=tiGet_spec ht
 obtain ⟨ie,de,hie,hue,y1,y2,y3,y4⟩:=tiGet_spec he
 have hut:P.underlying t=some (.slice e):=by
  cases hkk:ti.kind with
  | slice e'=>
    rw [hkk] at hk z4
    simp only [TK.elem?,l_5] at hk
    subst hk
    rw [tk_slice z4] at hu;exact hu
  | _=>rw [hkk] at hk;simp [TK.elem?] at hk
 obtain ⟨bx,cc,u,x1,x2,x3,x4⟩:=hx w0 p a w ρ h
 have h63:n+1≤maxLen:=by
  have:(n+1)*1≤(n+1)*ei.bytes:=Nat.mul_le_mul_left _ hb0
  unfold maxLen;omega
 have hro:=h.objs L
 rw [hL] at hro
 simp only [RO] at hro
 obtain ⟨g,hg,cur,e',cap,c1,c2,c3,c4,bs,hN⟩:=hro
 have hlo:hget σ.heap L≠ .dead:=by rw [hL];simp
 have has:=h.evl s
 rw [hs] at has
 simp only [R,hg] at has
 rcases has with ⟨q,_⟩|⟨g',cap2,A,q1,⟨cu2,e2,m1,m2⟩,m3,m4,m5,m6⟩
 ·cases q
 simp only [l_5] at q1
 subst q1
 rw [c1] at m1
 simp only [l_5,Obj.cells.injEq] at m1
 obtain ⟨rfl,_⟩:=m1
 have hcap:cap2=cap:=by have:=c2.size;omega
 subst hcap
 simp only [Nat.sub_zero,Nat.zero_add,Nat.zero_mul] at m3 m5 m6
 have hcs:cur.size=cap2:=by rw [c2.size,Nat.mul_one]
 have hols:(cur.toList.take n).length=n*ie.size:=by rw [y1,h1,List.length_take,Array.length_toList];omega
 have hexec: ∀ v w',(Builtin.append_ #[t,t] o.type #[.slice A n cap2, .slice (some bx) 1 cc]).run P w = .ok v w'→(execOp a.eval o).run P w = .ok (.value v) w':=by
  intro v w' h2
  simp [execOp,ho,resolve,invoke,builtin,m5,x1,h2]
 have hall:=run_append_all (P:=P) (w:=w) t o.type e ie ei.zero hut hie y3 A n cap2 (cur.toList.take n) hols m3 (by
   by_cases hn0:n=0
   ·exact .inl hn0
   ·refine .inr ⟨⟨g,0,none⟩,m6 (by omega),fun j v hj=>?_⟩
    rw [List.getElem?_take] at hj
    split at hj
    ·rw [Addr.add_lit,Nat.zero_add,cell_of_row w g j cur e' (0,0) c1, ← Array.getElem?_toList];exact hj
    ·cases hj) (some bx) 1 cc [u] (by rw [y1,h1];rfl) (.inr ⟨bx,rfl,fun j v hj=>by
   cases j with
   | zero=>simp only [l_6,l_5] at hj;subst hj;rw [show bx.add 0=bx by cases bx;rfl];exact x2
   | succ j=>simp at hj⟩) (fun v hv=>by rw [List.mem_singleton.1 hv];exact x3)
  (fun _ hle=>⟨g,0,cur,e',m6 (by omega),c1,by rw [y1,h1];simp only [List.length_singleton];omega⟩) h63 (by rw [y2];exact hb) (fun v hv=>List.all_eq_true.1 hz1 v hv) (fun v hv=>c2.one v (List.mem_of_mem_take hv))
 have nameOk: ∀ {z:Nat} {st:Nat→Prop} {w2:World} {xx:Value} {bi:Option Nat} {c':NC},c'∈cs++[c]→NCok w2 st k ρ xx bi c'→NCok w2 st k (fun y=>if y=d then some (some z) else ρ y) xx bi c':=by
  intro z st w2 xx bi c' hmem hc
  refine NCok.ren (fun o' len e2=>?_) hc
  have hod:o'≠d:=by
   rintro rfl
   subst e2
   obtain ⟨j,hj⟩:=List.getElem?_of_mem hmem
   have:=memN_iff.2 (mem_nmsN hj)
   rw [hm] at this;cases this
  simp [hod]
 rcases hall with ⟨q,_⟩|⟨_,hle,g',q,cur',e3,r1,r2,r3,r4⟩|⟨_,hlt,cap3,cur3,r1,r2,r3,r4,r5⟩
 ·cases q
 · -- in place
   rw [m6 (by omega)] at r1
   simp only [l_5,Addr.mk.injEq] at r1
   obtain ⟨rfl,rfl,_⟩:=r1
   rw [c1] at r2
   simp only [l_5,Obj.cells.injEq] at r2
   obtain ⟨rfl,rfl,_⟩:=r2
   rw [y1,h1] at r4
   simp only [Nat.zero_add,Nat.mul_one,List.length_singleton] at r4
   have hlen:(cur.toList.take n++[u]++cur.toList.drop (n+1)).toArray.size=cur.size:=by
    simp only [List.size_toArray,List.length_append,List.length_take,List.length_drop,Array.length_toList,List.length_singleton];omega
   have hbo: ∀ b,b≠g→(w.setRow g (cur.toList.take n++[u]++cur.toList.drop (n+1)).toArray).heap[b]? = w.heap[b]? :=fun b hb=>setRow_other w g b _ hb
   have hsh: ∀ b m,Sh w b m→Sh (w.setRow g (cur.toList.take n++[u]++cur.toList.drop (n+1)).toArray) b m:=by
    intro b m hhh
    by_cases e4:b=g
    ·subst e4
     obtain ⟨cu,e5,s1,s2⟩:=hhh
     rw [c1] at s1
     simp only [l_5,Obj.cells.injEq] at s1
     exact ⟨_,_,setRow_heap w b cur _ _ (0,0) c1,by rw [hlen,s1.1,s2]⟩
    ·exact Sh_of_block (hbo b e4) hhh
   refine ⟨_,_, .inl (hexec _ _ r4),?_⟩
   have hp:=h.pass (o:=L) (d:=d) (X:= .ext (nestX k (cs++[c]))) (z:=g) (w':=w.setRow g (cur.toList.take n++[u]++cur.toList.drop (n+1)).toArray) hlo hh hne (by simp) (.inl hg) (by rw [setRow_size];exact (Array.getElem?_eq_some_iff.1 c1).1)
    (fun b _ hb=>hbo b (fun e4=>hb (by rw [hg,e4]))) hsh (by rw [setRow_size];exact Nat.le_refl _) rfl rfl rfl (fun st hst=>by
     have hcc: ∀ b q,stab p σ.heap ρ w b→(w.setRow g (cur.toList.take n++[u]++cur.toList.drop (n+1)).toArray).cell? ⟨b,q,none⟩=w.cell? ⟨b,q,none⟩:=by
      intro b q hs'
      refine World.cell?_of_block (w:=w) (a:=⟨b,q,none⟩) (hbo b ?_)
      rintro rfl
      exact hs'.2.2 L hlo (.inl hg)
     simp only [RO]
     refine ⟨g,by simp,_,_,cap2,setRow_heap w g cur _ _ (0,0) c1,⟨by rw [hlen];exact c2.size,fun v hv=>?_⟩,c3,by rw [List.length_append,List.length_singleton];omega,bs++[none],?_⟩
     ·simp only [List.mem_append,List.mem_singleton] at hv
      rcases hv with (hv|hv)|hv
      ·exact c2.one v (List.mem_of_mem_take hv)
      ·rw [hv];exact x3
      ·exact c2.one v (List.mem_of_mem_drop hv)
     ·have hlt:(cur.toList.take n).length=n:=by rw [List.length_take,Array.length_toList];omega
      refine hN.snoc (u:=u) (fun i' xx hi' hxx=>?_) ?_ (fun i' c' bi xx hci hbi hc'=>nameOk (List.mem_append.2 (.inl (List.mem_of_getElem? hci))) (NCok.mono hcc hsh hst (fun b hb'=>hbo b (hN.2.1 i' b (by rw [hbi,hb'])).2) hc')) (nameOk (by simp) (NCok.mono hcc hsh hst (fun b hb'=>by cases hb') x4)) (fun i' b hib=>⟨by simpa using (hN.2.1 i' b hib).1,(hN.2.1 i' b hib).2⟩)
      ·rw [List.getElem?_toArray,List.append_assoc,List.getElem?_append_left (by omega),List.getElem?_take_of_lt (by omega),Array.getElem?_toList];exact hxx
      ·rw [List.getElem?_toArray,List.append_assoc,List.getElem?_append_right (by omega),hlt, ← hn,Nat.sub_self];rfl)
   rw [hdst]
   refine ⟨_,hp.put (some d) ?_⟩
   simp only [R]
   exact .inr ⟨g,cap2,A,by simp,hsh _ _ ⟨cur,_,c1,by rw [Nat.mul_one];exact hcs⟩,by omega,c3,rfl,fun hh'=>by rw [Nat.zero_mul];exact m6 hh'⟩
 · -- grown
   rw [y1,h1] at r3 r4
   simp only [Nat.mul_one] at r4
   have hz3:=r3 (by rw [hzs,h1])
   refine ⟨_,_, .inl (hexec _ _ r5),?_⟩
   have hsh: ∀ b m,Sh w b m→Sh (w.drew.alloc (.cells cur3 e)) b m:=fun b m hhh=>Sh_of_block (Below.heap_alloc w.drew _ b hhh.lt) hhh
   have hcl: ∀ i',i'<n+1→cur3[i']? = (cur.toList.take n++[u])[i']? :=by
    intro i' hi'
    rw [← r4,List.getElem?_take_of_lt hi',Array.getElem?_toList]
   have hp:=h.drew.pass (o:=L) (d:=d) (X:= .ext (nestX k (cs++[c]))) (z:=w.heap.size) (w':=w.drew.alloc (.cells cur3 e)) hlo hh hne (by simp) (.inr (Nat.le_refl _)) (Array.getElem?_eq_some_iff.1 (heap_alloc_new w.drew (.cells cur3 e))).1
    (fun b hb _=>Below.heap_alloc w.drew _ b hb) hsh (by simp [World.alloc]) rfl rfl rfl (fun st hst=>by
     have hst': ∀ b,stab p σ.heap ρ w b→st b:=fun b hb=>hst b hb
     have hcc: ∀ b q,stab p σ.heap ρ w b→(w.drew.alloc (.cells cur3 e)).cell? ⟨b,q,none⟩=w.cell? ⟨b,q,none⟩:=fun b q hb=>World.cell?_alloc_lt w.drew _ ⟨b,q,none⟩ hb.2.1
     simp only [RO]
     refine ⟨w.heap.size,by simp,cur3,e,cap3,heap_alloc_new w.drew _,hz3,r2,by rw [List.length_append,List.length_singleton];omega,bs++[none],?_⟩
     have hlt:(cur.toList.take n).length=n:=by rw [List.length_take,Array.length_toList];omega
     have hbl: ∀ i' b,bs[i']? = some (some b)→b<w.heap.size:=fun i' b hib=>h.hlt L b hlo (hN.2.1 i' b hib).1
     refine hN.snoc (u:=u) (fun i' xx hi' hxx=>?_) ?_ (fun i' c' bi xx hci hbi hc'=>nameOk (List.mem_append.2 (.inl (List.mem_of_getElem? hci))) (NCok.mono hcc hsh hst' (fun b hb'=>Below.heap_alloc w.drew _ b (hbl i' b (by rw [hbi,hb']))) hc')) (nameOk (by simp) (NCok.mono hcc hsh hst' (fun b hb'=>by cases hb') x4)) (fun i' b hib=>⟨by simpa using (hN.2.1 i' b hib).1,Nat.ne_of_lt (hbl i' b hib)⟩)
     ·rw [hcl i' (by omega),List.getElem?_append_left (by omega),List.getElem?_take_of_lt (by omega),Array.getElem?_toList];exact hxx
     ·rw [← hn,hcl n (by omega),List.getElem?_append_right (by omega),hlt,Nat.sub_self];rfl)
   rw [hdst]
   refine ⟨_,hp.put (some d) ?_⟩
   simp only [R]
   exact .inr ⟨w.heap.size,cap3,_,by simp,⟨cur3,e,heap_alloc_new w.drew _,hz3.size⟩,by omega,r2,rfl,fun _=>by simp⟩
/-- A slice is appended to no nest at all. -/
theorem Steps1.appendN0 {o:Oper} {s x:Operand} {t:TypeId} {d k:Nat} {ti ei:TI} {e:TypeId} {c:NC} (ho:o.op = .call { callee:= .builtin .append,args:= #[s,x],argTypes:= #[t,t] })
  (hdst:o.dst=some d) (ht:tiGet P t=some ti) (hk:ti.kind.elem? = some e) (he:tiGet P e=some ei) (h1:ei.size=1) (hzs:ei.zero.cells.size=ei.size) (hz1:ei.zero.cells.toList.all (·.oneCell')=true) (hb0:0<ei.bytes) (hh:hfree σ.heap d=true)
  (hs:evl σ s = .sc (.slice none 0 0)) (hx:HeadN σ k x c) (hm:memN d (nmsN [c])=false) (hb:ei.bytes≤140737488355328):
  Steps1 P σ o (St.put { σ.kills [d] with heap:=hset (σ.kills [d]).heap d (.ext (nestX k [c])) } (some d) (.slo d 1 0 1)):=by
 rintro w0 p a w ⟨ρ,h⟩
 obtain ⟨i,dt,hi,hu,z1,z2,z3,z4⟩:=tiGet_spec ht
 obtain ⟨ie,de,hie,hue,y1,y2,y3,y4⟩:=tiGet_spec he
 have hut:P.underlying t=some (.slice e):=by
  cases hkk:ti.kind with
  | slice e'=>
    rw [hkk] at hk z4
    simp only [TK.elem?,l_5] at hk
    subst hk
    rw [tk_slice z4] at hu;exact hu
  | _=>rw [hkk] at hk;simp [TK.elem?] at hk
 obtain ⟨bx,cc,u,x1,x2,x3,x4⟩:=hx w0 p a w ρ h
 have has:=h.evl s
 rw [hs] at has
 simp only [R] at has
 have hexec: ∀ v w',(Builtin.append_ #[t,t] o.type #[.slice none 0 0, .slice (some bx) 1 cc]).run P w = .ok v w'→(execOp a.eval o).run P w = .ok (.value v) w':=by
  intro v w' h2
  simp [execOp,ho,resolve,invoke,builtin,has,x1,h2]
 have hall:=run_append_all (P:=P) (w:=w) t o.type e ie ei.zero hut hie y3 none 0 0 [] (by simp) (Nat.le_refl _) (.inl rfl) (some bx) 1 cc [u] (by rw [y1,h1];rfl) (.inr ⟨bx,rfl,fun j v hj=>by
   cases j with
   | zero=>simp only [l_6,l_5] at hj;subst hj;rw [show bx.add 0=bx by cases bx;rfl];exact x2
   | succ j=>simp at hj⟩) (fun v hv=>by rw [List.mem_singleton.1 hv];exact x3)
  (fun _ hle=>by omega) (by unfold maxLen;omega) (by rw [y2];omega) (fun v hv=>List.all_eq_true.1 hz1 v hv) (by simp)
 rcases hall with ⟨q,_⟩|⟨_,hle,_⟩|⟨_,hlt,cap3,cur3,r1,r2,r3,r4,r5⟩
 ·cases q
 ·omega
 ·rw [y1,h1] at r3 r4
  simp only [Nat.mul_one,Nat.zero_add,List.nil_append] at r4 r1
  have hz3:=r3 (by rw [hzs,h1])
  refine ⟨_,_, .inl (hexec _ _ r5),?_⟩
  have hsh: ∀ b m,Sh w b m→Sh (w.drew.alloc (.cells cur3 e)) b m:=fun b m hhh=>Sh_of_block (Below.heap_alloc w.drew _ b hhh.lt) hhh
  have hnb:=h.drew.newBlock (ids:=[d]) (o:=d) (x:= .ext (nestX k [c])) (cur:=cur3) (e:=e) (by simp) hh (by simp) (fun st hst=>by
   simp only [RO]
   refine ⟨w.heap.size,updρ_same _ _,cur3,e,cap3,heap_alloc_new w.drew _,hz3,r2,r1,[none],rfl,?_,?_,?_⟩
   ·intro j b hj
    cases j<;>simp at hj
   ·intro i' j b hi'
    cases i'<;>simp at hi'
   ·intro j c' bo hj hbj
    cases j with
    | succ j=>simp at hj
    | zero=>
      simp only [l_6,l_5] at hj hbj
      subst hj hbj
      refine ⟨u,?_,NCok.ren (ρ:=ρ) (fun o' len e'=>?_) (NCok.mono (fun g off hg=>World.cell?_alloc_lt w.drew _ ⟨g,off,none⟩ hg.2.1) hsh hst (fun b e'=>by cases e') x4)⟩
      ·have:cur3.toList[0]? = some u:=by
        have h5:=congrArg (fun l:List Value=>l[0]?) r4
        simp only [l_6] at h5
        rwa [List.getElem?_take_of_lt (by omega)] at h5
       rw [← Array.getElem?_toList];exact this
      ·refine updρ_other (fun e2=>?_)
       subst e2
       subst e'
       simp [nmsN,memN] at hm)
  rw [hdst]
  refine ⟨_,hnb.put (some d) ?_⟩
  simp only [R,updρ_same]
  exact .inr ⟨w.heap.size,cap3,_,rfl,⟨cur3,e,heap_alloc_new w.drew _,hz3.size⟩,by omega,r2,rfl,fun _=>by simp⟩
end
section
variable {P:Program} {ds:List (Option Nat)} {Q:Exit→St→Prop} {σ σ':St} {l:List Oper} {dst:Option Nat} {ty:TypeId} {pos:String} {af:Array Edge} {g:Option (Nat×Bool)}
theorem TriD.loadN {t:TypeId} {x:Operand} {ti:TI} {L j k d n:Nat} {cs:List NC} (hg:aguardC ds g σ=some true) (ht:tiGet P t=some ti) (hx:evl σ x = .elt L 1 j 0) (hL:hget σ.heap L = .ext (nestX k cs)) (hj:cs[j]? = some (.nm d n)) (h1:ti.size=1) (hag:ti.kind.isAgg=false)
  (he:σ.put dst (.slo d k 0 n)=σ') (hn:TriD P ds Q l σ'):TriD P ds Q (⟨dst, .load t x,ty,pos,af,g⟩::l) σ:=
 fun all ha=>TriL.stepW (by rw [aguard_C ha];exact hg) (by subst he;exact (Sound.loadN t x ti ht hx hL hj h1 hag).steps) (hn all ha)
theorem TriD.storeN {t:TypeId} {ax vx:Operand} {ti:TI} {L j k:Nat} {cs:List NC} {c:NC} (hg:aguardC ds g σ=some true) (ht:tiGet P t=some ti) (h1:ti.size=1) (hax:evl σ ax = .elt L 1 j 0) (hL:hget σ.heap L = .ext (nestX k cs)) (hc:ncOf k (evl σ vx)=some c) (hj:j<cs.length)
  (he:St.put { σ with heap:=hset σ.heap L (.ext (nestX k (cs.set j c))) } dst (.sc undef)=σ') (hn:TriD P ds Q l σ'):TriD P ds Q (⟨dst, .store t ax vx,ty,pos,af,g⟩::l) σ:=
 fun all ha=>TriL.stepW (by rw [aguard_C ha];exact hg) (by subst he;exact Steps1.storeN rfl ht h1 hax hL hj hc) (hn all ha)
theorem TriD.buildN {t:TypeId} {n d k:Nat} {parts:Array (Nat×Operand)} {ti ei:TI} {e:TypeId} {cells:List D} {cs:List NC} (hg:aguardC ds g σ=some true) (ht:tiGet P t=some ti) (hk:ti.kind.elem? = some e) (he:tiGet P e=some ei) (h1:ei.size=1) (hn:n≤16777216)
  (hf:fillD (fun i=>some (i*ei.size,ei.size)) (zeroD ei.zero (n*ei.size)) (parts.toList.map fun x=>(x.1,evl σ x.2))=some cells) (hlen:cells.length=n) (hcs:ncsOf k cells=some cs) (hh:hfree σ.heap d=true) (hm:memN d (nmsN cs)=false)
  (hx:St.put { σ.kills [d] with heap:=hset (σ.kills [d]).heap d (.ext (nestX k cs)) } (some d) (.slo d 1 0 n)=σ') (hnx:TriD P ds Q l σ'):TriD P ds Q (⟨some d, .buildSlice t n parts,ty,pos,af,g⟩::l) σ:=
 fun all ha=>TriL.stepW (by rw [aguard_C ha];exact hg) (by subst hx;exact Steps1.buildN rfl rfl hh ht hk he h1 hn hf hlen hcs hm) (hnx all ha)
theorem TriD.appendN {s x:Operand} {t:TypeId} {d k L n:Nat} {ti ei:TI} {e:TypeId} {cs:List NC} {c:NC} (hg:aguardC ds g σ=some true) (ht:tiGet P t=some ti) (hk:ti.kind.elem? = some e) (he:tiGet P e=some ei) (h1:ei.size=1) (hzs:ei.zero.cells.size=ei.size) (hz1:ei.zero.cells.toList.all (·.oneCell')=true) (hb0:0<ei.bytes)
  (hs:evl σ s = .slo L 1 0 n) (hL:hget σ.heap L = .ext (nestX k cs)) (hx:HeadN σ k x c) (hh:hfree σ.heap d=true) (hne:L≠d) (hm:memN d (nmsN (cs++[c]))=false) (hn:n=cs.length) (hb:(n+1)*ei.bytes≤140737488355328)
  (hst:St.put (({ σ.kill d with heap:=hset (hset (σ.kill d).heap L .dead) d (.ext (nestX k (cs++[c]))) }:St).kill L) (some d) (.slo d 1 0 (n+1))=σ') (hnx:TriD P ds Q l σ'):TriD P ds Q (⟨some d,.call { callee:= .builtin .append,args:= #[s,x],argTypes:= #[t,t] },ty,pos,af,g⟩::l) σ:=
 fun all ha=>TriL.stepW (by rw [aguard_C ha];exact hg) (by subst hst;exact Steps1.appendN rfl rfl ht hk he h1 hzs hz1 hb0 hh hs hL hn hne hx hm hb) (hnx all ha)
theorem TriD.appendN0 {s x:Operand} {t:TypeId} {d k:Nat} {ti ei:TI} {e:TypeId} {c:NC} (hg:aguardC ds g σ=some true) (ht:tiGet P t=some ti) (hk:ti.kind.elem? = some e) (he:tiGet P e=some ei) (h1:ei.size=1) (hzs:ei.zero.cells.size=ei.size) (hz1:ei.zero.cells.toList.all (·.oneCell')=true) (hb0:0<ei.bytes)
  (hs:evl σ s = .sc (.slice none 0 0)) (hx:HeadN σ k x c) (hh:hfree σ.heap d=true) (hm:memN d (nmsN [c])=false) (hb:ei.bytes≤140737488355328)
  (hst:St.put { σ.kills [d] with heap:=hset (σ.kills [d]).heap d (.ext (nestX k [c])) } (some d) (.slo d 1 0 1)=σ') (hnx:TriD P ds Q l σ'):TriD P ds Q (⟨some d, .call { callee:= .builtin .append,args:= #[s,x],argTypes:= #[t,t] },ty,pos,af,g⟩::l) σ:=
 fun all ha=>TriL.stepW (by rw [aguard_C ha];exact hg) (by subst hst;exact Steps1.appendN0 rfl rfl ht hk he h1 hzs hz1 hb0 hh hs hx hm hb) (hnx all ha)
theorem Tri.takeN {c:Code} (o j d k:Nat) {cs:List NC} {rows:List (List D)} (ho:hget σ.heap o = .ext (nestX k cs)) (hj:cs[j]? = some (.own rows)) (hd:hfree σ.heap d=true) (hne:o≠d) (hm:memN d (nmsN cs)=false)
  (he:({ σ.kill d with heap:=hset (hset (σ.kill d).heap o (.ext (nestX k (cs.set j (.nm d rows.length))))) d (.row k rows) }:St)=σ') (h:Tri P c Q σ'):Tri P c Q σ:=Tri.imp (he▸Imp.takeN σ o j d k ho hj hd hne hm) h
theorem Tri.healN {c:Code} (o j d k:Nat) {n:Nat} {cs:List NC} {rows:List (List D)} (ho:hget σ.heap o = .ext (nestX k cs)) (hj:cs[j]? = some (.nm d n)) (hd:hget σ.heap d = .row k rows) (hn:n=rows.length) (hk:0<k) (hd3:d<1000) (hne:o≠d) (hm:memN d (nmsN (cs.set j (.own rows)))=false)
  (he:(({ σ with heap:=hset (hset σ.heap d .dead) o (.ext (nestX k (cs.set j (.own rows)))) }:St).kill d)=σ') (h:Tri P c Q σ'):Tri P c Q σ:=Tri.imp (he▸Imp.healN σ o j d k n ho hj hd hn hk hd3 hne hm) h
theorem Imp.healTo {σ2:St} (o j d k:Nat) {n:Nat} {cs:List NC} {rows:List (List D)} (ho:hget σ.heap o = .ext (nestX k cs)) (hj:cs[j]? = some (.nm d n)) (hd:hget σ.heap d = .row k rows) (hn:n=rows.length) (hk:0<k) (hd3:d<1000) (hne:o≠d) (hm:memN d (nmsN (cs.set j (.own rows)))=false)
  (he:(({ σ with heap:=hset (hset σ.heap d .dead) o (.ext (nestX k (cs.set j (.own rows)))) }:St).kill d)=σ') (h:Imp σ' σ2):Imp σ σ2:=Imp.trans (he▸Imp.healN σ o j d k n ho hj hd hn hk hd3 hne hm) h
theorem Tri.rowN {c:Code} (o k:Nat) {ls:List (List (List D))} (ho:hget σ.heap o = .ext (nestX k (ls.map .own))) (he:({ σ with heap:=hset σ.heap o (.row 1 (ls.map fun rows=>[.sl k rows])) }:St)=σ') (h:Tri P c Q σ'):Tri P c Q σ:=Tri.imp (he▸Imp.rowN σ o k ho) h
end
attribute [go_sem] nestX_nms ncOf ncsOf nmsN_own
end Go.Avm
/- The abstract machine, part ZP: scopes in which the run jumps back to one label. -/
namespace Go.Avm
set_option linter.unusedVariables false
set_option linter.unusedSimpArgs false
open Go.RowKit
def jumpQ (l:Nat) (N:St→Prop) (Q:Exit→St→Prop):Exit→St→Prop
 | .goto l',σ=>l'=l∧N σ
 | e,σ=>Q e σ
section
variable {P:Program} {Q:Exit→St→Prop} {σ:St} {N:St→Prop} {l id:Nat}
theorem jumpQ_n:jumpQ l N Q .normal σ=Q .normal σ:=rfl
theorem jumpQ_r:jumpQ l N Q .ret σ=Q .ret σ:=rfl
theorem jumpQ_e:jumpQ l N Q (.exit id) σ=Q (.exit id) σ:=rfl
theorem jumpQ_g:jumpQ l N Q (.goto l) σ=N σ:=by simp [jumpQ]
@[congr] theorem jumpQ_congr {e:Exit}:jumpQ l N Q e σ=jumpQ l N Q e σ:=rfl
/-- A scope with one label to which the run jumps back: at each jump the state is one of the family f, at an index that I lets; a measure goes down. -/
theorem Tri.jumps {τ:Type} {c rest:Code} (l:Nat) (f:τ→St) (I:τ→Prop) (μ:τ→Nat) (hf:findLabel c l=some rest)
  (first:Tri P c (jumpQ l (fun σ'=> ∃ t,I t∧Imp σ' (f t)) Q) σ)
  (pass: ∀ t,I t→Tri P rest (jumpQ l (fun σ'=> ∃ t',I t'∧μ t'<μ t∧Imp σ' (f t')) Q) (f t)):Tri P (.scope c) Q σ:=by
 intro w0 p a w hr b k cs
 have hg:gotoIn l (.inScope c::k)=some (.code rest :: .inScope c::k):=by simp [gotoIn,hf]
 have key: ∀ n t a w,μ t=n→I t→Rel w0 p (f t) a w→ ∃ e a' w',(∃ σ',Q e σ'∧Rel w0 p σ' a' w')∧Arrives P (lone (b.at a (.code rest :: .inScope c::k)) cs w) b k cs e a' w':=by
  intro n
  induction n using Nat.strongRecOn with
  | _ n ih=>
    intro t a w hn hI hrel
    obtain ⟨e,a₁,w₁,⟨σ1,hq,hr1⟩,harr⟩:=pass t hI w0 p a w hrel b (.inScope c::k) cs
    cases e with
    | normal=>exact ⟨.normal,a₁,w₁,⟨σ1,hq,hr1⟩,Steps.trans harr (.one step_inScope)⟩
    | exit id=>exact ⟨.exit id,a₁,w₁,⟨σ1,hq,hr1⟩,fun k' hk=>harr k' (by simp [exitTo,hk])⟩
    | goto l'=>
      obtain ⟨rfl,t',hI',hlt,himp⟩:=hq
      obtain ⟨e₂,a₂,w₂,hq₂,harr₂⟩:=ih _ (by omega) t' a₁ w₁ rfl hI' (himp _ _ _ _ hr1)
      exact ⟨e₂,a₂,w₂,hq₂, .of_steps (harr _ hg) harr₂⟩
    | ret=>exact ⟨_,a₁,w₁,⟨σ1,hq,hr1⟩,harr⟩
    | panic ch=>exact ⟨_,a₁,w₁,⟨σ1,hq,hr1⟩,harr⟩
    | outgrown=>exact ⟨_,a₁,w₁,⟨σ1,hq,hr1⟩,harr⟩
 obtain ⟨e,a₁,w₁,⟨σ1,hq,hr1⟩,harr⟩:=first w0 p a w hr b (.inScope c::k) cs
 cases e with
 | normal=>exact ⟨.normal,a₁,w₁,⟨σ1,hq,hr1⟩, .head step_scope (Steps.trans harr (.one step_inScope))⟩
 | exit id=>exact ⟨.exit id,a₁,w₁,⟨σ1,hq,hr1⟩,fun k' hk=> .head step_scope (harr k' (by simp [exitTo,hk]))⟩
 | goto l'=>
   obtain ⟨rfl,t',hI',himp⟩:=hq
   obtain ⟨e₂,a₂,w₂,hq₂,harr₂⟩:=key _ t' a₁ w₁ rfl hI' (himp _ _ _ _ hr1)
   exact ⟨e₂,a₂,w₂,hq₂, .of_steps (.head step_scope (harr _ hg)) harr₂⟩
 | ret=>exact ⟨_,a₁,w₁,⟨σ1,hq,hr1⟩, .of_steps (.one step_scope) harr⟩
 | panic ch=>exact ⟨_,a₁,w₁,⟨σ1,hq,hr1⟩, .of_steps (.one step_scope) harr⟩
 | outgrown=>exact ⟨_,a₁,w₁,⟨σ1,hq,hr1⟩, .of_steps (.one step_scope) harr⟩
end
attribute [go_sem] jumpQ_n jumpQ_r jumpQ_e jumpQ_g
end Go.Avm
