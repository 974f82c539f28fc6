/- The abstract machine, parts ZQ to ZQ. -/
import Derived.Test.YteemiclhnfkekaaZAvmT
/- The abstract machine, part ZQ: nests that may have no cells at all; jumps, by what turns. -/
namespace Go.Avm
set_option linter.unusedVariables false
set_option linter.unusedSimpArgs false
open Go.RowKit
/-- A nest of own rows, or no cells at all. -/
def nestO (k:Nat) (ls:List (List (List D))):Obj:=match ls with
 | []=> .row 1 []
 | l::ls=> .ext (nestX k ((l::ls).map .own))
theorem nestO_pos {k:Nat} {ls:List (List (List D))} (h:0<ls.length):nestO k ls = .ext (nestX k (ls.map .own)):=by
 cases ls with
 | nil=>simp at h
 | cons l ls=>rfl
theorem nmsN_app: ∀ a b:List NC,nmsN (a++b)=nmsN a++nmsN b
 | [],b=>rfl
 | .own _::a,b=>by simp [nmsN,nmsN_app a b]
 | .nm _ _::a,b=>by simp [nmsN,nmsN_app a b]
 | .hole::a,b=>by simp [nmsN,nmsN_app a b]
def nestQ (k:Nat) (a b:List (List (List D))):Prop:=leQO (nestO k a) (nestO k b)
theorem hset_comm: ∀ {h:List (Nat×Obj)} {o d:Nat} {x y:Obj},o≠d→hset (hset h o x) d y=hset (hset h d y) o x
 | [],_,_,_,_,_=>rfl
 | (p,z)::h,o,d,x,y,hne=>by
   by_cases e:p=o
   ·subst e
    simp [hset,hne]
   ·by_cases e':p=d
    ·subst e';simp [hset,e]
    ·simp [hset,e,e',hset_comm (h:=h) hne]
theorem hset_hset: ∀ {h:List (Nat×Obj)} {o:Nat} {x y:Obj},hset (hset h o x) o y=hset h o y
 | [],_,_,_=>rfl
 | (p,z)::h,o,x,y=>by
   by_cases e:p=o
   ·simp [hset,e]
   ·simp [hset,e,hset_hset (h:=h)]
theorem hset_self: ∀ {h:List (Nat×Obj)} {o:Nat} {x:Obj},hget h o=x→x≠ .dead→hset h o x=h
 | [],_,_,_,_=>rfl
 | (p,z)::h,o,x,hx,hd=>by
   by_cases e:p=o
   ·simp only [hget,e,if_true] at hx
    simp [hset,e,hx]
   ·simp only [hget,e,if_false] at hx
    simp [hset,e,hset_self hx hd]
theorem hclr_hset: ∀ {h:List (Nat×Obj)} {o d:Nat} {x:Obj},hclr d (hset h o x)=hset (hclr d h) o (x.clr d)
 | [],_,_,_=>rfl
 | (p,z)::h,o,d,x=>by
   by_cases e:p=o
   ·simp [hset,hclr,e]
   ·simp [hset,hclr,e,hclr_hset (h:=h)]
section
variable {P:Program} {σ:St}
theorem evl_heap {σ:St} {h:List (Nat×Obj)} (x:Operand):evl { σ with heap:=h } x=evl σ x:=by cases x<;>rfl
/-- A slice is appended to a nest, or to no cells at all. -/
theorem Steps1.appendO {o:Oper} {s x:Operand} {t:TypeId} {d k L n:Nat} {ti ei:TI} {e:TypeId} {ls:List (List (List D))} {c:NC} (ho:o.op = .call { callee:= .builtin .append,args:= #[s,x],argTypes:= #[t,t] })
  (hdst:o.dst=some d) (ht:tiGet P t=some ti) (hk:ti.kind.elem? = some e) (he:tiGet P e=some ei) (h1:ei.size=1) (hzs:ei.zero.cells.size=ei.size) (hz1:ei.zero.cells.toList.all (·.oneCell')=true) (hb0:0<ei.bytes) (hh:hfree σ.heap d=true)
  (hs:evl σ s = .slo L 1 0 n) (hL:hget σ.heap L=nestO k ls) (hn:n=ls.length) (hne:L≠d) (hx:HeadN σ k x c) (hm:memN d (nmsN [c])=false) (hb:(n+1)*ei.bytes≤140737488355328):
  Steps1 P σ o (St.put (({ σ.kill d with heap:=hset (hset (σ.kill d).heap L .dead) d (.ext (nestX k (ls.map .own++[c]))) }:St).kill L) (some d) (.slo d 1 0 (n+1))):=by
 cases ls with
 | cons l ls=>
   rw [nestO_pos (by simp)] at hL
   refine Steps1.appendN ho hdst ht hk he h1 hzs hz1 hb0 hh hs hL (by simpa using hn) hne hx ?_ hb
   rw [nmsN_app,nmsN_own,List.nil_append];exact hm
 | nil=>
   simp only [List.length_nil] at hn
   subst hn
   have hL':hget σ.heap L = .row 1 []:=hL
   have hlo:hget σ.heap L≠ .dead:=by rw [hL'];simp
   rintro w0 p a w ⟨ρ,h⟩
   have hro:=h.objs L
   rw [hL'] at hro
   cases hq:ρ L with
   | none=>simp only [RO,hq] at hro
   | some bo=>
     cases bo with
     | some g=>
       have hrec:RelAt w0 p { σ with heap:=hset σ.heap L (.ext (nestX k [])) } a w ρ:=h.recast hlo (by simp) (fun st hst=>by
        simp only [RO,hq] at hro ⊢
        obtain ⟨cur,e',cap,r1,r2,r3,r4,r5⟩:=hro
        exact ⟨g,rfl,cur,e',cap,r1,r2,r3,by simp,[],rfl,by simp,by simp,by simp⟩)
       have hx':HeadN { σ with heap:=hset σ.heap L (.ext (nestX k [])) } k x c:=by
        intro w0 p a w ρ h2
        have h3:RelAt w0 p { σ with heap:=hset (hset σ.heap L (.ext (nestX k []))) L (.row 1 []) } a w ρ:=h2.recast (by rw [show ({ σ with heap:=hset σ.heap L (.ext (nestX k [])) }:St).heap=hset σ.heap L (.ext (nestX k [])) from rfl,hget_hset_same (hhas_of_hget hlo)];simp) (by simp) (fun st hst=>by
         have:=h2.objs L
         rw [show ({ σ with heap:=hset σ.heap L (.ext (nestX k [])) }:St).heap=hset σ.heap L (.ext (nestX k [])) from rfl,hget_hset_same (hhas_of_hget hlo)] at this
         simp only [RO] at this ⊢
         obtain ⟨g',g1,cur,e',cap,r1,r2,r3,r4,_⟩:=this
         rw [g1]
         exact ⟨cur,e',cap,r1,r2,r3,by simp,by simp [RR]⟩)
        rw [hset_hset,hset_self hL' (by simp)] at h3
        obtain ⟨b,cc,u,x1,x2,x3,x4⟩:=hx w0 p a w ρ h3
        refine ⟨b,cc,u,x1,x2,x3,NCok.mono (fun _ _ _=>rfl) (fun _ _ hs=>hs) (fun b hb=>⟨hb.1,hb.2.1,fun o' ho'=>hb.2.2 o' ?_⟩) (fun _ _=>rfl) x4⟩
        by_cases e':o'=L
        ·subst e';exact hlo
        ·rw [show ({ σ with heap:=hset σ.heap L (.ext (nestX k [])) }:St).heap=hset σ.heap L (.ext (nestX k [])) from rfl,hget_hset_other e'] at ho';exact ho'
       have hfr:hfree (hset σ.heap L (.ext (nestX k []))) d=true:=by
        obtain ⟨f1,f2⟩:=hfree_iff.1 hh
        exact hfree_iff.2 ⟨by rw [hhas_hset];exact f1,f2⟩
       have hap:=Steps1.appendN (σ:={ σ with heap:=hset σ.heap L (.ext (nestX k [])) }) (cs:=[]) (c:=c) ho hdst ht hk he h1 hzs hz1 hb0 hfr (by rw [evl_heap];exact hs) (hget_hset_same (hhas_of_hget hlo)) rfl hne hx' hm hb w0 p a w ⟨ρ,hrec⟩
       obtain ⟨v,w',e1,e2⟩:=hap
       refine ⟨v,w',e1,?_⟩
       have e3:hset (hset (({ σ with heap:=hset σ.heap L (.ext (nestX k [])) }:St).kill d).heap L .dead) d (.ext (nestX k ([]++[c])))=hset (hset (σ.kill d).heap L .dead) d (.ext (nestX k (([]:List (List (List D))).map .own++[c]))):=by
        simp only [St.kill,hclr_hset,l_4]
        rw [hset_comm (h:=hclr d σ.heap) hne,hset_hset]
       rw [e3] at e2
       exact e2
     | none=>
       obtain ⟨i,dt,hi,hu,z1,z2,z3,z4⟩:=tiGet_spec ht
       obtain ⟨ie,de,hie,hue,y1,y2,y3,y4⟩:=tiGet_spec he
       have hut:P.underlying t=some (.slice e):=by
        cases hkk:ti.kind with
        | slice e'=>
          rw [hkk] at hk z4
          simp only [TK.elem?,l_5] at hk
          subst hk
          rw [tk_slice z4] at hu;exact hu
        | _=>rw [hkk] at hk;simp [TK.elem?] at hk
       obtain ⟨bx,cc,u,x1,x2,x3,x4⟩:=hx w0 p a w ρ h
       have has:=h.evl s
       rw [hs] at has
       simp only [R,hq] at has
       rcases has with ⟨_,_,_,a',has⟩|⟨g,_,_,q1,_⟩
       ·have hexec: ∀ v w',(Builtin.append_ #[t,t] o.type #[.slice a' 0 0, .slice (some bx) 1 cc]).run P w = .ok v w'→(execOp a.eval o).run P w = .ok (.value v) w':=by
         intro v w' h2
         simp [execOp,ho,resolve,invoke,builtin,has,x1,h2]
        have hall:=run_append_all (P:=P) (w:=w) t o.type e ie ei.zero hut hie y3 a' 0 0 [] (by simp) (Nat.le_refl _) (.inl rfl) (some bx) 1 cc [u] (by rw [y1,h1];rfl) (.inr ⟨bx,rfl,fun j v hj=>by
          cases j with
          | zero=>simp only [l_6,l_5] at hj;subst hj;rw [show bx.add 0=bx by cases bx;rfl];exact x2
          | succ j=>simp at hj⟩) (fun v hv=>by rw [List.mem_singleton.1 hv];exact x3)
         (fun _ hle=>by omega) (by unfold maxLen;omega) (by rw [y2];omega) (fun v hv=>List.all_eq_true.1 hz1 v hv) (by simp)
        rcases hall with ⟨q,_⟩|⟨_,hle,_⟩|⟨_,hlt,cap3,cur3,r1,r2,r3,r4,r5⟩
        ·cases q
        ·omega
        ·rw [y1,h1] at r3 r4
         simp only [Nat.mul_one,Nat.zero_add,List.nil_append] at r4 r1
         have hz3:=r3 (by rw [hzs,h1])
         refine ⟨_,_, .inl (hexec _ _ r5),?_⟩
         have hsh: ∀ b m,Sh w b m→Sh (w.drew.alloc (.cells cur3 e)) b m:=fun b m hhh=>Sh_of_block (Below.heap_alloc w.drew _ b hhh.lt) hhh
         have hnb:=h.drew.newBlock (ids:=[d]) (o:=d) (x:= .ext (nestX k [c])) (cur:=cur3) (e:=e) (by simp) hh (by simp) (fun st hst=>by
          simp only [RO]
          refine ⟨w.heap.size,updρ_same _ _,cur3,e,cap3,heap_alloc_new w.drew _,hz3,r2,r1,[none],rfl,?_,?_,?_⟩
          ·intro j b hj
           cases j<;>simp at hj
          ·intro i' j b hi'
           cases i'<;>simp at hi'
          ·intro j c' bo hj hbj
           cases j with
           | succ j=>simp at hj
           | zero=>
             simp only [l_6,l_5] at hj hbj
             subst hj hbj
             refine ⟨u,?_,NCok.ren (ρ:=ρ) (fun o' len e'=>?_) (NCok.mono (fun g off hg=>World.cell?_alloc_lt w.drew _ ⟨g,off,none⟩ hg.2.1) hsh hst (fun b e'=>by cases e') x4)⟩
             ·have:cur3.toList[0]? = some u:=by
               have h5:=congrArg (fun l:List Value=>l[0]?) r4
               simp only [l_6] at h5
               rwa [List.getElem?_take_of_lt (by omega)] at h5
              rw [← Array.getElem?_toList];exact this
             ·refine updρ_other (fun e2=>?_)
              subst e2
              subst e'
              simp [nmsN,memN] at hm)
         have hkk:=hnb.kill L (fun _ _=>same.refl) (fun _=>rfl)
         have e3:({ σ.kills [d] with heap:=hset (σ.kills [d]).heap d (.ext (nestX k [c])) }:St).kill L=({ σ.kill d with heap:=hset (hset (σ.kill d).heap L .dead) d (.ext (nestX k (([]:List (List (List D))).map .own++[c]))) }:St).kill L:=by
          simp only [St.kills,St.kill,hclr_hset,l_4,List.nil_append]
          rw [hset_comm (o:=L) (d:=d) hne,hset_hset,hset_hset]
         rw [e3] at hkk
         rw [hdst]
         refine ⟨_,hkk.put (some d) ?_⟩
         simp only [R,updρ_same]
         exact .inr ⟨w.heap.size,cap3,_,rfl,⟨cur3,e,heap_alloc_new w.drew _,hz3.size⟩,by omega,r2,rfl,fun _=>by simp⟩
       ·cases q1
end
section
variable {P:Program} {ds:List (Option Nat)} {Q:Exit→St→Prop} {σ σ':St} {l:List Oper} {dst:Option Nat} {ty:TypeId} {pos:String} {af:Array Edge} {g:Option (Nat×Bool)}
theorem nset_len {ls:List (List (List D))} {j:Nat} {c:NC}:((ls.map NC.own).set j c).length=ls.length:=by simp
theorem TriD.appendO {s x:Operand} {t:TypeId} {d k L n:Nat} {ti ei:TI} {e:TypeId} {ls:List (List (List D))} {c:NC} (hg:aguardC ds g σ=some true) (ht:tiGet P t=some ti) (hk:ti.kind.elem? = some e) (he:tiGet P e=some ei) (h1:ei.size=1) (hzs:ei.zero.cells.size=ei.size) (hz1:ei.zero.cells.toList.all (·.oneCell')=true) (hb0:0<ei.bytes)
  (hs:evl σ s = .slo L 1 0 n) (hL:hget σ.heap L=nestO k ls) (hx:HeadN σ k x c) (hh:hfree σ.heap d=true) (hne:L≠d) (hm:memN d (nmsN [c])=false) (hn:n=ls.length) (hb:(n+1)*ei.bytes≤140737488355328)
  (hst:St.put (({ σ.kill d with heap:=hset (hset (σ.kill d).heap L .dead) d (.ext (nestX k (ls.map .own++[c]))) }:St).kill L) (some d) (.slo d 1 0 (n+1))=σ') (hnx:TriD P ds Q l σ'):TriD P ds Q (⟨some d,.call { callee:= .builtin .append,args:= #[s,x],argTypes:= #[t,t] },ty,pos,af,g⟩::l) σ:=
 fun all ha=>TriL.stepW (by rw [aguard_C ha];exact hg) (by subst hst;exact Steps1.appendO rfl rfl ht hk he h1 hzs hz1 hb0 hh hs hL hn hne hx hm hb) (hnx all ha)
theorem Imp.healO {σ2:St} (o j d k:Nat) {n:Nat} {ls:List (List (List D))} {rows:List (List D)} (hj:j<ls.length) (ho:hget σ.heap o = .ext (nestX k ((ls.map .own).set j (.nm d n)))) (hd:hget σ.heap d = .row k rows) (hn:n=rows.length) (hk:0<k) (hd3:d<1000) (hne:o≠d)
  (he:(({ σ with heap:=hset (hset σ.heap d .dead) o (nestO k (ls.set j rows)) }:St).kill d)=σ') (h:Imp σ' σ2):Imp σ σ2:=by
 have e:((ls.map NC.own).set j (NC.nm d n)).set j (NC.own rows)=(ls.set j rows).map .own:=by rw [List.set_set,List.map_set]
 refine Imp.healTo o j d k ho (by rw [List.getElem?_set_self (by simpa using hj)]) hd hn hk hd3 hne (by rw [e,nmsN_own];rfl) ?_ h
 rw [e, ← he,nestO_pos (by simpa using (show 0<ls.length by omega))]
theorem Tri.healO {c:Code} (o j d k:Nat) {n:Nat} {ls:List (List (List D))} {rows:List (List D)} (hj:j<ls.length) (ho:hget σ.heap o = .ext (nestX k ((ls.map .own).set j (.nm d n)))) (hd:hget σ.heap d = .row k rows) (hn:n=rows.length) (hk:0<k) (hd3:d<1000) (hne:o≠d)
  (he:(({ σ with heap:=hset (hset σ.heap d .dead) o (nestO k (ls.set j rows)) }:St).kill d)=σ') (h:Tri P c Q σ'):Tri P c Q σ:=Tri.imp (Imp.healO o j d k hj ho hd hn hk hd3 hne he (Imp.refl _)) h
/-- The last cell, appended by name, gets its row back. -/
theorem Imp.healS {σ2:St} (o d k:Nat) {n:Nat} {ls:List (List (List D))} {rows:List (List D)} (ho:hget σ.heap o = .ext (nestX k (ls.map .own++[.nm d n]))) (hd:hget σ.heap d = .row k rows) (hn:n=rows.length) (hk:0<k) (hd3:d<1000) (hne:o≠d)
  (he:(({ σ with heap:=hset (hset σ.heap d .dead) o (nestO k (ls++[rows])) }:St).kill d)=σ') (h:Imp σ' σ2):Imp σ σ2:=by
 have e:(ls.map NC.own++[NC.nm d n]).set ls.length (NC.own rows)=(ls++[rows]).map .own:=by
  rw [List.set_append_right _ _ (by simp)];simp
 refine Imp.healTo o ls.length d k ho (by rw [List.getElem?_append_right (by simp)];simp) hd hn hk hd3 hne (by rw [e,nmsN_own];rfl) ?_ h
 rw [e, ← he,nestO_pos (by simp)]
theorem Tri.healS {c:Code} (o d k:Nat) {n:Nat} {ls:List (List (List D))} {rows:List (List D)} (ho:hget σ.heap o = .ext (nestX k (ls.map .own++[.nm d n]))) (hd:hget σ.heap d = .row k rows) (hn:n=rows.length) (hk:0<k) (hd3:d<1000) (hne:o≠d)
  (he:(({ σ with heap:=hset (hset σ.heap d .dead) o (nestO k (ls++[rows])) }:St).kill d)=σ') (h:Tri P c Q σ'):Tri P c Q σ:=Tri.imp (Imp.healS o d k ho hd hn hk hd3 hne he (Imp.refl _)) h
/-- A nest of own rows, as a row of slices. -/
theorem Imp.rowO (σ:St) (o k:Nat) {ls:List (List (List D))} (ho:hget σ.heap o=nestO k ls):Imp σ { σ with heap:=hset σ.heap o (.row 1 (ls.map fun rows=>[.sl k rows])) }:=by
 cases ls with
 | nil=>rw [l_4,hset_self (x:= .row 1 []) ho (by simp)];exact Imp.refl _
 | cons l ls=>exact Imp.rowN σ o k (ho.trans (nestO_pos (by simp)))
theorem Tri.rowO {c:Code} (o k:Nat) {ls:List (List (List D))} (ho:hget σ.heap o=nestO k ls) (he:({ σ with heap:=hset σ.heap o (.row 1 (ls.map fun rows=>[.sl k rows])) }:St)=σ') (h:Tri P c Q σ'):Tri P c Q σ:=Tri.imp (he▸Imp.rowO σ o k ho) h
theorem RetOK.rowO {fn:Func} {ins:List Nat} {ret:D} {outs:List Obj} {e:Exit} (o k:Nat) {ls:List (List (List D))} (ho:hget σ.heap o=nestO k ls) (he:({ σ with heap:=hset σ.heap o (.row 1 (ls.map fun rows=>[.sl k rows])) }:St)=σ') (h:RetOK P fn ins ret outs e σ'):RetOK P fn ins ret outs e σ:=RetOK.imp (he▸Imp.rowO σ o k ho) h
end
section
variable {P:Program} {Q:Exit→St→Prop}
end
/-- A body's end, the new names told. -/
theorem RetVn {P:Program} {fn:Func} {ins:List Nat} {ret:D} {outs:List Obj} {e:Exit} {σ:St} {rs:List ResultVar} (new:List Nat) {d:D} (hr:fn.results.toList=rs) (he:exB e=true) (hd:retD P σ rs=some d) (h:rB new d ins ret outs σ):RetOK P fn ins ret outs e σ:=by
 subst hr
 unfold rB rC at h
 split at h
 ·rename_i d' xs h1 h2 h3
  exact ⟨σ,fun _ _ _ _ h=>h,by cases e<;>simp_all [exB],new,d,nodupB_iff h1,hd,⟨d',h2,leQ_spec h.1⟩,xs,h3,leQOs_spec h.2⟩
 ·exact h.elim
theorem isResV {P:Program} {st:List Nat} {ds:List (Option Nat)} {Q:Exit→St→Prop} {e:Option St} {l:List Oper} (h:resV e P st ds Q l):resV e P st ds Q l:=h
theorem isNextM {τ:Type} {I:τ→Prop} {μ:τ→Nat} {m:Nat} {s:List D} {h:List (Nat×Obj)} {s':τ→List D} {h':τ→List (Nat×Obj)} (t':τ) (hs:LeL s (s' t')) (hh:LeH h (h' t')) (hI:I t') (hm:μ t'<m):
  ∃ t',I t'∧μ t'<m∧LeL (St.mk s h).slots (s' t')∧LeH (St.mk s h).heap (h' t'):=⟨t',hI,hm,hs,hh⟩
theorem isNextVM {τ:Type} {I:τ→Prop} {μ:τ→Nat} {m:Nat} {σ:St} {s':τ→List D} {h':τ→List (Nat×Obj)} (t':τ) (hi:Imp σ { slots:=s' t',heap:=h' t' }) (hI:I t') (hm:μ t'<m):
  ∃ t',I t'∧μ t'<m∧Imp σ { slots:=s' t',heap:=h' t' }:=⟨t',hI,hm,hi⟩
attribute [go_sem] List.set_set nset_len
end Go.Avm
/- The abstract machine, parts ZR to ZS. -/
/- The abstract machine, part ZR: the rules of a nest under two names (what is worked out ahead of its parts, and behind them). -/
namespace Go.Avm
set_option linter.unusedVariables false
set_option linter.unusedSimpArgs false
open Go.RowKit
end Go.Avm
/- The abstract machine, part ZS: maps whose elements are pointers to boxes of their own. -/
namespace Go.Avm
set_option linter.unusedVariables false
set_option linter.unusedSimpArgs false
open Go.RowKit Go.MapKept
/-- An element of such a map: a pointer to a box that the map holds, or to a named box. -/
inductive BC where
 | own (cs:List D)
 | nm (o:Nat)
def nmsB:List (Value×BC)→List Nat
 | []=>[]
 | (_, .own _)::l=>nmsB l
 | (_, .nm o)::l=>o::nmsB l
theorem mem_nmsB {o:Nat} {k:Value}: ∀ {l:List (Value×BC)} {j:Nat},l[j]? = some (k, .nm o)→o∈nmsB l
 | [],j,h=>by simp at h
 | (k',c)::l,0,h=>by simp at h;obtain ⟨rfl,rfl⟩:=h;simp [nmsB]
 | (k',c)::l,j+1,h=>by
   have:=mem_nmsB (l:=l) (j:=j) (by simpa using h)
   cases c<;>simp [nmsB,this]
def BCok (w:World) (st:Nat→Prop) (ρ:Nat→Option (Option Nat)) (v:Value) (bo:Option Nat):BC→Prop
 | .own cs=> ∃ b cur e,bo=some b∧v = .pointer (some ⟨b,0,none⟩)∧w.heap[b]? = some (.cells cur e (0,0))∧RL w st (fun _=>none) cs cur.toList
 | .nm o=>bo=none∧R w st ρ (.ref o 0) v
theorem BCok.mono {w w':World} {st st':Nat→Prop} {ρ:Nat→Option (Option Nat)} {c:BC} {v:Value} {bo:Option Nat} (hc: ∀ g off,st g→w'.cell? ⟨g,off,none⟩=w.cell? ⟨g,off,none⟩) (hs: ∀ g n,Sh w g n→Sh w' g n) (hst: ∀ g,st g→st' g)
  (hb: ∀ b,bo=some b→w'.heap[b]? = w.heap[b]?) (h:BCok w st ρ v bo c):BCok w' st' ρ v bo c:=by
 cases c with
 | own cs=>
   obtain ⟨b,cur,e,h1,h2,h3,h4⟩:=h
   exact ⟨b,cur,e,h1,h2,(hb b h1).trans h3,RL.mono hc hs hst h4⟩
 | nm o=>exact ⟨h.1,R.mono hc hs hst h.2⟩
theorem BCok.ren {w:World} {st:Nat→Prop} {ρ ρ':Nat→Option (Option Nat)} {c:BC} {v:Value} {bo:Option Nat} (hn: ∀ o,c = .nm o→ρ' o=ρ o) (h:BCok w st ρ v bo c):BCok w st ρ' v bo c:=by
 cases c with
 | own cs=>exact h
 | nm o=>
   refine ⟨h.1,?_⟩
   have:=h.2
   simp only [R,hn o rfl] at this ⊢
   exact this
/-- The entries and the blocks that they hold. -/
def MB (w:World) (st:Nat→Prop) (ρ:Nat→Option (Option Nat)) (hd:Nat→Prop) (g:Nat) (l:List (Value×BC)) (es:List MapEntry) (bs:List (Option Nat)):Prop:=
 es.length=l.length∧bs.length=l.length∧(∀ (j b:Nat),bs[j]? = some (some b)→hd b∧b≠g)∧(∀ (i j b:Nat),bs[i]? = some (some b)→bs[j]? = some (some b)→i=j)∧
  ∀ (j:Nat) k c,l[j]? = some (k,c)→ ∃ e bo,es[j]? = some e∧bs[j]? = some bo∧e.key=k∧BCok w st ρ e.val bo c
def mapB (kk:KK) (l:List (Value×BC)):Ext where
 nms:=nmsB l
 φ w st ρ hd g:= ∃ es clock,w.heap[g]? = some (.map es clock)∧Stamped es clock∧(∀ x∈es.toList,IsKey kk.desc x.key)∧ ∃ bs,MB w st ρ hd g l es.toList bs
 lt h:=by
  obtain ⟨_,_,h1,_⟩:=h
  exact (Array.getElem?_eq_some_iff.1 h1).1
 mono hc hs hst hg hb h:=by
  obtain ⟨es,cl,h1,h2,h3,bs,m1,m2,m3,m4,m5⟩:=h
  refine ⟨es,cl,hg.trans h1,h2,h3,bs,m1,m2,m3,m4,fun j k c hj=>?_⟩
  obtain ⟨e,bo,e1,e2,e3,e4⟩:=m5 j k c hj
  exact ⟨e,bo,e1,e2,e3,e4.mono hc hs hst (fun b h=>hb b (m3 j b (by rw [e2,h])).1)⟩
 loc hl h:=by
  obtain ⟨es,cl,h1,h2,h3,bs,m1,m2,m3,m4,m5⟩:=h
  refine ⟨es,cl,h1,h2,h3,bs,m1,m2,m3,m4,fun j k c hj=>?_⟩
  obtain ⟨e,bo,e1,e2,e3,e4⟩:=m5 j k c hj
  exact ⟨e,bo,e1,e2,e3,e4.ren fun o h=>hl o (mem_nmsB (by rw [hj,h]))⟩
theorem mapB_nms {kk:KK} {l:List (Value×BC)}:(mapB kk l).nms=nmsB l:=rfl
section
variable {w:World} {st:Nat→Prop} {g:Nat} {ρ:Nat→Option (Option Nat)} {hd:Nat→Prop} {l:List (Value×BC)} {es:List MapEntry} {bs:List (Option Nat)}
/-- An element told otherwise. -/
theorem MB.set {hd':Nat→Prop} {st':Nat→Prop} {ρ':Nat→Option (Option Nat)} {j:Nat} {k:Value} {c c0:BC} {bo:Option Nat} (h:MB w st ρ hd g l es bs) (hj:l[j]? = some (k,c0))
  (hrest: ∀ i k c bi v,i≠j→l[i]? = some (k,c)→bs[i]? = some bi→BCok w st ρ v bi c→BCok w st' ρ' v bi c)
  (hhd: ∀ i b,i≠j→bs[i]? = some (some b)→hd' b) (hbo: ∀ b,bo=some b→hd' b∧b≠g∧ ∀ i,i≠j→bs[i]? ≠some (some b)) (hc: ∀ e bi,es[j]? = some e→bs[j]? = some bi→BCok w st ρ e.val bi c0→BCok w st' ρ' e.val bo c):MB w st' ρ' hd' g (l.set j (k,c)) es (bs.set j bo):=by
 obtain ⟨n0,n1,n2,n3,n4⟩:=h
 have hjl:=(List.getElem?_eq_some_iff.1 hj).1
 have hjb:j<bs.length:=by omega
 refine ⟨by simp [n0],by simp [n1],fun i b hi=>?_,fun i i' b hi hi'=>?_,fun i k' c' hi=>?_⟩
 ·by_cases e:i=j
  ·subst e
   rw [List.getElem?_set_self hjb] at hi
   have:=hbo b (by simpa using hi)
   exact ⟨this.1,this.2.1⟩
  ·rw [List.getElem?_set_ne (Ne.symm e)] at hi
   exact ⟨hhd i b e hi,(n2 i b hi).2⟩
 ·by_cases e:i=j<;>by_cases e':i'=j
  ·rw [e,e']
  ·subst e
   rw [List.getElem?_set_self hjb] at hi
   rw [List.getElem?_set_ne (Ne.symm e')] at hi'
   exact absurd hi' ((hbo b (by simpa using hi)).2.2 i' e')
  ·subst e'
   rw [List.getElem?_set_self hjb] at hi'
   rw [List.getElem?_set_ne (Ne.symm e)] at hi
   exact absurd hi ((hbo b (by simpa using hi')).2.2 i e)
  ·rw [List.getElem?_set_ne (Ne.symm e)] at hi
   rw [List.getElem?_set_ne (Ne.symm e')] at hi'
   exact n3 i i' b hi hi'
 ·by_cases e:i=j
  ·subst e
   rw [List.getElem?_set_self hjl] at hi
   simp only [l_5,Prod.mk.injEq] at hi
   obtain ⟨rfl,rfl⟩:=hi
   obtain ⟨e0,bi,x1,x2,x3,x4⟩:=n4 i _ _ hj
   exact ⟨e0,bo,x1,List.getElem?_set_self hjb,x3,hc e0 bi x1 x2 x4⟩
  ·rw [List.getElem?_set_ne (Ne.symm e)] at hi
   obtain ⟨e0,bi,x1,x2,x3,x4⟩:=n4 i k' c' hi
   exact ⟨e0,bi,x1,by rw [List.getElem?_set_ne (Ne.symm e)];exact x2,x3,hrest i k' c' bi e0.val e hi x2 x4⟩
end
/-- The box of an element gets a name. -/
theorem Imp.takeB (σ:St) (o j d:Nat) {kk:KK} {l:List (Value×BC)} {k:Value} {cs:List D} (ho:hget σ.heap o = .ext (mapB kk l)) (hj:l[j]? = some (k, .own cs)) (hd:hfree σ.heap d=true) (hne:o≠d) (hm:memN d (nmsB l)=false):
  Imp σ { σ.kill d with heap:=hset (hset (σ.kill d).heap o (.ext (mapB kk (l.set j (k, .nm d))))) d (.box cs) }:=by
 rintro w0 p a w ⟨ρ,h⟩
 obtain ⟨hd1,hd2⟩:=hfree_iff.1 hd
 have hro:=h.objs o
 rw [ho] at hro
 simp only [RO] at hro
 obtain ⟨g,hg,es,cl,c1,c2,c3,bs,hN⟩:=hro
 obtain ⟨e0,bo,hx1,hbo,hx3,bb,cur,ee,rfl,hv,hcur,hRL⟩:=hN.2.2.2.2 j _ _ hj
 let ρ1:Nm:=⟨fun y=>if y=d then some (some bb) else ρ y,fun y=>if y=d then fun _=>False else ρ.hid y⟩
 let ρ':Nm:=⟨fun y=>if y=d then some (some bb) else ρ y,fun y=>if y=d then fun _=>False else if y=o then fun b=>ρ.hid o b∧bb≠b else ρ.hid y⟩
 have hk:RelAt w0 p (σ.kill d) a w ρ1:=h.kill d (fun y e=>⟨by simp [ρ1,e],by simp [ρ1,e]⟩) (fun h1=>by omega)
 have hlo:hget σ.heap o≠ .dead:=by rw [ho];simp
 have hmo:hget (σ.kill d).heap o = .ext (mapB kk l):=by
  rw [hget_kill,if_neg hne,ho,Obj.clr,mapB_nms,hm];rfl
 have hho:hhas (σ.kill d).heap o=true:=hhas_of_hget (by rw [hmo];simp)
 have hhd:hhas (σ.kill d).heap d=true:=by rw [St.kill,hhas_hset,hhas_hclr];exact hd1
 have g1:hget (hset (hset (σ.kill d).heap o (.ext (mapB kk (l.set j (k, .nm d))))) d (.box cs)) d = .box cs:=hget_hset_same (by rw [hhas_hset];exact hhd)
 have g2:hget (hset (hset (σ.kill d).heap o (.ext (mapB kk (l.set j (k, .nm d))))) d (.box cs)) o = .ext (mapB kk (l.set j (k, .nm d))):=by rw [hget_hset_other hne,hget_hset_same hho]
 have r2:ρ1.hid o=ρ.hid o:=by simp [ρ1,hne]
 have q1: ∀ b,ow ρ' o b→ow ρ1 o b:=by
  intro b hb
  rcases hb with hb|hb
  ·exact .inl hb
  ·right;simp only [ρ',hne,if_false,if_true] at hb;rw [r2];exact hb.1
 have q2: ∀ b,ow ρ' d b→bb=b:=by
  intro b hb
  rcases hb with hb|hb
  ·simpa [ρ'] using hb
  ·simp [ρ'] at hb
 have q3:ρ.hid o bb∧bb≠g:=hN.2.2.1 j bb hbo
 have hturn:=hk.turn (ρ':=ρ') (w':=w) (heap':=hset (hset (σ.kill d).heap o (.ext (mapB kk (l.set j (k, .nm d))))) d (.box cs)) (fun y=>y=o∨y=d) (fun y=>rfl)
  (fun y hy=>by simp only [not_or] at hy;simp only [ρ',ρ1,hy.1,hy.2,if_false])
  (fun y hy=>by simp only [not_or] at hy;rw [hget_hset_other hy.2,hget_hset_other hy.1])
  (fun y b hy hl hb=>by
   refine .inr ⟨o, .inl rfl,by rw [hmo];simp,?_⟩
   rcases hy with rfl|rfl
   ·exact q1 b hb
   ·right;rw [r2, ← q2 b hb];exact q3.1)
  (fun y y' b hy hy' hl hl' hb hb'=>by
   have cross:ow ρ' o b→ow ρ' d b→False:=by
    intro u v
    have e1:=q2 b v
    rcases u with u|u
    ·have:ρ o=some (some b):=by simpa [ρ',hne] using u
     rw [hg] at this
     simp only [l_5] at this
     exact q3.2 (e1.trans this.symm)
    ·simp only [ρ',hne,if_false,if_true] at u
     exact u.2 e1
   rcases hy with rfl|rfl<;>rcases hy' with rfl|rfl
   ·rfl
   ·exact (cross hb hb').elim
   ·exact (cross hb' hb).elim
   ·rfl)
  (fun y b hy hl hb=>by
   rcases hy with rfl|rfl
   ·simp only [ρ',hne,if_false,if_true] at hb;exact h.hlt y b hlo hb.1
   ·simp [ρ'] at hb)
  (fun _ _ _=>rfl) (fun _ _ hs=>hs) (Nat.le_refl _) rfl rfl rfl
  (fun y hy st h1 h2=>by
   have hst: ∀ b,stab p σ.heap ρ w b→st b:=fun b hb=>h1 b ⟨hb.1,hb.2.1,fun y' hy'=>by
    rw [hget_kill] at hy'
    by_cases e:y'=d
    ·simp [e] at hy'
    ·rw [if_neg e,Obj.clr_dead] at hy'
     have:same ρ ρ1 y':=⟨by simp [ρ1,e],by simp [ρ1,e]⟩
     rw [this.ow];exact hb.2.2 y' hy'⟩
   rcases hy with rfl|rfl
   ·rw [g2]
    refine ⟨g,by simpa [ρ',hne] using hg,es,cl,c1,c2,c3,bs.set j none,?_⟩
    refine hN.set hj (fun i k' c bi v hi hci _ hc=>?_) (fun i b hi hbi=>?_) (fun b hb=>by cases hb) (fun e bi he hbi _=>?_)
    ·refine BCok.ren (ρ:=ρ) (fun o' e'=>?_) (BCok.mono (fun _ _ _=>rfl) (fun _ _ hs=>hs) hst (fun _ _=>rfl) hc)
     have hod:o'≠d:=fun e=>by
      have:=memN_iff.2 (mem_nmsB (by rw [hci,e']))
      rw [e,hm] at this;cases this
     show ρ'.nm o'=ρ.nm o'
     simp [ρ',hod]
    ·show ρ'.hid y b
     simp only [ρ',hne,if_false,if_true]
     refine ⟨(hN.2.2.1 i b hbi).1,fun e=>hi (hN.2.2.2.1 i j b hbi (by rw [hbo,e]))⟩
    ·rw [hx1] at he
     simp only [l_5] at he
     subst he
     refine ⟨rfl,?_⟩
     simp only [R]
     exact ⟨bb,by simp [ρ'],hv⟩
   ·rw [g1]
    refine ⟨bb,cur,ee,by simp [ρ'],hcur,?_⟩
    exact RL.ofNone (RL.mono (fun _ _ _=>rfl) (fun _ _ hs=>hs) hst hRL))
 exact ⟨ρ',hturn.1⟩
/-- A named box goes back into the element that names it. -/
theorem Imp.healB (σ:St) (o j d:Nat) {kk:KK} {l:List (Value×BC)} {k:Value} {cs:List D} (ho:hget σ.heap o = .ext (mapB kk l)) (hj:l[j]? = some (k,.nm d)) (hd:hget σ.heap d = .box cs) (hp:pureL cs=true) (hd3:d<1000) (hne:o≠d) (hm:memN d (nmsB (l.set j (k,.own cs)))=false):
  Imp σ (({ σ with heap:=hset (hset σ.heap d .dead) o (.ext (mapB kk (l.set j (k, .own cs)))) }:St).kill d):=by
 rintro w0 p a w ⟨ρ,h⟩
 have hro:=h.objs o
 rw [ho] at hro
 simp only [RO] at hro
 obtain ⟨g,hg,es,cl,c1,c2,c3,bs,hN⟩:=hro
 obtain ⟨e0,bo,hx1,hbo,hx3,rfl,hno⟩:=hN.2.2.2.2 j _ _ hj
 have hrd:=h.objs d
 rw [hd] at hrd
 simp only [RO] at hrd
 obtain ⟨bd,cur,ee,hbd,hcur,hRL⟩:=hrd
 simp only [R] at hno
 obtain ⟨bd',hbd',hv⟩:=hno
 have hbd2:ρ.nm d=some (some bd):=hbd
 rw [hbd2] at hbd'
 simp only [l_5] at hbd'
 subst hbd'
 have hlo:hget σ.heap o≠ .dead:=by rw [ho];simp
 have hld:hget σ.heap d≠ .dead:=by rw [hd];simp
 have hho:hhas σ.heap o=true:=hhas_of_hget hlo
 let ρ':Nm:=⟨ρ.nm,fun y=>if y=o then fun b=>ρ.hid o b∨bd=b else ρ.hid y⟩
 have g1:hget (hset (hset σ.heap d .dead) o (.ext (mapB kk (l.set j (k, .own cs))))) o = .ext (mapB kk (l.set j (k, .own cs))):=hget_hset_same (by rw [hhas_hset];exact hho)
 have g2:hget (hset (hset σ.heap d .dead) o (.ext (mapB kk (l.set j (k, .own cs))))) d = .dead:=by rw [hget_hset_other (Ne.symm hne),hget_hset_same (hhas_of_hget hld)]
 have q1: ∀ b,ow ρ' o b→ow ρ o b∨ow ρ d b:=by
  intro b hb
  rcases hb with hb|hb
  ·exact .inl (.inl hb)
  ·simp only [ρ',if_true] at hb
   rcases hb with hb|rfl
   ·exact .inl (.inr hb)
   ·exact .inr (.inl hbd)
 have hturn:=h.turn (ρ':=ρ') (w':=w) (heap':=hset (hset σ.heap d .dead) o (.ext (mapB kk (l.set j (k, .own cs))))) (fun y=>y=o∨y=d) (fun y=>rfl)
  (fun y hy=>by simp only [not_or] at hy;simp only [ρ',hy.1,if_false])
  (fun y hy=>by simp only [not_or] at hy;rw [hget_hset_other hy.1,hget_hset_other hy.2])
  (fun y b hy hl hb=>by
   rcases hy with rfl|rfl
   ·rcases q1 b hb with h1|h1
    ·exact .inr ⟨y, .inl rfl,hlo,h1⟩
    ·exact .inr ⟨d, .inr rfl,hld,h1⟩
   ·exact absurd g2 hl)
  (fun y y' b hy hy' hl hl' hb hb'=>by
   rcases hy with rfl|rfl<;>rcases hy' with rfl|rfl
   ·rfl
   ·exact absurd g2 hl'
   ·exact absurd g2 hl
   ·rfl)
  (fun y b hy hl hb=>by
   rcases hy with rfl|rfl
   ·simp only [ρ',if_true] at hb
    rcases hb with hb|rfl
    ·exact h.hlt y b hlo hb
    ·exact h.lt_ow hld (.inl hbd)
   ·exact absurd g2 hl)
  (fun _ _ _=>rfl) (fun _ _ hs=>hs) (Nat.le_refl _) rfl rfl rfl
  (fun y hy st hst _=>by
   rcases hy with rfl|rfl
   ·rw [g1]
    refine ⟨g,hg,es,cl,c1,c2,c3,bs.set j (some bd),?_⟩
    have eh:ρ'.hid y=fun b=>ρ.hid y b∨bd=b:=by simp [ρ']
    refine hN.set hj (fun i k' c bi v hi hci hbi hc=>BCok.mono (fun _ _ _=>rfl) (fun _ _ hs=>hs) hst (fun _ _=>rfl) hc) (fun i b hi hbi=>by rw [eh];exact .inl (hN.2.2.1 i b hbi).1) (fun b hb=>?_) (fun e bi he hbi _=>?_)
    ·simp only [l_5] at hb
     subst hb
     refine ⟨by rw [eh];exact .inr rfl,fun e'=>?_,fun i hi hbi=>?_⟩
     ·subst e'
      exact hne (h.inj y d bd hlo hld (.inl hg) (.inl hbd))
     ·exact hne (h.inj y d bd hlo hld (.inr (hN.2.2.1 i bd hbi).1) (.inl hbd))
    ·rw [hx1] at he
     simp only [l_5] at he
     subst he
     exact ⟨bd,cur,ee,rfl,hv,hcur,pureL_spec hp (RL.mono (fun _ _ _=>rfl) (fun _ _ hs=>hs) hst hRL)⟩
   ·rw [g2];simp [RO])
 exact ⟨ρ',hturn.1.kill d (fun _ _=>same.refl) (fun _=>rfl)⟩
end Go.Avm
