/- The abstract machine, parts ZQ to ZQ. -/
import Derived.Test.YtmgodadmafcliaaRAvmT
/- The abstract machine, part ZQ: nests that may have no cells at all; jumps, by what turns. -/
namespace Go.Avm
set_option linter.unusedVariables false
set_option linter.unusedSimpArgs false
open Go.RowKit
/-- A nest of own rows, or no cells at all. -/
def nestO (k:Nat) (ls:List (List (List D))):Obj:=match ls with
 | []=> .row 1 []
 | l::ls=> .ext (nestX k ((l::ls).map .own))
theorem nestO_nil {k:Nat}:nestO k [] = .row 1 []:=rfl
theorem nestO_pos {k:Nat} {ls:List (List (List D))} (h:0<ls.length):nestO k ls = .ext (nestX k (ls.map .own)):=by
 cases ls with
 | nil=>simp at h
 | cons l ls=>rfl
theorem nestO_ne {k:Nat} {ls:List (List (List D))}:nestO k ls≠ .dead:=by cases ls<;>simp [nestO]
theorem nestO_clr {k o:Nat} {ls:List (List (List D))}:(nestO k ls).clr o=nestO k ls:=by
 cases ls with
 | nil=>rfl
 | cons l ls=>
   rw [nestO_pos (by simp)]
   simp only [Obj.clr,nestX_nms,memN,cond_false]
theorem nestO_ren {k:Nat} {f:List D→Option (List D)} {ls:List (List (List D))}:renO f (nestO k ls)=some (nestO k ls):=by
 cases ls with
 | nil=>rfl
 | cons l ls=>
   rw [nestO_pos (by simp)]
   simp only [renO,nestX_nms,List.isEmpty_nil,cond_true]
theorem nestO_nm {k:Nat} {ids:List Nat} {ls:List (List (List D))}:nmO ids (nestO k ls)=nestO k ls:=by cases ls<;>rfl
theorem nestO_lt {k n:Nat} {ls:List (List (List D))}:ltO n (nestO k ls)=true:=by
 cases ls with
 | nil=>rfl
 | cons l ls=>
   rw [nestO_pos (by simp)]
   simp only [ltO,nestX_nms,List.isEmpty_nil]
theorem nestO_nmsO {k:Nat} {ls:List (List (List D))}:nmsO (nestO k ls)=[]:=by cases ls<;>rfl
theorem nestO_le {k:Nat} {a b:List (List (List D))} (h:a=b):leQO (nestO k a) (nestO k b):=by
 subst h
 cases a<;>simp [nestO,leQO]
theorem nestX_nmsN {k:Nat} {cs:List NC}:(nestX k cs).nms=nmsN cs:=rfl
theorem memN_single {o d:Nat}:memN o [d]=decide (d=o):=by
 by_cases e:d=o<;>simp [memN,e]
theorem nmsN_app: ∀ a b:List NC,nmsN (a++b)=nmsN a++nmsN b
 | [],b=>rfl
 | .own _::a,b=>by simp [nmsN,nmsN_app a b]
 | .nm _ _::a,b=>by simp [nmsN,nmsN_app a b]
 | .hole::a,b=>by simp [nmsN,nmsN_app a b]
theorem nmsN_hole: ∀ {ls:List (List (List D))} {j:Nat},nmsN ((ls.map NC.own).set j .hole)=[]
 | [],j=>rfl
 | l::ls,0=>by simp only [l_3,List.set_cons_zero,nmsN,nmsN_own]
 | l::ls,j+1=>by
   simp only [l_3,List.set_cons_succ,nmsN]
   exact nmsN_hole
theorem nmsN_set {o d n:Nat}: ∀ {ls:List (List (List D))} {j:Nat},memN o (nmsN ((ls.map NC.own).set j (.nm d n)))=(decide (d=o)&&decide (j<ls.length))
 | [],j=>by simp [nmsN,memN]
 | l::ls,0=>by
   simp only [l_3,List.set_cons_zero,nmsN,nmsN_own,memN_single,List.length_cons,Nat.zero_lt_succ,decide_true,Bool.and_true]
 | l::ls,j+1=>by
   simp only [l_3,List.set_cons_succ,nmsN,List.length_cons,Nat.add_lt_add_iff_right]
   exact nmsN_set
theorem nmsN_snoc {o d n:Nat} {ls:List (List (List D))}:memN o (nmsN (ls.map NC.own++[.nm d n]))=decide (d=o):=by
 rw [nmsN_app,nmsN_own,List.nil_append];exact memN_single
def nestQ (k:Nat) (a b:List (List (List D))):Prop:=leQO (nestO k a) (nestO k b)
theorem nestQ_eq {k:Nat} {a b:List (List (List D))}:leQO (nestO k a) (nestO k b)=nestQ k a b:=rfl
theorem nestQ_of {k:Nat} {a b:List (List (List D))} (h:a=b):nestQ k a b:=nestO_le h
theorem nestQ_self {k:Nat} {a:List (List (List D))}:nestQ k a a=True:=eq_true (nestQ_of rfl)
theorem nestO_frz {o k j:Nat} {rows:List (List D)} {ls:List (List (List D))}:(nestO k ls).frz o j rows=nestO k ls:=by cases ls<;>rfl
theorem nestO_rn {o d k:Nat} {ls:List (List (List D))}:(nestO k ls).rn o d=nestO k ls:=by
 cases ls with
 | nil=>rfl
 | cons l ls=>rw [nestO_pos (by simp)];simp only [Obj.rn,nestX_nms,memN,Bool.or_self,cond_false]
theorem nestM_ren {f:List D→Option (List D)} {k:Nat} {ls:List (List (List D))}:Obj.clr.match_1 (fun _=>Option Obj) (nestO k ls) (fun cs=>Option.map Obj.box (f cs)) (fun e=>cond e.nms.isEmpty (some (.ext e)) none) (fun x=>some x)=some (nestO k ls):=nestO_ren (f:=f)
theorem nestM_clr {k o:Nat} {ls:List (List (List D))}:Obj.clr.match_1 (fun _=>Obj) (nestO k ls) (fun cs=> .box (clrL o cs)) (fun e=>cond (memN o e.nms) (.ext heldX) (.ext e)) (fun x=>x)=nestO k ls:=nestO_clr
theorem nestM_lt {k n:Nat} {ls:List (List (List D))}:Obj.clr.match_1 (fun _=>Bool) (nestO k ls) (fun cs=>ltL n cs) (fun e=>e.nms.isEmpty) (fun _=>true)=true:=nestO_lt
theorem nestM_nm {k:Nat} {ids:List Nat} {ls:List (List (List D))}:nmO.match_1 (fun _=>Obj) (nestO k ls) (fun cs=>Obj.box (nmL ids cs)) (fun _=>Obj.dead) (fun k rows=>Obj.row k rows) (fun e=>Obj.ext e)=nestO k ls:=nestO_nm
theorem nestM_frz {o k j:Nat} {rows:List (List D)} {ls:List (List (List D))}:addrCells.match_1 (fun _=>Obj) (nestO k ls) (fun cs=>Obj.box (frzL o j rows cs)) (fun x=>x)=nestO k ls:=nestO_frz
theorem nestM_rn {o d k:Nat} {ls:List (List (List D))}:Obj.rn.match_1 (fun _=>Obj) (nestO k ls) (fun cs=>Obj.box (rnL o d cs)) (fun e=>cond (memN o e.nms||memN d e.nms) (.ext heldX) (.ext e)) (fun x=>x)=nestO k ls:=nestO_rn
theorem nestM_nms {k:Nat} {ls:List (List (List D))}:nmsO.match_1 (fun _=>List Nat) (nestO k ls) (fun cs=>nmsL cs) (fun _=>[])=[]:=nestO_nmsO
/-- What is as good as a nest's cell of its own. -/
theorem nestO_set {k j:Nat} {ls:List (List (List D))} {r:List (List D)} (h:j<ls.length):Obj.ext (nestX k ((ls.map .own).set j (.own r)))=nestO k (ls.set j r):=by
 rw [nestO_pos (by simpa using (show 0<ls.length by omega)),List.map_set]
theorem nestO_snoc {k:Nat} {ls:List (List (List D))} {r:List (List D)}:Obj.ext (nestX k (ls.map .own++[.own r]))=nestO k (ls++[r]):=by
 rw [nestO_pos (by simp),List.map_append];rfl
theorem hset_comm: ∀ {h:List (Nat×Obj)} {o d:Nat} {x y:Obj},o≠d→hset (hset h o x) d y=hset (hset h d y) o x
 | [],_,_,_,_,_=>rfl
 | (p,z)::h,o,d,x,y,hne=>by
   by_cases e:p=o
   ·subst e
    simp [hset,hne]
   ·by_cases e':p=d
    ·subst e';simp [hset,e]
    ·simp [hset,e,e',hset_comm (h:=h) hne]
theorem hset_hset: ∀ {h:List (Nat×Obj)} {o:Nat} {x y:Obj},hset (hset h o x) o y=hset h o y
 | [],_,_,_=>rfl
 | (p,z)::h,o,x,y=>by
   by_cases e:p=o
   ·simp [hset,e]
   ·simp [hset,e,hset_hset (h:=h)]
theorem hset_self: ∀ {h:List (Nat×Obj)} {o:Nat} {x:Obj},hget h o=x→x≠ .dead→hset h o x=h
 | [],_,_,_,_=>rfl
 | (p,z)::h,o,x,hx,hd=>by
   by_cases e:p=o
   ·simp only [hget,e,if_true] at hx
    simp [hset,e,hx]
   ·simp only [hget,e,if_false] at hx
    simp [hset,e,hset_self hx hd]
theorem hclr_hset: ∀ {h:List (Nat×Obj)} {o d:Nat} {x:Obj},hclr d (hset h o x)=hset (hclr d h) o (x.clr d)
 | [],_,_,_=>rfl
 | (p,z)::h,o,d,x=>by
   by_cases e:p=o
   ·simp [hset,hclr,e]
   ·simp [hset,hclr,e,hclr_hset (h:=h)]
section
variable {P:Program} {σ:St}
theorem evl_heap {σ:St} {h:List (Nat×Obj)} (x:Operand):evl { σ with heap:=h } x=evl σ x:=by cases x<;>rfl
/-- A slice is appended to a nest, or to no cells at all. -/
theorem Steps1.appendO {o:Oper} {s x:Operand} {t:TypeId} {d k L n:Nat} {ti ei:TI} {e:TypeId} {ls:List (List (List D))} {c:NC} (ho:o.op = .call { callee:= .builtin .append,args:= #[s,x],argTypes:= #[t,t] })
  (hdst:o.dst=some d) (ht:tiGet P t=some ti) (hk:ti.kind.elem? = some e) (he:tiGet P e=some ei) (h1:ei.size=1) (hzs:ei.zero.cells.size=ei.size) (hz1:ei.zero.cells.toList.all (·.oneCell')=true) (hb0:0<ei.bytes) (hh:hfree σ.heap d=true)
  (hs:evl σ s = .slo L 1 0 n) (hL:hget σ.heap L=nestO k ls) (hn:n=ls.length) (hne:L≠d) (hx:HeadN σ k x c) (hm:memN d (nmsN [c])=false) (hb:(n+1)*ei.bytes≤140737488355328):
  Steps1 P σ o (St.put (({ σ.kill d with heap:=hset (hset (σ.kill d).heap L .dead) d (.ext (nestX k (ls.map .own++[c]))) }:St).kill L) (some d) (.slo d 1 0 (n+1))):=by
 cases ls with
 | cons l ls=>
   rw [nestO_pos (by simp)] at hL
   refine Steps1.appendN ho hdst ht hk he h1 hzs hz1 hb0 hh hs hL (by simpa using hn) hne hx ?_ hb
   rw [nmsN_app,nmsN_own,List.nil_append];exact hm
 | nil=>
   simp only [List.length_nil] at hn
   subst hn
   have hL':hget σ.heap L = .row 1 []:=hL
   have hlo:hget σ.heap L≠ .dead:=by rw [hL'];simp
   rintro w0 p a w ⟨ρ,h⟩
   have hro:=h.objs L
   rw [hL'] at hro
   cases hq:ρ L with
   | none=>simp only [RO,hq] at hro
   | some bo=>
     cases bo with
     | some g=>
       have hrec:RelAt w0 p { σ with heap:=hset σ.heap L (.ext (nestX k [])) } a w ρ:=h.recast hlo (by simp) (fun st hst=>by
        simp only [RO,hq] at hro ⊢
        obtain ⟨cur,e',cap,r1,r2,r3,r4,r5⟩:=hro
        exact ⟨g,rfl,cur,e',cap,r1,r2,r3,by simp,[],rfl,by simp,by simp,by simp⟩)
       have hx':HeadN { σ with heap:=hset σ.heap L (.ext (nestX k [])) } k x c:=by
        intro w0 p a w ρ h2
        have h3:RelAt w0 p { σ with heap:=hset (hset σ.heap L (.ext (nestX k []))) L (.row 1 []) } a w ρ:=h2.recast (by rw [show ({ σ with heap:=hset σ.heap L (.ext (nestX k [])) }:St).heap=hset σ.heap L (.ext (nestX k [])) from rfl,hget_hset_same (hhas_of_hget hlo)];simp) (by simp) (fun st hst=>by
         have:=h2.objs L
         rw [show ({ σ with heap:=hset σ.heap L (.ext (nestX k [])) }:St).heap=hset σ.heap L (.ext (nestX k [])) from rfl,hget_hset_same (hhas_of_hget hlo)] at this
         simp only [RO] at this ⊢
         obtain ⟨g',g1,cur,e',cap,r1,r2,r3,r4,_⟩:=this
         rw [g1]
         exact ⟨cur,e',cap,r1,r2,r3,by simp,by simp [RR]⟩)
        rw [hset_hset,hset_self hL' (by simp)] at h3
        obtain ⟨b,cc,u,x1,x2,x3,x4⟩:=hx w0 p a w ρ h3
        refine ⟨b,cc,u,x1,x2,x3,NCok.mono (fun _ _ _=>rfl) (fun _ _ hs=>hs) (fun b hb=>⟨hb.1,hb.2.1,fun o' ho'=>hb.2.2 o' ?_⟩) (fun _ _=>rfl) x4⟩
        by_cases e':o'=L
        ·subst e';exact hlo
        ·rw [show ({ σ with heap:=hset σ.heap L (.ext (nestX k [])) }:St).heap=hset σ.heap L (.ext (nestX k [])) from rfl,hget_hset_other e'] at ho';exact ho'
       have hfr:hfree (hset σ.heap L (.ext (nestX k []))) d=true:=by
        obtain ⟨f1,f2⟩:=hfree_iff.1 hh
        exact hfree_iff.2 ⟨by rw [hhas_hset];exact f1,f2⟩
       have hap:=Steps1.appendN (σ:={ σ with heap:=hset σ.heap L (.ext (nestX k [])) }) (cs:=[]) (c:=c) ho hdst ht hk he h1 hzs hz1 hb0 hfr (by rw [evl_heap];exact hs) (hget_hset_same (hhas_of_hget hlo)) rfl hne hx' hm hb w0 p a w ⟨ρ,hrec⟩
       obtain ⟨v,w',e1,e2⟩:=hap
       refine ⟨v,w',e1,?_⟩
       have e3:hset (hset (({ σ with heap:=hset σ.heap L (.ext (nestX k [])) }:St).kill d).heap L .dead) d (.ext (nestX k ([]++[c])))=hset (hset (σ.kill d).heap L .dead) d (.ext (nestX k (([]:List (List (List D))).map .own++[c]))):=by
        simp only [St.kill,hclr_hset,l_4]
        rw [hset_comm (h:=hclr d σ.heap) hne,hset_hset]
       rw [e3] at e2
       exact e2
     | none=>
       obtain ⟨i,dt,hi,hu,z1,z2,z3,z4⟩:=tiGet_spec ht
       obtain ⟨ie,de,hie,hue,y1,y2,y3,y4⟩:=tiGet_spec he
       have hut:P.underlying t=some (.slice e):=by
        cases hkk:ti.kind with
        | slice e'=>
          rw [hkk] at hk z4
          simp only [TK.elem?,l_5] at hk
          subst hk
          rw [tk_slice z4] at hu;exact hu
        | _=>rw [hkk] at hk;simp [TK.elem?] at hk
       obtain ⟨bx,cc,u,x1,x2,x3,x4⟩:=hx w0 p a w ρ h
       have has:=h.evl s
       rw [hs] at has
       simp only [R,hq] at has
       rcases has with ⟨_,_,_,a',has⟩|⟨g,_,_,q1,_⟩
       ·have hexec: ∀ v w',(Builtin.append_ #[t,t] o.type #[.slice a' 0 0, .slice (some bx) 1 cc]).run P w = .ok v w'→(execOp a.eval o).run P w = .ok (.value v) w':=by
         intro v w' h2
         simp [execOp,ho,resolve,invoke,builtin,has,x1,h2]
        have hall:=run_append_all (P:=P) (w:=w) t o.type e ie ei.zero hut hie y3 a' 0 0 [] (by simp) (Nat.le_refl _) (.inl rfl) (some bx) 1 cc [u] (by rw [y1,h1];rfl) (.inr ⟨bx,rfl,fun j v hj=>by
          cases j with
          | zero=>simp only [l_6,l_5] at hj;subst hj;rw [show bx.add 0=bx by cases bx;rfl];exact x2
          | succ j=>simp at hj⟩) (fun v hv=>by rw [List.mem_singleton.1 hv];exact x3)
         (fun _ hle=>by omega) (by unfold maxLen;omega) (by rw [y2];omega) (fun v hv=>List.all_eq_true.1 hz1 v hv) (by simp)
        rcases hall with ⟨q,_⟩|⟨_,hle,_⟩|⟨_,hlt,cap3,cur3,r1,r2,r3,r4,r5⟩
        ·cases q
        ·omega
        ·rw [y1,h1] at r3 r4
         simp only [Nat.mul_one,Nat.zero_add,List.nil_append] at r4 r1
         have hz3:=r3 (by rw [hzs,h1])
         refine ⟨_,_, .inl (hexec _ _ r5),?_⟩
         have hsh: ∀ b m,Sh w b m→Sh (w.drew.alloc (.cells cur3 e)) b m:=fun b m hhh=>Sh_of_block (Below.heap_alloc w.drew _ b hhh.lt) hhh
         have hnb:=h.drew.newBlock (ids:=[d]) (o:=d) (x:= .ext (nestX k [c])) (cur:=cur3) (e:=e) (by simp) hh (by simp) (fun st hst=>by
          simp only [RO]
          refine ⟨w.heap.size,updρ_same _ _,cur3,e,cap3,heap_alloc_new w.drew _,hz3,r2,r1,[none],rfl,?_,?_,?_⟩
          ·intro j b hj
           cases j<;>simp at hj
          ·intro i' j b hi'
           cases i'<;>simp at hi'
          ·intro j c' bo hj hbj
           cases j with
           | succ j=>simp at hj
           | zero=>
             simp only [l_6,l_5] at hj hbj
             subst hj hbj
             refine ⟨u,?_,NCok.ren (ρ:=ρ) (fun o' len e'=>?_) (NCok.mono (fun g off hg=>World.cell?_alloc_lt w.drew _ ⟨g,off,none⟩ hg.2.1) hsh hst (fun b e'=>by cases e') x4)⟩
             ·have:cur3.toList[0]? = some u:=by
               have h5:=congrArg (fun l:List Value=>l[0]?) r4
               simp only [l_6] at h5
               rwa [List.getElem?_take_of_lt (by omega)] at h5
              rw [← Array.getElem?_toList];exact this
             ·refine updρ_other (fun e2=>?_)
              subst e2
              subst e'
              simp [nmsN,memN] at hm)
         have hkk:=hnb.kill L (fun _ _=>same.refl) (fun _=>rfl)
         have e3:({ σ.kills [d] with heap:=hset (σ.kills [d]).heap d (.ext (nestX k [c])) }:St).kill L=({ σ.kill d with heap:=hset (hset (σ.kill d).heap L .dead) d (.ext (nestX k (([]:List (List (List D))).map .own++[c]))) }:St).kill L:=by
          simp only [St.kills,St.kill,hclr_hset,l_4,List.nil_append]
          rw [hset_comm (o:=L) (d:=d) hne,hset_hset,hset_hset]
         rw [e3] at hkk
         rw [hdst]
         refine ⟨_,hkk.put (some d) ?_⟩
         simp only [R,updρ_same]
         exact .inr ⟨w.heap.size,cap3,_,rfl,⟨cur3,e,heap_alloc_new w.drew _,hz3.size⟩,by omega,r2,rfl,fun _=>by simp⟩
       ·cases q1
end
section
variable {P:Program} {ds:List (Option Nat)} {Q:Exit→St→Prop} {σ σ':St} {l:List Oper} {dst:Option Nat} {ty:TypeId} {pos:String} {af:Array Edge} {g:Option (Nat×Bool)}
theorem isLoadN {t:TypeId} {x:Operand} (h:TriD P ds Q (⟨dst, .load t x,ty,pos,af,g⟩::l) σ):TriD P ds Q (⟨dst, .load t x,ty,pos,af,g⟩::l) σ:=h
theorem isStoreN {t:TypeId} {x y:Operand} (h:TriD P ds Q (⟨dst, .store t x y,ty,pos,af,g⟩::l) σ):TriD P ds Q (⟨dst, .store t x y,ty,pos,af,g⟩::l) σ:=h
theorem isBuildN {t:TypeId} {n:Nat} {p:Array (Nat×Operand)} (h:TriD P ds Q (⟨dst, .buildSlice t n p,ty,pos,af,g⟩::l) σ):TriD P ds Q (⟨dst, .buildSlice t n p,ty,pos,af,g⟩::l) σ:=h
theorem nget_set {ls:List (List (List D))} {j:Nat} {c:NC} (h:j<ls.length):((ls.map NC.own).set j c)[j]? = some c:=by rw [List.getElem?_set_self (by simpa using h)]
theorem nset_len {ls:List (List (List D))} {j:Nat} {c:NC}:((ls.map NC.own).set j c).length=ls.length:=by simp
/-- A named cell is not known any more. -/
theorem Imp.holeN (σ:St) (o j k:Nat) {d n:Nat} {cs:List NC} (ho:hget σ.heap o = .ext (nestX k cs)) (hj:cs[j]? = some (.nm d n)):Imp σ { σ with heap:=hset σ.heap o (.ext (nestX k (cs.set j .hole))) }:=by
 rintro w0 p a w ⟨ρ,h⟩
 refine ⟨ρ,h.recast (by rw [ho];simp) (by simp) (fun st hst=>?_)⟩
 have hro:=h.objs o
 rw [ho] at hro
 simp only [RO] at hro ⊢
 obtain ⟨g,hg,cur,e,cap,c1,c2,c3,c4,bs,n1,n2,n3,n4⟩:=hro
 have hjl:=(List.getElem?_eq_some_iff.1 hj).1
 refine ⟨g,hg,cur,e,cap,c1,c2,c3,by rw [List.length_set];exact c4,bs,by rw [List.length_set];exact n1,n2,n3,fun i c' bi hi hbi=>?_⟩
 by_cases e':i=j
 ·subst e'
  rw [List.getElem?_set_self hjl] at hi
  simp only [l_5] at hi
  subst hi
  obtain ⟨x,x1,x2⟩:=n4 i _ bi hj hbi
  exact ⟨x,x1,x2.1⟩
 ·rw [List.getElem?_set_ne (Ne.symm e')] at hi
  obtain ⟨x,x1,x2⟩:=n4 i c' bi hi hbi
  exact ⟨x,x1,NCok.mono (fun _ _ _=>rfl) (fun _ _ hs=>hs) hst (fun _ _=>rfl) x2⟩
/-- A named cell is loaded, and what it holds is not asked any more. -/
theorem TriD.loadH {t:TypeId} {x:Operand} {ti:TI} {L j k d n:Nat} {cs:List NC} (hg:aguardC ds g σ=some true) (ht:tiGet P t=some ti) (hx:evl σ x = .elt L 1 j 0) (hL:hget σ.heap L = .ext (nestX k cs)) (hj:cs[j]? = some (.nm d n)) (h1:ti.size=1) (hag:ti.kind.isAgg=false)
  (he:St.put { σ with heap:=hset σ.heap L (.ext (nestX k (cs.set j .hole))) } dst (.slo d k 0 n)=σ') (hn:TriD P ds Q l σ'):TriD P ds Q (⟨dst, .load t x,ty,pos,af,g⟩::l) σ:=by
 subst he
 refine TriD.loadN hg ht hx hL hj h1 hag rfl (fun all ha=>TriL.imp ?_ (hn all ha))
 have hi:=Imp.holeN (σ.put dst (.slo d k 0 n)) L j k (d:=d) (n:=n) (cs:=cs) (by cases dst<;>exact hL) hj
 have e:({ σ.put dst (.slo d k 0 n) with heap:=hset (σ.put dst (.slo d k 0 n)).heap L (.ext (nestX k (cs.set j .hole))) }:St)=St.put { σ with heap:=hset σ.heap L (.ext (nestX k (cs.set j .hole))) } dst (.slo d k 0 n):=by cases dst<;>rfl
 rw [e] at hi
 exact hi
theorem TriD.appendO {s x:Operand} {t:TypeId} {d k L n:Nat} {ti ei:TI} {e:TypeId} {ls:List (List (List D))} {c:NC} (hg:aguardC ds g σ=some true) (ht:tiGet P t=some ti) (hk:ti.kind.elem? = some e) (he:tiGet P e=some ei) (h1:ei.size=1) (hzs:ei.zero.cells.size=ei.size) (hz1:ei.zero.cells.toList.all (·.oneCell')=true) (hb0:0<ei.bytes)
  (hs:evl σ s = .slo L 1 0 n) (hL:hget σ.heap L=nestO k ls) (hx:HeadN σ k x c) (hh:hfree σ.heap d=true) (hne:L≠d) (hm:memN d (nmsN [c])=false) (hn:n=ls.length) (hb:(n+1)*ei.bytes≤140737488355328)
  (hst:St.put (({ σ.kill d with heap:=hset (hset (σ.kill d).heap L .dead) d (.ext (nestX k (ls.map .own++[c]))) }:St).kill L) (some d) (.slo d 1 0 (n+1))=σ') (hnx:TriD P ds Q l σ'):TriD P ds Q (⟨some d, .call { callee:= .builtin .append,args:= #[s,x],argTypes:= #[t,t] },ty,pos,af,g⟩::l) σ:=
 fun all ha=>TriL.stepW (by rw [aguard_C ha];exact hg) (by subst hst;exact Steps1.appendO rfl rfl ht hk he h1 hzs hz1 hb0 hh hs hL hn hne hx hm hb) (hnx all ha)
/-- The row of cell j of a nest of own rows gets the name d. -/
theorem Tri.takeO {c:Code} (o j d k:Nat) {ls:List (List (List D))} {rows:List (List D)} (ho:hget σ.heap o=nestO k ls) (hj:ls[j]? = some rows) (hd:hfree σ.heap d=true) (hne:o≠d)
  (he:({ σ.kill d with heap:=hset (hset (σ.kill d).heap o (.ext (nestX k ((ls.map .own).set j (.nm d rows.length))))) d (.row k rows) }:St)=σ') (h:Tri P c Q σ'):Tri P c Q σ:=
 Tri.takeN o j d k (ho.trans (nestO_pos (by have:=(List.getElem?_eq_some_iff.1 hj).1;omega))) (by rw [List.getElem?_map,hj];rfl) hd hne (by rw [nmsN_own];rfl) he h
theorem Imp.healO {σ2:St} (o j d k:Nat) {n:Nat} {ls:List (List (List D))} {rows:List (List D)} (hj:j<ls.length) (ho:hget σ.heap o = .ext (nestX k ((ls.map .own).set j (.nm d n)))) (hd:hget σ.heap d = .row k rows) (hn:n=rows.length) (hk:0<k) (hd3:d<1000) (hne:o≠d)
  (he:(({ σ with heap:=hset (hset σ.heap d .dead) o (nestO k (ls.set j rows)) }:St).kill d)=σ') (h:Imp σ' σ2):Imp σ σ2:=by
 have e:((ls.map NC.own).set j (NC.nm d n)).set j (NC.own rows)=(ls.set j rows).map .own:=by rw [List.set_set,List.map_set]
 refine Imp.healTo o j d k ho (by rw [List.getElem?_set_self (by simpa using hj)]) hd hn hk hd3 hne (by rw [e,nmsN_own];rfl) ?_ h
 rw [e, ← he,nestO_pos (by simpa using (show 0<ls.length by omega))]
theorem Tri.healO {c:Code} (o j d k:Nat) {n:Nat} {ls:List (List (List D))} {rows:List (List D)} (hj:j<ls.length) (ho:hget σ.heap o = .ext (nestX k ((ls.map .own).set j (.nm d n)))) (hd:hget σ.heap d = .row k rows) (hn:n=rows.length) (hk:0<k) (hd3:d<1000) (hne:o≠d)
  (he:(({ σ with heap:=hset (hset σ.heap d .dead) o (nestO k (ls.set j rows)) }:St).kill d)=σ') (h:Tri P c Q σ'):Tri P c Q σ:=Tri.imp (Imp.healO o j d k hj ho hd hn hk hd3 hne he (Imp.refl _)) h
/-- The last cell, appended by name, gets its row back. -/
theorem Imp.healS {σ2:St} (o d k:Nat) {n:Nat} {ls:List (List (List D))} {rows:List (List D)} (ho:hget σ.heap o = .ext (nestX k (ls.map .own++[.nm d n]))) (hd:hget σ.heap d = .row k rows) (hn:n=rows.length) (hk:0<k) (hd3:d<1000) (hne:o≠d)
  (he:(({ σ with heap:=hset (hset σ.heap d .dead) o (nestO k (ls++[rows])) }:St).kill d)=σ') (h:Imp σ' σ2):Imp σ σ2:=by
 have e:(ls.map NC.own++[NC.nm d n]).set ls.length (NC.own rows)=(ls++[rows]).map .own:=by
  rw [List.set_append_right _ _ (by simp)];simp
 refine Imp.healTo o ls.length d k ho (by rw [List.getElem?_append_right (by simp)];simp) hd hn hk hd3 hne (by rw [e,nmsN_own];rfl) ?_ h
 rw [e, ← he,nestO_pos (by simp)]
theorem Tri.healS {c:Code} (o d k:Nat) {n:Nat} {ls:List (List (List D))} {rows:List (List D)} (ho:hget σ.heap o = .ext (nestX k (ls.map .own++[.nm d n]))) (hd:hget σ.heap d = .row k rows) (hn:n=rows.length) (hk:0<k) (hd3:d<1000) (hne:o≠d)
  (he:(({ σ with heap:=hset (hset σ.heap d .dead) o (nestO k (ls++[rows])) }:St).kill d)=σ') (h:Tri P c Q σ'):Tri P c Q σ:=Tri.imp (Imp.healS o d k ho hd hn hk hd3 hne he (Imp.refl _)) h
/-- A nest of own rows, as a row of slices. -/
theorem Imp.rowO (σ:St) (o k:Nat) {ls:List (List (List D))} (ho:hget σ.heap o=nestO k ls):Imp σ { σ with heap:=hset σ.heap o (.row 1 (ls.map fun rows=>[.sl k rows])) }:=by
 cases ls with
 | nil=>rw [l_4,hset_self (x:= .row 1 []) ho (by simp)];exact Imp.refl _
 | cons l ls=>exact Imp.rowN σ o k (ho.trans (nestO_pos (by simp)))
theorem Tri.rowO {c:Code} (o k:Nat) {ls:List (List (List D))} (ho:hget σ.heap o=nestO k ls) (he:({ σ with heap:=hset σ.heap o (.row 1 (ls.map fun rows=>[.sl k rows])) }:St)=σ') (h:Tri P c Q σ'):Tri P c Q σ:=Tri.imp (he▸Imp.rowO σ o k ho) h
theorem RetOK.rowO {fn:Func} {ins:List Nat} {ret:D} {outs:List Obj} {e:Exit} (o k:Nat) {ls:List (List (List D))} (ho:hget σ.heap o=nestO k ls) (he:({ σ with heap:=hset σ.heap o (.row 1 (ls.map fun rows=>[.sl k rows])) }:St)=σ') (h:RetOK P fn ins ret outs e σ'):RetOK P fn ins ret outs e σ:=RetOK.imp (he▸Imp.rowO σ o k ho) h
/-- Facts may be forgotten. -/
theorem Tri.setO {c:Code} (o:Nat) {X Y:Obj} (ho:hget σ.heap o=X) (hXY:X=Y) (hd:X≠ .dead) (he:({ σ with heap:=hset σ.heap o Y }:St)=σ') (h:Tri P c Q σ'):Tri P c Q σ:=by
 subst hXY
 rw [hset_self ho hd] at he
 subst he
 exact h
end
section
variable {P:Program} {Q:Exit→St→Prop}
/-- A scope with one label to which the run jumps back, by what turns. -/
theorem Tri.jumpsU {s:List D} {h:List (Nat×Obj)} {τ:Type} {x c rest:Code} (lb:Nat) (l:τ→List (Nat×D)) (m:τ→List (Nat×Obj)) (I:τ→Prop) (μ:τ→Nat) (t0:τ) (h0:I t0)
  {s':τ→List D} {h':τ→List (Nat×Obj)} {s1:List D} {h1:List (Nat×Obj)} (hf:findLabel c lb=some rest) (hfr:findLabel c lb=some rest→True)
  (es: ∀ t,setL (l t) s=s' t) (eh: ∀ t,setH (m t) h=h' t)
  (first:(∀ t,I t→Tri P rest (jumpQ lb (fun σ'=> ∃ t',I t'∧μ t'<μ t∧Imp σ' { slots:=s' t',heap:=h' t' }) Q) { slots:=s' t,heap:=h' t })→Tri P c (jumpQ lb (fun σ'=> ∃ t,I t∧Imp σ' { slots:=s' t,heap:=h' t }) Q) { slots:=s1,heap:=h1 })
  (pass: ∀ t,I t→Tri P rest (jumpQ lb (fun σ'=> ∃ t',I t'∧μ t'<μ t∧Imp σ' { slots:=s' t',heap:=h' t' }) Q) { slots:=s' t,heap:=h' t }):Tri P (.scope c) Q { slots:=s1,heap:=h1 }:=
 Tri.jumps lb (fun t=>{ slots:=s' t,heap:=h' t }) I μ hf (first pass) pass
end
/-- A body's end, the new names told. -/
theorem RetVn {P:Program} {fn:Func} {ins:List Nat} {ret:D} {outs:List Obj} {e:Exit} {σ:St} {rs:List ResultVar} (new:List Nat) {d:D} (hr:fn.results.toList=rs) (he:exB e=true) (hd:retD P σ rs=some d) (h:rB new d ins ret outs σ):RetOK P fn ins ret outs e σ:=by
 subst hr
 unfold rB rC at h
 split at h
 ·rename_i d' xs h1 h2 h3
  exact ⟨σ,fun _ _ _ _ h=>h,by cases e<;>simp_all [exB],new,d,nodupB_iff h1,hd,⟨d',h2,leQ_spec h.1⟩,xs,h3,leQOs_spec h.2⟩
 ·exact h.elim
theorem isResV {P:Program} {st:List Nat} {ds:List (Option Nat)} {Q:Exit→St→Prop} {e:Option St} {l:List Oper} (h:resV e P st ds Q l):resV e P st ds Q l:=h
theorem isNextM {τ:Type} {I:τ→Prop} {μ:τ→Nat} {m:Nat} {s:List D} {h:List (Nat×Obj)} {s':τ→List D} {h':τ→List (Nat×Obj)} (t':τ) (hs:LeL s (s' t')) (hh:LeH h (h' t')) (hI:I t') (hm:μ t'<m):
  ∃ t',I t'∧μ t'<m∧LeL (St.mk s h).slots (s' t')∧LeH (St.mk s h).heap (h' t'):=⟨t',hI,hm,hs,hh⟩
theorem isNextVM {τ:Type} {I:τ→Prop} {μ:τ→Nat} {m:Nat} {σ:St} {s':τ→List D} {h':τ→List (Nat×Obj)} (t':τ) (hi:Imp σ { slots:=s' t',heap:=h' t' }) (hI:I t') (hm:μ t'<m):
  ∃ t',I t'∧μ t'<m∧Imp σ { slots:=s' t',heap:=h' t' }:=⟨t',hI,hm,hi⟩
attribute [go_sem] List.set_set nset_len
end Go.Avm
