/- The abstract machine, parts Y to ZI. -/
import Derived.Test.YteemiclhnfkekaaZAvmQ
import Derived.Laws.StructEq
import Derived.Lib.Overlaps
import Derived.Sort.Grow
import Derived.Deep.AppendSrc
/- The abstract machine, part Y: capacities, slices beyond the length, append of a make; objects that pass to another name; calls that are handed what their arguments name. -/
namespace Go.Avm
set_option linter.unusedVariables false
set_option linter.unusedSimpArgs false
open Go.RowKit

section
variable {w0:World} {p:Pm} {σ:St} {a:Act} {w:World} {ρ:Nm}
/-- A live object told otherwise. -/
theorem RelAt.recast (h:RelAt w0 p σ a w ρ) {o:Nat} {x:Obj} (hlive:hget σ.heap o≠ .dead) (hxd:x≠ .dead)
  (hx: ∀ st:Nat→Prop,(∀ g,stab p σ.heap ρ w g→st g)→RO w st ρ o x):RelAt w0 p { σ with heap:=hset σ.heap o x } a w ρ:=by
 have hhas_:hhas σ.heap o=true:=hhas_of_hget hlive
 have hget': ∀ o',o'≠o→hget (hset σ.heap o x) o'=hget σ.heap o':=fun o' e=>hget_hset_other e
 have hlive': ∀ o',hget (hset σ.heap o x) o'≠ .dead↔hget σ.heap o'≠ .dead:=by
  intro o'
  by_cases e:o'=o
  ·subst e;rw [hget_hset_same hhas_];exact ⟨fun _=>hlive,fun _=>hxd⟩
  ·rw [hget' o' e]
 have hst: ∀ k,stab p σ.heap ρ w k→stab p (hset σ.heap o x) ρ w k:=fun k hk=>⟨hk.1,hk.2.1,fun o' ho'=>hk.2.2 o' ((hlive' o').1 ho')⟩
 have hc: ∀ k off,stab p σ.heap ρ w k→w.cell? ⟨k,off,none⟩=w.cell? ⟨k,off,none⟩:=fun _ _ _=>rfl
 refine ⟨h.open_,h.defers,RL.mono hc (fun _ _ hh=>hh) hst h.slots,fun o'=>?_,fun o1 o2 g' h1 h2=>h.inj o1 o2 g' ((hlive' o1).1 h1) ((hlive' o2).1 h2),fun o1 g' h1=>h.fresh o1 g' ((hlive' o1).1 h1),fun o1 g' h1=>h.hlt o1 g' ((hlive' o1).1 h1),h.below,h.pin⟩
 by_cases e':o'=o
 ·subst e'
  show RO _ _ ρ o' (hget (hset σ.heap o' x) o')
  rw [hget_hset_same hhas_]
  exact hx _ hst
 ·show RO _ _ ρ o' (hget (hset σ.heap o x) o')
  rw [hget' o' e']
  exact RO.mono hc (fun _ _ hh=>hh) hst (fun _ _=>rfl) (h.objs o')
end

/-- A row whose capacity is its length. -/
def rowC (k:Nat) (rows:List (List D)):Ext where
 nms:=[]
 φ w st _ _ g:= ∃ cur e,w.heap[g]? = some (.cells cur e (0,0))∧SzOne cur (rows.length*k)∧rows.length≤maxLen∧RR w st k g 0 rows
 lt h:=by
  obtain ⟨cur,e,h1,_⟩:=h
  exact (Array.getElem?_eq_some_iff.1 h1).1
 mono hc hs hst hb _ h:=by
  obtain ⟨cur,e,h1,h2,h3,h4⟩:=h
  exact ⟨cur,e,hb.trans h1,h2,h3,RR.mono hc hs hst (fun off=>World.cell?_of_block (a:=⟨_,off,none⟩) hb) h4⟩
 loc _ h:=h
theorem rowC_nms {k:Nat} {rows:List (List D)}:(rowC k rows).nms=[]:=rfl
attribute [go_sem] rowC_nms memN List.isEmpty_nil cond_true cond_false
/-- Rows of which nothing is known. -/
def anyR (k n:Nat):List (List D):=List.replicate n (List.replicate k .any)
theorem anyR_len {k n:Nat}:(anyR k n).length=n:=List.length_replicate
theorem RC_any {w:World} {st:Nat→Prop} {g:Nat}: ∀ {k off:Nat},(∀ j,j<k→ ∃ v,w.cell? ⟨g,off+j,none⟩=some v∧v.oneCell'=true)→RC w st g off (List.replicate k .any)
 | 0,_,_=>by simp [RC]
 | k+1,off,h=>by
   simp only [List.replicate_succ,RC]
   obtain ⟨v,h1,h2⟩:=h 0 (by omega)
   refine ⟨⟨v,by simpa using h1,h2,by simp [R]⟩,RC_any fun j hj=>?_⟩
   have:=h (j+1) (by omega)
   simpa [Nat.add_assoc,Nat.add_comm 1 j] using this
theorem RR_any {w:World} {st:Nat→Prop} {k g:Nat}: ∀ {n off:Nat},(∀ j,j<n*k→ ∃ v,w.cell? ⟨g,off+j,none⟩=some v∧v.oneCell'=true)→RR w st k g off (anyR k n)
 | 0,_,_=>by simp [anyR,RR]
 | n+1,off,h=>by
   simp only [anyR,List.replicate_succ,RR]
   refine ⟨by simp,RC_any fun j hj=>h j (by rw [Nat.add_mul];omega),RR_any (n:=n) fun j hj=>?_⟩
   have:=h (k+j) (by rw [Nat.add_mul];omega)
   simpa [Nat.add_assoc] using this
theorem RR_app {w:World} {st:Nat→Prop} {k g:Nat}: ∀ {rs ss:List (List D)} {off:Nat},RR w st k g off rs→RR w st k g (off+rs.length*k) ss→RR w st k g off (rs++ss)
 | [],_,_,_,h=>by simpa using h
 | r::rs,ss,off,h,h2=>by
   simp only [RR,List.cons_append] at h ⊢
   refine ⟨h.1,h.2.1,RR_app h.2.2 ?_⟩
   rw [List.length_cons,Nat.add_mul] at h2
   rw [show off+k+rs.length*k=off+(rs.length*k+1*k) by omega]
   exact h2

section
variable {P:Program} {ds:List (Option Nat)} {Q:Exit→St→Prop} {σ σ':St} {l:List Oper} {dst:Option Nat} {ty:TypeId} {pos:String} {af:Array Edge} {g:Option (Nat×Bool)}
/-- cap: behind it the row is told to its capacity. -/
theorem TriD.cap {x:Operand} {t e:TypeId} {ti:TI} {q k off len:Nat} {rows:List (List D)} (hg:aguardC ds g σ=some true) (ht:tiGet P t=some ti) (hk:ti.kind.elem? = some e)
  (hx:evl σ x = .slo q k off len) (hk0:0<k) (hrow:hget σ.heap q = .row k rows) (hne:0<rows.length)
  (hn: ∀ m:Nat,rows.length+m≤maxLen→TriD P ds Q l (St.put { σ with heap:=hset σ.heap q (.ext (rowC k (rows++anyR k m))) } dst (.sc (.int .i64 ((rows.length+m-off:Nat):Int))))):TriD P ds Q (⟨dst,.call { callee:= .builtin .cap,args:= #[x],argTypes:= #[t] },ty,pos,af,g⟩::l) σ:=by
 intro all ha w0 p a w hr
 have hw:=aguard_wanted (all:=all) (o:=⟨dst, .call { callee:= .builtin .cap,args:= #[x],argTypes:= #[t] },ty,pos,af,g⟩) (by rw [aguard_C ha];exact hg) hr
 obtain ⟨ρ,hr⟩:=hr
 have hu:=slice_of_ti ht hk
 have ho:=hr.objs q
 rw [hrow] at ho
 have h1:=hr.evl x
 rw [hx] at h1
 simp only [R] at h1
 cases hρ:ρ q with
 | none=>simp only [RO,hρ] at ho
 | some z=>
   cases z with
   | none=>
     simp only [RO,hρ] at ho
     subst ho
     simp at hne
   | some gg=>
     simp only [RO,hρ] at ho
     obtain ⟨cur,e',cap,e1,e2,e3,e4,e5⟩:=ho
     rcases h1 with ⟨f1,_⟩|⟨g',cap',A,f1,f2,f3,f4,f5,f6⟩
     ·rw [hρ] at f1;simp at f1
     ·rw [hρ] at f1
      simp only [l_5] at f1
      subst f1
      obtain ⟨cur2,e6,f7,f8⟩:=f2
      rw [e1] at f7
      simp only [l_5,Obj.cells.injEq] at f7
      obtain ⟨rfl,_⟩:=f7
      have hcc:cap'=cap:=Nat.eq_of_mul_eq_mul_right hk0 (f8.symm.trans e2.size)
      subst hcc
      have hrun:(execOp a.eval ⟨dst, .call { callee:= .builtin .cap,args:= #[x],argTypes:= #[t] },ty,pos,af,g⟩).run P w = .ok (.value (.int .i64 ((cap'-off:Nat):Int))) w:=by
       simp [execOp,resolve,invoke,builtin,Builtin.cap_,run_underlying hu,f5,goInt]
      have hsum:rows.length+(cap'-rows.length)=cap':=by omega
      refine wpList_of_step hw (.inl hrun) (hn (cap'-rows.length) (by omega) all ha w0 p _ _ ⟨ρ,RelAt.put ?_ dst ?_⟩)
      ·refine hr.recast (by rw [hrow];simp) (by simp) fun st hst=>?_
       simp only [RO]
       refine ⟨gg,hρ,cur,e',e1,⟨?_,e2.one⟩,?_,RR_app (RR.mono (fun _ _ _=>rfl) (fun _ _ hh=>hh) hst (fun _=>rfl) e5) (RR_any fun j hj=>?_)⟩
       ·rw [e2.size,List.length_append];simp only [anyR,List.length_replicate,hsum]
       ·rw [List.length_append];simp only [anyR,List.length_replicate,hsum];exact e3
       ·have hlt:rows.length*k+j<cur.size:=by
         rw [e2.size, ← hsum,Nat.add_mul];omega
        refine ⟨cur[rows.length*k+j],?_,e2.one _ (by simp)⟩
        rw [Nat.zero_add,cell_of_row w gg _ cur e' (0,0) e1]
        exact Array.getElem?_eq_getElem hlt
      ·rw [hsum];simp [R]
/-- What is told to its capacity told as a row. -/
theorem Imp.unC (q:Nat) {k:Nat} {rows:List (List D)} (h:hget σ.heap q = .ext (rowC k rows)):Imp σ { σ with heap:=hset σ.heap q (.row k rows) }:=by
 rintro w0 p a w ⟨ρ,hr⟩
 have ho:=hr.objs q
 rw [h] at ho
 simp only [RO] at ho
 obtain ⟨g,hρ,cur,e,e1,e2,e3,e4⟩:=ho
 refine ⟨ρ,hr.recast (by rw [h];simp) (by simp) fun st hst=>?_⟩
 simp only [RO,hρ]
 exact ⟨cur,e,rows.length,e1,e2,e3,Nat.le_refl _,RR.mono (fun _ _ _=>rfl) (fun _ _ hh=>hh) hst (fun _=>rfl) e4⟩
theorem TriD.imp (h:Imp σ σ') (hn:TriD P ds Q l σ'):TriD P ds Q l σ:=fun all ha=>TriL.imp h (hn all ha)
theorem TriD.unC (q:Nat) {k:Nat} {rows:List (List D)} (h:hget σ.heap q = .ext (rowC k rows)) (he:{ σ with heap:=hset σ.heap q (.row k rows) }=σ') (hn:TriD P ds Q l σ'):TriD P ds Q l σ:=TriD.imp (Imp.unC q h) (he▸hn)
theorem Tri.unC {c:Code} (q:Nat) {k:Nat} {rows:List (List D)} (h:hget σ.heap q = .ext (rowC k rows)) (he:{ σ with heap:=hset σ.heap q (.row k rows) }=σ') (hn:Tri P c Q σ'):Tri P c Q σ:=Tri.imp (Imp.unC q h) (he▸hn)
/-- A part of a slice beyond its length: into what is told of its row. -/
theorem TriD.reslice {x:Operand} {lo hi:Option Operand} {t e:TypeId} {ti ei:TI} {q k off len lb hb:Nat} {rows:List (List D)} (hg:aguardC ds g σ=some true) (ht:tiGet P t=some ti) (hk:ti.kind.elem? = some e) (he:tiGet P e=some ei) (hks:ei.size=k) (hk0:0<k)
  (hx:evl σ x = .slo q k off len) (hrow:hget σ.heap q = .row k rows) (hlo:bnd σ 0 lo=some lb) (hhi:bnd σ len hi=some hb) (h1:lb≤hb) (h2:off+hb≤rows.length) (h3:off<rows.length)
  (hn:TriD P ds Q l (σ.put dst (.slo q k (off+lb) (hb-lb)))):TriD P ds Q (⟨dst, .slice t x lo hi none,ty,pos,af,g⟩::l) σ:=by
 intro all ha w0 p a w hr
 have hw:=aguard_wanted (all:=all) (o:=⟨dst, .slice t x lo hi none,ty,pos,af,g⟩) (by rw [aguard_C ha];exact hg) hr
 obtain ⟨ρ,hr⟩:=hr
 have ho:=hr.objs q
 rw [hrow] at ho
 have hX:=hr.evl x
 rw [hx] at hX
 simp only [R] at hX
 cases hρ:ρ q with
 | none=>simp only [RO,hρ] at ho
 | some z=>
   cases z with
   | none=>
     simp only [RO,hρ] at ho
     subst ho
     simp at h3
   | some gg=>
     simp only [RO,hρ] at ho
     obtain ⟨cur,e',cap,e1,e2,e3,e4,e5⟩:=ho
     rcases hX with ⟨f1,_⟩|⟨g',cap',A,f1,f2,f3,f4,f5,f6⟩
     ·rw [hρ] at f1;simp at f1
     ·rw [hρ] at f1
      simp only [l_5] at f1
      subst f1
      obtain ⟨cur2,e6,f7,f8⟩:=f2
      rw [e1] at f7
      simp only [l_5,Obj.cells.injEq] at f7
      obtain ⟨rfl,_⟩:=f7
      have hcc:cap'=cap:=Nat.eq_of_mul_eq_mul_right hk0 (f8.symm.trans e2.size)
      subst hcc
      have hrun:(execOp a.eval ⟨dst, .slice t x lo hi none,ty,pos,af,g⟩).run P w = .ok (.value (.slice (if cap'-off=lb then A else A.map (·.add (lb*ei.size))) (hb-lb) (cap'-off-lb))) w:=by
       obtain ⟨⟨dt,hu,hkd⟩,_⟩:=run_ti ht w
       obtain ⟨_,hsz,_⟩:=run_ti he w
       cases hkk:ti.kind with
       | slice e'=>
         rw [hkk] at hk hkd
         simp only [TK.elem?,l_5] at hk
         subst hk
         obtain rfl:=tk_slice hkd
         rcases bnd_spec hr hlo with ⟨rfl,rfl⟩|⟨y,k',rfl,hy⟩<;>rcases bnd_spec hr hhi with ⟨rfl,rfl⟩|⟨y',k'',rfl,hy'⟩
         ·simp [execOp,f5,Instr.sliceAt,hu,Instr.slice,Instr.sliceBounds,hsz]
         ·have hb':=run_sliceBound (P:=P) w k'' (hb:Int) (cap'-off) .sliceAcap (by omega) (by omega)
          simp [execOp,f5,Instr.sliceAt,hu,Instr.slice,Instr.sliceBounds,hsz,hy',hb']
         ·have hb':=run_sliceBound (P:=P) w k' (lb:Int) hb .sliceB (by omega) (by omega)
          simp [execOp,f5,Instr.sliceAt,hu,Instr.slice,Instr.sliceBounds,hsz,hy,hb']
         ·have hb1:=run_sliceBound (P:=P) w k' (lb:Int) hb .sliceB (by omega) (by omega)
          have hb2:=run_sliceBound (P:=P) w k'' (hb:Int) (cap'-off) .sliceAcap (by omega) (by omega)
          simp [execOp,f5,Instr.sliceAt,hu,Instr.slice,Instr.sliceBounds,hsz,hy,hb1,hy',hb2]
       | _=>rw [hkk] at hk;simp [TK.elem?] at hk
      refine wpList_of_step hw (.inl hrun) (hn all ha w0 p _ _ ⟨ρ,hr.put dst ?_⟩)
      simp only [R]
      refine .inr ⟨gg,cap',_,hρ,⟨cur,e',e1,f8⟩,by omega,f4,by rw [Nat.sub_sub],?_⟩
      intro hlt
      rw [if_neg (by omega),f6 (by omega),hks]
      simp [Addr.add_lit,Nat.add_mul]
end
end Go.Avm
/- The abstract machine, part Z: append of a make; objects that pass to another name; calls that are handed what their arguments name; structs compared. -/
namespace Go.Avm
set_option linter.unusedVariables false
set_option linter.unusedSimpArgs false
open Go.RowKit

set_option maxRecDepth 10000 in
theorem run_append_make {P:Program} {w:World} (t t' ty e:TypeId) (k':IntKind) (i:TypeInfo) (z:Value) (ht:P.underlying t=some (.slice e)) (ht':P.underlying t'=some (.int k')) (hi:P.info? e=some i) (hz:i.zero=some z)
  (b:Addr) (sLen sCap:Nat) (olds:List Value) (hlo:olds.length=sLen*i.size) (holds: ∀ j v,olds[j]? = some v→w.cell? (b.add j)=some v) (kx:IntKind) (n:Nat) (hn0:0<n) (hs0:0<i.size)
  (hg:sCap<sLen+n) (h63:((sLen+n:Nat):Int)≤9223372036854775807) (hbytes:(sLen+n)*i.bytes≤140737488355328) (hl48:n*i.bytes≤281474976710656):
  (Builtin.append_ #[t,t'] ty #[.slice (some b) sLen sCap, .int kx (n:Int)]).run P w =
   .ok (.slice (some ⟨w.heap.size,0,none⟩) (sLen+n) (grownCap w (sLen+n) sCap e))
    (w.drew.alloc (.cells (olds.toArray++Builtin.zeroCells z.cells n++Builtin.zeroCells z.cells (grownCap w (sLen+n) sCap e-(sLen+n))) e)):=by
 have hn: ¬ (sLen+n≤sCap):=by omega
 have h63': ¬ (9223372036854775807<((sLen:Int)+(n:Int))):=by omega
 have hfit:=growslice_fits (need:=sLen+n) (old:=sCap) (by omega) hbytes
 have h48': ¬ (281474976710656<Builtin.nextslicecap (sLen+n) sCap*i.bytes):=by omega
 have hfo:=run_firstCells_some (P:=P) w.drew i.size sLen b sLen sCap olds hlo (by simpa using holds)
 have hwr:IntKind.i64.wrap (n:Int)=(n:Int):=IntWalk.i64_in _ ⟨by omega,by omega⟩
 have hneg: ¬ ((n:Int)<0):=by omega
 have h48: ¬ (281474976710656<(n:Int)*(i.bytes:Int)):=by
  have:((n*i.bytes:Nat):Int)≤((281474976710656:Nat):Int):=Int.ofNat_le.2 hl48
  rw [Int.natCast_mul] at this
  omega
 have hz0: ¬ (n*i.size=0):=by
  have:=Nat.mul_pos hn0 hs0
  omega
 have hz0': ¬ (n=0∨i.size=0):=by omega
 have hng: ¬ (n=0):=by omega
 have hsg: ¬ (i.size=0):=by omega
 simp [Builtin.append_,run_underlying ht,run_underlying ht',sizeOf,typeInfo,zeroValue,hi,hz,asInt,asIntOf,hwr,hneg,h48,hn,h63',h48',Question.forced,hfo,newRow,grownCap,hng,hsg]
 exact fun h=>absurd h hz0

section
variable {P:Program} {ds:List (Option Nat)} {Q:Exit→St→Prop} {σ σ':St} {l:List Oper} {dst:Option Nat} {ty:TypeId} {pos:String} {af:Array Edge} {g:Option (Nat×Bool)}
theorem RR_cells {w:World} {st:Nat→Prop} {k g n:Nat} {rows:List (List D)} {cur:Array Value} {e:TypeId} (hg:w.heap[g]? = some (.cells cur e (0,0))) (h:RR w st k g 0 rows) (hn:n≤rows.length) (hone: ∀ v∈cur.toList,v.oneCell'=true):
  (cur.toList.take (n*k)).length=n*k∧(∀ v∈cur.toList.take (n*k),v.oneCell'=true)∧RL w st (fun _=>none) (rows.take n).flatten (cur.toList.take (n*k))∧(∀ r∈rows.take n,r.length=k):=by
 have h2:=RR_take n h
 obtain ⟨vs,f1,f2,f3,f4,f5⟩:=RR_flat h2
 have hl:(rows.take n).length=n:=by rw [List.length_take];omega
 rw [hl] at f1
 have e1:cur.toList.take (n*k)=vs:=by
  apply List.ext_getElem?
  intro j
  rw [List.getElem?_take]
  split
  ·rename_i hj
   have hv:j<vs.length:=by omega
   have:=f5 j _ (List.getElem?_eq_getElem hv)
   rw [Nat.zero_add,cell_of_row w g j cur e (0,0) hg] at this
   rw [Array.getElem?_toList,this,List.getElem?_eq_getElem hv]
  ·rename_i hj
   rw [List.getElem?_eq_none (by omega)]
 rw [e1]
 exact ⟨f1,f3,f2,f4⟩
theorem RL_app2 {w:World} {st:Nat→Prop} {ρ:Nat→Option (Option Nat)}: ∀ {ds es:List D} {vs us:List Value},RL w st ρ ds vs→RL w st ρ es us→RL w st ρ (ds++es) (vs++us)
 | [],_,_,_,h,h2=>by simp only [RL] at h;subst h;simpa using h2
 | d::ds,es,vs,us,h,h2=>by
   simp only [RL,List.cons_append] at h ⊢
   obtain ⟨v,vs',h3,h4,h5⟩:=h
   subst h3
   exact ⟨v,vs'++us,rfl,h4,RL_app2 h5 h2⟩
/-- append of a make to the head of a row that is told to its capacity, beyond that: a new row. -/
theorem TriD.appMake {s x:Operand} {t t' e d:Nat} {kx k':IntKind} {m:Int} {ti ti' ei:TI} {q k n:Nat} {rows:List (List D)} (hg:aguardC ds g σ=some true) (ht:tiGet P t=some ti) (hk:ti.kind.elem? = some e) (he:tiGet P e=some ei) (ht':tiGet P t'=some ti') (hk':ti'.kind = .int k') (hks:ei.size=k) (hk0:0<k)
  (hzs:ei.zero.cells.size=ei.size) (hz1:ei.zero.cells.toList.all (·.oneCell')=true) (hb0:0<ei.bytes) (hh:hfree σ.heap d=true) (hs:evl σ s = .slo q k 0 n) (hrow:hget σ.heap q = .ext (rowC k rows)) (hx:evl σ x = .sc (.int kx m)) (hm:0<m) (hgrow:(rows.length:Int)<n+m) (hnl:n≤rows.length) (hr0:0<rows.length)
  (hb:(n+m.toNat)*ei.bytes≤140737488355328)
  (hn:TriD P ds Q l (σ.bear d (.row k (rows.take n++List.replicate m.toNat (ei.zero.cells.toList.map .sc))) (.slo d k 0 (n+m.toNat)))):TriD P ds Q (⟨some d, .call { callee:= .builtin .append,args:= #[s,x],argTypes:= #[t,t'] },ty,pos,af,g⟩::l) σ:=by
 intro all ha w0 p a w hr
 have hw:=aguard_wanted (all:=all) (o:=⟨some d, .call { callee:= .builtin .append,args:= #[s,x],argTypes:= #[t,t'] },ty,pos,af,g⟩) (by rw [aguard_C ha];exact hg) hr
 obtain ⟨ρ,hr⟩:=hr
 obtain ⟨N,rfl⟩: ∃ N:Nat,m=N:=⟨m.toNat,by omega⟩
 simp only [Int.toNat_natCast] at hn hb
 have hu:=slice_of_ti ht hk
 obtain ⟨ie,de,hie,hue,y1,y2,y3,y4⟩:=tiGet_spec he
 obtain ⟨i2,d2,hi2,hu2,_,_,_,y5⟩:=tiGet_spec ht'
 have hu2':P.underlying t'=some (.int k'):=by
  rw [hk'] at y5
  cases d2<;>simp [tkOf] at y5
  subst y5;exact hu2
 have ho:=hr.objs q
 rw [hrow] at ho
 simp only [RO] at ho
 obtain ⟨gg,hρ,cur,e',e1,e2,e3,e4⟩:=ho
 have hS:=hr.evl s
 rw [hs] at hS
 simp only [R] at hS
 have hX:=hr.evl x
 rw [hx] at hX
 simp only [R] at hX
 rcases hS with ⟨f1,_⟩|⟨g',cap',A,f1,f2,f3,f4,f5,f6⟩
 ·rw [hρ] at f1;simp at f1
 ·rw [hρ] at f1
  simp only [l_5] at f1
  subst f1
  obtain ⟨cur2,e6,f7,f8⟩:=f2
  rw [e1] at f7
  simp only [l_5,Obj.cells.injEq] at f7
  obtain ⟨rfl,_⟩:=f7
  have hcc:cap'=rows.length:=Nat.eq_of_mul_eq_mul_right hk0 (f8.symm.trans e2.size)
  subst hcc
  obtain ⟨c1,c2,c3,c4⟩:=RR_cells e1 e4 hnl e2.one
  have hAe:=f6 (by omega)
  have hlt:n+N≤maxLen:=by
   have:(n+N)*1≤(n+N)*ei.bytes:=Nat.mul_le_mul_left _ hb0
   unfold maxLen;omega
  have hrun:=run_append_make (P:=P) (w:=w) t t' ty e k' ie ei.zero hu hu2' hie y3 ⟨gg,0*k,none⟩ n (rows.length-0) (cur.toList.take (n*k)) (by rw [y1,hks];exact c1) (by
   intro j v hj
   rw [List.getElem?_take] at hj
   split at hj
   ·rw [Addr.add_lit,show 0*k+j=j by omega,cell_of_row w gg j cur e' (0,0) e1];rw [← Array.getElem?_toList];exact hj
   ·cases hj) kx N (by omega) (by omega) (by omega) (by unfold maxLen at hlt;omega) (by rw [y2];exact hb) (by rw [y2];exact Nat.le_trans (Nat.mul_le_mul (Nat.le_add_left N n) (Nat.le_refl ei.bytes)) (Nat.le_trans hb (by decide)))
  have hexec: ∀ v w',(Builtin.append_ #[t,t'] ty #[.slice (some ⟨gg,0*k,none⟩) n (rows.length-0), .int kx (N:Int)]).run P w = .ok v w'→
    (execOp a.eval ⟨some d, .call { callee:= .builtin .append,args:= #[s,x],argTypes:= #[t,t'] },ty,pos,af,g⟩).run P w = .ok (.value v) w':=by
   intro v w' h
   rw [hAe] at f5
   simp only [execOp,resolve,invoke,builtin,List.map_toArray,l_3,l_4,f5,hX,Sem.run_bind,Sem.run_pure,Result.andThen_ok,h]
  refine wpList_of_step hw (.inl (hexec _ _ hrun)) (hn all ha w0 p _ _ ?_)
  have hge:=grownCap_ge w (n+N) (rows.length-0) e
  have hcm:=grownCap_le_maxLen w (n+N) (rows.length-0) e hlt
  generalize grownCap w (n+N) (rows.length-0) e=cap at hge hcm ⊢
  have hzc: ∀ m,(Builtin.zeroCells ei.zero.cells m).toList=(List.replicate m ei.zero.cells.toList).flatten:=zeroCells_flat
  have hsz:SzOne ((cur.toList.take (n*k)).toArray++Builtin.zeroCells ei.zero.cells N++Builtin.zeroCells ei.zero.cells (cap-(n+N))) (cap*k):=by
   refine ⟨?_,?_⟩
   ·simp only [Array.size_append,List.size_toArray,size_zeroCells,hzs,c1,hks, ← Nat.add_mul]
    congr 1;omega
   ·intro v hv
    simp only [Array.toList_append,List.mem_append] at hv
    rcases hv with (hv|hv)|hv
    ·exact c2 v (by simpa using hv)
    ·exact zeroCells_one (fun v hv=>List.all_eq_true.1 hz1 v hv) v hv
    ·exact zeroCells_one (fun v hv=>List.all_eq_true.1 hz1 v hv) v hv
  have hflat: ∀ st:Nat→Prop,(∀ g,stab p σ.heap ρ w g→st g)→ ∀ cu,cu=(cur.toList.take (n*k)).toArray++Builtin.zeroCells ei.zero.cells N++Builtin.zeroCells ei.zero.cells (cap-(n+N))→
    RR (w.drew.alloc (.cells cu e)) st k w.heap.size 0 (rows.take n++List.replicate N (ei.zero.cells.toList.map .sc)):=by
   intro st hst cu hcu
   have hc: ∀ g off,stab p σ.heap ρ w g→(w.drew.alloc (.cells cu e)).cell? ⟨g,off,none⟩=w.cell? ⟨g,off,none⟩:=fun g off hg=>World.cell?_alloc_lt w.drew _ ⟨g,off,none⟩ hg.2.1
   have hsh: ∀ g n,Sh w g n→Sh (w.drew.alloc (.cells cu e)) g n:=fun g n hs=>Sh_of_block (Below.heap_alloc w.drew _ g hs.lt) hs
   have hlr:(List.replicate N (ei.zero.cells.toList.map D.sc)).flatten=((List.replicate N ei.zero.cells.toList).flatten).map D.sc:=by
    rw [List.map_flatten,List.map_replicate]
   refine RR_of_flat (vs:=cur.toList.take (n*k)++(List.replicate N ei.zero.cells.toList).flatten) (fun r hr=>?_) ?_ (fun v hv=>?_) (fun j v hj=>?_)
   ·rcases List.mem_append.1 hr with h|h
    ·exact c4 r h
    ·obtain ⟨_,rfl⟩:=List.mem_replicate.1 h
     rw [List.length_map,Array.length_toList,hzs,hks]
   ·rw [List.flatten_append,hlr]
    exact RL_app2 (RL.mono hc hsh hst c3) (RL_sc _)
   ·rcases List.mem_append.1 hv with h|h
    ·exact c2 v h
    ·rw [← hzc] at h;exact zeroCells_one (fun v hv=>List.all_eq_true.1 hz1 v hv) v h
   ·rw [Nat.zero_add,World.cell?_alloc_at (w:=w.drew) cu e w.heap.size j rfl,hcu]
    rw [← Array.getElem?_toList]
    simp only [Array.toList_append,hzc]
    rw [List.getElem?_append_left ?_]
    ·simpa using hj
    ·have:=(List.getElem?_eq_some_iff.1 hj).1
     simpa using this
  have hnb:=hr.drew.newBlock (ids:=[d]) (o:=d) (x:= .row k (rows.take n++List.replicate N (ei.zero.cells.toList.map .sc))) (cur:=(cur.toList.take (n*k)).toArray++Builtin.zeroCells ei.zero.cells N++Builtin.zeroCells ei.zero.cells (cap-(n+N))) (e:=e) (by simp) hh (by simp) (fun st hst=>by
   simp only [RO,updρ_same]
   exact ⟨_,e,cap,heap_alloc_new w.drew _,hsz,hcm,by rw [List.length_append,List.length_take,List.length_replicate];omega,hflat st hst _ rfl⟩)
  refine ⟨_,hnb.put (some d) ?_⟩
  simp only [R,updρ_same]
  exact .inr ⟨w.heap.size,cap,some ⟨w.heap.size,0,none⟩,rfl,⟨_,e,heap_alloc_new w.drew _,hsz.size⟩,by omega,hcm,by simp,fun _=>by simp⟩
/-- The head of a row passes to another name. -/
theorem Imp.take (t d:Nat) {o k n:Nat} {rows:List (List D)} (ht:σ.slots[t]? = some (.slo o k 0 n)) (hrow:hget σ.heap o = .row k rows) (hnl:n≤rows.length) (hh:hfree σ.heap d=true):
  Imp σ (St.put { σ.kills [o,d] with heap:=hset (σ.kills [o,d]).heap d (.row k (rows.take n)) } (some t) (.slo d k 0 n)):=by
 rintro w0 p a w ⟨ρ,hr⟩
 have hT:=hr.evl (.tmp t)
 have hev:evl σ (.tmp t) = .slo o k 0 n:=by simp [evl,List.getD_eq_getElem?_getD,ht]
 rw [hev] at hT
 have ho:=hr.objs o
 rw [hrow] at ho
 have hmv:=hr.moved (d:=d) (rows':=rows.take n) (w':=w) hrow hh (fun _ _ _=>rfl) (fun _ _ h=>h) (Nat.le_refl _) rfl rfl rfl (fun st hst=>by
  simp only [RO,updρ_same]
  cases hρ:ρ o with
  | none=>simp only [RO,hρ] at ho
  | some z=>
    cases z with
    | none=>
      simp only [RO,hρ] at ho
      subst ho;simp
    | some gg=>
      simp only [RO,hρ] at ho
      obtain ⟨cur,e',cap,e1,e2,e3,e4,e5⟩:=ho
      exact ⟨cur,e',cap,e1,e2,e3,by rw [List.length_take];omega,RR.mono (fun _ _ _=>rfl) (fun _ _ hh=>hh) hst (fun _=>rfl) (RR_take n e5)⟩)
 have hput:=hmv.put (some t) (v:=a.eval (.tmp t)) (d:= .slo d k 0 n) (by
  simp only [R,updρ_same] at hT ⊢
  exact hT)
 have hself:a.put (some t) (a.eval (.tmp t))=a:=by
  simp only [Act.put,Act.eval]
  congr 1
  apply Array.ext_getElem?
  intro j
  rw [Array.getElem?_setIfInBounds]
  split
  ·rename_i h;subst h
   split
   ·rename_i hlt;simp [hlt]
   ·rename_i hlt;rw [Array.getElem?_eq_none (by omega)]
  ·rfl
 rw [hself] at hput
 exact ⟨_,hput⟩
theorem RetOK.take {fn:Func} {ids:List Nat} {ret:D} {outs:List Obj} {e:Exit} (t d:Nat) {o k n:Nat} {rows:List (List D)} (ht:σ.slots[t]? = some (.slo o k 0 n)) (hrow:hget σ.heap o = .row k rows) (hnl:n≤rows.length) (hh:hfree σ.heap d=true)
  (he:St.put { σ.kills [o,d] with heap:=hset (σ.kills [o,d]).heap d (.row k (rows.take n)) } (some t) (.slo d k 0 n)=σ') (h:RetOK P fn ids ret outs e σ'):RetOK P fn ids ret outs e σ:=RetOK.imp (Imp.take t d ht hrow hnl hh) (he▸h)
theorem Tri.take {c:Code} (t d:Nat) {o k n:Nat} {rows:List (List D)} (ht:σ.slots[t]? = some (.slo o k 0 n)) (hrow:hget σ.heap o = .row k rows) (hnl:n≤rows.length) (hh:hfree σ.heap d=true)
  (he:St.put { σ.kills [o,d] with heap:=hset (σ.kills [o,d]).heap d (.row k (rows.take n)) } (some t) (.slo d k 0 n)=σ') (h:Tri P c Q σ'):Tri P c Q σ:=Tri.imp (Imp.take t d ht hrow hnl hh) (he▸h)
end
section
variable {P:Program} {ds:List (Option Nat)} {Q:Exit→St→Prop} {σ:St} {l:List Oper} {dst:Option Nat} {ty:TypeId} {pos:String} {af:Array Edge} {g:Option (Nat×Bool)} {x y:Operand} {lo hi:Option Operand} {t:TypeId} {xs:Array Operand} {ts:Array TypeId}
theorem isCap (h:TriD P ds Q (⟨dst, .call { callee:= .builtin .cap,args:=xs,argTypes:=ts },ty,pos,af,g⟩::l) σ):TriD P ds Q (⟨dst, .call { callee:= .builtin .cap,args:=xs,argTypes:=ts },ty,pos,af,g⟩::l) σ:=h
theorem isSlice (h:TriD P ds Q (⟨dst, .slice t x lo hi none,ty,pos,af,g⟩::l) σ):TriD P ds Q (⟨dst, .slice t x lo hi none,ty,pos,af,g⟩::l) σ:=h
theorem isDrawnN (n:Nat) {a:Array Oper} (h:Tri P (.region n a true) Q σ):Tri P (.region n a true) Q σ:=h
end
section
variable {P:Program} {ds:List (Option Nat)} {Q:Exit→St→Prop} {σ σ':St} {l:List Oper} {dst:Option Nat} {ty:TypeId} {pos:String} {af:Array Edge} {g:Option (Nat×Bool)}
theorem slo_addr {w0:World} {p:Pm} {a:Act} {w:World} {ρ:Nm} (h:RelAt w0 p σ a w ρ) {x:Operand} {q k off len:Nat} {rows:List (List D)} (hx:evl σ x = .slo q k off len) (hq:hget σ.heap q = .row k rows) (hk:0<k) (hr:off<rows.length):
  ∃ g cur e A c,ρ q=some (some g)∧w.heap[g]? = some (.cells cur e (0,0))∧0<cur.size∧A=(⟨g,off*k,none⟩:Addr)∧a.eval x = .slice (some A) len c:=by
 have ho:=h.objs q
 rw [hq] at ho
 have h1:=h.evl x
 rw [hx] at h1
 simp only [R] at h1
 cases hρ:ρ q with
 | none=>simp only [RO,hρ] at ho
 | some z=>
   cases z with
   | none=>simp only [RO,hρ] at ho;subst ho;simp at hr
   | some gg=>
     simp only [RO,hρ] at ho
     obtain ⟨cur,e',cap,e1,e2,e3,e4,e5⟩:=ho
     rcases h1 with ⟨f1,_⟩|⟨g',cap',A,f1,f2,f3,f4,f5,f6⟩
     ·rw [hρ] at f1;simp at f1
     ·rw [hρ] at f1
      simp only [l_5] at f1
      subst f1
      obtain ⟨cur2,e6,f7,f8⟩:=f2
      rw [e1] at f7
      simp only [l_5,Obj.cells.injEq] at f7
      obtain ⟨rfl,_⟩:=f7
      have hcc:cap'=cap:=Nat.eq_of_mul_eq_mul_right hk (f8.symm.trans e2.size)
      subst hcc
      have hpos:0<cur.size:=by rw [e2.size];exact Nat.mul_pos (by omega) hk
      exact ⟨gg,cur,e',_,_,rfl,e1,hpos,rfl,by rw [f5,f6 (by omega)]⟩
/-- slices.overlaps of two rows of one's own. -/
theorem TriD.overlaps {x y:Operand} {ts:Array TypeId} {f:FuncId} {fn:Func} {t e tR:TypeId} {ti ei:TI} {q q' k off off' len len':Nat} {rows rows':List (List D)} (hg:aguardC ds g σ=some true) (hf:P.funcs[f]? = some fn) (hname:(fn.name == "runtime.NumGoroutine")=false) (hb:fn.body.isNone=true) (hn:Extern.findNext fn=none)
  (he:Extern.find fn=some (Extern.SlicesOverlaps.overlaps #[t,t] #[tR])) (ht:tiGet P t=some ti) (hk:ti.kind.elem? = some e) (het:tiGet P e=some ei) (hx:evl σ x = .slo q k off len) (hk0:0<k) (hy:evl σ y = .slo q' k off' len') (hne:q≠q') (hq:hget σ.heap q = .row k rows) (hq':hget σ.heap q' = .row k rows') (h1:off<rows.length) (h2:off'<rows'.length)
  (hnext:TriD P ds Q l (σ.put dst (.sc (.bool false)))):TriD P ds Q (⟨dst, .call { callee:= .value (.func f),args:= #[x,y],argTypes:=ts },ty,pos,af,g⟩::l) σ:=by
 intro all ha w0 p a w hr
 have hw:=aguard_wanted (all:=all) (o:=⟨dst, .call { callee:= .value (.func f),args:= #[x,y],argTypes:=ts },ty,pos,af,g⟩) (by rw [aguard_C ha];exact hg) hr
 obtain ⟨ρ,hr⟩:=hr
 obtain ⟨b1,c1,e1,A1,k1,r1,r2,r3,r4,r5⟩:=slo_addr hr hx hq hk0 h1
 obtain ⟨b2,c2,e2,A2,k2,s1,s2,s3,s4,s5⟩:=slo_addr hr hy hq' hk0 h2
 subst r4 s4
 have hbb:b1≠b2:=fun e=>hne (hr.inj q q' b1 (by rw [hq];simp) (by rw [hq'];simp) (.inl r1) (.inl (by rw [s1,e])))
 have hu:=slice_of_ti ht hk
 have hsz: ∀ w,(sizeOf e).run P w = .ok ei.size w:=fun w=>(run_ti het w).2.1
 have hov:=Lib.run_overlaps_apart (P:=P) w t tR e hu ei.size hsz ⟨b1,off*k,none⟩ ⟨b2,off'*k,none⟩ len k1 len' k2 hbb e1 e2 c1.size c2.size (by simp [World.shape?,r2]) (by simp [World.shape?,s2]) (by omega) (by simp [World.frozen?,r2]) (by simp [World.frozen?,r2])
 have hexec:(execOp a.eval ⟨dst, .call { callee:= .value (.func f),args:= #[x,y],argTypes:=ts },ty,pos,af,g⟩).run P w = .ok (.value (.bool false)) w:=by
  have hev:a.eval (.func f) = .func (.func f) #[] #[]:=rfl
  have h0:(execOp a.eval ⟨dst, .call { callee:= .value (.func f),args:= #[x,y],argTypes:=ts },ty,pos,af,g⟩).run P w=(callFunc f #[a.eval x,a.eval y]).run P w:=by
   simp [execOp,resolve,invoke,hev,Deferred.ofValue]
  rw [h0,run_callFunc_extern hf hname hb hn he,r5,s5,hov]
  rfl
 exact wpList_of_step hw (.inl hexec) (hnext all ha w0 p _ _ ⟨ρ,hr.put dst (by simp [R])⟩)
end
theorem ins_rowsA {α:Type} (rows xs Z R:List α) {i K:Nat} (hi:i≤rows.length) (hR:R.length=rows.length+xs.length-i) (hK:K=rows.length+xs.length):
  List.take (i+xs.length) (List.take i (List.take i (rows++Z)++R)++xs++List.drop (i+xs.length) (List.take i (rows++Z)++R))++List.take (rows.length-i) (List.take (rows.length-i) (List.drop i (rows++Z))) ++
   List.drop K (List.take i (List.take i (rows++Z)++R)++xs++List.drop (i+xs.length) (List.take i (rows++Z)++R))=List.take i rows++xs++List.drop i rows:=by
 have h1:List.take i (rows++Z)=List.take i rows:=List.take_append_of_le_length hi
 have h2:(List.take i rows).length=i:=by rw [List.length_take];omega
 have h3:List.take i (List.take i rows++R)=List.take i rows:=List.take_left' h2
 have h4:List.drop i (rows++Z)=List.drop i rows++Z:=List.drop_append_of_le_length hi
 have h5:(List.drop i rows).length=rows.length-i:=List.length_drop
 have h6:List.take (rows.length-i) (List.drop i rows++Z)=List.drop i rows:=List.take_left' h5
 have h7:List.take (rows.length-i) (List.drop i rows)=List.drop i rows:=List.take_of_length_le (by omega)
 rw [h1,h3,h4,h6,h7]
 have h8:(List.take i rows++xs).length=i+xs.length:=by rw [List.length_append,h2]
 rw [List.take_left' h8,List.drop_of_length_le (i:=K) (by rw [List.length_append,h8,List.length_drop,List.length_append,h2,hR];omega),List.append_nil]
theorem ins_rowsB {α:Type} (rows xs Z:List α) {i:Nat} (hi:i≤rows.length) (hz:xs.length≤Z.length):
  List.take (rows.length+xs.length) (List.take i (List.take (i+xs.length) (rows++Z)++List.take (rows.length+xs.length-(i+xs.length)) (List.take (rows.length+xs.length-i) (List.drop i (rows++Z)))++List.drop (i+xs.length+(rows.length+xs.length-(i+xs.length))) (rows++Z))++xs ++
   List.drop (i+xs.length) (List.take (i+xs.length) (rows++Z)++List.take (rows.length+xs.length-(i+xs.length)) (List.take (rows.length+xs.length-i) (List.drop i (rows++Z)))++List.drop (i+xs.length+(rows.length+xs.length-(i+xs.length))) (rows++Z)))=List.take i rows++xs++List.drop i rows:=by
 have h1:List.take i (rows++Z)=List.take i rows:=List.take_append_of_le_length hi
 have h2:(List.take i rows).length=i:=by rw [List.length_take];omega
 have h4:List.drop i (rows++Z)=List.drop i rows++Z:=List.drop_append_of_le_length hi
 have h5:(List.drop i rows).length=rows.length-i:=List.length_drop
 have h9:(List.take (i+xs.length) (rows++Z)).length=i+xs.length:=by rw [List.length_take,List.length_append];omega
 have hT:List.take (rows.length+xs.length-(i+xs.length)) (List.take (rows.length+xs.length-i) (List.drop i (rows++Z)))=List.drop i rows:=by
  rw [List.take_take,h4,show min (rows.length+xs.length-(i+xs.length)) (rows.length+xs.length-i)=rows.length-i by omega]
  exact List.take_left' h5
 rw [hT,List.append_assoc (List.take (i+xs.length) (rows++Z)),List.take_append_of_le_length (l₁:=List.take (i+xs.length) (rows++Z)) (by omega),List.take_take,Nat.min_eq_left (by omega),h1,List.drop_left' h9, ← List.append_assoc]
 exact List.take_left' (by simp only [List.length_append,h2,h5];omega)
/-! Structs compared. -/
section
variable {P:Program}
end
attribute [go_sem] Nat.sub_zero hfOp Option.isNone_none Option.isNone_some
end Go.Avm
/- The abstract machine, part ZA: calls by one equation; "says less" by one list of equations. -/
namespace Go.Avm
set_option linter.unusedVariables false
set_option linter.unusedSimpArgs false
open Go.RowKit
def memB (o:Nat):List Nat→Bool
 | []=>false
 | x::l=>if o=x then true else memB o l
theorem memB_iff {o:Nat}: ∀ {l:List Nat},memB o l=true↔o∈l
 | []=>by simp [memB]
 | x::l=>by
   by_cases h:o=x
   ·simp [memB,h]
   ·simp [memB,h,memB_iff]
def nodupB:List Nat→Bool
 | []=>true
 | x::l=> !memB x l&&nodupB l
theorem nodupB_iff: ∀ {l:List Nat},nodupB l=true→l.Nodup
 | [],_=>List.nodup_nil
 | x::l,h=>by
   simp only [nodupB,Bool.and_eq_true,Bool.not_eq_true'] at h
   refine List.nodup_cons.2 ⟨fun hx=>?_,nodupB_iff h.2⟩
   rw [memB_iff.2 hx] at h
   cases h.1
def allB (p:Nat→Bool):List Nat→Bool
 | []=>true
 | x::l=>p x&&allB p l
theorem allB_iff {p:Nat→Bool}: ∀ {l:List Nat},allB p l=true→l.all p=true
 | [],_=>rfl
 | x::l,h=>by
   simp only [allB,Bool.and_eq_true] at h
   simp only [List.all_cons,Bool.and_eq_true]
   exact ⟨h.1,allB_iff h.2⟩
def allO (p:Obj→Bool):List Obj→Bool
 | []=>true
 | x::l=>p x&&allO p l
theorem allO_iff {p:Obj→Bool}: ∀ {l:List Obj},allO p l=true→l.all p=true
 | [],_=>rfl
 | x::l,h=>by
   simp only [allO,Bool.and_eq_true] at h
   simp only [List.all_cons,Bool.and_eq_true]
   exact ⟨h.1,allO_iff h.2⟩
def sameLen:List Nat→List Obj→Bool
 | [],[]=>true
 | _::l,_::m=>sameLen l m
 | _,_=>false
theorem sameLen_iff: ∀ {l:List Nat} {m:List Obj},sameLen l m=true→l.length=m.length
 | [],[],_=>rfl
 | _::l,_::m,h=>by
   simp only [sameLen] at h
   simp [sameLen_iff h]
/-- Behind a call, if all that is asked holds. -/
def callR (ds:List (Option Nat)) (g:Option (Nat×Bool)) (σ:St) (dst:Option Nat) (ins new:List Nat) (flat:Bool) (ret:D) (outs:List Obj):Option St:=
 (aguardC ds g σ).bind fun b=>cond b (cond (nodupB (ins++new)) (cond (sameLen (ins++new) outs) (cond (allB (hhas σ.heap) (ins++new)) (cond (allB (fun o=>decide (o<1000)) new) (cond (ltD outs.length ret) (cond (allO (ltO outs.length) outs)
  (cond flat (cond (flatD ret) (cond (allO flatO outs) (some (σ.imp_ dst ins new ret outs)) none) none) (some (σ.imp_ dst ins new ret outs))) none) none) none) none) none) none) none
theorem callR_spec {ds:List (Option Nat)} {g:Option (Nat×Bool)} {σ σ':St} {dst:Option Nat} {ins new:List Nat} {flat:Bool} {ret:D} {outs:List Obj} (h:callR ds g σ dst ins new flat ret outs=some σ'):
  aguardC ds g σ=some true∧(ins++new).Nodup∧(ins++new).length=outs.length∧(ins++new).all (hhas σ.heap)=true∧new.all (fun o=>decide (o<1000))=true∧ltD outs.length ret=true∧outs.all (ltO outs.length)=true∧σ.imp_ dst ins new ret outs=σ'∧(flat=true→Flat ret outs):=by
 simp only [callR,Option.bind_eq_some_iff] at h
 obtain ⟨b,hb,h⟩:=h
 cases b with
 | false=>simp only [cond_false,reduceCtorEq] at h
 | true=>
 simp only [cond_true] at h
 cases h1:nodupB (ins++new) with
 | false=>simp only [h1,cond_false,reduceCtorEq] at h
 | true=>
 cases h2:sameLen (ins++new) outs with
 | false=>simp only [h1,h2,cond_true,cond_false,reduceCtorEq] at h
 | true=>
 cases h3:allB (hhas σ.heap) (ins++new) with
 | false=>simp only [h1,h2,h3,cond_true,cond_false,reduceCtorEq] at h
 | true=>
 cases h4:allB (fun o=>decide (o<1000)) new with
 | false=>simp only [h1,h2,h3,h4,cond_true,cond_false,reduceCtorEq] at h
 | true=>
 cases h5:ltD outs.length ret with
 | false=>simp only [h1,h2,h3,h4,h5,cond_true,cond_false,reduceCtorEq] at h
 | true=>
 cases h6:allO (ltO outs.length) outs with
 | false=>simp only [h1,h2,h3,h4,h5,h6,cond_true,cond_false,reduceCtorEq] at h
 | true=>
 simp only [h1,h2,h3,h4,h5,h6,cond_true] at h
 have fin:σ.imp_ dst ins new ret outs=σ'∧(flat=true→Flat ret outs):=by
  cases flat
  ·simp only [cond_false,l_5] at h
   exact ⟨h,fun e=>by cases e⟩
  ·simp only [cond_true] at h
   cases h7:flatD ret with
   | false=>simp only [h7,cond_false,reduceCtorEq] at h
   | true=>
     cases h8:allO flatO outs with
     | false=>simp only [h7,h8,cond_true,cond_false,reduceCtorEq] at h
     | true=>
       simp only [h7,h8,cond_true,l_5] at h
       exact ⟨h,fun _=>flat_of h7 (allO_iff h8)⟩
 exact ⟨hb,nodupB_iff h1,sameLen_iff h2,allB_iff h3,allB_iff h4,rfl,allO_iff h6,fin.1,fin.2⟩
section
variable {P:Program} {ds:List (Option Nat)} {Q:Exit→St→Prop} {Qv:St→Prop} {σ σ':St} {l:List Oper} {dst:Option Nat} {ty:TypeId} {pos:String} {af:Array Edge} {g:Option (Nat×Bool)} {f:FuncId} {x:Operand} {xs:Array Operand} {ts:Array TypeId} {caps args:List D} {ret:D}
/-- By value, or with objects; E: plain data and the objects ins; S: read off by value. -/
theorem TriD.cE (new:List Nat) {outs:List Obj} (hx:evl σ x = .fn f caps) (hc:ACalls P f args ret outs) (hargs:renL [] (xs.toList.map (evl σ)++caps)=some args) (h:callR ds g σ dst [] new false ret outs=some σ')
  (hn:TriD P ds Q l σ'):TriD P ds Q (⟨dst, .call { callee:= .value x,args:=xs,argTypes:=ts },ty,pos,af,g⟩::l) σ:=by
 obtain ⟨h1,h2,h3,h4,h5,h6,h7,h8,_⟩:=callR_spec h
 exact TriD.callE [] new h1 hx hc hargs rfl h2 h3 h4 h5 h6 h7 h8 hn
theorem TriD.cS (new:List Nat) {outs:List Obj} (hx:evl σ x = .fn f caps) (hc:ACalls P f args ret outs) (hargs:mapO (snapD σ [] 4) (xs.toList.map (evl σ)++caps)=some args) (h:callR ds g σ dst [] new true ret outs=some σ')
  (hn:TriD P ds Q l σ'):TriD P ds Q (⟨dst, .call { callee:= .value x,args:=xs,argTypes:=ts },ty,pos,af,g⟩::l) σ:=by
 obtain ⟨h1,h2,h3,h4,h5,h6,h7,h8,h9⟩:=callR_spec h
 exact TriD.callS [] new h1 hx hc hargs (LeL.refl _) rfl (LeOs.refl _) (h9 rfl) h2 h3 h4 h5 h6 h7 h8 hn
theorem TriD.cI (new:List Nat) {objs outs:List Obj} {ins:List Nat} (hx:evl σ x = .fn f caps) (hi:dedupN [] (nmsL (xs.toList.map (evl σ)++caps))=ins) (hc:MCalls P f objs args ret outs) (hargs:renL ins (xs.toList.map (evl σ)++caps)=some args) (hobjs:renOs σ (renL ins) ins=some objs)
  (h:callR ds g σ dst ins new false ret outs=some σ') (hn:TriD P ds Q l σ'):TriD P ds Q (⟨dst, .call { callee:= .value x,args:=xs,argTypes:=ts },ty,pos,af,g⟩::l) σ:=by
 obtain ⟨h1,h2,h3,h4,h5,h6,h7,h8,_⟩:=callR_spec h
 exact TriD.callE ins new h1 hx hc hargs hobjs h2 h3 h4 h5 h6 h7 h8 hn
def callV (ds:List (Option Nat)) (g:Option (Nat×Bool)) (σ:St) (dst:Option Nat) (flat:Bool) (ret:D):Option St:=
 (aguardC ds g σ).bind fun b=>cond b (cond (ltD 0 ret) (cond (!flat||flatD ret) (some (σ.put dst (nmD [] ret))) none) none) none
theorem callV_spec {flat:Bool} (h:callV ds g σ dst flat ret=some σ'):aguardC ds g σ=some true∧ltD 0 ret=true∧σ.put dst (nmD [] ret)=σ'∧(flat=true→Flat ret []):=by
 simp only [callV,Option.bind_eq_some_iff] at h
 obtain ⟨b,hb,h⟩:=h
 cases b with
 | false=>simp only [cond_false,reduceCtorEq] at h
 | true=>
 simp only [cond_true] at h
 cases h1:ltD 0 ret with
 | false=>simp only [h1,cond_false,reduceCtorEq] at h
 | true=>
 cases h2:(!flat||flatD ret) with
 | false=>simp only [h1,h2,cond_true,cond_false,reduceCtorEq] at h
 | true=>
 simp only [h1,h2,cond_true,l_5] at h
 refine ⟨hb,rfl,h,fun e=>flat_of ?_ rfl⟩
 subst e;simpa using h2
theorem ListD.cE (hx:evl σ x = .fn f caps) (hc:ACalls P f args ret []) (hargs:renL [] (xs.toList.map (evl σ)++caps)=some args) (h:callV ds g σ dst false ret=some σ')
  (hn:ListD P ds Qv l σ'):ListD P ds Qv (⟨dst, .call { callee:= .value x,args:=xs,argTypes:=ts },ty,pos,af,g⟩::l) σ:=by
 obtain ⟨h1,h2,h3,_⟩:=callV_spec h
 exact ListD.callE h1 hx hc hargs h2 h3 hn
theorem ListD.cS (hx:evl σ x = .fn f caps) (hc:ACalls P f args ret []) (hargs:mapO (snapD σ [] 4) (xs.toList.map (evl σ)++caps)=some args) (h:callV ds g σ dst true ret=some σ')
  (hn:ListD P ds Qv l σ'):ListD P ds Qv (⟨dst, .call { callee:= .value x,args:=xs,argTypes:=ts },ty,pos,af,g⟩::l) σ:=by
 obtain ⟨h1,h2,h3,h4⟩:=callV_spec h
 exact ListD.callS h1 hx hc hargs (h4 rfl) h2 h3 hn
end

/-! "Says less" as a list of equations. -/
mutual
def leQ:D→D→Prop
 | .any, .any=>True
 | .sc v, .any=>True
 | .agg ds, .any=>True
 | .sl k rows, .any=>True
 | .tup ds, .any=>True
 | .ro cs, .any=>True
 | .ref o off, .any=>True
 | .elt o k i off, .any=>True
 | .slo o k off n, .any=>True
 | .fn f cs, .any=>True
 | .mp o, .any=>True
 | .mp o, .mp o'=>o=o'
 | .sc v, .sc u=>v=u
 | .sc v, .sl k rows=>v = .slice none 0 0∧rows=[]
 | .slo o k off n, .slo o' k' off' n'=>o=o'∧k=k'∧off=off'∧n=n'
 | .sl k rows, .sl k' rows'=>k=k'∧rows=rows'
 | .agg ds, .agg es=>leQL ds es
 | .tup ds, .tup es=>leQL ds es
 | .ref o off, .ref o' off'=>o=o'∧off=off'
 | .elt o k i off, .elt o' k' i' off'=>o=o'∧k=k'∧i=i'∧off=off'
 | .ro cs, .ro es=>leQL cs es
 | .fn f cs, .fn f' es=>f=f'∧leQL cs es
 | _,_=>False
def leQL:List D→List D→Prop
 | [],[]=>True
 | d::ds,e::es=>leQ d e∧leQL ds es
 | _,_=>False
end
mutual
theorem leQ_spec: ∀ {d e:D},leQ d e→LeD d e
 | d,e,h=>by
   cases e with
   | any=>exact LeD.any d
   | sc u=>cases d<;>simp only [leQ] at h;subst h;exact LeD.refl _
   | sl k' rows'=>
     cases d<;>simp only [leQ] at h
     ·obtain ⟨rfl,rfl⟩:=h;exact LeD.nil _
     ·obtain ⟨rfl,rfl⟩:=h;exact LeD.refl _
   | slo=>cases d<;>simp only [leQ] at h;obtain ⟨rfl,rfl,rfl,rfl⟩:=h;exact LeD.refl _
   | mp=>cases d<;>simp only [leQ] at h;subst h;exact LeD.refl _
   | ref=>cases d<;>simp only [leQ] at h;obtain ⟨rfl,rfl⟩:=h;exact LeD.refl _
   | elt=>cases d<;>simp only [leQ] at h;obtain ⟨rfl,rfl,rfl,rfl⟩:=h;exact LeD.refl _
   | agg es=>cases d<;>simp only [leQ] at h;exact LeD.agg (leQL_spec h)
   | tup es=>cases d<;>simp only [leQ] at h;exact LeD.tup (leQL_spec h)
   | ro es=>cases d<;>simp only [leQ] at h;exact LeD.ro (leQL_spec h)
   | fn f' es=>cases d<;>simp only [leQ] at h;obtain ⟨rfl,h⟩:=h;exact LeD.fn (leQL_spec h)
theorem leQL_spec: ∀ {ds es:List D},leQL ds es→LeL ds es
 | [],[],_=>LeL.nil
 | d::ds,e::es,h=>by
   simp only [leQL] at h
   exact LeL.cons (leQ_spec h.1) (leQL_spec h.2)
 | [],_::_,h=>by simp only [leQL] at h
 | _::_,[],h=>by simp only [leQL] at h
end
def leQO:Obj→Obj→Prop
 | _, .dead=>True
 | .row k rs, .row k' ss=>k=k'∧rs=ss
 | .box ds, .box es=>leQL ds es
 | .ext e, .ext e'=>e=e'
 | _,_=>False
theorem leQO_spec {x y:Obj} (h:leQO x y):LeO x y:=by
 cases y with
 | dead=>exact LeO.dead _
 | row=>cases x<;>simp only [leQO] at h;obtain ⟨rfl,rfl⟩:=h;exact LeO.refl _
 | box=>cases x<;>simp only [leQO] at h;exact LeO.box (leQL_spec h)
 | ext=>cases x<;>simp only [leQO] at h;subst h;exact LeO.refl _
def leQH:List (Nat×Obj)→List (Nat×Obj)→Prop
 | [],[]=>True
 | (o,x)::h,(o',y)::k=>o=o'∧leQO x y∧leQH h k
 | _,_=>False
theorem leQH_spec: ∀ {h k:List (Nat×Obj)},leQH h k→LeH h k
 | [],[],_=>LeH.nil
 | (o,x)::h,(o',y)::k,e=>by
   simp only [leQH] at e
   obtain ⟨rfl,e1,e2⟩:=e
   exact LeH.cons (leQO_spec e1) (leQH_spec e2)
 | [],_::_,e=>by simp only [leQH] at e
 | _::_,[],e=>by simp only [leQH] at e
def leQOs:List Obj→List Obj→Prop
 | [],[]=>True
 | x::xs,y::ys=>leQO x y∧leQOs xs ys
 | _,_=>False
theorem leQOs_spec: ∀ {xs ys:List Obj},leQOs xs ys→LeOs xs ys
 | [],[],_=>LeOs.nil
 | x::xs,y::ys,e=>by
   simp only [leQOs] at e
   exact LeOs.cons (leQO_spec e.1) (leQOs_spec e.2)
 | [],_::_,e=>by simp only [leQOs] at e
 | _::_,[],e=>by simp only [leQOs] at e
attribute [go_sem] Bool.true_or Bool.false_or Bool.or_true Bool.or_false eq_self callR callV nodupB memB allB allO sameLen leQ leQL leQO leQH leQOs Value.int.injEq Value.bool.injEq Value.string.injEq
end Go.Avm
/- The abstract machine, part ZB: a call that is handed the objects that its arguments name, and those that their cells name. -/
namespace Go.Avm
set_option linter.unusedVariables false
set_option linter.unusedSimpArgs false
open Go.RowKit
def nmsO:Obj→List Nat
 | .box cs=>nmsL cs
 | _=>[]
def nmsOs (σ:St):List Nat→List Nat
 | []=>[]
 | o::os=>nmsO (hget σ.heap o)++nmsOs σ os
def closeN (σ:St) (ids:List Nat):List Nat:=dedupN [] (ids++nmsOs σ ids)
section
variable {P:Program} {ds:List (Option Nat)} {Q:Exit→St→Prop} {σ σ':St} {l:List Oper} {dst:Option Nat} {ty:TypeId} {pos:String} {af:Array Edge} {g:Option (Nat×Bool)} {f:FuncId} {x:Operand} {xs:Array Operand} {ts:Array TypeId} {caps args:List D} {ret:D}
theorem TriD.cJ (new:List Nat) {objs outs:List Obj} {ins:List Nat} (hx:evl σ x = .fn f caps) (hi:closeN σ (nmsL (xs.toList.map (evl σ)++caps))=ins) (hc:MCalls P f objs args ret outs) (hargs:renL ins (xs.toList.map (evl σ)++caps)=some args) (hobjs:renOs σ (renL ins) ins=some objs)
  (h:callR ds g σ dst ins new false ret outs=some σ') (hn:TriD P ds Q l σ'):TriD P ds Q (⟨dst, .call { callee:= .value x,args:=xs,argTypes:=ts },ty,pos,af,g⟩::l) σ:=by
 obtain ⟨h1,h2,h3,h4,h5,h6,h7,h8,_⟩:=callR_spec h
 exact TriD.callE ins new h1 hx hc hargs hobjs h2 h3 h4 h5 h6 h7 h8 hn
end
attribute [go_sem] nmsO nmsOs closeN
end Go.Avm
/- The abstract machine, part ZC: a box by value from some point on; drawn regions in which loads from blocks that stay are taken first. -/
namespace Go.Avm
set_option linter.unusedVariables false
set_option linter.unusedSimpArgs false
open Go.RowKit
mutual
/-- A box by value from now on. -/
def bxD (o:Nat) (bs:List D):D→D
 | .ref o' off=>if o'=o then .ro (bs.drop off) else .ref o' off
 | .elt o' k' i off=>if o'=o then .any else .elt o' k' i off
 | .mp o'=>if o'=o then .any else .mp o'
 | .slo o' k' off len=>if o'=o then .any else .slo o' k' off len
 | .agg cs=> .agg (bxL o bs cs)
 | .tup cs=> .tup (bxL o bs cs)
 | .fn f cs=> .fn f (bxL o bs cs)
 | .any=> .any
 | .sc v=> .sc v
 | .sl k rows=> .sl k rows
 | .ro cs=> .ro cs
def bxL (o:Nat) (bs:List D):List D→List D
 | []=>[]
 | d::ds=>bxD o bs d::bxL o bs ds
end
def Obj.bx (o:Nat) (bs:List D):Obj→Obj
 | .box cs=> .box (bxL o bs cs)
 | x=>x
def hbx (o:Nat) (bs:List D):List (Nat×Obj)→List (Nat×Obj)
 | []=>[]
 | (q,x)::h=>(q,x.bx o bs)::hbx o bs h
def St.bx (σ:St) (o:Nat) (bs:List D):St:={ slots:=bxL o bs σ.slots,heap:=hset (hbx o bs σ.heap) o .dead }
theorem hget_hbx {o:Nat} {bs:List D}: ∀ {h:List (Nat×Obj)} {o':Nat},hget (hbx o bs h) o'=(hget h o').bx o bs
 | [],_=>by simp [hbx,hget,Obj.bx]
 | (q,x)::h,o'=>by
   by_cases e:q=o'
   ·simp [hbx,hget,e]
   ·simp [hbx,hget,e,hget_hbx]
theorem hhas_hbx {o:Nat} {bs:List D}: ∀ {h:List (Nat×Obj)} {o':Nat},hhas (hbx o bs h) o'=hhas h o'
 | [],_=>by simp [hbx,hhas]
 | (q,x)::h,o'=>by simp [hbx,hhas,hhas_hbx]
section
variable {w:World} {st:Nat→Prop} {ρ:Nat→Option (Option Nat)} {o:Nat} {bs:List D}
mutual
theorem R.bx (hr: ∀ g,ρ o=some (some g)→st g∧ ∀ off,RC w st g off (bs.drop off)): ∀ {d:D} {v:Value},R w st ρ d v→R w st ρ (bxD o bs d) v
 | .any,_,_=>by simp [bxD,R]
 | .sc _,_,hd=>by simpa [bxD,R] using hd
 | .sl _ _,_,hd=>by simpa [bxD,R] using hd
 | .ro _,_,hd=>by simpa [bxD,R] using hd
 | .agg _,_,hd | .tup _,_,hd | .fn _ _,_,hd=>by
   simp only [bxD,R] at hd ⊢
   obtain ⟨vs,h1,h2⟩:=hd
   exact ⟨vs,h1,RL.bx hr h2⟩
 | .ref o' off,_,hd=>by
   by_cases e:o'=o
   ·subst e
    simp only [bxD,if_true,R] at hd ⊢
    obtain ⟨g,h1,h2⟩:=hd
    exact ⟨g,off,h2,(hr g h1).1,(hr g h1).2 off⟩
   ·simp only [bxD,if_neg e];exact hd
 | .elt o' _ _ _,_,hd=>by
   by_cases e:o'=o
   ·simp [bxD,e,R]
   ·simp only [bxD,if_neg e];exact hd
 | .mp o',_,hd=>by
   by_cases e:o'=o
   ·simp [bxD,e,R]
   ·simp only [bxD,if_neg e];exact hd
 | .slo o' _ _ _,_,hd=>by
   by_cases e:o'=o
   ·simp [bxD,e,R]
   ·simp only [bxD,if_neg e];exact hd
theorem RL.bx (hr: ∀ g,ρ o=some (some g)→st g∧ ∀ off,RC w st g off (bs.drop off)): ∀ {ds:List D} {vs:List Value},RL w st ρ ds vs→RL w st ρ (bxL o bs ds) vs
 | [],_,hd=>by simpa [bxL,RL] using hd
 | _::_,_,hd=>by
   simp only [bxL,RL] at hd ⊢
   obtain ⟨v,vs',h1,h2,h3⟩:=hd
   exact ⟨v,vs',h1,R.bx hr h2,RL.bx hr h3⟩
end
end
theorem RC_of_RL' {w:World} {st:Nat→Prop} {ρ:Nat→Option (Option Nat)} {g:Nat}: ∀ {cs:List D} {vs:List Value} {off:Nat},pureL cs=true→RL w st ρ cs vs→(∀ j v,vs[j]? = some v→w.cell? ⟨g,off+j,none⟩=some v∧v.oneCell'=true)→RC w st g off cs
 | [],_,_,_,_,_=>by simp [RC]
 | c::cs,vs,off,hc,h,hv=>by
   simp only [pureL,Bool.and_eq_true] at hc
   simp only [RL] at h
   obtain ⟨v,vs',rfl,h2,h3⟩:=h
   have h0:=hv 0 v rfl
   simp only [RC]
   refine ⟨⟨v,h0.1,h0.2,pureD_spec hc.1 h2⟩,RC_of_RL' hc.2 h3 fun j u hj=>?_⟩
   have:=hv (j+1) u (by simpa using hj)
   rw [show off+1+j=off+(j+1) by omega];exact this
def bxOk:List D→Bool
 | []=>true
 | d::ds=>pureD d&&oneD d&&bxOk ds
theorem bxOk_spec: ∀ {cs:List D},bxOk cs=true→pureL cs=true∧cs.all oneD=true
 | [],_=>⟨rfl,rfl⟩
 | d::ds,h=>by
   simp only [bxOk,Bool.and_eq_true] at h
   have:=bxOk_spec h.2
   simp only [pureL,List.all_cons,Bool.and_eq_true]
   exact ⟨⟨h.1.1,this.1⟩,h.1.2,this.2⟩
theorem Imp.freezeB (σ:St) (o:Nat) (bs:List D) (hg:hget σ.heap o = .box bs) (hok:bxOk bs=true):Imp σ (σ.bx o bs):=by
 rintro w0 p a w ⟨ρ,h⟩
 obtain ⟨hcls,hone⟩:=bxOk_spec hok
 have hh:hhas σ.heap o=true:=hhas_of_hget (by rw [hg];simp)
 have hget': ∀ o',hget (σ.bx o bs).heap o'=if o'=o then .dead else (hget σ.heap o').bx o bs:=by
  intro o'
  unfold St.bx
  by_cases e:o'=o
  ·subst e;rw [if_pos rfl];exact hget_hset_same (by rw [hhas_hbx];exact hh)
  ·rw [if_neg e,hget_hset_other e,hget_hbx]
 have hfd: ∀ x:Obj,x.bx o bs≠ .dead↔x≠ .dead:=by intro x;cases x<;>simp [Obj.bx]
 have live: ∀ o',hget (σ.bx o bs).heap o'≠ .dead→o'≠o∧hget σ.heap o'≠ .dead:=by
  intro o' ho'
  rw [hget'] at ho'
  by_cases e:o'=o
  ·simp [e] at ho'
  ·rw [if_neg e,hfd] at ho';exact ⟨e,ho'⟩
 have hst: ∀ g,stab p σ.heap ρ w g→stab p (σ.bx o bs).heap ρ w g:=fun g hs=>⟨hs.1,hs.2.1,fun o' ho'=>hs.2.2 o' (live o' ho').2⟩
 have hro:=h.objs o
 rw [hg] at hro
 simp only [RO] at hro
 obtain ⟨g0,cur,e',r1,r2,r3⟩:=hro
 have hr: ∀ g,ρ o=some (some g)→stab p (σ.bx o bs).heap ρ w g∧ ∀ off,RC w (stab p (σ.bx o bs).heap ρ w) g off (bs.drop off):=by
  intro g e
  have hlt:=(h.objs o).lt (by rw [hg];simp) e
  rw [r1] at e
  simp only [l_5] at e
  subst e
  have hone':=RL_one hone r3
  have hrc:RC w (stab p (σ.bx o bs).heap ρ w) g0 0 bs:=by
   refine RC_of_RL' hcls (RL.mono (fun _ _ _=>rfl) (fun _ _ hs=>hs) hst r3) fun j v hj=>⟨?_,hone' v (List.mem_of_getElem? hj)⟩
   rw [Nat.zero_add,cell_of_row w g0 j cur e' (0,0) r2, ← Array.getElem?_toList];exact hj
  refine ⟨⟨h.open_ g0 (h.fresh o g0 (by rw [hg];simp) (.inl r1)),hlt,fun o' ho' e2=>?_⟩,fun off=>?_⟩
  ·obtain ⟨n1,l1⟩:=live o' ho'
   exact n1 (h.inj o' o g0 l1 (by rw [hg];simp) e2 (.inl r1))
  ·have:=RC_drop off hrc
   rw [Nat.zero_add] at this
   exact this
 refine ⟨ρ,h.open_,h.defers,RL.bx hr (RL.mono (fun _ _ _=>rfl) (fun _ _ hs=>hs) hst h.slots),fun o'=>?_,fun o1 o2 g h1 h2=>h.inj o1 o2 g (live o1 h1).2 (live o2 h2).2,fun o1 g h1=>h.fresh o1 g (live o1 h1).2,fun o1 g h1=>h.hlt o1 g (live o1 h1).2,h.below,h.pin⟩
 rw [hget']
 by_cases e:o'=o
 ·simp [e,RO]
 ·rw [if_neg e]
  have h1:=RO.mono (fun _ _ _=>rfl) (fun _ _ hs=>hs) hst (fun _ _=>rfl) (h.objs o')
  cases hx:hget σ.heap o' with
  | dead=>simp [RO,Obj.bx]
  | row k' rows'=>rw [hx] at h1;exact h1
  | box cs=>
    rw [hx] at h1
    simp only [RO,Obj.bx] at h1 ⊢
    obtain ⟨g,cur,e',r1,r2,r3⟩:=h1
    exact ⟨g,cur,e',r1,r2,RL.bx hr r3⟩
  | ext e'=>rw [hx] at h1;exact h1
section
variable {P:Program} {ds:List (Option Nat)} {Q:Exit→St→Prop} {σ σ':St} {l:List Oper}
theorem TriD.bx (o:Nat) {bs:List D} (hg:hget σ.heap o = .box bs) (hok:bxOk bs=true) (he:σ.bx o bs=σ') (hn:TriD P ds Q l σ'):TriD P ds Q l σ:=
 fun all ha w0 p a w hr=>hn all ha w0 p a w (by subst he;exact Imp.freezeB σ o bs hg hok w0 p a w hr)
theorem Tri.bx {c:Code} (o:Nat) {bs:List D} (hg:hget σ.heap o = .box bs) (hok:bxOk bs=true) (he:σ.bx o bs=σ') (hn:Tri P c Q σ'):Tri P c Q σ:=by subst he;exact Tri.imp (Imp.freezeB σ o bs hg hok) hn
end
attribute [go_sem] bxD bxL Obj.bx hbx St.bx bxOk

/-! Drawn regions: the orders, with what lasts beside. -/
section
variable {P:Program} {ops:Array Oper} {Q Q':Exit→Act→World→Prop} {G G':World→Prop}
def wpAnyG (P:Program) (ops:Array Oper) (G:World→Prop) (Q:Exit→Act→World→Prop):Nat→Array Bool→Act→World→Prop
 | 0,listed,a,w=>Region.ready .any ops listed=[]∧Q .normal a w
 | fuel+1,listed,a,w=>(Region.ready .any ops listed=[]→Q .normal a w)∧
   ∀ i∈Region.ready .any ops listed,wpOp P ops Q i (fun a' w'=>G w'∧wpAnyG P ops G Q fuel (listed.setIfInBounds i true) a' w') a w
theorem wpAnyG_drop: ∀ (fuel:Nat) (listed:Array Bool) (a:Act) (w:World),wpAnyG P ops G Q fuel listed a w→wpAny P .any ops Q fuel listed a w
 | 0,_,_,_,h=>h
 | fuel+1,listed,a,w,h=>⟨h.1,fun i hi=>wpOp_mono (fun a' w' h'=>wpAnyG_drop fuel _ a' w' h'.2) (h.2 i hi)⟩
theorem wpOp_monoQ {i:Nat} {a:Act} {w:World} {K:Act→World→Prop} (hq: ∀ e a w,Q e a w→Q' e a w) (h:wpOp P ops Q i K a w):wpOp P ops Q' i K a w:=by
 unfold wpOp at h ⊢
 split
 ·rename_i h0;simpa [h0] using h
 ·rename_i o ho
  simp only [ho] at h
  split
  ·rename_i hw
   rw [if_pos hw] at h
   exact h.imp (fun h2=>Oper.wp_monoQ_ hq h2) (fun h2=>⟨h2.1,by obtain ⟨a,w,h3⟩:=h2.2;exact ⟨a,w,hq _ _ _ h3⟩⟩)
  ·rename_i hw
   rw [if_neg hw] at h
   exact h
theorem wpAnyG_mono (hg: ∀ w,G w→G' w) (hq: ∀ e a w,Q e a w→Q' e a w): ∀ (fuel:Nat) (listed:Array Bool) (a:Act) (w:World),wpAnyG P ops G Q fuel listed a w→wpAnyG P ops G' Q' fuel listed a w
 | 0,_,_,_,h=>⟨h.1,hq _ _ _ h.2⟩
 | fuel+1,listed,a,w,h=>⟨fun h0=>hq _ _ _ (h.1 h0),fun i hi=>wpOp_monoQ hq (wpOp_mono (fun a' w' h'=>⟨hg _ h'.1,wpAnyG_mono hg hq fuel _ a' w' h'.2⟩) (h.2 i hi))⟩
/-- In each world that G lets, the operation yields v. -/
def YieldsG (P:Program) (ops:Array Oper) (G:World→Prop) (o:Oper) (v:Value) (a:Act):Prop:=
 (Region.wanted o (yielded ops a.tmps)=true∧ ∀ w,G w→(execOp a.eval o).run P w = .ok (.value v) w)∨(Region.wanted o (yielded ops a.tmps)=false∧v=undef)
theorem YieldsG.wpOp {i:Nat} {o:Oper} {v:Value} {a:Act} (hi:ops[i]? = some o) (hy:YieldsG P ops G o v a) {K:Act→World→Prop} {w:World} (hG:G w) (h:K (a.put o.dst v) w):wpOp P ops Q i K a w:=by
 unfold Go.wpOp
 simp only [hi]
 rcases hy with ⟨h1,h2⟩|⟨h1,h2⟩
 ·rw [if_pos h1]
  left
  unfold Oper.wp
  rw [h2 w hG]
  exact h
 ·rw [if_neg (by rw [h1];simp), ← h2];exact h
/-- Another operation, the value of the first one not yet put. -/
theorem wpOp_unput {j:Nat} {oj:Oper} {d:Option Tmp} {v:Value} {K:Act→World→Prop} {a:Act} {w:World} (Y:Act→Prop) (hj:ops[j]? = some oj) (hl: ∀ x,d=some x→x∉oj.looksAt ops) (hd: ∀ x,d=some x→oj.dst≠some x)
  (hsj: ∀ cs b,oj.op≠ .select cs b) (hQ: ∀ c a w, ¬ Q (.panic c) a w) (hY: ∀ u,Y (a.put oj.dst u)) (hYd: ∀ dd u,Y (({ a with defers:=dd::a.defers }:Act).put oj.dst u))
  (h:wpOp P ops Q j K (a.put d v) w):wpOp P ops Q j (fun a' w'=>Y a'∧K (a'.put d v) w') a w:=by
 have hcomm: ∀ (b:Act) (u:Value),(b.put oj.dst u).put d v=(b.put d v).put oj.dst u:=by
  intro b u
  cases hdd:d with
  | none=>rfl
  | some x=>
    cases hoo:oj.dst with
    | none=>rfl
    | some y=>
      have hne:y≠x:=fun e=>hd x hdd (by rw [hoo,e])
      simp only [Act.put]
      rw [Array.setIfInBounds_comm _ _ hne]
 have hex:=execOp_put (ops:=ops) oj hsj a d v hl
 unfold wpOp at h ⊢
 simp only [hj,wanted_put oj a d v hl] at h ⊢
 split at h
 ·rename_i hw
  rw [if_pos hw]
  refine h.imp (fun h=>?_) (fun h=>⟨by unfold Oper.asks at *;rw [hex] at h;exact h.1,h.2⟩)
  unfold Oper.wp at h ⊢
  rw [hex] at h
  revert h
  generalize (execOp a.eval oj).run P w=r
  intro h
  cases r with
  | halt x w'=>cases x<;>simp only [Oper.upon] at h ⊢<;>first|exact h|exact absurd h (hQ _ _ _)
  | ok n w'=>
    cases n<;>simp only [Oper.upon] at h ⊢
    case value u=>exact ⟨hY u,by rw [hcomm];exact h⟩
    case skip=>exact ⟨hY _,by rw [hcomm];exact h⟩
    case defer dd=>exact ⟨hYd dd _,by rw [hcomm, ← Act.put_defers];exact h⟩
    case enter f args=>
     refine Calls.mono h fun e w'' he=>?_
     cases e with
     | returned u=>exact ⟨hY u,by rw [hcomm];exact he⟩
     | panicked c=>exact absurd he (hQ _ _ _)
     | outgrown=>exact he
    case row row args=>exact Rows.mono h fun u w'' he=>⟨hY u,by rw [hcomm];exact he⟩
 ·rename_i hw
  rw [if_neg hw]
  exact ⟨hY _,by rw [hcomm];exact h⟩
theorem wpAnyG_first {i:Nat} {oi:Oper} {v:Value} (hi:ops[i]? = some oi) (hsel:Region.noSelect ops=true) (hQ: ∀ c a w, ¬ Q (.panic c) a w):
  ∀ (fuel:Nat) (listed:Array Bool) (a:Act) (w:World),(∀ j oj,ops[j]? = some oj→j≠i→listed.getD j true=false→(∀ e∈oj.after,Region.binds .any e=true→e.on≠i)→oi.apart ops oj=true)→
    i∈Region.ready .any ops listed→YieldsG P ops G oi v a→G w→wpAnyG P ops G Q fuel (listed.setIfInBounds i true) (a.put oi.dst v) w→wpAnyG P ops G Q (fuel+1) listed a w
 | 0,listed,a,w,_,hr,hy,hG,H=>by
   refine ⟨fun h=>(by rw [h] at hr;cases hr),fun j hj=>?_⟩
   by_cases hji:j=i
   ·subst hji;exact hy.wpOp hi hG ⟨hG,H⟩
   ·have:=ready_mono hj hji
    rw [H.1] at this
    cases this
 | fuel+1,listed,a,w,hfree,hr,hy,hG,H=>by
   refine ⟨fun h=>(by rw [h] at hr;cases hr),fun j hj=>?_⟩
   by_cases hji:j=i
   ·subst hji;exact hy.wpOp hi hG ⟨hG,H⟩
   have h1:=H.2 j (ready_mono hj hji)
   obtain ⟨hun,oj,hoj,hall⟩:=mem_ready.1 hj
   have hni:listed.getD i false=false:=by
    have h0:=(mem_ready.1 hr).1
    rcases Nat.lt_or_ge i listed.size with h'|h'
    ·simp [h'] at h0 ⊢;exact h0
    ·simp [Array.getElem?_eq_none h']
   have hap:=hfree j oj hoj hji hun fun e he hb heq=>by
    have h2:=hall e he hb
    rw [heq,hni] at h2
    cases h2
   obtain ⟨a1,a2,a3⟩:=Oper.apart_spec hap
   have hsi:=fun cs b=>Region.noSelect_spec hsel i oi cs b hi
   have hsj:=fun cs b=>Region.noSelect_spec hsel j oj cs b hoj
   have hkeep: ∀ (b:Act),YieldsG P ops G oi v b→ ∀ u,YieldsG P ops G oi v (b.put oj.dst u):=fun b hb u=>by
    unfold YieldsG at hb ⊢
    rw [execOp_put oi hsi b oj.dst u a3,wanted_put oi b oj.dst u a3];exact hb
   have h2:=wpOp_unput (fun b=>YieldsG P ops G oi v b) hoj a1 (fun x hx e=>a2 x hx e) hsj hQ (hkeep a hy) (fun dd u=>hkeep { a with defers:=dd::a.defers } hy u) h1
   refine wpOp_mono (fun a' w' h3=>⟨h3.2.1,?_⟩) h2
   refine wpAnyG_first hi hsel hQ fuel (listed.setIfInBounds j true) a' w' (fun k ok hk hki hu hno=>hfree k ok hk hki ?_ hno) (ready_mono hr (Ne.symm hji)) h3.1 h3.2.1 ?_
   ·by_cases hjk:j=k
    ·subst hjk;exact hun
    ·rw [getD_set_ne true hjk] at hu;exact hu
   ·rw [Array.setIfInBounds_comm _ _ hji];exact h3.2.2
end
theorem RelAt.rebase {w0:World} {p:Pm} {σ:St} {a:Act} {w:World} {ρ:Nm} (h:RelAt w0 p σ a w ρ):RelAt w { p with own:=fun g=> ∃ o,hget σ.heap o≠ .dead∧ow ρ o g } σ a w ρ where
 open_:=fun g hg=>by
  rcases hg with hg|⟨o,h1,h2⟩
  ·exact h.open_ g (.inl (Nat.le_trans h.below.size hg))
  ·exact h.open_ g (h.fresh o g h1 h2)
 defers:=h.defers
 slots:=h.slots
 objs:=h.objs
 inj:=h.inj
 fresh:=fun o g h1 h2=> .inr ⟨o,h1,h2⟩
 hlt:=h.hlt
 below:=BelowO.refl _ _
 pin:=h.pin
theorem RelAt.unbase {w0:World} {p:Pm} {σ σ':St} {a a':Act} {w w':World} {ρ:Nm} (h:RelAt w0 p σ a w ρ) (h':Rel w { p with own:=fun g=> ∃ o,hget σ.heap o≠ .dead∧ow ρ o g } σ' a' w'):Rel w0 p σ' a' w':=by
 obtain ⟨ρ',r⟩:=h'
 refine ⟨ρ',h.open_,r.defers,r.slots,r.objs,r.inj,fun o g h1 h2=>?_,r.hlt,h.below.trans r.below fun g hg ⟨o,h1,h2⟩=>?_,r.pin⟩
 ·rcases r.fresh o g h1 h2 with h3|⟨o',h3,h4⟩
  ·exact .inl (Nat.le_trans h.below.size h3)
  ·exact h.fresh o' g h3 h4
 ·rcases h.fresh o g h1 h2 with h3|h3
  ·omega
  ·exact h3
section
variable {P:Program} {σ:St}
/-- A load from a block that stays: the same value in each world in which the block is the same. -/
theorem load_ro {t:TypeId} {x:Operand} {cs:List D} {d:D} (hx:evl σ x = .ro cs) (h:aval P σ (.load t x)=some d) {w0:World} {p:Pm} {a:Act} {w:World} {ρ:Nm} {o:Oper} (ho:o.op = .load t x) (hr:RelAt w0 p σ a w ρ):
  ∃ g v,stab p σ.heap ρ w g∧R w (stab p σ.heap ρ w) ρ d v∧ ∀ w',(∀ off,w'.cell? ⟨g,off,none⟩=w.cell? ⟨g,off,none⟩)→(execOp a.eval o).run P w' = .ok (.value v) w':=by
 simp only [aval,Option.bind_eq_some_iff] at h
 obtain ⟨ti,ht,cs',hcs,h⟩:=h
 rw [hx] at hcs
 simp only [addrCells,l_5] at hcs
 subst hcs
 split at h
 ·rename_i hl
  have hX:=hr.evl x
  rw [hx] at hX
  simp only [R] at hX
  obtain ⟨g,off,h1,h4,h5⟩:=hX
  obtain ⟨vs,h2,h3⟩:=RC_list (ρ:=ρ) h5
  have hlen:=RL_length h2
  have htake:=RL_take ti.size h2
  refine ⟨g,?_⟩
  unfold mkD at h
  by_cases hA:ti.kind.isAgg=true
  ·rw [if_pos hA] at h
   simp only [l_5] at h
   subst h
   have hlt:(vs.take ti.size).length=ti.size:=by rw [List.length_take];omega
   refine ⟨.agg (vs.take ti.size).toArray,h4,?_,fun w' hw'=>?_⟩
   ·simp only [R]
    exact ⟨_,rfl,by simpa using htake⟩
   ·obtain ⟨_,hsz,_,_,hag⟩:=run_ti ht w'
    have hrun:=run_loadCells_list (P:=P) w' ⟨g,off,none⟩ (vs.take ti.size) (fun j v hj=>by
     rw [Addr.add_lit]
     rw [List.getElem?_take] at hj
     split at hj
     ·rw [hw'];exact h3 j v hj
     ·cases hj)
    rw [hlt] at hrun
    simp [execOp,ho,Instr.loadAt,h1,Instr.sureAddr,loadVar,hag,hA,hsz,hrun]
  ·rw [if_neg hA] at h
   have hA':ti.kind.isAgg=false:=by simpa using hA
   match hcs:cs.take ti.size,h with
   | [c],hd=>
     simp only [l_5] at hd
     subst hd
     rw [hcs] at htake
     simp only [RL] at htake
     obtain ⟨v,vs',e1,e2,e3⟩:=htake
     have hpos:0<ti.size:=by
      rcases Nat.eq_zero_or_pos ti.size with h0|h0
      ·rw [h0] at hcs;simp at hcs
      ·exact h0
     have hv:vs[0]? = some v:=by
      have:(vs.take ti.size)[0]? = some v:=by rw [e1];rfl
      rwa [List.getElem?_take_of_lt hpos] at this
     have hc:=h3 0 v hv
     simp only [Nat.add_zero] at hc
     refine ⟨v,h4,e2,fun w' hw'=>?_⟩
     obtain ⟨_,hsz,_,_,hag⟩:=run_ti ht w'
     have hc':w'.cell? ⟨g,off,none⟩=some v:=by rw [hw'];exact hc
     simp [execOp,ho,Instr.loadAt,h1,Instr.sureAddr,loadVar,hag,hA',hc']
 ·cases h
end
theorem Rel.below_ {w0:World} {p:Pm} {σ:St} {a:Act} {w:World} (h:Rel w0 p σ a w):BelowO p.own w0 w:=by obtain ⟨_,h⟩:=h;exact h.below
def AnyG (P:Program) (ops:Array Oper) (K:St→Prop) (fuel:Nat) (listed:Array Bool) (σ:St):Prop:=
 ∀ w0 p a w,Rel w0 p σ a w→wpAnyG P ops (fun w'=>BelowO p.own w0 w') (fun e a' w'=>e = .normal∧ ∃ σ',K σ'∧Rel w0 p σ' a' w') fuel listed a w
section
variable {P:Program} {σ σ':St} {ops:Array Oper} {K:St→Prop} {fuel:Nat} {listed:Array Bool} {ds:List (Option Nat)}
theorem AnyG.done (hr:Region.ready .any ops listed=[]) (h:K σ):AnyG P ops K fuel listed σ:=by
 intro w0 p a w hrel
 cases fuel with
 | zero=>exact ⟨hr,rfl,σ,h,hrel⟩
 | succ n=>exact ⟨fun _=>⟨rfl,σ,h,hrel⟩,fun i hi=>by rw [hr] at hi;cases hi⟩
theorem AnyG.first (i:Nat) {dst:Option Nat} {op:Op} {ty:TypeId} {pos:String} {af:Array Edge} {g:Option (Nat×Bool)} (hi:ops[i]? = some ⟨dst,op,ty,pos,af,g⟩) (hd:ops.toList.map (·.dst)=ds) (ht:takeB ops listed i=true) (hop:hfOp P σ op=true) (h:astepC P ds dst op g σ=some σ')
  (hn:AnyG P ops K fuel (listed.setIfInBounds i true) σ'):AnyG P ops K (fuel+1) listed σ:=by
 simp only [takeB,Bool.and_eq_true] at ht
 obtain ⟨⟨t1,t2⟩,t3⟩:=ht
 rintro w0 p a w hrel
 have hrel0:=hrel
 simp only [astepC,Option.bind_eq_some_iff] at h
 obtain ⟨b,hb,h⟩:=h
 rw [← aguard_C hd ⟨dst,op,ty,pos,af,g⟩ σ] at hb
 have hw:=aguard_wanted hb hrel
 obtain ⟨ρ,hr⟩:=hrel
 have hQ: ∀ (c:_) (a':Act) (w':World), ¬ (Exit.panic c=Exit.normal∧ ∃ σ',K σ'∧Rel w0 p σ' a' w'):=fun c a' w' h=>by cases h.1
 cases b
 ·simp only [Bool.false_eq_true,if_false,l_5] at h
  subst h
  exact wpAnyG_first hi t1 hQ fuel listed a w (Region.free_spec hi t2) (by simpa using t3) (.inr ⟨hw,rfl⟩) hr.below (hn w0 p _ w ⟨ρ,hr.put dst (by simp [R])⟩)
 ·simp only [if_true,Option.map_eq_some_iff] at h
  obtain ⟨d,hd',rfl⟩:=h
  obtain ⟨v,hv,hR⟩:=aval_sound hd' w0 p a w ρ ⟨dst,op,ty,pos,af,g⟩ rfl hr
  have hno:=(aval_noH hop hd' (o:=⟨dst,op,ty,pos,af,g⟩) rfl hr) w _ _ hv
  exact wpAnyG_first hi t1 hQ fuel listed a w (Region.free_spec hi t2) (by simpa using t3) (.inl ⟨hw,fun w' _=>hno.2 w'⟩) hr.below (hn w0 p _ w ⟨ρ,hr.put dst hR⟩)
def isRo:D→Bool
 | .ro _=>true
 | _=>false
/-- A load from a block that stays is taken first. -/
theorem AnyG.ro (i:Nat) {dst:Option Nat} {t:TypeId} {x:Operand} {ty:TypeId} {pos:String} {af:Array Edge} {g:Option (Nat×Bool)} (hi:ops[i]? = some ⟨dst,.load t x,ty,pos,af,g⟩) (hd:ops.toList.map (·.dst)=ds) (ht:takeB ops listed i=true) (hx:isRo (evl σ x)=true∨aguardC ds g σ=some false) (h:astepC P ds dst (.load t x) g σ=some σ')
  (hn:AnyG P ops K fuel (listed.setIfInBounds i true) σ'):AnyG P ops K (fuel+1) listed σ:=by
 simp only [takeB,Bool.and_eq_true] at ht
 obtain ⟨⟨t1,t2⟩,t3⟩:=ht
 rintro w0 p a w hrel
 have hrel0:=hrel
 simp only [astepC,Option.bind_eq_some_iff] at h
 obtain ⟨b,hbC,h⟩:=h
 have hb:=hbC
 rw [← aguard_C hd ⟨dst, .load t x,ty,pos,af,g⟩ σ] at hb
 have hw:=aguard_wanted hb hrel
 obtain ⟨ρ,hr⟩:=hrel
 cases b
 ·simp only [Bool.false_eq_true,if_false,l_5] at h
  subst h
  exact wpAnyG_first hi t1 (fun c a' w' h=>by cases h.1) fuel listed a w (Region.free_spec hi t2) (by simpa using t3) (.inr ⟨hw,rfl⟩) hr.below (hn w0 p _ w ⟨ρ,hr.put dst (by simp [R])⟩)
 ·simp only [if_true,Option.map_eq_some_iff] at h
  obtain ⟨d,hd',rfl⟩:=h
  have hx':isRo (evl σ x)=true:=by
   rcases hx with hx|hx
   ·exact hx
   ·rw [hbC] at hx;cases hx
  obtain ⟨cs,hcs⟩: ∃ cs,evl σ x = .ro cs:=by
   cases hh:evl σ x<;>rw [hh] at hx'<;>simp [isRo] at hx'
   exact ⟨_,rfl⟩
  obtain ⟨gg,v,s1,s2,s3⟩:=load_ro hcs hd' (o:=⟨dst, .load t x,ty,pos,af,g⟩) rfl hr
  have hput:=hr.put dst s2
  have hb1:=hr.rebase
  have H:=hn w _ _ w ⟨ρ,hb1.put dst s2⟩
  have hG: ∀ w',BelowO (fun g=> ∃ o,hget σ.heap o≠ .dead∧ow ρ o g) w w'→BelowO p.own w0 w':=fun w' hb'=>hr.below.trans hb' fun g hg ⟨o,h1,h2⟩=>by
   rcases hr.fresh o g h1 h2 with h3|h3
   ·omega
   ·exact h3
  refine wpAnyG_mono hG ?_ _ _ _ _ (wpAnyG_first (G:=fun w'=>BelowO (fun g=> ∃ o,hget σ.heap o≠ .dead∧ow ρ o g) w w') (v:=v) hi t1 (fun c a' w' h=>by cases h.1) fuel listed a w (Region.free_spec hi t2) (by simpa using t3) (.inl ⟨hw,fun w' hb'=>s3 w' fun off=>World.cell?_of_block (w:=w) (a:=⟨gg,off,none⟩) (hb'.block gg s1.2.1 fun ⟨o,h1,h2⟩=>s1.2.2 o h1 h2)⟩) (BelowO.refl _ _) H)
  ·rintro e a' w' ⟨h0,σ',h1,h2⟩
   exact ⟨h0,σ',h1,hr.unbase h2⟩
def NextG (P:Program) (ops:Array Oper) (ds:List (Option Nat)) (K:St→Prop) (fuel:Nat) (listed:Array Bool) (σ:St) (i:Nat):Prop:=
 ∃ o,ops[i]? = some o∧TriD P ds (fun e σ'=>e = .normal∧AnyG P ops K fuel (listed.setIfInBounds i true) σ') [o] σ
def NextsG (P:Program) (ops:Array Oper) (ds:List (Option Nat)) (K:St→Prop) (fuel:Nat) (listed:Array Bool) (σ:St):List Nat→Prop
 | []=>True
 | i::l=>NextG P ops ds K fuel listed σ i∧NextsG P ops ds K fuel listed σ l
theorem NextsG.all: ∀ {l:List Nat},NextsG P ops ds K fuel listed σ l→ ∀ i∈l,NextG P ops ds K fuel listed σ i
 | _::l,h,i,hi=>by
   rcases List.mem_cons.1 hi with rfl|hi
   ·exact h.1
   ·exact h.2.all i hi
theorem AnyG.all (rs:List Nat) (hr:Region.ready .any ops listed=rs) (hne:rs≠[]) (hd:ops.toList.map (·.dst)=ds) (h:NextsG P ops ds K fuel listed σ rs):AnyG P ops K (fuel+1) listed σ:=by
 intro w0 p a w hrel
 refine ⟨fun h0=>absurd (hr▸h0) hne,fun i hi=>?_⟩
 rw [hr] at hi
 obtain ⟨o,ho,ht⟩:=h.all i hi
 have hl:=ht ops hd w0 p a w hrel
 unfold wpOp
 simp only [ho]
 simp only [wpList] at hl
 split
 ·rename_i hw
  rw [if_pos hw] at hl
  rcases hl with hl|⟨h1,h2⟩
  ·left
   unfold Oper.wp at hl ⊢
   generalize (execOp a.eval o).run P w=r at *
   cases r with
   | ok n w'=>
     cases n<;>simp only [Oper.upon] at hl ⊢<;>first
      | (obtain ⟨σ',⟨_,h3⟩,h4⟩:=hl;exact ⟨h4.below_,h3 _ _ _ _ h4⟩)
      | exact Calls.mono hl (fun e w'' he=>by
        cases e with
        | returned v=>obtain ⟨σ',⟨_,h3⟩,h4⟩:=he;exact ⟨h4.below_,h3 _ _ _ _ h4⟩
        | panicked c=>obtain ⟨σ',⟨h3,_⟩,_⟩:=he;cases h3
        | outgrown=>obtain ⟨_,_,σ',⟨h3,_⟩,_⟩:=he;cases h3)
      | exact Rows.mono hl (fun v w'' he=>by obtain ⟨σ',⟨_,h3⟩,h4⟩:=he;exact ⟨h4.below_,h3 _ _ _ _ h4⟩)
      | exact hl
   | halt x w'=>cases x<;>simp only [Oper.upon] at hl ⊢<;>first|exact hl|(obtain ⟨σ',⟨h3,_⟩,_⟩:=hl;cases h3)
  ·obtain ⟨_,_,σ',⟨h3,_⟩,_⟩:=h2;cases h3
 ·rename_i hw
  rw [if_neg hw] at hl
  obtain ⟨σ',⟨_,h3⟩,h4⟩:=hl
  exact ⟨h4.below_,h3 _ _ _ _ h4⟩
theorem NextsG.nil:NextsG P ops ds K fuel listed σ []:=trivial
theorem NextsG.cons {i:Nat} {rs:List Nat} {o:Oper} (ho:ops[i]? = some o) (h:TriD P ds (fun e σ'=>e = .normal∧AnyG P ops K fuel (listed.setIfInBounds i true) σ') [o] σ) (hn:NextsG P ops ds K fuel listed σ rs):NextsG P ops ds K fuel listed σ (i::rs):=⟨⟨o,ho,h⟩,hn⟩
/-- A drawn region, whatever stands in it. -/
theorem Tri.mixedG (id:Nat) {l:List Oper} {Q:Exit→St→Prop} (hm:P.follows .mixedOrders=true) (n:Nat) (hl:l.length=n) (h:AnyG P l.toArray (Q .normal) n (Array.replicate n false) σ):Tri P (.region id l.toArray true) Q σ:=by
 rintro w0 p a w ⟨ρ,hr⟩
 refine wp_region_any hm ?_
 subst hl
 refine wpAny_mono_ ?_ _ _ _ _ (wpAnyG_drop _ _ _ _ (h w0 p a _ ⟨ρ,hr.drew⟩))
 rintro e a' w' ⟨rfl,h2⟩
 exact h2
end
attribute [go_sem] isRo
end Go.Avm
/- The abstract machine, part ZD: flags that are joined by 'or' and 'and' without a case for each value. -/
namespace Go.Avm
set_option linter.unusedVariables false
set_option linter.unusedSimpArgs false
open Go.RowKit
/-- What is rewritten under conditions, in one piece. -/
theorem cnd:type_of% (And.intro @Int.fdiv_eq_ediv_of_nonneg (And.intro @tdiv_pos (And.intro @tmod_pos (And.intro @IntWalk.i64_in (And.intro @IntWalk.u8_in (And.intro @IntWalk.u64_in (And.intro @IntWalk.i32_in (And.intro @IntWalk.u32_in (And.intro @if_pos.{1} (And.intro @if_neg.{1} (And.intro @decide_eq_true @decide_eq_false))))))))))):=And.intro @Int.fdiv_eq_ediv_of_nonneg (And.intro @tdiv_pos (And.intro @tmod_pos (And.intro @IntWalk.i64_in (And.intro @IntWalk.u8_in (And.intro @IntWalk.u64_in (And.intro @IntWalk.i32_in (And.intro @IntWalk.u32_in (And.intro @if_pos.{1} (And.intro @if_neg.{1} (And.intro @decide_eq_true @decide_eq_false))))))))))
theorem LeL_set {x y:D} (hx:LeD x y): ∀ {s s':List D} (t:Nat),LeL s s'→LeL (s.set t x) (s'.set t y)
 | _,_,_, .nil=> .nil
 | _,_,0, .cons h1 h2=> .cons hx h2
 | _,_,t+1, .cons h1 h2=> .cons h1 (LeL_set hx t h2)
section
variable {P:Program} {ds:List (Option Nat)} {Q:Exit→St→Prop} {σ σ':St} {l:List Oper} {op:Op} {ty ty':TypeId} {pos pos':String} {af af':Array Edge} {i t1 t2 t3:Nat} {b b':Bool}
theorem gslot_some {w:Bool} (hs:gslot ds (some (i,w))=some t1) (hb:evl σ (.tmp t1) = .sc (.bool b)):aguardC ds (some (i,w)) σ=some (b==w):=by
 simp only [gslot] at hs
 simp only [evl] at hb
 simp only [aguardC,hs,Option.bind_some,hb,gB]
theorem evl_put_ne {d:D} (h:t1≠t2):evl (σ.put (some t2) d) (.tmp t1)=evl σ (.tmp t1):=by
 simp [evl,St.put,List.getD_eq_getElem?_getD,List.getElem?_set_ne (Ne.symm h)]
theorem evl_put_eq {d:D} (h:t2<σ.slots.length):evl (σ.put (some t2) d) (.tmp t2)=d:=by
 simp [evl,St.put,List.getD_eq_getElem?_getD,h]
theorem impU {d x:D}:Imp ((σ.put (some t2) d).put (some t3) x) ((σ.put (some t2) .any).put (some t3) x):=Imp.le (LeL_set (LeD.refl _) t3 (LeL_set (LeD.any _) t2 (LeL.refl _))) (LeH.refl _)
theorem evl_true:evl σ (.const (.bool true)) = .sc (.bool true):=rfl
theorem evl_false:evl σ (.const (.bool false)) = .sc (.bool false):=rfl
theorem TriD.or2 (hs:gslot ds (some (i,false))=some t1) (hb:evl σ (.tmp t1) = .sc (.bool b)) (hne:t1≠t2) (hlt:t2<σ.slots.length) (he:isEff op=false) (ho:aval P σ op=some (.sc (.bool b')))
  (hx:(σ.put (some t2) .any).put (some t3) (.sc (.bool (b||b')))=σ') (hn:TriD P ds Q l σ'):TriD P ds Q (⟨some t2,op,ty,pos,af,some (i,false)⟩::⟨some t3, .pick (.tmp t1) (.const (.bool true)) (.tmp t2),ty',pos',af',none⟩::l) σ:=by
 subst hx
 have hg:=gslot_some (w:=false) hs hb
 cases b
 ·refine TriD.step (σ':=σ.put (some t2) (.sc (.bool b'))) (by simp [bstepC,hg,he,ho]) (TriD.step (σ':=(σ.put (some t2) (.sc (.bool b'))).put (some t3) (.sc (.bool b'))) ?_ (TriD.imp impU (by simpa using hn)))
  simp [bstepC,aguardC,isEff,aval,evl_put_ne hne,hb,evl_put_eq hlt]
 ·refine TriD.step (σ':=σ.put (some t2) (.sc undef)) (by simp [bstepC,hg]) (TriD.step (σ':=(σ.put (some t2) (.sc undef)).put (some t3) (.sc (.bool true))) ?_ (TriD.imp impU (by simpa using hn)))
  simp [bstepC,aguardC,isEff,aval,evl_put_ne hne,hb,evl_true,evl_false]
variable {ops:Array Oper} {K:St→Prop} {fuel:Nat} {listed:Array Bool}
theorem AnyG.imp (h:Imp σ σ') (hn:AnyG P ops K fuel listed σ'):AnyG P ops K fuel listed σ:=fun w0 p a w hr=>hn w0 p a w (h w0 p a w hr)
theorem AnyG.or2 (n m:Nat) (hi:ops[n]? = some ⟨some t2,op,ty,pos,af,some (i,false)⟩) (hj:ops[m]? = some ⟨some t3, .pick (.tmp t1) (.const (.bool true)) (.tmp t2),ty',pos',af',none⟩) (hd:ops.toList.map (·.dst)=ds)
  (ht:takeB ops listed n=true) (ht':takeB ops (listed.setIfInBounds n true) m=true) (hop:hfOp P σ op=true) (hs:gslot ds (some (i,false))=some t1) (hb:evl σ (.tmp t1) = .sc (.bool b)) (hne:t1≠t2) (hlt:t2<σ.slots.length) (ho:aval P σ op=some (.sc (.bool b')))
  (hx:(σ.put (some t2) .any).put (some t3) (.sc (.bool (b||b')))=σ') (hn:AnyG P ops K fuel ((listed.setIfInBounds n true).setIfInBounds m true) σ'):AnyG P ops K (fuel+1+1) listed σ:=by
 subst hx
 have hg:=gslot_some (w:=false) hs hb
 cases b
 ·refine AnyG.first (σ':=σ.put (some t2) (.sc (.bool b'))) n hi hd ht hop (by simp [astepC,hg,ho]) (AnyG.first (σ':=(σ.put (some t2) (.sc (.bool b'))).put (some t3) (.sc (.bool b'))) m hj hd ht' rfl ?_ (AnyG.imp impU (by simpa using hn)))
  simp [astepC,aguardC,aval,evl_put_ne hne,hb,evl_put_eq hlt]
 ·refine AnyG.first (σ':=σ.put (some t2) (.sc undef)) n hi hd ht hop (by simp [astepC,hg]) (AnyG.first (σ':=(σ.put (some t2) (.sc undef)).put (some t3) (.sc (.bool true))) m hj hd ht' rfl ?_ (AnyG.imp impU (by simpa using hn)))
  simp [astepC,aguardC,aval,evl_put_ne hne,hb,evl_true,evl_false]
/-- As or2, the second flag loaded from what stays. -/
theorem AnyG.or2r (n m:Nat) {t:TypeId} {x:Operand} (hi:ops[n]? = some ⟨some t2, .load t x,ty,pos,af,some (i,false)⟩) (hj:ops[m]? = some ⟨some t3, .pick (.tmp t1) (.const (.bool true)) (.tmp t2),ty',pos',af',none⟩) (hd:ops.toList.map (·.dst)=ds)
  (ht:takeB ops listed n=true) (ht':takeB ops (listed.setIfInBounds n true) m=true) (hro:isRo (evl σ x)=true) (hs:gslot ds (some (i,false))=some t1) (hb:evl σ (.tmp t1) = .sc (.bool b)) (hne:t1≠t2) (hlt:t2<σ.slots.length) (ho:aval P σ (.load t x)=some (.sc (.bool b')))
  (hx:(σ.put (some t2) .any).put (some t3) (.sc (.bool (b||b')))=σ') (hn:AnyG P ops K fuel ((listed.setIfInBounds n true).setIfInBounds m true) σ'):AnyG P ops K (fuel+1+1) listed σ:=by
 subst hx
 have hg:=gslot_some (w:=false) hs hb
 cases b
 ·refine AnyG.ro (σ':=σ.put (some t2) (.sc (.bool b'))) n hi hd ht (.inl hro) (by simp [astepC,hg,ho]) (AnyG.first (σ':=(σ.put (some t2) (.sc (.bool b'))).put (some t3) (.sc (.bool b'))) m hj hd ht' rfl ?_ (AnyG.imp impU (by simpa using hn)))
  simp [astepC,aguardC,aval,evl_put_ne hne,hb,evl_put_eq hlt]
 ·refine AnyG.ro (σ':=σ.put (some t2) (.sc undef)) n hi hd ht (.inl hro) (by simp [astepC,hg]) (AnyG.first (σ':=(σ.put (some t2) (.sc undef)).put (some t3) (.sc (.bool true))) m hj hd ht' rfl ?_ (AnyG.imp impU (by simpa using hn)))
  simp [astepC,aguardC,aval,evl_put_ne hne,hb,evl_true,evl_false]
/-- The slots that a region's operations fill. -/
def dsOf (ops:Array Oper):List (Option Nat):=ops.toList.map (·.dst)
theorem dsOf_get {j:Nat}:(dsOf ops)[j]? = (ops[j]?).map (·.dst):=by simp [dsOf]
attribute [go_sem] dsOf_get List.getElem?_toArray Option.map_some
end
end Go.Avm
/- The abstract machine, part ZE: drawn regions by a plan told as data; shorter forms of what is asked at a return, a test, a case. -/
namespace Go.Avm
set_option linter.unusedVariables false
set_option linter.unusedSimpArgs false
open Go.RowKit
/-- A plan for a drawn region: what is taken first (f: no heap; r: a load from what stays; o, q: a flag and what joins it), where all orders follow (a, with its branches b, ended by e), the end d. -/
inductive Pl
 | d
 | f (i:Nat) (p:Pl)
 | r (i:Nat) (p:Pl)
 | o (i j:Nat) (p:Pl)
 | q (i j:Nat) (p:Pl)
 | a (p:Pl)
 | b (i:Nat) (p s:Pl)
 | e
def Pl.heads:Pl→List Nat
 | .b i _ s=>i::s.heads
 | _=>[]
def Pl.ok (ops:Array Oper):Pl→Array Bool→Bool
 | .d,ls=>(Region.ready .any ops ls).isEmpty
 | .f i p,ls=>takeB ops ls i&&p.ok ops (ls.setIfInBounds i true)
 | .r i p,ls=>takeB ops ls i&&p.ok ops (ls.setIfInBounds i true)
 | .o i j p,ls=>takeB ops ls i&&(takeB ops (ls.setIfInBounds i true) j&&p.ok ops ((ls.setIfInBounds i true).setIfInBounds j true))
 | .q i j p,ls=>takeB ops ls i&&(takeB ops (ls.setIfInBounds i true) j&&p.ok ops ((ls.setIfInBounds i true).setIfInBounds j true))
 | .a p,ls=>Region.ready .any ops ls==p.heads&&(!p.heads.isEmpty&&p.ok ops ls)
 | .b i p s,ls=>p.ok ops (ls.setIfInBounds i true)&&s.ok ops ls
 | .e,_=>true
section
variable {P:Program} {ds:List (Option Nat)} {Q:Exit→St→Prop} {σ σ':St} {op:Op} {ty ty':TypeId} {pos pos':String} {af af':Array Edge} {i j t1 t2 t3:Nat} {b b':Bool} {ops:Array Oper} {K:St→Prop} {fuel:Nat} {listed:Array Bool} {p s:Pl} {dst:Option Nat} {g:Option (Nat×Bool)} {t:TypeId} {x:Operand}
def AnyP (P:Program) (ops:Array Oper) (K:St→Prop) (pl:Pl) (fuel:Nat) (listed:Array Bool) (σ:St):Prop:=pl.ok ops listed=true→AnyG P ops K fuel listed σ
def NextsP (P:Program) (ops:Array Oper) (ds:List (Option Nat)) (K:St→Prop) (pl:Pl) (fuel:Nat) (listed:Array Bool) (σ:St):Prop:=pl.ok ops listed=true→NextsG P ops ds K fuel listed σ pl.heads
theorem isAnyP (h:AnyP P ops K p fuel listed σ):AnyP P ops K p fuel listed σ:=h
theorem AnyP.F (hi:ops[i]? = some ⟨dst,op,ty,pos,af,g⟩) (hop:hfOp P σ op=true) (h:astepC P (dsOf ops) dst op g σ=some σ') (hn:AnyP P ops K p fuel (listed.setIfInBounds i true) σ'):AnyP P ops K (.f i p) (fuel+1) listed σ:=fun hk=>by
 simp only [Pl.ok,Bool.and_eq_true] at hk
 exact AnyG.first i hi rfl hk.1 hop h (hn hk.2)
theorem AnyP.R (hi:ops[i]? = some ⟨dst,.load t x,ty,pos,af,g⟩) (hx:isRo (evl σ x)=true∨aguardC (dsOf ops) g σ=some false) (h:astepC P (dsOf ops) dst (.load t x) g σ=some σ') (hn:AnyP P ops K p fuel (listed.setIfInBounds i true) σ'):AnyP P ops K (.r i p) (fuel+1) listed σ:=fun hk=>by
 simp only [Pl.ok,Bool.and_eq_true] at hk
 exact AnyG.ro i hi rfl hk.1 hx h (hn hk.2)
theorem AnyP.O {u:Nat} (hi:ops[i]? = some ⟨some t2,op,ty,pos,af,some (u,false)⟩) (hj:ops[j]? = some ⟨some t3,.pick (.tmp t1) (.const (.bool true)) (.tmp t2),ty',pos',af',none⟩) (hop:hfOp P σ op=true) (hs:gslot (dsOf ops) (some (u,false))=some t1) (hb:evl σ (.tmp t1) = .sc (.bool b)) (hne:t1≠t2) (hlt:t2<σ.slots.length) (ho:aval P σ op=some (.sc (.bool b')))
  (hx:(σ.put (some t2) .any).put (some t3) (.sc (.bool (b||b')))=σ') (hn:AnyP P ops K p fuel ((listed.setIfInBounds i true).setIfInBounds j true) σ'):AnyP P ops K (.o i j p) (fuel+1+1) listed σ:=fun hk=>by
 simp only [Pl.ok,Bool.and_eq_true] at hk
 exact AnyG.or2 i j hi hj rfl hk.1 hk.2.1 hop hs hb hne hlt ho hx (hn hk.2.2)
theorem AnyP.Or {u:Nat} (hi:ops[i]? = some ⟨some t2,.load t x,ty,pos,af,some (u,false)⟩) (hj:ops[j]? = some ⟨some t3,.pick (.tmp t1) (.const (.bool true)) (.tmp t2),ty',pos',af',none⟩) (hro:isRo (evl σ x)=true) (hs:gslot (dsOf ops) (some (u,false))=some t1) (hb:evl σ (.tmp t1) = .sc (.bool b)) (hne:t1≠t2) (hlt:t2<σ.slots.length) (ho:aval P σ (.load t x)=some (.sc (.bool b')))
  (hx:(σ.put (some t2) .any).put (some t3) (.sc (.bool (b||b')))=σ') (hn:AnyP P ops K p fuel ((listed.setIfInBounds i true).setIfInBounds j true) σ'):AnyP P ops K (.q i j p) (fuel+1+1) listed σ:=fun hk=>by
 simp only [Pl.ok,Bool.and_eq_true] at hk
 exact AnyG.or2r i j hi hj rfl hk.1 hk.2.1 hro hs hb hne hlt ho hx (hn hk.2.2)
theorem AnyP.A (h:NextsP P ops (dsOf ops) K p fuel listed σ):AnyP P ops K (.a p) (fuel+1) listed σ:=fun hk=>by
 simp only [Pl.ok,Bool.and_eq_true,beq_iff_eq,Bool.not_eq_true',List.isEmpty_eq_false_iff] at hk
 exact AnyG.all p.heads hk.1 hk.2.1 rfl (h hk.2.2)
theorem AnyP.D (h:K σ):AnyP P ops K .d fuel listed σ:=fun hk=>AnyG.done (by simpa only [Pl.ok,List.isEmpty_iff] using hk) h
theorem NextsP.E:NextsP P ops ds K .e fuel listed σ:=fun _=>NextsG.nil
theorem NextsP.B {o:Oper} (ho:ops[i]? = some o) (h:TriD P ds (fun e σ'=>e = .normal∧AnyP P ops K p fuel (listed.setIfInBounds i true) σ') [o] σ) (hn:NextsP P ops ds K s fuel listed σ):NextsP P ops ds K (.b i p s) fuel listed σ:=fun hk=>by
 simp only [Pl.ok,Bool.and_eq_true] at hk
 refine NextsG.cons ho ?_ (hn hk.2)
 have e:(fun (e:Exit) (σ':St)=>e = .normal∧AnyP P ops K p fuel (listed.setIfInBounds i true) σ')=(fun e σ'=>e = .normal∧AnyG P ops K fuel (listed.setIfInBounds i true) σ'):=by
  funext e σ'
  simp only [AnyP,hk.1,true_implies]
 rw [e] at h
 exact h
theorem TriD.nilP (h:AnyP P ops K p fuel listed σ):TriD P ds (fun e σ'=>e = .normal∧AnyP P ops K p fuel listed σ') [] σ:=TriD.nil ⟨rfl,h⟩
theorem Tri.mixedP (id:Nat) {l:List Oper} {Q:Exit→St→Prop} (hm:P.follows .mixedOrders=true) (n:Nat) (hl:l.length=n) (pl:Pl) (hk:pl.ok l.toArray (Array.replicate n false)=true) (h:AnyP P l.toArray (Q .normal) pl n (Array.replicate n false) σ):Tri P (.region id l.toArray true) Q σ:=
 Tri.mixedG id hm n hl (h hk)
end
attribute [irreducible] AnyP NextsP
/-- A case, its condition not yet made plain. -/
def Cv (c p:Prop):Prop:=c→p
theorem cvI {c p:Prop} (h:Cv c p):c→p:=h
theorem isCv {c p:Prop} (h:c→p):Cv c p:=h
/-- Flags made plain. -/
theorem bls:type_of% (And.intro @decide_eq_true_eq (And.intro @decide_eq_false_iff_not (And.intro @Bool.and_eq_true (And.intro @Bool.or_eq_true (And.intro @Bool.and_eq_false_iff (And.intro @Bool.or_eq_false_iff (And.intro @Bool.not_eq_true' (And.intro @Bool.not_eq_false' (And.intro @Bool.not_eq_eq_eq_not (And.intro @Bool.not_true (And.intro @Bool.not_false (And.intro @beq_iff_eq.{0} (And.intro @bne_iff_ne.{0} (And.intro @beq_eq_false_iff_ne.{0} (And.intro @bne_eq_false_iff_eq.{0} (And.intro @Int.not_lt (And.intro @Int.not_le @Decidable.not_not))))))))))))))))):=And.intro @decide_eq_true_eq (And.intro @decide_eq_false_iff_not (And.intro @Bool.and_eq_true (And.intro @Bool.or_eq_true (And.intro @Bool.and_eq_false_iff (And.intro @Bool.or_eq_false_iff (And.intro @Bool.not_eq_true' (And.intro @Bool.not_eq_false' (And.intro @Bool.not_eq_eq_eq_not (And.intro @Bool.not_true (And.intro @Bool.not_false (And.intro @beq_iff_eq.{0} (And.intro @bne_iff_ne.{0} (And.intro @beq_eq_false_iff_ne.{0} (And.intro @bne_eq_false_iff_eq.{0} (And.intro @Int.not_lt (And.intro @Int.not_le @Decidable.not_not))))))))))))))))
def exB:Exit→Bool
 | .normal=>true
 | .ret=>true
 | _=>false
theorem RetOK.q {P:Program} {fn:Func} {ins new:List Nat} {ret d d':D} {xs outs:List Obj} {e:Exit} {σ:St} (he:exB e=true) (hd:retD P σ fn.results.toList=some d) (hn:dedupN ins (nmsD d)=new) (hnd:(ins++new).Nodup)
  (hr:renD (ins++new) d=some d') (ho:outsOf (ins++new) σ.heap (ins++new)=some xs) (hl:(ins++new).length=outs.length) (h:leQ d' ret∧leQOs xs outs):RetOK P fn ins ret outs e σ:=
 RetOK.auto (by cases e<;>simp_all [exB]) hd hn hnd hr (leQ_spec h.1) ho hl (leQOs_spec h.2)
section
variable {P:Program} {ds:List (Option Nat)} {Q:Exit→St→Prop} {Qv:St→Prop} {σ σ':St} {l:List Oper} {dst:Option Nat} {ty:TypeId} {pos:String} {af:Array Edge} {g:Option (Nat×Bool)} {f:FuncId} {x:Operand} {xs:Array Operand} {ts:Array TypeId} {caps args:List D} {ret:D} {K:St→Prop} {sn:Bool}
/-- A call whose callee and arguments are known, and what follows. -/
def CallK (P:Program) (ds:List (Option Nat)) (g:Option (Nat×Bool)) (σ:St) (dst:Option Nat) (f:FuncId) (args:List D) (sn:Bool) (K:St→Prop):Prop:=
 ∃ new ret outs σ',ACalls P f args ret outs∧callR ds g σ dst [] new sn ret outs=some σ'∧K σ'
theorem CallK.c (new:List Nat) {outs:List Obj} (hc:ACalls P f args ret outs) (h:callR ds g σ dst [] new sn ret outs=some σ') (hn:K σ'):CallK P ds g σ dst f args sn K:=⟨new,ret,outs,σ',hc,h,hn⟩
theorem TriD.dE (hx:evl σ x = .fn f caps) (hargs:renL [] (xs.toList.map (evl σ)++caps)=some args) (h:CallK P ds g σ dst f args false (fun σ'=>TriD P ds Q l σ')):TriD P ds Q (⟨dst, .call { callee:= .value x,args:=xs,argTypes:=ts },ty,pos,af,g⟩::l) σ:=by
 obtain ⟨new,ret,outs,σ',h1,h2,h3⟩:=h
 exact TriD.cE new hx h1 hargs h2 h3
theorem TriD.dS (hx:evl σ x = .fn f caps) (hargs:mapO (snapD σ [] 4) (xs.toList.map (evl σ)++caps)=some args) (h:CallK P ds g σ dst f args true (fun σ'=>TriD P ds Q l σ')):TriD P ds Q (⟨dst, .call { callee:= .value x,args:=xs,argTypes:=ts },ty,pos,af,g⟩::l) σ:=by
 obtain ⟨new,ret,outs,σ',h1,h2,h3⟩:=h
 exact TriD.cS new hx h1 hargs h2 h3
/-- As CallK, in a region told by values. -/
def CallW (P:Program) (ds:List (Option Nat)) (g:Option (Nat×Bool)) (σ:St) (dst:Option Nat) (f:FuncId) (args:List D) (sn:Bool) (K:St→Prop):Prop:=
 ∃ ret σ',ACalls P f args ret []∧callV ds g σ dst sn ret=some σ'∧K σ'
theorem CallW.c (hc:ACalls P f args ret []) (h:callV ds g σ dst sn ret=some σ') (hn:K σ'):CallW P ds g σ dst f args sn K:=⟨ret,σ',hc,h,hn⟩
theorem ListD.dE (hx:evl σ x = .fn f caps) (hargs:renL [] (xs.toList.map (evl σ)++caps)=some args) (h:CallW P ds g σ dst f args false (fun σ'=>ListD P ds Qv l σ')):ListD P ds Qv (⟨dst, .call { callee:= .value x,args:=xs,argTypes:=ts },ty,pos,af,g⟩::l) σ:=by
 obtain ⟨ret,σ',h1,h2,h3⟩:=h
 exact ListD.cE hx h1 hargs h2 h3
theorem ListD.dS (hx:evl σ x = .fn f caps) (hargs:mapO (snapD σ [] 4) (xs.toList.map (evl σ)++caps)=some args) (h:CallW P ds g σ dst f args true (fun σ'=>ListD P ds Qv l σ')):ListD P ds Qv (⟨dst, .call { callee:= .value x,args:=xs,argTypes:=ts },ty,pos,af,g⟩::l) σ:=by
 obtain ⟨ret,σ',h1,h2,h3⟩:=h
 exact ListD.cS hx h1 hargs h2 h3
end
attribute [irreducible] CallK CallW
end Go.Avm
/- The abstract machine, part ZF: a sort in place, out of a contract of the library's shelf. -/
namespace Go.Avm
set_option linter.unusedVariables false
set_option linter.unusedSimpArgs false
open Go.RowKit Go.Sort
section
variable {α:Type} {enc:α→Value} {P:Program} {f:FuncId}
theorem RR_enc {w:World} {st:Nat→Prop} {g:Nat} (h1: ∀ z,(enc z).oneCell'=true): ∀ {l:List α} {off:Nat},(∀ j z,l[j]? = some z→w.cell? ⟨g,off+j,none⟩=some (enc z))→RR w st 1 g off (l.map fun z=>[.sc (enc z)])
 | [],_,_=>by simp [RR]
 | z::l,off,h=>by
   simp only [l_3,RR,RC,R,List.length_cons,List.length_nil,and_true,true_and]
   refine ⟨⟨enc z,?_,h1 z,rfl⟩,RR_enc h1 fun j y hj=>?_⟩
   ·have:=h 0 z rfl
    simpa using this
   ·have:=h (j+1) y (by simpa using hj)
    rw [show off+1+j=off+(j+1) by omega];exact this
theorem enc_RR {w:World} {st:Nat→Prop} {g:Nat} {l:List α} {j:Nat} {z:α} (h:RR w st 1 g 0 (l.map fun z=>[.sc (enc z)])) (hj:l[j]? = some z):w.cell? ⟨g,j,none⟩=some (enc z):=by
 have h2:=(RR_get h (i:=j) (r:=[.sc (enc z)]) (by simp [hj])).2
 simp only [RC,R,Nat.zero_add,Nat.mul_one,and_true] at h2
 obtain ⟨v,e1,_,e2⟩:=h2
 rw [e1,e2]
variable [Inhabited α]
theorem putCells_get {d:List α} {c:Array Value} {j:Nat}:(putCells enc 0 d.toArray c)[j]? = (c[j]?).map fun x=>if j<d.length then enc ((d[j]?).getD default) else x:=by
 simp only [putCells,Array.getElem?_mapIdx,Nat.zero_le,true_and,Nat.zero_add,Nat.sub_zero,List.size_toArray]
 congr 1
 funext x
 split
 ·rename_i h
  simp [h]
 ·rfl
/-- The sort of a row of values, one cell each, by a contract of the shelf. -/
theorem sort_calls (srt:List α→List α) (hlen: ∀ l,(srt l).length=l.length) (h1: ∀ z,(enc z).oneCell'=true) (henter: ∀ xs w,(callFunc f xs).run P w = .ok (.enter f xs) w)
  (hc: ∀ (blk cap:Nat) (zs:List α) (w:World),Holds enc w blk 0 zs.toArray→blk<w.heap.size→zs.length<4611686018427387904→Calls P f #[.slice (some ⟨blk,0,none⟩) zs.length cap] w fun e w'=>e = .returned (.tuple #[])∧ ∃ n os,w'=grow (putRow enc (Sort.ahead w n) blk 0 (srt zs).toArray) os)
  {zs:List α} (hne:zs≠[]) (hsz:zs.length≤1000000):MCalls P f [.row 1 (zs.map fun z=>[.sc (enc z)])] [.slo 0 1 0 zs.length] (.tup []) [.row 1 ((srt zs).map fun z=>[.sc (enc z)])]:=by
 refine ⟨henter,fun w st ρ vs hst hin hargs=>?_⟩
 have hpos:0<zs.length:=List.length_pos_iff.2 hne
 simp only [RL,R] at hargs
 obtain ⟨v,vs',rfl,hv,rfl⟩:=hargs
 rcases hv with ⟨_,_,h0,_⟩|⟨g,cap,A,hρ,hsh,hle,hcap,rfl,hA⟩
 ·omega
 have hro:=hin.objs 0
 simp only [List.getD_cons_zero,RO,hρ] at hro
 obtain ⟨cur,e,cap',r1,r2,r3,r4,r5⟩:=hro
 have hA':=hA (by omega)
 simp only [Nat.zero_mul] at hA'
 subst hA'
 have hg:g<w.heap.size:=(Array.getElem?_eq_some_iff.1 r1).1
 have hH:Holds enc w g 0 zs.toArray:=by
  intro j hj
  have hj':j<zs.length:=by simpa using hj
  have hz:zs[j]? = some zs[j]:=List.getElem?_eq_getElem hj'
  refine ⟨?_,?_⟩
  ·rw [Nat.zero_add,enc_RR r5 hz]
   simp [hj']
  ·simp [World.frozen?,r1]
 refine Calls.mono (hc g _ zs w hH hg (by omega)) ?_
 rintro ex w' ⟨rfl,n,os,rfl⟩
 have hcell: ∀ k,(grow (putRow enc (Sort.ahead w n) g 0 (srt zs).toArray) os).heap[k]? = if k<w.heap.size then (if g=k then some (.cells (putCells enc 0 (srt zs).toArray cur) e (0,0)) else w.heap[k]?) else (os[k-w.heap.size]?):=by
  intro k
  simp only [grow,Array.getElem?_append,size_putRow,Sort.ahead]
  split
  ·simp only [putRow,mapBlock,Array.getElem?_modify]
   split
   ·rename_i e1
    subst e1
    simp [r1,onCells]
   ·rfl
  ·rfl
 have hw':(grow (putRow enc (Sort.ahead w n) g 0 (srt zs).toArray) os).heap[g]? = some (.cells (putCells enc 0 (srt zs).toArray cur) e (0,0)):=by rw [hcell,if_pos hg,if_pos rfl]
 have hsize:w.heap.size≤(grow (putRow enc (Sort.ahead w n) g 0 (srt zs).toArray) os).heap.size:=by
  simp only [grow,Array.size_append,size_putRow,Sort.ahead];omega
 have hcs:(putCells enc 0 (srt zs).toArray cur).size=cur.size:=by simp [putCells]
 refine ⟨.tuple #[],rfl,ρ,?_,fun _ _=>rfl,?_,fun j=>?_,fun j g' hj hg'=>?_,fun j j' g' hj hj' e1 e2=>?_,fun j g' hj hh=>?_⟩
 ·refine ⟨rfl,rfl,rfl,hsize,fun k hk hn=>?_,fun g' m hs=>?_⟩
  ·rw [hcell,if_pos hk,if_neg]
   rintro rfl
   exact hn ⟨0,by simp, .inl hρ⟩
  ·obtain ⟨cur2,e2,h3,h4⟩:=hs
   have hlt:g'<w.heap.size:=(Array.getElem?_eq_some_iff.1 h3).1
   by_cases hgg:g=g'
   ·subst hgg
    rw [r1] at h3
    cases h3
    exact ⟨_,e,hw',by rw [hcs];exact h4⟩
   ·exact ⟨cur2,e2,by rw [hcell,if_pos hlt,if_neg hgg];exact h3,h4⟩
 ·simp [R,RL]
 ·cases j with
  | succ j=>simp [RO]
  | zero=>
    simp only [List.getD_cons_zero,RO,hρ]
    have hcc:zs.length≤cur.size:=by rw [r2.size];simpa using r4
    refine ⟨_,e,cap',hw',⟨by rw [hcs];exact r2.size,fun v hv=>?_⟩,r3,by simpa [hlen] using r4,RR_enc h1 fun j z hj=>?_⟩
    ·obtain ⟨i,hi⟩:=List.getElem?_of_mem hv
     rw [Array.getElem?_toList,putCells_get,Option.map_eq_some_iff] at hi
     obtain ⟨x,hx,hxe⟩:=hi
     subst hxe
     split
     ·exact h1 _
     ·exact r2.one x (List.mem_of_getElem? (by rw [Array.getElem?_toList];exact hx))
    ·have hjl:j<(srt zs).length:=(List.getElem?_eq_some_iff.1 hj).1
     have hjc:j<cur.size:=by rw [hlen] at hjl;omega
     rw [Nat.zero_add,cell_of_row _ g j _ e (0,0) hw',putCells_get,Array.getElem?_eq_getElem hjc]
     simp only [Option.map_some,if_pos hjl,hj,Option.getD_some]
 ·cases j with
  | succ j=>simp at hj
  | zero=>exact .inr ⟨0,by simp,hg'⟩
 ·cases j with
  | succ j=>simp at hj
  | zero=>
    cases j' with
    | succ j=>simp at hj'
    | zero=>rfl
 ·cases j with
  | succ j=>simp at hj
  | zero=>exact Nat.lt_of_lt_of_le (hin.hlt 0 g' (by simp) hh) hsize
end
/-! Loops whose rounds may end in a state that must first be brought to the names of the start. -/
theorem Tri.loopV {P:Program} {Q:Exit→St→Prop} {s:List D} {h:List (Nat×Obj)} {τ:Type} {c:Code} (l:τ→List (Nat×D)) (m:τ→List (Nat×Obj)) (I:τ→Prop) (μ:τ→Nat) (t0:τ) (h0:I t0)
  {s':τ→List D} {h':τ→List (Nat×Obj)} (es: ∀ t,setL (l t) s=s' t) (eh: ∀ t,setH (m t) h=h' t) (hs:LeL s (s' t0)) (hh:LeH h (h' t0))
  (hb: ∀ t,I t→Tri P c (loopQ (fun σ'=> ∃ t',I t'∧μ t'<μ t∧Imp σ' { slots:=s' t',heap:=h' t' }) Q) { slots:=s' t,heap:=h' t }):Tri P (.loop c) Q { slots:=s,heap:=h }:=
 Tri.loop (fun t=>{ slots:=s' t,heap:=h' t }) I μ t0 h0 (Imp.les hs hh) (fun t ht=>Tri.mono (hb t ht) (fun e σ' hq=>by
  cases e with
  | normal=>
    obtain ⟨t',h1,h2,h3⟩:=hq
    exact ⟨t',h1,h2,h3⟩
  | _=>exact hq))
end Go.Avm
/- The abstract machine, part ZG: an object passes to another name, wherever it is named. -/
namespace Go.Avm
set_option linter.unusedVariables false
set_option linter.unusedSimpArgs false
open Go.RowKit
mutual
/-- o is named d from now on; what was named d is forgotten. -/
def rnD (o d:Nat):D→D
 | .ref o' off=>if o'=o then .ref d off else if o'=d then .any else .ref o' off
 | .mp o'=>if o'=o then .mp d else if o'=d then .any else .mp o'
 | .elt o' k' i off=>if o'=o then .elt d k' i off else if o'=d then .any else .elt o' k' i off
 | .slo o' k' off len=>if o'=o then .slo d k' off len else if o'=d then .any else .slo o' k' off len
 | .agg cs=> .agg (rnL o d cs)
 | .tup cs=> .tup (rnL o d cs)
 | .fn f cs=> .fn f (rnL o d cs)
 | .any=> .any
 | .sc v=> .sc v
 | .sl k rows=> .sl k rows
 | .ro cs=> .ro cs
def rnL (o d:Nat):List D→List D
 | []=>[]
 | c::cs=>rnD o d c::rnL o d cs
end
def Obj.rn (o d:Nat):Obj→Obj
 | .box cs=> .box (rnL o d cs)
 | .ext e=>cond (memN o e.nms||memN d e.nms) (.ext heldX) (.ext e)
 | x=>x
def hrn (o d:Nat):List (Nat×Obj)→List (Nat×Obj)
 | []=>[]
 | (q,x)::h=>(q,x.rn o d)::hrn o d h
def St.rn (σ:St) (o d:Nat):St:={ slots:=rnL o d σ.slots,heap:=hset (hset (hrn o d σ.heap) o .dead) d ((hget σ.heap o).rn o d) }
theorem hget_hrn {o d:Nat}: ∀ {h:List (Nat×Obj)} {o':Nat},hget (hrn o d h) o'=(hget h o').rn o d
 | [],_=>by simp [hrn,hget,Obj.rn]
 | (q,x)::h,o'=>by
   by_cases e:q=o'
   ·simp [hrn,hget,e]
   ·simp [hrn,hget,e,hget_hrn]
theorem hhas_hrn {o d:Nat}: ∀ {h:List (Nat×Obj)} {o':Nat},hhas (hrn o d h) o'=hhas h o'
 | [],_=>by simp [hrn,hhas]
 | (q,x)::h,o'=>by simp [hrn,hhas,hhas_hrn]
section
variable {w:World} {st:Nat→Prop} {ρ ρ':Nat→Option (Option Nat)} {o d:Nat}
mutual
theorem R.rn (h1:ρ' d=ρ o) (h2: ∀ x,x≠d→ρ' x=ρ x): ∀ {c:D} {v:Value},R w st ρ c v→R w st ρ' (rnD o d c) v
 | .any,_,_=>by simp [rnD,R]
 | .sc _,_,hd=>by simpa [rnD,R] using hd
 | .sl _ _,_,hd=>by simpa [rnD,R] using hd
 | .ro _,_,hd=>by simpa [rnD,R] using hd
 | .agg _,_,hd | .tup _,_,hd | .fn _ _,_,hd=>by
   simp only [rnD,R] at hd ⊢
   obtain ⟨vs,h3,h4⟩:=hd
   exact ⟨vs,h3,RL.rn h1 h2 h4⟩
 | .ref o' _,_,hd | .mp o',_,hd | .elt o' _ _ _,_,hd | .slo o' _ _ _,_,hd=>by
   simp only [rnD]
   split
   ·rename_i e
    subst e
    simp only [R,h1] at hd ⊢
    exact hd
   ·split
    ·simp [R]
    ·rename_i e
     simp only [R,h2 _ e] at hd ⊢
     exact hd
theorem RL.rn (h1:ρ' d=ρ o) (h2: ∀ x,x≠d→ρ' x=ρ x): ∀ {cs:List D} {vs:List Value},RL w st ρ cs vs→RL w st ρ' (rnL o d cs) vs
 | [],_,hd=>by simpa [rnL,RL] using hd
 | _::_,_,hd=>by
   simp only [rnL,RL] at hd ⊢
   obtain ⟨v,vs',h3,h4,h5⟩:=hd
   exact ⟨v,vs',h3,R.rn h1 h2 h4,RL.rn h1 h2 h5⟩
end
end
theorem Imp.ren (σ:St) (o d:Nat) (hne:o≠d) (hh:hfree σ.heap d=true):Imp σ (σ.rn o d):=by
 rintro w0 p a w ⟨ρ,h⟩
 obtain ⟨hd1,hd2⟩:=hfree_iff.1 hh
 have hget': ∀ x,hget (σ.rn o d).heap x=if x=d then (hget σ.heap o).rn o d else if x=o then .dead else (hget σ.heap x).rn o d:=by
  intro x
  unfold St.rn
  by_cases e:x=d
  ·subst e
   rw [if_pos rfl]
   exact hget_hset_same (by rw [hhas_hset,hhas_hrn];exact hd1)
  ·rw [if_neg e,hget_hset_other e]
   by_cases e2:x=o
   ·subst e2
    rw [if_pos rfl]
    cases hx:hhas (hrn x d σ.heap) x with
    | true=>exact hget_hset_same hx
    | false=>
      cases hy:hget (hset (hrn x d σ.heap) x .dead) x with
      | dead=>rfl
      | _=>
        have:=hhas_of_hget (h:=hset (hrn x d σ.heap) x .dead) (o:=x) (by rw [hy];simp)
        rw [hhas_hset,hx] at this
        cases this
   ·rw [if_neg e2,hget_hset_other e2,hget_hrn]
 have hfd: ∀ x:Obj,x.rn o d≠ .dead↔x≠ .dead:=by
  intro x
  cases x with
  | ext e=>cases hm:(memN o e.nms||memN d e.nms)<;>simp [Obj.rn,hm]
  | _=>simp [Obj.rn]
 let pr:Nat→Nat:=fun x=>if x=d then o else x
 let ρ':Nm:=⟨fun x=>ρ (pr x),fun x=>ρ.hid (pr x)⟩
 have pd:pr d=o:=by simp [pr]
 have pn: ∀ x,x≠d→pr x=x:=fun x hx=>by simp [pr,hx]
 have hρ1:ρ' d=ρ o:=by simp [ρ',pd]
 have hρ2: ∀ x,x≠d→ρ' x=ρ x:=fun x hx=>by simp [ρ',pn x hx]
 have live: ∀ x,hget (σ.rn o d).heap x≠ .dead→hget σ.heap (pr x)≠ .dead∧(x=d∨(x≠d∧x≠o)):=by
  intro x hx
  rw [hget'] at hx
  by_cases e:x=d
  ·rw [if_pos e,hfd] at hx
   rw [e,pd]
   exact ⟨hx, .inl rfl⟩
  ·rw [if_neg e] at hx
   by_cases e2:x=o
   ·simp [e2] at hx
   ·rw [if_neg e2,hfd] at hx
    rw [pn x e]
    exact ⟨hx, .inr ⟨e,e2⟩⟩
 have hst: ∀ g,stab p σ.heap ρ w g→stab p (σ.rn o d).heap ρ' w g:=fun g hs=>⟨hs.1,hs.2.1,fun x hx=>hs.2.2 (pr x) (live x hx).1⟩
 have robj: ∀ x,RO w (stab p (σ.rn o d).heap ρ' w) ρ' x ((hget σ.heap (pr x)).rn o d):=by
  intro x
  have h1:=RO.mono (fun _ _ _=>rfl) (fun _ _ hs=>hs) hst (fun _ _=>rfl) (h.objs (pr x))
  cases hx:hget σ.heap (pr x) with
  | dead=>simp [RO,Obj.rn]
  | row k' rows'=>rw [hx] at h1;exact h1
  | box cs=>
    rw [hx] at h1
    simp only [RO,Obj.rn] at h1 ⊢
    obtain ⟨g,cur,e',r1,r2,r3⟩:=h1
    exact ⟨g,cur,e',r1,r2,RL.rn hρ1 hρ2 r3⟩
  | ext e'=>
    rw [hx] at h1
    simp only [RO,Obj.rn] at h1 ⊢
    obtain ⟨g,r1,r2⟩:=h1
    cases hm:(memN o e'.nms||memN d e'.nms) with
    | true=>exact ⟨g,r1,e'.lt r2⟩
    | false=>
      simp only [Bool.or_eq_false_iff] at hm
      exact ⟨g,r1,e'.loc (fun y hy=>hρ2 y (fun e=>by subst e;rw [memN_iff.2 hy] at hm;simp at hm)) r2⟩
 refine ⟨ρ',h.open_,h.defers,RL.rn hρ1 hρ2 (RL.mono (fun _ _ _=>rfl) (fun _ _ hs=>hs) hst h.slots),fun x=>?_,fun x1 x2 g h1 h2 e1 e2=>?_,fun x g h1 e1=>h.fresh (pr x) g (live x h1).1 e1,fun x g h1 e1=>h.hlt (pr x) g (live x h1).1 e1,h.below,fun x hx=>?_⟩
 ·rw [hget']
  by_cases e:x=d
  ·have:=robj x
   rw [show pr x=o by rw [e,pd]] at this
   rw [if_pos e];exact this
  ·rw [if_neg e]
   by_cases e2:x=o
   ·simp [e2,RO]
   ·have:=robj x
    rw [pn x e] at this
    rw [if_neg e2];exact this
 ·obtain ⟨l1,n1⟩:=live x1 h1
  obtain ⟨l2,n2⟩:=live x2 h2
  have:=h.inj (pr x1) (pr x2) g l1 l2 e1 e2
  rcases n1 with n1|⟨n1,m1⟩<;>rcases n2 with n2|⟨n2,m2⟩
  ·rw [n1,n2]
  ·rw [n1,pd,pn x2 n2] at this
   exact absurd this.symm m2
  ·rw [n2,pd,pn x1 n1] at this
   exact absurd this m1
  ·rw [pn x1 n1,pn x2 n2] at this
   exact this
 ·have:x≠d:=by omega
  show ρ (pr x)=_
  rw [pn x this]
  exact h.pin x hx
section
variable {P:Program} {Q:Exit→St→Prop} {σ σ':St}
theorem Tri.rn {c:Code} (o d:Nat) (hne:o≠d) (hh:hfree σ.heap d=true) (he:σ.rn o d=σ') (h:Tri P c Q σ'):Tri P c Q σ:=Tri.imp (he▸Imp.ren σ o d hne hh) h
theorem Imp.rnTo {σ2:St} (o d:Nat) (hne:o≠d) (hh:hfree σ.heap d=true) (he:σ.rn o d=σ') (h:Imp σ' σ2):Imp σ σ2:=Imp.trans (he▸Imp.ren σ o d hne hh) h
theorem RetOK.rn {fn:Func} {ids:List Nat} {ret:D} {outs:List Obj} {e:Exit} (o d:Nat) (hne:o≠d) (hh:hfree σ.heap d=true) (he:σ.rn o d=σ') (h:RetOK P fn ids ret outs e σ'):RetOK P fn ids ret outs e σ:=RetOK.imp (he▸Imp.ren σ o d hne hh) h
end
section
variable {P:Program} {σ σ':St} {ty ty':TypeId} {pos pos':String} {af af':Array Edge} {i j t1 t2 t3 u:Nat} {ops:Array Oper} {K:St→Prop} {fuel:Nat} {listed:Array Bool} {p:Pl} {t:TypeId} {x:Operand}
attribute [local semireducible] AnyP
end
attribute [go_sem] rnD rnL Obj.rn hrn St.rn
end Go.Avm
/- The abstract machine, part ZH: a string's bytes appended to a row of bytes. -/
namespace Go.Avm
set_option linter.unusedVariables false
set_option linter.unusedSimpArgs false
open Go.RowKit
/-- A string's bytes as a row. -/
def strRows (s:ByteArray):List (List D):=s.data.toList.map fun b=>[.sc (.int .u8 b.toNat)]
theorem strRows_length (s:ByteArray):(strRows s).length=s.size:=by
 rw [strRows,List.length_map,Array.length_toList]
 rfl
section
variable {P:Program} {σ σ':St}
end
attribute [go_sem] strRows_length
end Go.Avm
/- The abstract machine, part ZI: a nil slice in a cell of a box as an empty row of one's own. -/
namespace Go.Avm
set_option linter.unusedVariables false
set_option linter.unusedSimpArgs false
open Go.RowKit
section
variable {P:Program} {Q:Exit→St→Prop} {σ σ':St}
theorem Imp.virtB (σ:St) (o j d k:Nat) {cs:List D} (ho:hget σ.heap o = .box cs) (hj:(clrL d cs)[j]? = some (.sc (.slice none 0 0))) (hne:o≠d) (hh:hfree σ.heap d=true):
  Imp σ { σ.kills [d] with heap:=hset (hset (σ.kills [d]).heap d (.row k [])) o (.box ((clrL d cs).set j (.slo d k 0 0))) }:=by
 rintro w0 p a w ⟨ρ,h⟩
 have hv:=h.newVirt (ids:=[d]) (o:=d) (k:=k) (by simp) hh
 have hg:hget (hset (σ.kills [d]).heap d (.row k [])) o = .box (clrL d cs):=by
  rw [hget_hset_other hne]
  simp only [St.kills,hget_kill,if_neg hne,ho,Obj.clr]
 refine ⟨_,hv.recast (o:=o) (x:= .box ((clrL d cs).set j (.slo d k 0 0))) (by show hget (hset (σ.kills [d]).heap d (.row k [])) o≠_;rw [hg];simp) (by simp) (fun st hst=>?_)⟩
 have hob:=hv.objs o
 change RO w _ _ o (hget (hset (σ.kills [d]).heap d (.row k [])) o) at hob
 rw [hg] at hob
 simp only [RO] at hob ⊢
 obtain ⟨g,cur,e,h1,h2,h3⟩:=hob
 obtain ⟨v,h4,h5⟩:=RL_get h3 hj
 simp only [R] at h5
 subst h5
 have h6:=RL_set (i:=j) (d:= .slo d k 0 0) (v:= .slice none 0 0) h3 (by simp only [R,updρ_same];exact .inl ⟨trivial,trivial,trivial,none,rfl⟩)
 have h7:cur.toList.set j (.slice none 0 0)=cur.toList:=by
  apply List.ext_getElem?
  intro i
  by_cases e:j=i
  ·subst e;rw [List.getElem?_set_self (List.getElem?_eq_some_iff.1 h4).1,h4]
  ·rw [List.getElem?_set_ne e]
 rw [h7] at h6
 exact ⟨g,cur,e,h1,h2,RL.mono (fun _ _ _=>rfl) (fun _ _ hh=>hh) hst h6⟩
theorem Tri.virtB {c:Code} (o j d k:Nat) {cs:List D} (ho:hget σ.heap o = .box cs) (hj:(clrL d cs)[j]? = some (.sc (.slice none 0 0))) (hne:o≠d) (hh:hfree σ.heap d=true)
  (he:({ σ.kills [d] with heap:=hset (hset (σ.kills [d]).heap d (.row k [])) o (.box ((clrL d cs).set j (.slo d k 0 0))) }:St)=σ') (hn:Tri P c Q σ'):Tri P c Q σ:=by
 subst he;exact Tri.imp (Imp.virtB σ o j d k ho hj hne hh) hn
end
end Go.Avm
