/- The abstract machine, parts Y to ZI. -/
import Derived.Test.YteemiclhnfkekaaGreatZAvmQ
import Derived.Laws.StructEq
import Derived.Lib.Overlaps
import Derived.Sort.Grow
import Derived.Deep.AppendSrc
set_option linter.unusedSimpArgs false
set_option linter.unusedVariables false
set_option maxRecDepth 10000
namespace Go.eB
open Go.RowKit
section
variable {w0:World} {p:Pm} {σ:St} {a:Act} {w:World} {ρ:Nm}
theorem aU.xp (h:aU w0 p σ a w ρ) {o:Nat} {x:Obj} (eL:az σ.heap o≠ .dead) (JY:x≠ .dead)
  (hx:∀ st:Nat->Prop,(∀ g,bO p σ.heap ρ w g->st g)->RO w st ρ o x):aU w0 p { σ with heap:=aG σ.heap o x } a w ρ:=by
 have qY:ec σ.heap o=true:=cC eL;have kT:∀ o',o'≠o->az (aG σ.heap o x) o'=az σ.heap o':=fun o' e=>aM e
 have iZ:∀ o',az (aG σ.heap o x) o'≠ .dead↔az σ.heap o'≠ .dead:=by
  intro o';by_cases e:o'=o
  ·subst e;rw[aX qY];exact ⟨fun _=>eL,fun _=>JY⟩
  ·rw[kT o' e]
 have hst:∀ k,bO p σ.heap ρ w k->bO p (aG σ.heap o x) ρ w k:=fun k hk=>⟨hk.1,hk.2.1,fun o' ho'=>hk.2.2 o' ((iZ o').1 ho')⟩
 have hc:∀ k off,bO p σ.heap ρ w k->w.cell? ⟨k,off,none⟩=w.cell? ⟨k,off,none⟩:=fun _ _ _=>rfl;refine ⟨h.open_,h.defers,RL.mono hc (fun _ _ hh=>hh) hst h.slots,fun o'=>?_,fun o1 o2 g' h1 h2=>h.inj o1 o2 g' ((iZ o1).1 h1) ((iZ o2).1 h2),fun o1 g' h1=>h.fresh o1 g' ((iZ o1).1 h1),fun o1 g' h1=>h.hlt o1 g' ((iZ o1).1 h1),h.below,h.kf⟩;by_cases e':o'=o
 ·subst e';show RO _ _ ρ o' (az (aG σ.heap o' x) o');rw[aX qY];exact hx _ hst
 ·show RO _ _ ρ o' (az (aG σ.heap o x) o');rw[kT o' e'];exact RO.mono hc (fun _ _ hh=>hh) hst (fun _ _=>rfl) (h.objs o')
end
def IA (k:Nat) (rows:List (List D)):Ext where
 qt:=[]
 φ w st _ _ g:= ∃ cur e,w.heap[g]? = some (.cells cur e (0,0))/\zU cur (rows.length*k)/\rows.length<=maxLen/\RR w st k g 0 rows
 lt h:=by
  obtain ⟨cur,e,h1,_⟩:=h;exact (zQ.1 h1).1
 mono hc hs hst hb _ h:=by
  obtain ⟨cur,e,h1,h2,h3,h4⟩:=h;exact ⟨cur,e,hb.trans h1,h2,h3,RR.mono hc hs hst (fun off=>World.cell?_of_block (a:=⟨_,off,none⟩) hb) h4⟩
 loc _ h:=h
theorem KI {k:Nat} {rows:List (List D)}:(IA k rows).qt=[]:=rfl
attribute [go_sem] KI iP List.isEmpty_nil cond_true cond_false
def Fy (k n:Nat):List (List D):=List.replicate n (List.replicate k .any)
theorem aj {k n:Nat}:(Fy k n).length=n:=dx
theorem KJ {w:World} {st:Nat->Prop} {g:Nat}:∀ {k off:Nat},(∀ j,j<k->∃ v,w.cell? ⟨g,off+j,none⟩=some v/\v.oneCell'=true)->RC w st g off (List.replicate k .any)
 | 0,_,_=>by simp[RC]
 | k+1,off,h=>by
   simp only[List.replicate_succ,RC];obtain ⟨v,h1,h2⟩:=h 0 (by omega);refine ⟨⟨v,by simpa using h1,h2,by simp[R]⟩,KJ fun j hj=>?_⟩;have:=h (j+1) (by omega);simpa[Nat.add_assoc,Nat.add_comm 1 j] using this
theorem KL {w:World} {st:Nat->Prop} {k g:Nat}:∀ {n off:Nat},(∀ j,j<n*k->∃ v,w.cell? ⟨g,off+j,none⟩=some v/\v.oneCell'=true)->RR w st k g off (Fy k n)
 | 0,_,_=>by simp[Fy,RR]
 | n+1,off,h=>by
   simp only[Fy,List.replicate_succ,RR];refine ⟨by simp,KJ fun j hj=>h j (by rw[sN];omega),KL (n:=n) fun j hj=>?_⟩;have:=h (k+j) (by rw[sN];omega);simpa[Nat.add_assoc] using this
theorem KM {w:World} {st:Nat->Prop} {k g:Nat}:∀ {rs ss:List (List D)} {off:Nat},RR w st k g off rs->RR w st k g (off+rs.length*k) ss->RR w st k g off (rs++ss)
 | [],_,_,_,h=>by simpa using h
 | r::rs,ss,off,h,h2=>by
   simp only[RR,List.cons_append] at h ⊢;refine ⟨h.1,h.2.1,KM h.2.2 ?_⟩;rw[List.length_cons,sN] at h2;rw[show off+k+rs.length*k=off+(rs.length*k+1*k) by omega];exact h2
section
variable {P:Program} {ds:List (Option Nat)} {Q:Exit->St->Prop} {σ σ':St} {l:List Oper} {dst:Option Nat} {ty:TypeId} {pos:String} {af:Array Edge} {g:Option (Nat×Bool)}
theorem ah.cap {x:Operand} {t e:TypeId} {ti:TI} {q k off len:Nat} {rows:List (List D)} (hg:bq ds g σ=some true) (ht:aA P t=some ti) (hk:ti.kind.elem? = some e)
  (hx:bh σ x = .cW q k off len) (yQ:0<k) (hrow:az σ.heap q = .row k rows) (hne:0<rows.length)
  (hn:∀ m:Nat,rows.length+m<=maxLen->ah P ds Q l (St.put { σ with heap:=aG σ.heap q (.ext (IA k (rows++Fy k m))) } dst (.sc (.int .i64 ((rows.length+m-off:Nat):Int))))):ah P ds Q (⟨dst,.call { callee:= .builtin .cap,args:= #[x],argTypes:= #[t] },ty,pos,af,g⟩::l) σ:=by
 intro all ha w0 p a w hr;have hw:=aT (all:=all) (o:=⟨dst, .call { callee:= .builtin .cap,args:= #[x],argTypes:= #[t] },ty,pos,af,g⟩) (by rw[bV ha];exact hg) hr;obtain ⟨ρ,hr⟩:=hr;have hu:=eV ht hk;have ho:=hr.objs q;rw[hrow] at ho;have h1:=hr.bh x;rw[hx] at h1;simp only[R] at h1;cases hρ:ρ q with
 | none=>simp only[RO,hρ] at ho
 | some z=>
   cases z with
   | none=>
     simp only[RO,hρ] at ho;subst ho;simp at hne
   | some gg=>
     simp only[RO,hρ] at ho;obtain ⟨cur,e',cap,e1,e2,e3,e4,e5⟩:=ho;rcases h1 with ⟨f1,_⟩|⟨g',cap',A,f1,f2,f3,f4,f5,f6⟩
     ·rw[hρ] at f1;simp at f1
     ·rw[hρ] at f1;simp only[fD] at f1;subst f1;obtain ⟨uq,e6,f7,f8⟩:=f2;rw[e1] at f7;simp only[fD,Obj.cells.injEq] at f7;obtain ⟨rfl,_⟩:=f7;have lE:cap'=cap:=RQ yQ (f8.symm.trans e2.size);subst lE
      have hrun:(execOp a.eval ⟨dst, .call { callee:= .builtin .cap,args:= #[x],argTypes:= #[t] },ty,pos,af,g⟩).run P w = .ok (.value (.int .i64 ((cap'-off:Nat):Int))) w:=by
       simp[execOp,resolve,invoke,builtin,Builtin.cap_,run_underlying hu,f5,goInt]
      have NA:rows.length+(cap'-rows.length)=cap':=by omega
      refine bp hw (.inl hrun) (hn (cap'-rows.length) (by omega) all ha w0 p _ _ ⟨ρ,aU.put ?_ dst ?_⟩)
      ·refine hr.xp (by rw[hrow];simp) (by simp) fun st hst=>?_;simp only[RO];refine ⟨gg,hρ,cur,e',e1,⟨?_,e2.one⟩,?_,KM (RR.mono (fun _ _ _=>rfl) (fun _ _ hh=>hh) hst (fun _=>rfl) e5) (KL fun j hj=>?_)⟩
       ·rw[e2.size,bW];simp only[Fy,dx,NA]
       ·rw[bW];simp only[Fy,dx,NA];exact e3
       ·have hlt:rows.length*k+j<cur.size:=by
         rw[e2.size, <- NA,sN];omega
        refine ⟨cur[rows.length*k+j],?_,e2.one _ (by simp)⟩;rw[kO,cell_of_row w gg _ cur e' (0,0) e1];exact Pf hlt
      ·rw[NA];simp[R]
theorem cZ.R7 (q:Nat) {k:Nat} {rows:List (List D)} (h:az σ.heap q = .ext (IA k rows)):cZ σ { σ with heap:=aG σ.heap q (.row k rows) }:=by
 rintro w0 p a w ⟨ρ,hr⟩;have ho:=hr.objs q;rw[h] at ho;simp only[RO] at ho;obtain ⟨g,hρ,cur,e,e1,e2,e3,e4⟩:=ho;refine ⟨ρ,hr.xp (by rw[h];simp) (by simp) fun st hst=>?_⟩;simp only[RO,hρ];exact ⟨cur,e,rows.length,e1,e2,e3,iU _,RR.mono (fun _ _ _=>rfl) (fun _ _ hh=>hh) hst (fun _=>rfl) e4⟩
theorem ah.imp (h:cZ σ σ') (hn:ah P ds Q l σ'):ah P ds Q l σ:=fun all ha=>dH.imp h (hn all ha)
theorem ah.R7 (q:Nat) {k:Nat} {rows:List (List D)} (h:az σ.heap q = .ext (IA k rows)) (he:{ σ with heap:=aG σ.heap q (.row k rows) }=σ') (hn:ah P ds Q l σ'):ah P ds Q l σ:=ah.imp (cZ.R7 q h) (he▸hn)
theorem ay.R7 {c:Code} (q:Nat) {k:Nat} {rows:List (List D)} (h:az σ.heap q = .ext (IA k rows)) (he:{ σ with heap:=aG σ.heap q (.row k rows) }=σ') (hn:ay P c Q σ'):ay P c Q σ:=ay.imp (cZ.R7 q h) (he▸hn)
theorem ah.wz {x:Operand} {lo hi:Option Operand} {t e:TypeId} {ti ei:TI} {q k off len lb hb:Nat} {rows:List (List D)} (hg:bq ds g σ=some true) (ht:aA P t=some ti) (hk:ti.kind.elem? = some e) (he:aA P e=some ei) (hks:ei.size=k) (yQ:0<k)
  (hx:bh σ x = .cW q k off len) (hrow:az σ.heap q = .row k rows) (hlo:yO σ 0 lo=some lb) (hhi:yO σ len hi=some hb) (h1:lb<=hb) (h2:off+hb<=rows.length) (h3:off<rows.length)
  (hn:ah P ds Q l (σ.put dst (.cW q k (off+lb) (hb-lb)))):ah P ds Q (⟨dst, .slice t x lo hi none,ty,pos,af,g⟩::l) σ:=by
 intro all ha w0 p a w hr;have hw:=aT (all:=all) (o:=⟨dst, .slice t x lo hi none,ty,pos,af,g⟩) (by rw[bV ha];exact hg) hr;obtain ⟨ρ,hr⟩:=hr;have ho:=hr.objs q;rw[hrow] at ho;have hX:=hr.bh x;rw[hx] at hX;simp only[R] at hX;cases hρ:ρ q with
 | none=>simp only[RO,hρ] at ho
 | some z=>
   cases z with
   | none=>
     simp only[RO,hρ] at ho;subst ho;simp at h3
   | some gg=>
     simp only[RO,hρ] at ho;obtain ⟨cur,e',cap,e1,e2,e3,e4,e5⟩:=ho;rcases hX with ⟨f1,_⟩|⟨g',cap',A,f1,f2,f3,f4,f5,f6⟩
     ·rw[hρ] at f1;simp at f1
     ·rw[hρ] at f1;simp only[fD] at f1;subst f1;obtain ⟨uq,e6,f7,f8⟩:=f2;rw[e1] at f7;simp only[fD,Obj.cells.injEq] at f7;obtain ⟨rfl,_⟩:=f7;have lE:cap'=cap:=RQ yQ (f8.symm.trans e2.size);subst lE
      have hrun:(execOp a.eval ⟨dst, .slice t x lo hi none,ty,pos,af,g⟩).run P w = .ok (.value (.slice (if cap'-off=lb then A else A.map (·.add (lb*ei.size))) (hb-lb) (cap'-off-lb))) w:=by
       obtain ⟨⟨dt,hu,zW⟩,_⟩:=ej ht w;obtain ⟨_,hsz,_⟩:=ej he w;cases hkk:ti.kind with
       | slice e'=>
         rw[hkk] at hk zW;simp only[TK.elem?,fD] at hk;subst hk;obtain rfl:=iY zW;rcases lV hr hlo with ⟨rfl,rfl⟩|⟨y,k',rfl,hy⟩<;>rcases lV hr hhi with ⟨rfl,rfl⟩|⟨y',k'',rfl,hy'⟩
         ·simp[execOp,f5,Instr.sliceAt,hu,Instr.slice,Instr.sliceBounds,hsz]
         ·have hb':=run_sliceBound (P:=P) w k'' (hb:Int) (cap'-off) .sliceAcap (by omega) (by omega);simp[execOp,f5,Instr.sliceAt,hu,Instr.slice,Instr.sliceBounds,hsz,hy',hb']
         ·have hb':=run_sliceBound (P:=P) w k' (lb:Int) hb .sliceB (by omega) (by omega);simp[execOp,f5,Instr.sliceAt,hu,Instr.slice,Instr.sliceBounds,hsz,hy,hb']
         ·have KO:=run_sliceBound (P:=P) w k' (lb:Int) hb .sliceB (by omega) (by omega);have MP:=run_sliceBound (P:=P) w k'' (hb:Int) (cap'-off) .sliceAcap (by omega) (by omega);simp[execOp,f5,Instr.sliceAt,hu,Instr.slice,Instr.sliceBounds,hsz,hy,KO,hy',MP]
       | _=>rw[hkk] at hk;simp[TK.elem?] at hk
      refine bp hw (.inl hrun) (hn all ha w0 p _ _ ⟨ρ,hr.put dst ?_⟩);simp only[R];refine .inr ⟨gg,cap',_,hρ,⟨cur,e',e1,f8⟩,by omega,f4,by rw[Nat.sub_sub],?_⟩;intro hlt;rw[aE (by omega),f6 (by omega),hks];simp[Addr.add_lit,sN]
theorem ah.slice3 {x y:Operand} {lo hi:Option Operand} {t e:TypeId} {ti ei:TI} {len lb hb mb:Nat} (hg:bq ds g σ=some true) (ht:aA P t=some ti) (hk:ti.kind.elem? = some e) (he:aA P e=some ei)
  (hx:lW (bh σ x)=some len) (hlo:yO σ 0 lo=some lb) (hh:hi.isSome=true) (hhi:yO σ len hi=some hb) (Zc:yO σ 0 (some y)=some mb) (h1:lb<=hb) (h2:hb<=mb) (h3:mb<=len)
  (hn:ah P ds Q l (σ.put dst .any)):ah P ds Q (⟨dst, .slice t x lo hi (some y),ty,pos,af,g⟩::l) σ:=by
 intro all ha w0 p a w hr;have hw:=aT (all:=all) (o:=⟨dst, .slice t x lo hi (some y),ty,pos,af,g⟩) (by rw[bV ha];exact hg) hr;obtain ⟨ρ,hr⟩:=hr
 obtain ⟨A,c,hA,hc⟩:∃ A c,a.eval x = .slice A len c/\len<=c:=by
  have h1:=hr.bh x;cases hx':bh σ x with
  | sl k rows=>
    rw[hx'] at h1 hx;simp only[lW,fD] at hx;simp only[R] at h1;obtain ⟨A,c,e1,e2,_⟩:=h1;exact ⟨A,c,by rw[e1,hx],by omega⟩
  | cW o k off n=>
    rw[hx'] at h1 hx;simp only[lW,fD] at hx;subst hx;simp only[R] at h1;rcases h1 with ⟨_,_,e3,A,e4⟩|⟨g,cap,A,_,_,e3,_,e5,_⟩
    ·exact ⟨A,0,by rw[e4,e3],by omega⟩
    ·exact ⟨A,_,e5,by omega⟩
  | any|sc|agg|ro|ref|jN|cT|fn|mp=>rw[hx'] at hx;simp[lW] at hx
 obtain ⟨v,hv⟩:∃ v,(execOp a.eval ⟨dst, .slice t x lo hi (some y),ty,pos,af,g⟩).run P w = .ok (.value v) w:=by
  obtain ⟨⟨dt,hu,zW⟩,_⟩:=ej ht w;obtain ⟨_,hsz,_⟩:=ej he w;rcases lV hr Zc with ⟨h0,_⟩|⟨y',k',e0,hy'⟩
  ·cases h0
  ·cases e0;cases hkk:ti.kind with
   | slice e'=>
     rw[hkk] at hk zW;simp only[TK.elem?,fD] at hk;subst hk;obtain rfl:=iY zW;have hm':=run_sliceBound (P:=P) w k' (mb:Int) c .slice3Acap (by omega) (by omega);rcases lV hr hhi with ⟨rfl,_⟩|⟨z,k2,rfl,hz⟩
     ·simp at hh
     ·have MO:=run_sliceBound (P:=P) w k2 (hb:Int) mb .slice3B (by omega) (by omega);rcases lV hr hlo with ⟨rfl,rfl⟩|⟨u,k3,rfl,Zd⟩
      ·exact ⟨_,by simp[execOp,hA,Instr.sliceAt,hu,Instr.slice,Instr.sliceBounds,hsz,hy',hm',hz,MO];rfl⟩
      ·have hl':=run_sliceBound (P:=P) w k3 (lb:Int) hb .slice3C (by omega) (by omega);exact ⟨_,by simp[execOp,hA,Instr.sliceAt,hu,Instr.slice,Instr.sliceBounds,hsz,hy',hm',hz,MO,Zd,hl'];rfl⟩
   | _=>rw[hkk] at hk;simp[TK.elem?] at hk
 exact bp hw (.inl hv) (hn all ha w0 p _ _ ⟨ρ,hr.put dst (by simp[R])⟩)
end
theorem vX {P:Program} {w:World} (t t' ty e:TypeId) (k':IntKind) (i:TypeInfo) (z:Value) (ht:P.underlying t=some (.slice e)) (ht':P.underlying t'=some (.int k')) (hi:P.info? e=some i) (hz:i.zero=some z)
  (b:Addr) (sLen sCap:Nat) (olds:List Value) (hlo:olds.length=sLen*i.size) (holds:∀ j v,olds[j]? = some v->w.cell? (b.add j)=some v) (kx:IntKind) (n:Nat) (hn0:0<n) (hs0:0<i.size)
  (hg:sCap<sLen+n) (h63:((sLen+n:Nat):Int)<=9223372036854775807) (hbytes:(sLen+n)*i.bytes<=140737488355328) (V8:n*i.bytes<=281474976710656):
  (Builtin.append_ #[t,t'] ty #[.slice (some b) sLen sCap, .int kx (n:Int)]).run P w =
   .ok (.slice (some ⟨w.heap.size,0,none⟩) (sLen+n) (grownCap w (sLen+n) sCap e))
    (w.drew.alloc (.cells (olds.toArray++Builtin.zeroCells z.cells n++Builtin.zeroCells z.cells (grownCap w (sLen+n) sCap e-(sLen+n))) e)):=by
 have hn:¬ (sLen+n<=sCap):=by omega
 have h63':¬ (9223372036854775807<((sLen:Int)+(n:Int))):=by omega
 have hfit:=growslice_fits (need:=sLen+n) (old:=sCap) (by omega) hbytes;have QA:¬ (281474976710656<Builtin.nextslicecap (sLen+n) sCap*i.bytes):=by omega
 have hfo:=run_firstCells_some (P:=P) w.drew i.size sLen b sLen sCap olds hlo (by simpa using holds);have hwr:IntKind.i64.wrap (n:Int)=(n:Int):=IntWalk.i64_in _ ⟨by omega,by omega⟩;have hneg:¬ ((n:Int)<0):=by omega
 have h48:¬ (281474976710656<(n:Int)*(i.bytes:Int)):=by
  have:((n*i.bytes:Nat):Int)<=((281474976710656:Nat):Int):=Int.ofNat_le.2 V8;rw[Int.natCast_mul] at this;omega
 have Nl:¬ (n*i.size=0):=by
  have:=Nat.mul_pos hn0 hs0;omega
 have Ze:¬ (n=0\/i.size=0):=by omega
 have Zf:¬ (n=0):=by omega
 have Zg:¬ (i.size=0):=by omega
 simp[Builtin.append_,run_underlying ht,run_underlying ht',sizeOf,typeInfo,zeroValue,hi,hz,asInt,asIntOf,hwr,hneg,h48,hn,h63',QA,Question.forced,hfo,newRow,grownCap,Zf,Zg];exact fun h=>absurd h Nl
section
variable {P:Program} {ds:List (Option Nat)} {Q:Exit->St->Prop} {σ σ':St} {l:List Oper} {dst:Option Nat} {ty:TypeId} {pos:String} {af:Array Edge} {g:Option (Nat×Bool)}
theorem KP {w:World} {st:Nat->Prop} {k g n:Nat} {rows:List (List D)} {cur:Array Value} {e:TypeId} (hg:w.heap[g]? = some (.cells cur e (0,0))) (h:RR w st k g 0 rows) (hn:n<=rows.length) (hone:∀ v∈cur.toList,v.oneCell'=true):
  (cur.toList.take (n*k)).length=n*k/\(∀ v∈cur.toList.take (n*k),v.oneCell'=true)/\RL w st (fun _=>none) (rows.take n).flatten (cur.toList.take (n*k))/\(∀ r∈rows.take n,r.length=k):=by
 have h2:=om n h;obtain ⟨vs,f1,f2,f3,f4,f5⟩:=qy h2;have hl:(rows.take n).length=n:=by rw[cw];omega
 rw[hl] at f1
 have e1:cur.toList.take (n*k)=vs:=by
  apply MD;intro j;rw[JG]
  split
  ·rename_i hj;have hv:j<vs.length:=by omega
   have:=f5 j _ (rF hv);rw[kO,cell_of_row w g j cur e (0,0) hg] at this;rw[oe,this,rF hv]
  ·rename_i hj;rw[GU (by omega)]
 rw[e1];exact ⟨f1,f3,f2,f4⟩
theorem G8 {w:World} {st:Nat->Prop} {ρ:Nat->Option (Option Nat)}:∀ {ds es:List D} {vs us:List Value},RL w st ρ ds vs->RL w st ρ es us->RL w st ρ (ds++es) (vs++us)
 | [],_,_,_,h,h2=>by simp only[RL] at h;subst h;simpa using h2
 | d::ds,es,vs,us,h,h2=>by
   simp only[RL,List.cons_append] at h ⊢;obtain ⟨v,vs',h3,h4,h5⟩:=h;subst h3;exact ⟨v,vs'++us,rfl,h4,G8 h5 h2⟩
theorem ah.G9 {s x:Operand} {t t' e d:Nat} {kx k':IntKind} {m:Int} {ti Yj ei:TI} {q k n:Nat} {rows:List (List D)} (hg:bq ds g σ=some true) (ht:aA P t=some ti) (hk:ti.kind.elem? = some e) (he:aA P e=some ei) (ht':aA P t'=some Yj) (hk':Yj.kind = .int k') (hks:ei.size=k) (yQ:0<k)
  (hzs:ei.zero.cells.size=ei.size) (qZ:ei.zero.cells.toList.all (·.oneCell')=true) (hb0:0<ei.bytes) (hh:hfree σ.heap d=true) (hs:bh σ s = .cW q k 0 n) (hrow:az σ.heap q = .ext (IA k rows)) (hx:bh σ x = .sc (.int kx m)) (hm:0<m) (hgrow:(rows.length:Int)<n+m) (hnl:n<=rows.length) (Vx:0<rows.length)
  (hb:(n+m.toNat)*ei.bytes<=140737488355328)
  (hn:ah P ds Q l (σ.BE d (.row k (rows.take n++List.replicate m.toNat (ei.zero.cells.toList.map .sc))) (.cW d k 0 (n+m.toNat)))):ah P ds Q (⟨some d, .call { callee:= .builtin .append,args:= #[s,x],argTypes:= #[t,t'] },ty,pos,af,g⟩::l) σ:=by
 intro all ha w0 p a w hr;have hw:=aT (all:=all) (o:=⟨some d, .call { callee:= .builtin .append,args:= #[s,x],argTypes:= #[t,t'] },ty,pos,af,g⟩) (by rw[bV ha];exact hg) hr;obtain ⟨ρ,hr⟩:=hr;obtain ⟨N,rfl⟩:∃ N:Nat,m=N:=⟨m.toNat,by omega⟩
 simp only[Int.toNat_natCast] at hn hb;have hu:=eV ht hk;obtain ⟨ie,de,Fk,R5,y1,y2,y3,y4⟩:=cr he;obtain ⟨i2,d2,hi2,Zh,_,_,_,y5⟩:=cr ht'
 have V9:P.underlying t'=some (.int k'):=by
  rw[hk'] at y5;cases d2<;>simp[nD] at y5;subst y5;exact Zh
 have ho:=hr.objs q;rw[hrow] at ho;simp only[RO] at ho;obtain ⟨gg,hρ,cur,e',e1,e2,e3,e4⟩:=ho;have hS:=hr.bh s;rw[hs] at hS;simp only[R] at hS;have hX:=hr.bh x;rw[hx] at hX;simp only[R] at hX;rcases hS with ⟨f1,_⟩|⟨g',cap',A,f1,f2,f3,f4,f5,f6⟩
 ·rw[hρ] at f1;simp at f1
 ·rw[hρ] at f1;simp only[fD] at f1;subst f1;obtain ⟨uq,e6,f7,f8⟩:=f2;rw[e1] at f7;simp only[fD,Obj.cells.injEq] at f7;obtain ⟨rfl,_⟩:=f7;have lE:cap'=rows.length:=RQ yQ (f8.symm.trans e2.size);subst lE;obtain ⟨c1,c2,c3,c4⟩:=KP e1 e4 hnl e2.one;have Zi:=f6 (by omega)
  have hlt:n+N<=maxLen:=by
   have:(n+N)*1<=(n+N)*ei.bytes:=Nat.mul_le_mul_left _ hb0;unfold maxLen;omega
  have hrun:=vX (P:=P) (w:=w) t t' ty e k' ie ei.zero hu V9 Fk y3 ⟨gg,0*k,none⟩ n (rows.length-0) (cur.toList.take (n*k)) (by rw[y1,hks];exact c1) (by
   intro j v hj;rw[JG] at hj
   split at hj
   ·rw[Addr.add_lit,show 0*k+j=j by omega,cell_of_row w gg j cur e' (0,0) e1];rw[<- oe];exact hj
   ·cases hj) kx N (by omega) (by omega) (by omega) (by unfold maxLen at hlt;omega) (by rw[y2];exact hb) (by rw[y2];exact JU (Nat.mul_le_mul (Nat.le_add_left N n) (iU ei.bytes)) (JU hb (by decide)))
  have kg:∀ v w',(Builtin.append_ #[t,t'] ty #[.slice (some ⟨gg,0*k,none⟩) n (rows.length-0), .int kx (N:Int)]).run P w = .ok v w'->
    (execOp a.eval ⟨some d, .call { callee:= .builtin .append,args:= #[s,x],argTypes:= #[t,t'] },ty,pos,af,g⟩).run P w = .ok (.value v) w':=by
   intro v w' h;rw[Zi] at f5;simp only[execOp,resolve,invoke,builtin,List.map_toArray,fk,eN,f5,hX,Sem.run_bind,Sem.run_pure,Result.andThen_ok,h]
  refine bp hw (.inl (kg _ _ hrun)) (hn all ha w0 p _ _ ?_);have hge:=grownCap_ge w (n+N) (rows.length-0) e;have Fi:=grownCap_le_maxLen w (n+N) (rows.length-0) e hlt;generalize grownCap w (n+N) (rows.length-0) e=cap at hge Fi ⊢;have Yk:∀ m,(Builtin.zeroCells ei.zero.cells m).toList=(List.replicate m ei.zero.cells.toList).flatten:=p5
  have hsz:zU ((cur.toList.take (n*k)).toArray++Builtin.zeroCells ei.zero.cells N++Builtin.zeroCells ei.zero.cells (cap-(n+N))) (cap*k):=by
   refine ⟨?_,?_⟩
   ·simp only[Array.size_append,zS,size_zeroCells,hzs,c1,hks, <- sN]
    congr 1;omega
   ·intro v hv;simp only[Vt,lS] at hv;rcases hv with (hv|hv)|hv
    ·exact c2 v (by simpa using hv)
    ·exact iH (fun v hv=>yN.1 qZ v hv) v hv
    ·exact iH (fun v hv=>yN.1 qZ v hv) v hv
  have w5:∀ st:Nat->Prop,(∀ g,bO p σ.heap ρ w g->st g)->∀ cu,cu=(cur.toList.take (n*k)).toArray++Builtin.zeroCells ei.zero.cells N++Builtin.zeroCells ei.zero.cells (cap-(n+N))->
    RR (w.drew.alloc (.cells cu e)) st k w.heap.size 0 (rows.take n++List.replicate N (ei.zero.cells.toList.map .sc)):=by
   intro st hst cu Zj;have hc:∀ g off,bO p σ.heap ρ w g->(w.drew.alloc (.cells cu e)).cell? ⟨g,off,none⟩=w.cell? ⟨g,off,none⟩:=fun g off hg=>World.cell?_alloc_lt w.drew _ ⟨g,off,none⟩ hg.2.1;have hsh:∀ g n,Sh w g n->Sh (w.drew.alloc (.cells cu e)) g n:=fun g n hs=>ct (Below.heap_alloc w.drew _ g hs.lt) hs
   have hlr:(List.replicate N (ei.zero.cells.toList.map D.sc)).flatten=((List.replicate N ei.zero.cells.toList).flatten).map D.sc:=by
    rw[List.map_flatten,List.map_replicate]
   refine lY (vs:=cur.toList.take (n*k)++(List.replicate N ei.zero.cells.toList).flatten) (fun r hr=>?_) ?_ (fun v hv=>?_) (fun j v hj=>?_)
   ·rcases lS.1 hr with h|h
    ·exact c4 r h
    ·obtain ⟨_,rfl⟩:=List.mem_replicate.1 h;rw[dD,Array.length_toList,hzs,hks]
   ·rw[Pd,hlr];exact G8 (RL.mono hc hsh hst c3) (pU _)
   ·rcases lS.1 hv with h|h
    ·exact c2 v h
    ·rw[<- Yk] at h;exact iH (fun v hv=>yN.1 qZ v hv) v h
   ·rw[kO,World.cell?_alloc_at (w:=w.drew) cu e w.heap.size j rfl,Zj];rw[<- oe];simp only[Vt,Yk];rw[Cl ?_]
    ·simpa using hj
    ·have:=(jM.1 hj).1;simpa using this
  have hnb:=hr.drew.jS (ids:=[d]) (o:=d) (x:= .row k (rows.take n++List.replicate N (ei.zero.cells.toList.map .sc))) (cur:=(cur.toList.take (n*k)).toArray++Builtin.zeroCells ei.zero.cells N++Builtin.zeroCells ei.zero.cells (cap-(n+N))) (e:=e) (by simp) hh (by simp) (fun st hst=>by
   simp only[RO,bK]
   exact ⟨_,e,cap,heap_alloc_new w.drew _,hsz,Fi,by rw[bW,cw,dx];omega,w5 st hst _ rfl⟩)
  refine ⟨_,hnb.put (some d) ?_⟩;simp only[R,bK];exact .inr ⟨w.heap.size,cap,some ⟨w.heap.size,0,none⟩,rfl,⟨_,e,heap_alloc_new w.drew _,hsz.size⟩,by omega,Fi,by simp,fun _=>by simp⟩
theorem cZ.take (t d:Nat) {o k n:Nat} {rows:List (List D)} (ht:σ.slots[t]? = some (.cW o k 0 n)) (hrow:az σ.heap o = .row k rows) (hnl:n<=rows.length) (hh:hfree σ.heap d=true):
  cZ σ (St.put { σ.bF [o,d] with heap:=aG (σ.bF [o,d]).heap d (.row k (rows.take n)) } (some t) (.cW d k 0 n)):=by
 rintro w0 p a w ⟨ρ,hr⟩;have hT:=hr.bh (.tmp t);have S7:bh σ (.tmp t) = .cW o k 0 n:=by simp[bh,VP,ht]
 rw[S7] at hT;have ho:=hr.objs o;rw[hrow] at ho
 have Zk:=hr.Ka (d:=d) (eu:=rows.take n) (w':=w) hrow hh (fun _ _ _=>rfl) (fun _ _ h=>h) (iU _) rfl rfl rfl (fun st hst=>by
  simp only[RO,bK];cases hρ:ρ o with
  | none=>simp only[RO,hρ] at ho
  | some z=>
    cases z with
    | none=>
      simp only[RO,hρ] at ho;subst ho;simp
    | some gg=>
      simp only[RO,hρ] at ho;obtain ⟨cur,e',cap,e1,e2,e3,e4,e5⟩:=ho
      exact ⟨cur,e',cap,e1,e2,e3,by rw[cw];omega,RR.mono (fun _ _ _=>rfl) (fun _ _ hh=>hh) hst (fun _=>rfl) (om n e5)⟩)
 have hput:=Zk.put (some t) (v:=a.eval (.tmp t)) (d:= .cW d k 0 n) (by
  simp only[R,bK] at hT ⊢
  exact hT)
 have S8:a.put (some t) (a.eval (.tmp t))=a:=by
  simp only[Act.put,Act.eval]
  congr 1
  apply Array.ext_getElem?;intro j;rw[Array.getElem?_setIfInBounds]
  split
  ·rename_i h;subst h
   split
   ·rename_i hlt;simp[hlt]
   ·rename_i hlt;rw[Sz (by omega)]
  ·rfl
 rw[S8] at hput;exact ⟨_,hput⟩
theorem aC.take {fn:Func} {ids:List Nat} {ret:D} {outs:List Obj} {e:Exit} (t d:Nat) {o k n:Nat} {rows:List (List D)} (ht:σ.slots[t]? = some (.cW o k 0 n)) (hrow:az σ.heap o = .row k rows) (hnl:n<=rows.length) (hh:hfree σ.heap d=true)
  (he:St.put { σ.bF [o,d] with heap:=aG (σ.bF [o,d]).heap d (.row k (rows.take n)) } (some t) (.cW d k 0 n)=σ') (h:aC P fn ids ret outs e σ'):aC P fn ids ret outs e σ:=aC.imp (cZ.take t d ht hrow hnl hh) (he▸h)
theorem ay.take {c:Code} (t d:Nat) {o k n:Nat} {rows:List (List D)} (ht:σ.slots[t]? = some (.cW o k 0 n)) (hrow:az σ.heap o = .row k rows) (hnl:n<=rows.length) (hh:hfree σ.heap d=true)
  (he:St.put { σ.bF [o,d] with heap:=aG (σ.bF [o,d]).heap d (.row k (rows.take n)) } (some t) (.cW d k 0 n)=σ') (h:ay P c Q σ'):ay P c Q σ:=ay.imp (cZ.take t d ht hrow hnl hh) (he▸h)
end
section
variable {P:Program} {ds:List (Option Nat)} {Q:Exit->St->Prop} {σ:St} {l:List Oper} {dst:Option Nat} {ty:TypeId} {pos:String} {af:Array Edge} {g:Option (Nat×Bool)} {x y:Operand} {lo hi:Option Operand} {t:TypeId} {xs:Array Operand} {ts:Array TypeId}
theorem PI (h:ah P ds Q (⟨dst, .call { callee:= .builtin .cap,args:=xs,argTypes:=ts },ty,pos,af,g⟩::l) σ):ah P ds Q (⟨dst, .call { callee:= .builtin .cap,args:=xs,argTypes:=ts },ty,pos,af,g⟩::l) σ:=h
theorem isSlice (h:ah P ds Q (⟨dst, .slice t x lo hi none,ty,pos,af,g⟩::l) σ):ah P ds Q (⟨dst, .slice t x lo hi none,ty,pos,af,g⟩::l) σ:=h
theorem Da (h:ah P ds Q (⟨dst, .slice t x lo hi (some y),ty,pos,af,g⟩::l) σ):ah P ds Q (⟨dst, .slice t x lo hi (some y),ty,pos,af,g⟩::l) σ:=h
theorem aY (n:Nat) {a:Array Oper} (h:ay P (.region n a true) Q σ):ay P (.region n a true) Q σ:=h
end
section
variable {P:Program} {ds:List (Option Nat)} {Q:Exit->St->Prop} {σ σ':St} {l:List Oper} {dst:Option Nat} {ty:TypeId} {pos:String} {af:Array Edge} {g:Option (Nat×Bool)}
theorem Db {w0:World} {p:Pm} {a:Act} {w:World} {ρ:Nm} (h:aU w0 p σ a w ρ) {x:Operand} {q k off len:Nat} {rows:List (List D)} (hx:bh σ x = .cW q k off len) (hq:az σ.heap q = .row k rows) (hk:0<k) (hr:off<rows.length):
  ∃ g cur e A c,ρ q=some (some g)/\w.heap[g]? = some (.cells cur e (0,0))/\0<cur.size/\A=(⟨g,off*k,none⟩:Addr)/\a.eval x = .slice (some A) len c:=by
 have ho:=h.objs q;rw[hq] at ho;have h1:=h.bh x;rw[hx] at h1;simp only[R] at h1;cases hρ:ρ q with
 | none=>simp only[RO,hρ] at ho
 | some z=>
   cases z with
   | none=>simp only[RO,hρ] at ho;subst ho;simp at hr
   | some gg=>
     simp only[RO,hρ] at ho;obtain ⟨cur,e',cap,e1,e2,e3,e4,e5⟩:=ho;rcases h1 with ⟨f1,_⟩|⟨g',cap',A,f1,f2,f3,f4,f5,f6⟩
     ·rw[hρ] at f1;simp at f1
     ·rw[hρ] at f1;simp only[fD] at f1;subst f1;obtain ⟨uq,e6,f7,f8⟩:=f2;rw[e1] at f7;simp only[fD,Obj.cells.injEq] at f7;obtain ⟨rfl,_⟩:=f7;have lE:cap'=cap:=RQ hk (f8.symm.trans e2.size);subst lE;have hpos:0<cur.size:=by rw[e2.size];exact Nat.mul_pos (by omega) hk
      exact ⟨gg,cur,e',_,_,rfl,e1,hpos,rfl,by rw[f5,f6 (by omega)]⟩
theorem ah.overlaps {x y:Operand} {ts:Array TypeId} {f:FuncId} {fn:Func} {t e tR:TypeId} {ti ei:TI} {q q' k off off' len len':Nat} {rows eu:List (List D)} (hg:bq ds g σ=some true) (hf:P.funcs[f]? = some fn) (hname:(fn.name == "runtime.NumGoroutine")=false) (hb:fn.body.isNone=true) (hn:Extern.findNext fn=none)
  (he:Extern.find fn=some (Extern.SlicesOverlaps.overlaps #[t,t] #[tR])) (ht:aA P t=some ti) (hk:ti.kind.elem? = some e) (het:aA P e=some ei) (hx:bh σ x = .cW q k off len) (yQ:0<k) (hy:bh σ y = .cW q' k off' len') (hne:q≠q') (hq:az σ.heap q = .row k rows) (KQ:az σ.heap q' = .row k eu) (h1:off<rows.length) (h2:off'<eu.length)
  (hnext:ah P ds Q l (σ.put dst (.sc (.bool false)))):ah P ds Q (⟨dst, .call { callee:= .value (.func f),args:= #[x,y],argTypes:=ts },ty,pos,af,g⟩::l) σ:=by
 intro all ha w0 p a w hr;have hw:=aT (all:=all) (o:=⟨dst, .call { callee:= .value (.func f),args:= #[x,y],argTypes:=ts },ty,pos,af,g⟩) (by rw[bV ha];exact hg) hr;obtain ⟨ρ,hr⟩:=hr;obtain ⟨b1,c1,e1,A1,k1,r1,r2,r3,r4,r5⟩:=Db hr hx hq yQ h1;obtain ⟨b2,c2,e2,A2,k2,s1,s2,s3,s4,s5⟩:=Db hr hy KQ yQ h2;subst r4 s4;have R6:b1≠b2:=fun e=>hne (hr.inj q q' b1 (by rw[hq];simp) (by rw[KQ];simp) (.inl r1) (.inl (by rw[s1,e])));have hu:=eV ht hk;have hsz:∀ w,(sizeOf e).run P w = .ok ei.size w:=fun w=>(ej het w).2.1;have EO:=Lib.run_overlaps_apart (P:=P) w t tR e hu ei.size hsz ⟨b1,off*k,none⟩ ⟨b2,off'*k,none⟩ len k1 len' k2 R6 e1 e2 c1.size c2.size (by simp[World.shape?,r2]) (by simp[World.shape?,s2]) (by omega) (by simp[World.frozen?,r2]) (by simp[World.frozen?,r2])
 have kg:(execOp a.eval ⟨dst, .call { callee:= .value (.func f),args:= #[x,y],argTypes:=ts },ty,pos,af,g⟩).run P w = .ok (.value (.bool false)) w:=by
  have S7:a.eval (.func f) = .func (.func f) #[] #[]:=rfl
  have h0:(execOp a.eval ⟨dst, .call { callee:= .value (.func f),args:= #[x,y],argTypes:=ts },ty,pos,af,g⟩).run P w=(callFunc f #[a.eval x,a.eval y]).run P w:=by
   simp[execOp,resolve,invoke,S7,Deferred.ofValue]
  rw[h0,run_callFunc_extern hf hname hb hn he,r5,s5,EO];rfl
 exact bp hw (.inl kg) (hnext all ha w0 p _ _ ⟨ρ,hr.put dst (by simp[R])⟩)
end
theorem Dc {α:Type} (rows:List α) {i j:Nat} (hij:i<=j) (hj:j<=rows.length) (W Z V:List α):List.take (i+(rows.length-j)) (List.take (i+(rows.length-j)) (List.take i rows++List.drop j rows++W)++Z++V)=List.take i rows++List.drop j rows:=by
 have h1:i+(rows.length-j)=(List.take i rows++List.drop j rows).length:=by simp;omega
 rw[h1,List.take_left,lR,List.take_left]
theorem Aj {α:Type} (rows xs Z R:List α) {i K:Nat} (hi:i<=rows.length) (hR:R.length=rows.length+xs.length-i) (hK:K=rows.length+xs.length):
  List.take (i+xs.length) (List.take i (List.take i (rows++Z)++R)++xs++List.drop (i+xs.length) (List.take i (rows++Z)++R))++List.take (rows.length-i) (List.take (rows.length-i) (List.drop i (rows++Z))) ++
   List.drop K (List.take i (List.take i (rows++Z)++R)++xs++List.drop (i+xs.length) (List.take i (rows++Z)++R))=List.take i rows++xs++List.drop i rows:=by
 have h1:List.take i (rows++Z)=List.take i rows:=Sw hi;have h2:(List.take i rows).length=i:=by rw[cw];omega
 have h3:List.take i (List.take i rows++R)=List.take i rows:=RX h2;have h4:List.drop i (rows++Z)=List.drop i rows++Z:=List.drop_append_of_le_length hi;have h5:(List.drop i rows).length=rows.length-i:=bQ;have h6:List.take (rows.length-i) (List.drop i rows++Z)=List.drop i rows:=RX h5;have h7:List.take (rows.length-i) (List.drop i rows)=List.drop i rows:=lu (by omega);rw[h1,h3,h4,h6,h7];have h8:(List.take i rows++xs).length=i+xs.length:=by rw[bW,h2]
 rw[RX h8,List.drop_of_length_le (i:=K) (by rw[bW,h8,bQ,bW,h2,hR];omega),yM]
theorem Ak {α:Type} (rows xs Z:List α) {i:Nat} (hi:i<=rows.length) (hz:xs.length<=Z.length):
  List.take (rows.length+xs.length) (List.take i (List.take (i+xs.length) (rows++Z)++List.take (rows.length+xs.length-(i+xs.length)) (List.take (rows.length+xs.length-i) (List.drop i (rows++Z)))++List.drop (i+xs.length+(rows.length+xs.length-(i+xs.length))) (rows++Z))++xs ++
   List.drop (i+xs.length) (List.take (i+xs.length) (rows++Z)++List.take (rows.length+xs.length-(i+xs.length)) (List.take (rows.length+xs.length-i) (List.drop i (rows++Z)))++List.drop (i+xs.length+(rows.length+xs.length-(i+xs.length))) (rows++Z)))=List.take i rows++xs++List.drop i rows:=by
 have h1:List.take i (rows++Z)=List.take i rows:=Sw hi;have h2:(List.take i rows).length=i:=by rw[cw];omega
 have h4:List.drop i (rows++Z)=List.drop i rows++Z:=List.drop_append_of_le_length hi;have h5:(List.drop i rows).length=rows.length-i:=bQ;have h9:(List.take (i+xs.length) (rows++Z)).length=i+xs.length:=by rw[cw,bW];omega
 have hT:List.take (rows.length+xs.length-(i+xs.length)) (List.take (rows.length+xs.length-i) (List.drop i (rows++Z)))=List.drop i rows:=by
  rw[List.take_take,h4,show min (rows.length+xs.length-(i+xs.length)) (rows.length+xs.length-i)=rows.length-i by omega];exact RX h5
 rw[hT,lR (List.take (i+xs.length) (rows++Z)),Sw (l₁:=List.take (i+xs.length) (rows++Z)) (by omega),List.take_take,SG (by omega),h1,List.drop_left' h9, <- lR];exact RX (by simp only[bW,h2,h5];omega)
section
variable {P:Program}
theorem o8:aQ P program=some P:=rfl
theorem oA {d:Nat} {t:TypeId} {fs:Array Field} {xs ys:Array Value} (ht:P.underlying t=some (.struct fs)) (hp:P.stoodInHeld t=false):
  aQ P (Op.equalIn (d+1) t (.agg xs) (.agg ys))=aQ P (Op.eqFields d xs ys fs.toList):=by
 simp only[Op.equalIn,bk,cm ht,o8,Option.bind_some,hp,pT,jd];rw[<- Array.forIn_toList];generalize fs.toList=l;clear ht
 induction l with
 | nil=>simp[Op.eqFields,cM]
 | cons f l ih=>
   rw[List.forIn_cons];simp only[Op.eqFields,bk]
   by_cases hf:f.name≠ "_"
   ·rcases h1:aQ P (part f.type xs f.offset) with _|a
    ·simp[hf,bk,h1]
    ·rcases h2:aQ P (part f.type ys f.offset) with _|b
     ·simp[hf,bk,h1,h2]
     ·rcases h3:aQ P (Op.equalIn d f.type a b) with _|r
      ·simp[hf,bk,h1,h2,h3]
      ·cases r
       ·simp[hf,bk,h1,h2,h3,cM]
       ·simp only[hf,ne_eq,not_false_eq_true,jg,bk,h1,h2,h3,Option.bind_some,Bool.not_true,pT,jd,cM];simpa[bk] using ih
   ·simp only[hf,jd,cM,Option.bind_some];simpa[bk] using ih
theorem fQ {d:Nat} {t:TypeId} {k k':IntKind} {a b:Int} (h:P.underlying t=some (.int k')):aQ P (Op.equalIn (d+1) t (.int k a) (.int k b))=some (a==b):=by
 simp[Op.equalIn,bk,cm h,cM]
theorem oB {d:Nat} {t:TypeId} {a b:ByteArray} (h:P.underlying t=some .string):aQ P (Op.equalIn (d+1) t (.string a) (.string b))=some (a.toList==b.toList):=by
 simp[Op.equalIn,bk,cm h,cM,beq_toListBytes]
theorem eD {t:TypeId} {d:TypeDesc} {vs:Array Value} {off:Nat} {v:Value} (h:P.underlying t=some d) (ha:(match d with | .struct _ | .array _ _=>true|_=>false)=false) (hv:vs[off]? = some v):aQ P (part t vs off)=some v:=by
 unfold part;simp only[isAgg,bk,cm h,Option.bind_some];cases d<;>simp_all[cM]
theorem Dd {t:TypeId} {fs:Array Field} {x y:Operand} {xs ys:Array Value} {b:Bool} (ht:P.underlying t=some (.struct fs)) (hp:P.stoodInHeld t=false) (hm:P.eqGuardType P.depth t=false) (h:aQ P (Op.eqFields 9999 xs ys fs.toList)=some b):
  vV P .eql t x y (.agg xs) (.agg ys)=some (.bool b)/\vV P .neq t x y (.agg xs) (.agg ys)=some (.bool !b):=by
 have hg:∀ op,aQ P (eqGuard op t x y (.agg xs) (.agg ys))=some ():=by
  intro op;cases op<;>simp[eqGuard,bk,o8,hm,cM]
 have he:aQ P (Op.equal t (.agg xs) (.agg ys))=some b:=by
  show aQ P (Op.equalIn (9999+1) t (.agg xs) (.agg ys))=_;rw[oA ht hp,h]
 have h1:Go.binOp .eql t (.agg xs) (.agg ys)=(do let r <- Op.equal t (.agg xs) (.agg ys);pure (.bool r)):=rfl;have h2:Go.binOp .neq t (.agg xs) (.agg ys)=(do let r <- Op.equal t (.agg xs) (.agg ys);pure (.bool !r)):=rfl;constructor
 ·show aQ P (do eqGuard .eql t x y (.agg xs) (.agg ys);Go.binOp .eql t (.agg xs) (.agg ys))=_;rw[bk,hg,Option.bind_some,h1,bk,he];rfl
 ·show aQ P (do eqGuard .neq t x y (.agg xs) (.agg ys);Go.binOp .neq t (.agg xs) (.agg ys))=_;rw[bk,hg,Option.bind_some,h2,bk,he];rfl
theorem iI {d:Nat} {xs ys:Array Value} {f:Field} {fs:List Field} {a b:Value} {r:Bool} (hn:f.name≠ "_") (ha:aQ P (part f.type xs f.offset)=some a) (hb:aQ P (part f.type ys f.offset)=some b) (he:aQ P (Op.equalIn d f.type a b)=some r)
  {s:Bool} (h:aQ P (Op.eqFields d xs ys fs)=some s):aQ P (Op.eqFields d xs ys (f::fs))=some (r&&s):=by
 simp only[Op.eqFields,hn,ne_eq,not_false_eq_true,jg,bk,ha,hb,he,Option.bind_some];cases r
 ·simp[cM]
 ·simpa using h
theorem s0 {d:Nat} {xs ys:Array Value}:aQ P (Op.eqFields d xs ys [])=some true:=rfl
end
attribute [go_sem] Nat.sub_zero zb Option.isNone_none Option.isNone_some
def De (o:Nat):List Nat->Bool
 | []=>false
 | x::l=>if o=x then true else De o l
theorem Df {o:Nat}:∀ {l:List Nat},De o l=true↔o∈l
 | []=>by simp[De]
 | x::l=>by
   by_cases h:o=x
   ·simp[De,h]
   ·simp[De,h,Df]
def oC:List Nat->Bool
 | []=>true
 | x::l=> !De x l&&oC l
theorem l6:∀ {l:List Nat},oC l=true->l.Nodup
 | [],_=>List.nodup_nil
 | x::l,h=>by
   simp only[oC,jj,Pp] at h;refine M4.2 ⟨fun hx=>?_,l6 h.2⟩;rw[Df.2 hx] at h;cases h.1
def Dg (p:Nat->Bool):List Nat->Bool
 | []=>true
 | x::l=>p x&&Dg p l
theorem xq {p:Nat->Bool}:∀ {l:List Nat},Dg p l=true->l.all p=true
 | [],_=>rfl
 | x::l,h=>by
   simp only[Dg,jj] at h;simp only[List.all_cons,jj];exact ⟨h.1,xq h.2⟩
def Dh (p:Obj->Bool):List Obj->Bool
 | []=>true
 | x::l=>p x&&Dh p l
theorem xu {p:Obj->Bool}:∀ {l:List Obj},Dh p l=true->l.all p=true
 | [],_=>rfl
 | x::l,h=>by
   simp only[Dh,jj] at h;simp only[List.all_cons,jj];exact ⟨h.1,xu h.2⟩
def qD:List Nat->List Obj->Bool
 | [],[]=>true
 | _::l,_::m=>qD l m
 | _,_=>false
theorem vi:∀ {l:List Nat} {m:List Obj},qD l m=true->l.length=m.length
 | [],[],_=>rfl
 | _::l,_::m,h=>by
   simp only[qD] at h;simp[vi h]
def jY (ds:List (Option Nat)) (g:Option (Nat×Bool)) (σ:St) (dst:Option Nat) (ins new:List Nat) (flat:Bool) (ret:D) (outs:List Obj):Option St:=
 (bq ds g σ).bind fun b=>cond b (cond (oC (ins++new)) (cond (qD (ins++new) outs) (cond (Dg (ec σ.heap) (ins++new)) (cond (Dg (fun o=>decide (o<1000)) new) (cond (vS outs.length ret) (cond (Dh (wu outs.length) outs)
  (cond flat (cond (mS ret) (cond (Dh Ad outs) (some (σ.sQ dst ins new ret outs)) none) none) (some (σ.sQ dst ins new ret outs))) none) none) none) none) none) none) none
theorem l7 {ds:List (Option Nat)} {g:Option (Nat×Bool)} {σ σ':St} {dst:Option Nat} {ins new:List Nat} {flat:Bool} {ret:D} {outs:List Obj} (h:jY ds g σ dst ins new flat ret outs=some σ'):
  bq ds g σ=some true/\(ins++new).Nodup/\(ins++new).length=outs.length/\(ins++new).all (ec σ.heap)=true/\new.all (fun o=>decide (o<1000))=true/\vS outs.length ret=true/\outs.all (wu outs.length)=true/\σ.sQ dst ins new ret outs=σ'/\(flat=true->Flat ret outs):=by
 simp only[jY,j3] at h;obtain ⟨b,hb,h⟩:=h;cases b with
 | false=>simp only[cond_false,reduceCtorEq] at h
 | true=>
 simp only[cond_true] at h;cases h1:oC (ins++new) with
 | false=>simp only[h1,cond_false,reduceCtorEq] at h
 | true=>
 cases h2:qD (ins++new) outs with
 | false=>simp only[h1,h2,cond_true,cond_false,reduceCtorEq] at h
 | true=>
 cases h3:Dg (ec σ.heap) (ins++new) with
 | false=>simp only[h1,h2,h3,cond_true,cond_false,reduceCtorEq] at h
 | true=>
 cases h4:Dg (fun o=>decide (o<1000)) new with
 | false=>simp only[h1,h2,h3,h4,cond_true,cond_false,reduceCtorEq] at h
 | true=>
 cases h5:vS outs.length ret with
 | false=>simp only[h1,h2,h3,h4,h5,cond_true,cond_false,reduceCtorEq] at h
 | true=>
 cases h6:Dh (wu outs.length) outs with
 | false=>simp only[h1,h2,h3,h4,h5,h6,cond_true,cond_false,reduceCtorEq] at h
 | true=>
 simp only[h1,h2,h3,h4,h5,h6,cond_true] at h
 have fin:σ.sQ dst ins new ret outs=σ'/\(flat=true->Flat ret outs):=by
  cases flat
  ·simp only[cond_false,fD] at h;exact ⟨h,fun e=>by cases e⟩
  ·simp only[cond_true] at h;cases h7:mS ret with
   | false=>simp only[h7,cond_false,reduceCtorEq] at h
   | true=>
     cases h8:Dh Ad outs with
     | false=>simp only[h7,h8,cond_true,cond_false,reduceCtorEq] at h
     | true=>
       simp only[h7,h8,cond_true,fD] at h;exact ⟨h,fun _=>G5 h7 (xu h8)⟩
 exact ⟨hb,l6 h1,vi h2,xq h3,xq h4,rfl,xu h6,fin.1,fin.2⟩
section
variable {P:Program} {ds:List (Option Nat)} {Q:Exit->St->Prop} {Qv:St->Prop} {σ σ':St} {l:List Oper} {dst:Option Nat} {ty:TypeId} {pos:String} {af:Array Edge} {g:Option (Nat×Bool)} {f:FuncId} {x:Operand} {xs:Array Operand} {ts:Array TypeId} {caps args:List D} {ret:D}
theorem ah.cE (new:List Nat) {outs:List Obj} (hx:bh σ x = .fn f caps) (hc:ak P f args ret outs) (hargs:iu [] (xs.toList.map (bh σ)++caps)=some args) (h:jY ds g σ dst [] new false ret outs=some σ')
  (hn:ah P ds Q l σ'):ah P ds Q (⟨dst, .call { callee:= .value x,args:=xs,argTypes:=ts },ty,pos,af,g⟩::l) σ:=by
 obtain ⟨h1,h2,h3,h4,h5,h6,h7,h8,_⟩:=l7 h;exact ah.vh [] new h1 hx hc hargs rfl h2 h3 h4 h5 h6 h7 h8 hn
theorem ah.cS (new:List Nat) {outs:List Obj} (hx:bh σ x = .fn f caps) (hc:ak P f args ret outs) (hargs:fZ (ef σ [] 4) (xs.toList.map (bh σ)++caps)=some args) (h:jY ds g σ dst [] new true ret outs=some σ')
  (hn:ah P ds Q l σ'):ah P ds Q (⟨dst, .call { callee:= .value x,args:=xs,argTypes:=ts },ty,pos,af,g⟩::l) σ:=by
 obtain ⟨h1,h2,h3,h4,h5,h6,h7,h8,h9⟩:=l7 h;exact ah.Kt [] new h1 hx hc hargs (j4.refl _) rfl (j5.refl _) (h9 rfl) h2 h3 h4 h5 h6 h7 h8 hn
theorem ah.cI (new:List Nat) {objs outs:List Obj} {ins:List Nat} (hx:bh σ x = .fn f caps) (hi:jy [] (uv (xs.toList.map (bh σ)++caps))=ins) (hc:aF P f objs args ret outs) (hargs:iu ins (xs.toList.map (bh σ)++caps)=some args) (sY:jQ σ (iu ins) ins=some objs)
  (h:jY ds g σ dst ins new false ret outs=some σ') (hn:ah P ds Q l σ'):ah P ds Q (⟨dst, .call { callee:= .value x,args:=xs,argTypes:=ts },ty,pos,af,g⟩::l) σ:=by
 obtain ⟨h1,h2,h3,h4,h5,h6,h7,h8,_⟩:=l7 h;exact ah.vh ins new h1 hx hc hargs sY h2 h3 h4 h5 h6 h7 h8 hn
def vj (ds:List (Option Nat)) (g:Option (Nat×Bool)) (σ:St) (dst:Option Nat) (flat:Bool) (ret:D):Option St:=
 (bq ds g σ).bind fun b=>cond b (cond (vS 0 ret) (cond (!flat||mS ret) (some (σ.put dst (CH [] ret))) none) none) none
theorem xw {flat:Bool} (h:vj ds g σ dst flat ret=some σ'):bq ds g σ=some true/\vS 0 ret=true/\σ.put dst (CH [] ret)=σ'/\(flat=true->Flat ret []):=by
 simp only[vj,j3] at h;obtain ⟨b,hb,h⟩:=h;cases b with
 | false=>simp only[cond_false,reduceCtorEq] at h
 | true=>
 simp only[cond_true] at h;cases h1:vS 0 ret with
 | false=>simp only[h1,cond_false,reduceCtorEq] at h
 | true=>
 cases h2:(!flat||mS ret) with
 | false=>simp only[h1,h2,cond_true,cond_false,reduceCtorEq] at h
 | true=>
 simp only[h1,h2,cond_true,fD] at h;refine ⟨hb,rfl,h,fun e=>G5 ?_ rfl⟩;subst e;simpa using h2
theorem bz.cE (hx:bh σ x = .fn f caps) (hc:ak P f args ret []) (hargs:iu [] (xs.toList.map (bh σ)++caps)=some args) (h:vj ds g σ dst false ret=some σ')
  (hn:bz P ds Qv l σ'):bz P ds Qv (⟨dst, .call { callee:= .value x,args:=xs,argTypes:=ts },ty,pos,af,g⟩::l) σ:=by
 obtain ⟨h1,h2,h3,_⟩:=xw h;exact bz.vh h1 hx hc hargs h2 h3 hn
theorem bz.cS (hx:bh σ x = .fn f caps) (hc:ak P f args ret []) (hargs:fZ (ef σ [] 4) (xs.toList.map (bh σ)++caps)=some args) (h:vj ds g σ dst true ret=some σ')
  (hn:bz P ds Qv l σ'):bz P ds Qv (⟨dst, .call { callee:= .value x,args:=xs,argTypes:=ts },ty,pos,af,g⟩::l) σ:=by
 obtain ⟨h1,h2,h3,h4⟩:=xw h;exact bz.Kt h1 hx hc hargs (h4 rfl) h2 h3 hn
end
mutual
def Al:D->D->Prop
 | .any, .any=>True
 | .sc v, .any=>True
 | .agg ds, .any=>True
 | .sl k rows, .any=>True
 | .cT ds, .any=>True
 | .ro cs, .any=>True
 | .ref o off, .any=>True
 | .jN o k i off, .any=>True
 | .cW o k off n, .any=>True
 | .fn f cs, .any=>True
 | .mp o, .any=>True
 | .mp o, .mp o'=>o=o'
 | .sc v, .sc u=>v=u
 | .sc v, .sl k rows=>v = .slice none 0 0/\rows=[]
 | .cW o k off n, .cW o' k' off' n'=>o=o'/\k=k'/\off=off'/\n=n'
 | .sl k rows, .sl k' eu=>k=k'/\rows=eu
 | .agg ds, .agg es=>qR ds es
 | .cT ds, .cT es=>qR ds es
 | .ref o off, .ref o' off'=>o=o'/\off=off'
 | .jN o k i off, .jN o' k' i' off'=>o=o'/\k=k'/\i=i'/\off=off'
 | .ro cs, .ro es=>qR cs es
 | .fn f cs, .fn f' es=>f=f'/\qR cs es
 | _,_=>False
def qR:List D->List D->Prop
 | [],[]=>True
 | d::ds,e::es=>Al d e/\qR ds es
 | _,_=>False
end
mutual
theorem p7:∀ {d e:D},Al d e->nY d e
 | d,e,h=>by
   cases e with
   | any=>exact nY.any d
   | sc u=>cases d<;>simp only[Al] at h;subst h;exact nY.refl _
   | sl k' eu=>
     cases d<;>simp only[Al] at h
     ·obtain ⟨rfl,rfl⟩:=h;exact nY.nil _
     ·obtain ⟨rfl,rfl⟩:=h;exact nY.refl _
   | cW=>cases d<;>simp only[Al] at h;obtain ⟨rfl,rfl,rfl,rfl⟩:=h;exact nY.refl _
   | mp=>cases d<;>simp only[Al] at h;subst h;exact nY.refl _
   | ref=>cases d<;>simp only[Al] at h;obtain ⟨rfl,rfl⟩:=h;exact nY.refl _
   | jN=>cases d<;>simp only[Al] at h;obtain ⟨rfl,rfl,rfl,rfl⟩:=h;exact nY.refl _
   | agg es=>cases d<;>simp only[Al] at h;exact nY.agg (bL h)
   | cT es=>cases d<;>simp only[Al] at h;exact nY.cT (bL h)
   | ro es=>cases d<;>simp only[Al] at h;exact nY.ro (bL h)
   | fn f' es=>cases d<;>simp only[Al] at h;obtain ⟨rfl,h⟩:=h;exact nY.fn (bL h)
theorem bL:∀ {ds es:List D},qR ds es->j4 ds es
 | [],[],_=>j4.nil
 | d::ds,e::es,h=>by
   simp only[qR] at h;exact j4.cons (p7 h.1) (bL h.2)
 | [],_::_,h=>by simp only[qR] at h
 | _::_,[],h=>by simp only[qR] at h
end
def Di:Obj->Obj->Prop
 | _, .dead=>True
 | .row k rs, .row k' ss=>k=k'/\rs=ss
 | .box ds, .box es=>qR ds es
 | .ext e, .ext e'=>e=e'
 | _,_=>False
theorem Am {x y:Obj} (h:Di x y):CG x y:=by
 cases y with
 | dead=>exact CG.dead _
 | row=>cases x<;>simp only[Di] at h;obtain ⟨rfl,rfl⟩:=h;exact CG.refl _
 | box=>cases x<;>simp only[Di] at h;exact CG.box (bL h)
 | ext=>cases x<;>simp only[Di] at h;subst h;exact CG.refl _
def Dj:List (Nat×Obj)->List (Nat×Obj)->Prop
 | [],[]=>True
 | (o,x)::h,(o',y)::k=>o=o'/\Di x y/\Dj h k
 | _,_=>False
theorem bX:∀ {h k:List (Nat×Obj)},Dj h k->xm h k
 | [],[],_=>xm.nil
 | (o,x)::h,(o',y)::k,e=>by
   simp only[Dj] at e;obtain ⟨rfl,e1,e2⟩:=e;exact xm.cons (Am e1) (bX e2)
 | [],_::_,e=>by simp only[Dj] at e
 | _::_,[],e=>by simp only[Dj] at e
def q9:List Obj->List Obj->Prop
 | [],[]=>True
 | x::xs,y::ys=>Di x y/\q9 xs ys
 | _,_=>False
theorem l8:∀ {xs ys:List Obj},q9 xs ys->j5 xs ys
 | [],[],_=>j5.nil
 | x::xs,y::ys,e=>by
   simp only[q9] at e;exact j5.cons (Am e.1) (l8 e.2)
 | [],_::_,e=>by simp only[q9] at e
 | _::_,[],e=>by simp only[q9] at e
attribute [go_sem] Bool.true_or Bool.false_or Bool.or_true Bool.or_false eq_self jY vj oC De Dg Dh qD Al qR Di Dj q9 Value.int.injEq Value.bool.injEq Value.string.injEq
def QS:Obj->List Nat
 | .box cs=>uv cs
 | _=>[]
def KR (σ:St):List Nat->List Nat
 | []=>[]
 | o::os=>QS (az σ.heap o)++KR σ os
def nq (σ:St) (ids:List Nat):List Nat:=jy [] (ids++KR σ ids)
section
variable {P:Program} {ds:List (Option Nat)} {Q:Exit->St->Prop} {σ σ':St} {l:List Oper} {dst:Option Nat} {ty:TypeId} {pos:String} {af:Array Edge} {g:Option (Nat×Bool)} {f:FuncId} {x:Operand} {xs:Array Operand} {ts:Array TypeId} {caps args:List D} {ret:D}
theorem ah.cJ (new:List Nat) {objs outs:List Obj} {ins:List Nat} (hx:bh σ x = .fn f caps) (hi:nq σ (uv (xs.toList.map (bh σ)++caps))=ins) (hc:aF P f objs args ret outs) (hargs:iu ins (xs.toList.map (bh σ)++caps)=some args) (sY:jQ σ (iu ins) ins=some objs)
  (h:jY ds g σ dst ins new false ret outs=some σ') (hn:ah P ds Q l σ'):ah P ds Q (⟨dst, .call { callee:= .value x,args:=xs,argTypes:=ts },ty,pos,af,g⟩::l) σ:=by
 obtain ⟨h1,h2,h3,h4,h5,h6,h7,h8,_⟩:=l7 h;exact ah.vh ins new h1 hx hc hargs sY h2 h3 h4 h5 h6 h7 h8 hn
end
attribute [go_sem] QS KR nq
mutual
def EP (o:Nat) (bs:List D):D->D
 | .ref o' off=>if o'=o then .ro (bs.drop off) else .ref o' off
 | .jN o' k' i off=>if o'=o then .any else .jN o' k' i off
 | .mp o'=>if o'=o then .any else .mp o'
 | .cW o' k' off len=>if o'=o then .any else .cW o' k' off len
 | .agg cs=> .agg (MQ o bs cs)
 | .cT cs=> .cT (MQ o bs cs)
 | .fn f cs=> .fn f (MQ o bs cs)
 | .any=> .any
 | .sc v=> .sc v
 | .sl k rows=> .sl k rows
 | .ro cs=> .ro cs
def MQ (o:Nat) (bs:List D):List D->List D
 | []=>[]
 | d::ds=>EP o bs d::MQ o bs ds
end
def Obj.bx (o:Nat) (bs:List D):Obj->Obj
 | .box cs=> .box (MQ o bs cs)
 | x=>x
def He (o:Nat) (bs:List D):List (Nat×Obj)->List (Nat×Obj)
 | []=>[]
 | (q,x)::h=>(q,x.bx o bs)::He o bs h
def St.bx (σ:St) (o:Nat) (bs:List D):St:={ slots:=MQ o bs σ.slots,heap:=aG (He o bs σ.heap) o .dead }
theorem Dk {o:Nat} {bs:List D}:∀ {h:List (Nat×Obj)} {o':Nat},az (He o bs h) o'=(az h o').bx o bs
 | [],_=>by simp[He,az,Obj.bx]
 | (q,x)::h,o'=>by
   by_cases e:q=o'
   ·simp[He,az,e]
   ·simp[He,az,e,Dk]
theorem Dl {o:Nat} {bs:List D}:∀ {h:List (Nat×Obj)} {o':Nat},ec (He o bs h) o'=ec h o'
 | [],_=>by simp[He,ec]
 | (q,x)::h,o'=>by simp[He,ec,Dl]
section
variable {w:World} {st:Nat->Prop} {ρ:Nat->Option (Option Nat)} {o:Nat} {bs:List D}
mutual
theorem R.bx (hr:∀ g,ρ o=some (some g)->st g/\∀ off,RC w st g off (bs.drop off)):∀ {d:D} {v:Value},R w st ρ d v->R w st ρ (EP o bs d) v
 | .any,_,_=>by simp[EP,R]
 | .sc _,_,hd=>by simpa[EP,R] using hd
 | .sl _ _,_,hd=>by simpa[EP,R] using hd
 | .ro _,_,hd=>by simpa[EP,R] using hd
 | .agg _,_,hd | .cT _,_,hd | .fn _ _,_,hd=>by
   simp only[EP,R] at hd ⊢;obtain ⟨vs,h1,h2⟩:=hd;exact ⟨vs,h1,RL.bx hr h2⟩
 | .ref o' off,_,hd=>by
   by_cases e:o'=o
   ·subst e;simp only[EP,jg,R] at hd ⊢;obtain ⟨g,h1,h2⟩:=hd;exact ⟨g,off,h2,(hr g h1).1,(hr g h1).2 off⟩
   ·simp only[EP,aE e];exact hd
 | .jN o' _ _ _,_,hd=>by
   by_cases e:o'=o
   ·simp[EP,e,R]
   ·simp only[EP,aE e];exact hd
 | .mp o',_,hd=>by
   by_cases e:o'=o
   ·simp[EP,e,R]
   ·simp only[EP,aE e];exact hd
 | .cW o' _ _ _,_,hd=>by
   by_cases e:o'=o
   ·simp[EP,e,R]
   ·simp only[EP,aE e];exact hd
theorem RL.bx (hr:∀ g,ρ o=some (some g)->st g/\∀ off,RC w st g off (bs.drop off)):∀ {ds:List D} {vs:List Value},RL w st ρ ds vs->RL w st ρ (MQ o bs ds) vs
 | [],_,hd=>by simpa[MQ,RL] using hd
 | _::_,_,hd=>by
   simp only[MQ,RL] at hd ⊢;obtain ⟨v,vs',h1,h2,h3⟩:=hd;exact ⟨v,vs',h1,R.bx hr h2,RL.bx hr h3⟩
end
end
theorem Ao {w:World} {st:Nat->Prop} {ρ:Nat->Option (Option Nat)} {g:Nat}:∀ {cs:List D} {vs:List Value} {off:Nat},jA cs=true->RL w st ρ cs vs->(∀ j v,vs[j]? = some v->w.cell? ⟨g,off+j,none⟩=some v/\v.oneCell'=true)->RC w st g off cs
 | [],_,_,_,_,_=>by simp[RC]
 | c::cs,vs,off,hc,h,hv=>by
   simp only[jA,jj] at hc;simp only[RL] at h;obtain ⟨v,vs',rfl,h2,h3⟩:=h;have h0:=hv 0 v rfl;simp only[RC];refine ⟨⟨v,h0.1,h0.2,rK hc.1 h2⟩,Ao hc.2 h3 fun j u hj=>?_⟩;have:=hv (j+1) u (by simpa using hj);rw[show off+1+j=off+(j+1) by omega];exact this
def Fz:List D->Bool
 | []=>true
 | d::ds=>wW d&&qP d&&Fz ds
theorem Ap:∀ {cs:List D},Fz cs=true->jA cs=true/\cs.all qP=true
 | [],_=>⟨rfl,rfl⟩
 | d::ds,h=>by
   simp only[Fz,jj] at h;have:=Ap h.2;simp only[jA,List.all_cons,jj];exact ⟨⟨h.1.1,this.1⟩,h.1.2,this.2⟩
theorem cZ.Hf (σ:St) (o:Nat) (bs:List D) (hg:az σ.heap o = .box bs) (hok:Fz bs=true):cZ σ (σ.bx o bs):=by
 rintro w0 p a w ⟨ρ,h⟩;obtain ⟨Wa,hone⟩:=Ap hok;have hh:ec σ.heap o=true:=cC (by rw[hg];simp)
 have kT:∀ o',az (σ.bx o bs).heap o'=if o'=o then .dead else (az σ.heap o').bx o bs:=by
  intro o';unfold St.bx;by_cases e:o'=o
  ·subst e;rw[bC rfl];exact aX (by rw[Dl];exact hh)
  ·rw[aE e,aM e,Dk]
 have Px:∀ x:Obj,x.bx o bs≠ .dead↔x≠ .dead:=by intro x;cases x<;>simp[Obj.bx]
 have live:∀ o',az (σ.bx o bs).heap o'≠ .dead->o'≠o/\az σ.heap o'≠ .dead:=by
  intro o' ho';rw[kT] at ho';by_cases e:o'=o
  ·simp[e] at ho'
  ·rw[aE e,Px] at ho';exact ⟨e,ho'⟩
 have hst:∀ g,bO p σ.heap ρ w g->bO p (σ.bx o bs).heap ρ w g:=fun g hs=>⟨hs.1,hs.2.1,fun o' ho'=>hs.2.2 o' (live o' ho').2⟩
 have hro:=h.objs o;rw[hg] at hro;simp only[RO] at hro;obtain ⟨g0,cur,e',r1,r2,r3⟩:=hro
 have hr:∀ g,ρ o=some (some g)->bO p (σ.bx o bs).heap ρ w g/\∀ off,RC w (bO p (σ.bx o bs).heap ρ w) g off (bs.drop off):=by
  intro g e;have hlt:=(h.objs o).lt (by rw[hg];simp) e;rw[r1] at e;simp only[fD] at e;subst e;have S9:=rJ hone r3
  have hrc:RC w (bO p (σ.bx o bs).heap ρ w) g0 0 bs:=by
   refine Ao Wa (RL.mono (fun _ _ _=>rfl) (fun _ _ hs=>hs) hst r3) fun j v hj=>⟨?_,S9 v (fS hj)⟩
   rw[kO,cell_of_row w g0 j cur e' (0,0) r2, <- oe];exact hj
  refine ⟨⟨h.open_ g0 (h.fresh o g0 (by rw[hg];simp) (.inl r1)),hlt,fun o' ho' e2=>?_⟩,fun off=>?_⟩
  ·obtain ⟨n1,l1⟩:=live o' ho';exact n1 (h.inj o' o g0 l1 (by rw[hg];simp) e2 (.inl r1))
  ·have:=sO off hrc;rw[kO] at this;exact this
 refine ⟨ρ,h.open_,h.defers,RL.bx hr (RL.mono (fun _ _ _=>rfl) (fun _ _ hs=>hs) hst h.slots),fun o'=>?_,fun o1 o2 g h1 h2=>h.inj o1 o2 g (live o1 h1).2 (live o2 h2).2,fun o1 g h1=>h.fresh o1 g (live o1 h1).2,fun o1 g h1=>h.hlt o1 g (live o1 h1).2,h.below,h.kf⟩;rw[kT];by_cases e:o'=o
 ·simp[e,RO]
 ·rw[aE e];have h1:=RO.mono (fun _ _ _=>rfl) (fun _ _ hs=>hs) hst (fun _ _=>rfl) (h.objs o');cases hx:az σ.heap o' with
  | dead=>simp[RO,Obj.bx]
  | row k' eu=>rw[hx] at h1;exact h1
  | box cs=>
    rw[hx] at h1;simp only[RO,Obj.bx] at h1 ⊢;obtain ⟨g,cur,e',r1,r2,r3⟩:=h1;exact ⟨g,cur,e',r1,r2,RL.bx hr r3⟩
  | ext e'=>rw[hx] at h1;exact h1
section
variable {P:Program} {ds:List (Option Nat)} {Q:Exit->St->Prop} {σ σ':St} {l:List Oper}
theorem ah.bx (o:Nat) {bs:List D} (hg:az σ.heap o = .box bs) (hok:Fz bs=true) (he:σ.bx o bs=σ') (hn:ah P ds Q l σ'):ah P ds Q l σ:=
 fun all ha w0 p a w hr=>hn all ha w0 p a w (by subst he;exact cZ.Hf σ o bs hg hok w0 p a w hr)
theorem ay.bx {c:Code} (o:Nat) {bs:List D} (hg:az σ.heap o = .box bs) (hok:Fz bs=true) (he:σ.bx o bs=σ') (hn:ay P c Q σ'):ay P c Q σ:=by subst he;exact ay.imp (cZ.Hf σ o bs hg hok) hn
end
attribute [go_sem] EP MQ Obj.bx He St.bx Fz
section
variable {P:Program} {ops:Array Oper} {Q Q':Exit->Act->World->Prop} {G G':World->Prop}
def p8 (P:Program) (ops:Array Oper) (G:World->Prop) (Q:Exit->Act->World->Prop):Nat->Array Bool->Act->World->Prop
 | 0,listed,a,w=>Region.ready .any ops listed=[]/\Q .normal a w
 | fuel+1,listed,a,w=>(Region.ready .any ops listed=[]->Q .normal a w)/\
   ∀ i∈Region.ready .any ops listed,wpOp P ops Q i (fun a' w'=>G w'/\p8 P ops G Q fuel (listed.setIfInBounds i true) a' w') a w
theorem vk:∀ (fuel:Nat) (listed:Array Bool) (a:Act) (w:World),p8 P ops G Q fuel listed a w->wpAny P .any ops Q fuel listed a w
 | 0,_,_,_,h=>h
 | fuel+1,listed,a,w,h=>⟨h.1,fun i hi=>wpOp_mono (fun a' w' h'=>vk fuel _ a' w' h'.2) (h.2 i hi)⟩
theorem FA {i:Nat} {a:Act} {w:World} {K:Act->World->Prop} (hq:∀ e a w,Q e a w->Q' e a w) (h:wpOp P ops Q i K a w):wpOp P ops Q' i K a w:=by
 unfold wpOp at h ⊢
 split
 ·rename_i h0;simpa[h0] using h
 ·rename_i o ho;simp only[ho] at h
  split
  ·rename_i hw;rw[bC hw] at h;exact h.imp (fun h2=>Oper.Ai hq h2) (fun h2=>⟨h2.1,by obtain ⟨a,w,h3⟩:=h2.2;exact ⟨a,w,hq _ _ _ h3⟩⟩)
  ·rename_i hw;rw[aE hw] at h;exact h
theorem p9 (hg:∀ w,G w->G' w) (hq:∀ e a w,Q e a w->Q' e a w):∀ (fuel:Nat) (listed:Array Bool) (a:Act) (w:World),p8 P ops G Q fuel listed a w->p8 P ops G' Q' fuel listed a w
 | 0,_,_,_,h=>⟨h.1,hq _ _ _ h.2⟩
 | fuel+1,listed,a,w,h=>⟨fun h0=>hq _ _ _ (h.1 h0),fun i hi=>FA hq (wpOp_mono (fun a' w' h'=>⟨hg _ h'.1,p9 hg hq fuel _ a' w' h'.2⟩) (h.2 i hi))⟩
def oD (P:Program) (ops:Array Oper) (G:World->Prop) (o:Oper) (v:Value) (a:Act):Prop:=
 (Region.wanted o (yielded ops a.tmps)=true/\∀ w,G w->(execOp a.eval o).run P w = .ok (.value v) w)\/(Region.wanted o (yielded ops a.tmps)=false/\v=undef)
theorem oD.wpOp {i:Nat} {o:Oper} {v:Value} {a:Act} (hi:ops[i]? = some o) (hy:oD P ops G o v a) {K:Act->World->Prop} {w:World} (hG:G w) (h:K (a.put o.dst v) w):wpOp P ops Q i K a w:=by
 unfold Go.wpOp;simp only[hi];rcases hy with ⟨h1,h2⟩|⟨h1,h2⟩
 ·rw[bC h1];left;unfold Oper.wp;rw[h2 w hG];exact h
 ·rw[aE (by rw[h1];simp), <- h2];exact h
theorem FB {j:Nat} {oj:Oper} {d:Option Tmp} {v:Value} {K:Act->World->Prop} {a:Act} {w:World} (Y:Act->Prop) (hj:ops[j]? = some oj) (hl:∀ x,d=some x->x∉oj.looksAt ops) (hd:∀ x,d=some x->oj.dst≠some x)
  (hsj:∀ cs b,oj.op≠ .select cs b) (hQ:∀ c a w,¬ Q (.panic c) a w) (hY:∀ u,Y (a.put oj.dst u)) (Zl:∀ dd u,Y (({ a with defers:=dd::a.defers }:Act).put oj.dst u))
  (h:wpOp P ops Q j K (a.put d v) w):wpOp P ops Q j (fun a' w'=>Y a'/\K (a'.put d v) w') a w:=by
 have Aq:∀ (b:Act) (u:Value),(b.put oj.dst u).put d v=(b.put d v).put oj.dst u:=by
  intro b u;cases QT:d with
  | none=>rfl
  | some x=>
    cases Zm:oj.dst with
    | none=>rfl
    | some y=>
      have hne:y≠x:=fun e=>hd x QT (by rw[Zm,e]);simp only[Act.put];rw[Array.setIfInBounds_comm _ _ hne]
 have hex:=execOp_put (ops:=ops) oj hsj a d v hl;unfold wpOp at h ⊢;simp only[hj,wanted_put oj a d v hl] at h ⊢
 split at h
 ·rename_i hw;rw[bC hw];refine h.imp (fun h=>?_) (fun h=>⟨by unfold Oper.asks at *;rw[hex] at h;exact h.1,h.2⟩);unfold Oper.wp at h ⊢;rw[hex] at h
  revert h
  generalize (execOp a.eval oj).run P w=r;intro h;cases r with
  | halt x w'=>cases x<;>simp only[Oper.upon] at h ⊢<;>first|exact h|exact absurd h (hQ _ _ _)
  | ok n w'=>
    cases n<;>simp only[Oper.upon] at h ⊢
    case value u=>exact ⟨hY u,by rw[Aq];exact h⟩
    case skip=>exact ⟨hY _,by rw[Aq];exact h⟩
    case defer dd=>exact ⟨Zl dd _,by rw[Aq, <- Act.put_defers];exact h⟩
    case enter f args=>
     refine Calls.mono h fun e w'' he=>?_;cases e with
     | returned u=>exact ⟨hY u,by rw[Aq];exact he⟩
     | panicked c=>exact absurd he (hQ _ _ _)
     | outgrown=>exact he
    case row row args=>exact Rows.mono h fun u w'' he=>⟨hY u,by rw[Aq];exact he⟩
 ·rename_i hw;rw[aE hw];exact ⟨hY _,by rw[Aq];exact h⟩
theorem iz {i:Nat} {oi:Oper} {v:Value} (hi:ops[i]? = some oi) (hsel:Region.noSelect ops=true) (hQ:∀ c a w,¬ Q (.panic c) a w):
  ∀ (fuel:Nat) (listed:Array Bool) (a:Act) (w:World),(∀ j oj,ops[j]? = some oj->j≠i->listed.getD j true=false->(∀ e∈oj.after,Region.binds .any e=true->e.on≠i)->oi.apart ops oj=true)->
    i∈Region.ready .any ops listed->oD P ops G oi v a->G w->p8 P ops G Q fuel (listed.setIfInBounds i true) (a.put oi.dst v) w->p8 P ops G Q (fuel+1) listed a w
 | 0,listed,a,w,_,hr,hy,hG,H=>by
   refine ⟨fun h=>(by rw[h] at hr;cases hr),fun j hj=>?_⟩;by_cases hji:j=i
   ·subst hji;exact hy.wpOp hi hG ⟨hG,H⟩
   ·have:=ready_mono hj hji;rw[H.1] at this;cases this
 | fuel+1,listed,a,w,hfree,hr,hy,hG,H=>by
   refine ⟨fun h=>(by rw[h] at hr;cases hr),fun j hj=>?_⟩;by_cases hji:j=i
   ·subst hji;exact hy.wpOp hi hG ⟨hG,H⟩
   have h1:=H.2 j (ready_mono hj hji);obtain ⟨hun,oj,Nh,hall⟩:=mem_ready.1 hj
   have hni:listed.getD i false=false:=by
    have h0:=(mem_ready.1 hr).1;rcases Pt i listed.size with h'|h'
    ·simp[h'] at h0 ⊢;exact h0
    ·simp[Sz h']
   have hap:=hfree j oj Nh hji hun fun e he hb heq=>by
    have h2:=hall e he hb;rw[heq,hni] at h2;cases h2
   obtain ⟨a1,a2,a3⟩:=Oper.apart_spec hap;have hsi:=fun cs b=>Region.noSelect_spec hsel i oi cs b hi;have hsj:=fun cs b=>Region.noSelect_spec hsel j oj cs b Nh
   have hkeep:∀ (b:Act),oD P ops G oi v b->∀ u,oD P ops G oi v (b.put oj.dst u):=fun b hb u=>by
    unfold oD at hb ⊢;rw[execOp_put oi hsi b oj.dst u a3,wanted_put oi b oj.dst u a3];exact hb
   have h2:=FB (fun b=>oD P ops G oi v b) Nh a1 (fun x hx e=>a2 x hx e) hsj hQ (hkeep a hy) (fun dd u=>hkeep { a with defers:=dd::a.defers } hy u) h1;refine wpOp_mono (fun a' w' h3=>⟨h3.2.1,?_⟩) h2;refine iz hi hsel hQ fuel (listed.setIfInBounds j true) a' w' (fun k ok hk hki hu hno=>hfree k ok hk hki ?_ hno) (ready_mono hr (sF hji)) h3.1 h3.2.1 ?_
   ·by_cases hjk:j=k
    ·subst hjk;exact hun
    ·rw[getD_set_ne true hjk] at hu;exact hu
   ·rw[Array.setIfInBounds_comm _ _ hji];exact h3.2.2
end
theorem aU.QU {w0:World} {p:Pm} {σ:St} {a:Act} {w:World} {ρ:Nm} (h:aU w0 p σ a w ρ):aU w { p with own:=fun g=> ∃ o,az σ.heap o≠ .dead/\ow ρ o g } σ a w ρ where
 open_:=fun g hg=>by
  rcases hg with hg|⟨o,h1,h2⟩
  ·exact h.open_ g (.inl (JU h.below.size hg))
  ·exact h.open_ g (h.fresh o g h1 h2)
 defers:=h.defers
 slots:=h.slots
 objs:=h.objs
 inj:=h.inj
 fresh:=fun o g h1 h2=> .inr ⟨o,h1,h2⟩
 hlt:=h.hlt
 below:=gL.refl _ _
 kf:=h.kf
theorem aU.QV {w0:World} {p:Pm} {σ σ':St} {a a':Act} {w w':World} {ρ:Nm} (h:aU w0 p σ a w ρ) (h':Rel w { p with own:=fun g=> ∃ o,az σ.heap o≠ .dead/\ow ρ o g } σ' a' w'):Rel w0 p σ' a' w':=by
 obtain ⟨ρ',r⟩:=h';refine ⟨ρ',h.open_,r.defers,r.slots,r.objs,r.inj,fun o g h1 h2=>?_,r.hlt,h.below.trans r.below fun g hg ⟨o,h1,h2⟩=>?_,r.kf⟩
 ·rcases r.fresh o g h1 h2 with h3|⟨o',h3,h4⟩
  ·exact .inl (JU h.below.size h3)
  ·exact h.fresh o' g h3 h4
 ·rcases h.fresh o g h1 h2 with h3|h3
  ·omega
  ·exact h3
section
variable {P:Program} {σ:St}
theorem NF {t:TypeId} {x:Operand} {cs:List D} {d:D} (hx:bh σ x = .ro cs) (h:gS P σ (.load t x)=some d) {w0:World} {p:Pm} {a:Act} {w:World} {ρ:Nm} {o:Oper} (ho:o.op = .load t x) (hr:aU w0 p σ a w ρ):
  ∃ g v,bO p σ.heap ρ w g/\R w (bO p σ.heap ρ w) ρ d v/\∀ w',(∀ off,w'.cell? ⟨g,off,none⟩=w.cell? ⟨g,off,none⟩)->(execOp a.eval o).run P w' = .ok (.value v) w':=by
 simp only[gS,j3] at h;obtain ⟨ti,ht,cs',hcs,h⟩:=h;rw[hx] at hcs;simp only[fX,fD] at hcs;subst hcs
 split at h
 ·rename_i hl;have hX:=hr.bh x;rw[hx] at hX;simp only[R] at hX;obtain ⟨g,off,h1,h4,h5⟩:=hX;obtain ⟨vs,h2,h3⟩:=wq (ρ:=ρ) h5;have hlen:=dF h2;have lD:=mP ti.size h2;refine ⟨g,?_⟩;unfold ML at h;by_cases hA:ti.kind.isAgg=true
  ·rw[bC hA] at h;simp only[fD] at h;subst h;have hlt:(vs.take ti.size).length=ti.size:=by rw[cw];omega
   refine ⟨.agg (vs.take ti.size).toArray,h4,?_,fun w' JK=>?_⟩
   ·simp only[R];exact ⟨_,rfl,by simpa using lD⟩
   ·obtain ⟨_,hsz,_,_,EM⟩:=ej ht w'
    have hrun:=run_loadCells_list (P:=P) w' ⟨g,off,none⟩ (vs.take ti.size) (fun j v hj=>by
     rw[Addr.add_lit];rw[JG] at hj
     split at hj
     ·rw[JK];exact h3 j v hj
     ·cases hj)
    rw[hlt] at hrun;simp[execOp,ho,Instr.loadAt,h1,Instr.sureAddr,loadVar,EM,hA,hsz,hrun]
  ·rw[aE hA] at h;have Ij:ti.kind.isAgg=false:=by simpa using hA
   match hcs:cs.take ti.size,h with
   | [c],hd=>
     simp only[fD] at hd;subst hd;rw[hcs] at lD;simp only[RL] at lD;obtain ⟨v,vs',e1,e2,e3⟩:=lD
     have hpos:0<ti.size:=by
      rcases SC ti.size with h0|h0
      ·rw[h0] at hcs;simp at hcs
      ·exact h0
     have hv:vs[0]? = some v:=by
      have:(vs.take ti.size)[0]? = some v:=by rw[e1];rfl
      rwa [EK hpos] at this
     have hc:=h3 0 v hv;simp only[Nat.add_zero] at hc;refine ⟨v,h4,e2,fun w' JK=>?_⟩;obtain ⟨_,hsz,_,_,EM⟩:=ej ht w';have Nn:w'.cell? ⟨g,off,none⟩=some v:=by rw[JK];exact hc
     simp[execOp,ho,Instr.loadAt,h1,Instr.sureAddr,loadVar,EM,Ij,Nn]
 ·cases h
end
theorem Rel.below_ {w0:World} {p:Pm} {σ:St} {a:Act} {w:World} (h:Rel w0 p σ a w):gL p.own w0 w:=by obtain ⟨_,h⟩:=h;exact h.below
def fC (P:Program) (ops:Array Oper) (K:St->Prop) (fuel:Nat) (listed:Array Bool) (σ:St):Prop:=
 ∀ w0 p a w,Rel w0 p σ a w->p8 P ops (fun w'=>gL p.own w0 w') (fun e a' w'=>e = .normal/\∃ σ',K σ'/\Rel w0 p σ' a' w') fuel listed a w
section
variable {P:Program} {σ σ':St} {ops:Array Oper} {K:St->Prop} {fuel:Nat} {listed:Array Bool} {ds:List (Option Nat)}
theorem fC.done (hr:Region.ready .any ops listed=[]) (h:K σ):fC P ops K fuel listed σ:=by
 intro w0 p a w i4;cases fuel with
 | zero=>exact ⟨hr,rfl,σ,h,i4⟩
 | succ n=>exact ⟨fun _=>⟨rfl,σ,h,i4⟩,fun i hi=>by rw[hr] at hi;cases hi⟩
theorem fC.first (i:Nat) {dst:Option Nat} {op:Op} {ty:TypeId} {pos:String} {af:Array Edge} {g:Option (Nat×Bool)} (hi:ops[i]? = some ⟨dst,op,ty,pos,af,g⟩) (hd:ops.toList.map (·.dst)=ds) (ht:i7 ops listed i=true) (hop:zb P σ op=true) (h:fK P ds dst op g σ=some σ')
  (hn:fC P ops K fuel (listed.setIfInBounds i true) σ'):fC P ops K (fuel+1) listed σ:=by
 simp only[i7,jj] at ht;obtain ⟨⟨t1,t2⟩,t3⟩:=ht;rintro w0 p a w i4;have KH:=i4;simp only[fK,j3] at h;obtain ⟨b,hb,h⟩:=h;rw[<- bV hd ⟨dst,op,ty,pos,af,g⟩ σ] at hb;have hw:=aT hb i4;obtain ⟨ρ,hr⟩:=i4;have hQ:∀ (c:_) (a':Act) (w':World),¬ (Exit.panic c=Exit.normal/\∃ σ',K σ'/\Rel w0 p σ' a' w'):=fun c a' w' h=>by cases h.1
 cases b
 ·simp only[pT,jd,fD] at h;subst h;exact iz hi t1 hQ fuel listed a w (Region.free_spec hi t2) (by simpa using t3) (.inr ⟨hw,rfl⟩) hr.below (hn w0 p _ w ⟨ρ,hr.put dst (by simp[R])⟩)
 ·simp only[jg,ku] at h;obtain ⟨d,hd',rfl⟩:=h;obtain ⟨v,hv,hR⟩:=jx hd' w0 p a w ρ ⟨dst,op,ty,pos,af,g⟩ rfl hr;have hno:=(C9 hop hd' (o:=⟨dst,op,ty,pos,af,g⟩) rfl hr) w _ _ hv;exact iz hi t1 hQ fuel listed a w (Region.free_spec hi t2) (by simpa using t3) (.inl ⟨hw,fun w' _=>hno.2 w'⟩) hr.below (hn w0 p _ w ⟨ρ,hr.put dst hR⟩)
def FC:D->Bool
 | .ro _=>true
 | _=>false
theorem fC.ro (i:Nat) {dst:Option Nat} {t:TypeId} {x:Operand} {ty:TypeId} {pos:String} {af:Array Edge} {g:Option (Nat×Bool)} (hi:ops[i]? = some ⟨dst,.load t x,ty,pos,af,g⟩) (hd:ops.toList.map (·.dst)=ds) (ht:i7 ops listed i=true) (hx:FC (bh σ x)=true\/bq ds g σ=some false) (h:fK P ds dst (.load t x) g σ=some σ')
  (hn:fC P ops K fuel (listed.setIfInBounds i true) σ'):fC P ops K (fuel+1) listed σ:=by
 simp only[i7,jj] at ht;obtain ⟨⟨t1,t2⟩,t3⟩:=ht;rintro w0 p a w i4;have KH:=i4;simp only[fK,j3] at h;obtain ⟨b,Yl,h⟩:=h;have hb:=Yl;rw[<- bV hd ⟨dst, .load t x,ty,pos,af,g⟩ σ] at hb;have hw:=aT hb i4;obtain ⟨ρ,hr⟩:=i4;cases b
 ·simp only[pT,jd,fD] at h;subst h;exact iz hi t1 (fun c a' w' h=>by cases h.1) fuel listed a w (Region.free_spec hi t2) (by simpa using t3) (.inr ⟨hw,rfl⟩) hr.below (hn w0 p _ w ⟨ρ,hr.put dst (by simp[R])⟩)
 ·simp only[jg,ku] at h;obtain ⟨d,hd',rfl⟩:=h
  have hx':FC (bh σ x)=true:=by
   rcases hx with hx|hx
   ·exact hx
   ·rw[Yl] at hx;cases hx
  obtain ⟨cs,hcs⟩:∃ cs,bh σ x = .ro cs:=by
   cases hh:bh σ x<;>rw[hh] at hx'<;>simp[FC] at hx';exact ⟨_,rfl⟩
  obtain ⟨gg,v,s1,s2,s3⟩:=NF hcs hd' (o:=⟨dst, .load t x,ty,pos,af,g⟩) rfl hr;have hput:=hr.put dst s2;have KO:=hr.QU;have H:=hn w _ _ w ⟨ρ,KO.put dst s2⟩
  have hG:∀ w',gL (fun g=> ∃ o,az σ.heap o≠ .dead/\ow ρ o g) w w'->gL p.own w0 w':=fun w' hb'=>hr.below.trans hb' fun g hg ⟨o,h1,h2⟩=>by
   rcases hr.fresh o g h1 h2 with h3|h3
   ·omega
   ·exact h3
  refine p9 hG ?_ _ _ _ _ (iz (G:=fun w'=>gL (fun g=> ∃ o,az σ.heap o≠ .dead/\ow ρ o g) w w') (v:=v) hi t1 (fun c a' w' h=>by cases h.1) fuel listed a w (Region.free_spec hi t2) (by simpa using t3) (.inl ⟨hw,fun w' hb'=>s3 w' fun off=>World.cell?_of_block (w:=w) (a:=⟨gg,off,none⟩) (hb'.block gg s1.2.1 fun ⟨o,h1,h2⟩=>s1.2.2 o h1 h2)⟩) (gL.refl _ _) H)
  ·rintro e a' w' ⟨h0,σ',h1,h2⟩;exact ⟨h0,σ',h1,hr.QV h2⟩
def PJ (P:Program) (ops:Array Oper) (ds:List (Option Nat)) (K:St->Prop) (fuel:Nat) (listed:Array Bool) (σ:St) (i:Nat):Prop:=
 ∃ o,ops[i]? = some o/\ah P ds (fun e σ'=>e = .normal/\fC P ops K fuel (listed.setIfInBounds i true) σ') [o] σ
def lz (P:Program) (ops:Array Oper) (ds:List (Option Nat)) (K:St->Prop) (fuel:Nat) (listed:Array Bool) (σ:St):List Nat->Prop
 | []=>True
 | i::l=>PJ P ops ds K fuel listed σ i/\lz P ops ds K fuel listed σ l
theorem lz.all:∀ {l:List Nat},lz P ops ds K fuel listed σ l->∀ i∈l,PJ P ops ds K fuel listed σ i
 | _::l,h,i,hi=>by
   rcases lp.1 hi with rfl|hi
   ·exact h.1
   ·exact h.2.all i hi
theorem fC.all (rs:List Nat) (hr:Region.ready .any ops listed=rs) (hne:rs≠[]) (hd:ops.toList.map (·.dst)=ds) (h:lz P ops ds K fuel listed σ rs):fC P ops K (fuel+1) listed σ:=by
 intro w0 p a w i4;refine ⟨fun h0=>absurd (hr▸h0) hne,fun i hi=>?_⟩;rw[hr] at hi;obtain ⟨o,ho,ht⟩:=h.all i hi;have hl:=ht ops hd w0 p a w i4;unfold wpOp;simp only[ho];simp only[wpList] at hl
 split
 ·rename_i hw;rw[bC hw] at hl;rcases hl with hl|⟨h1,h2⟩
  ·left;unfold Oper.wp at hl ⊢;generalize (execOp a.eval o).run P w=r at *;cases r with
   | ok n w'=>
     cases n<;>simp only[Oper.upon] at hl ⊢<;>first
      | (obtain ⟨σ',⟨_,h3⟩,h4⟩:=hl;exact ⟨h4.below_,h3 _ _ _ _ h4⟩)
      | exact Calls.mono hl (fun e w'' he=>by
        cases e with
        | returned v=>obtain ⟨σ',⟨_,h3⟩,h4⟩:=he;exact ⟨h4.below_,h3 _ _ _ _ h4⟩
        | panicked c=>obtain ⟨σ',⟨h3,_⟩,_⟩:=he;cases h3
        | outgrown=>obtain ⟨_,_,σ',⟨h3,_⟩,_⟩:=he;cases h3)
      | exact Rows.mono hl (fun v w'' he=>by obtain ⟨σ',⟨_,h3⟩,h4⟩:=he;exact ⟨h4.below_,h3 _ _ _ _ h4⟩)
      | exact hl
   | halt x w'=>cases x<;>simp only[Oper.upon] at hl ⊢<;>first|exact hl|(obtain ⟨σ',⟨h3,_⟩,_⟩:=hl;cases h3)
  ·obtain ⟨_,_,σ',⟨h3,_⟩,_⟩:=h2;cases h3
 ·rename_i hw;rw[aE hw] at hl;obtain ⟨σ',⟨_,h3⟩,h4⟩:=hl;exact ⟨h4.below_,h3 _ _ _ _ h4⟩
theorem lz.nil:lz P ops ds K fuel listed σ []:=trivial
theorem lz.cons {i:Nat} {rs:List Nat} {o:Oper} (ho:ops[i]? = some o) (h:ah P ds (fun e σ'=>e = .normal/\fC P ops K fuel (listed.setIfInBounds i true) σ') [o] σ) (hn:lz P ops ds K fuel listed σ rs):lz P ops ds K fuel listed σ (i::rs):=⟨⟨o,ho,h⟩,hn⟩
theorem ay.QW (id:Nat) {l:List Oper} {Q:Exit->St->Prop} (hm:P.follows .mixedOrders=true) (n:Nat) (hl:l.length=n) (h:fC P l.toArray (Q .normal) n (Array.replicate n false) σ):ay P (.region id l.toArray true) Q σ:=by
 rintro w0 p a w ⟨ρ,hr⟩;refine wp_region_any hm ?_;subst hl;refine p6 ?_ _ _ _ _ (vk _ _ _ _ (h w0 p a _ ⟨ρ,hr.drew⟩));rintro e a' w' ⟨rfl,h2⟩;exact h2
end
attribute [go_sem] FC
theorem Ym:type_of% (And.intro @Int.fdiv_eq_ediv_of_nonneg (And.intro @C6 (And.intro @C7 (And.intro @IntWalk.i64_in (And.intro @IntWalk.u8_in (And.intro @IntWalk.u64_in (And.intro @IntWalk.i32_in (And.intro @IntWalk.u32_in (And.intro @bC.{1} (And.intro @aE.{1} (And.intro @GX @Ii))))))))))):=And.intro @Int.fdiv_eq_ediv_of_nonneg (And.intro @C6 (And.intro @C7 (And.intro @IntWalk.i64_in (And.intro @IntWalk.u8_in (And.intro @IntWalk.u64_in (And.intro @IntWalk.i32_in (And.intro @IntWalk.u32_in (And.intro @bC.{1} (And.intro @aE.{1} (And.intro @GX @Ii))))))))))
theorem BP {x y:D} (hx:nY x y):∀ {s s':List D} (t:Nat),j4 s s'->j4 (s.set t x) (s'.set t y)
 | _,_,_, .nil=> .nil
 | _,_,0, .cons h1 h2=> .cons hx h2
 | _,_,t+1, .cons h1 h2=> .cons h1 (BP hx t h2)
section
variable {P:Program} {ds:List (Option Nat)} {Q:Exit->St->Prop} {σ σ':St} {l:List Oper} {op:Op} {ty ty':TypeId} {pos pos':String} {af NG:Array Edge} {i t1 t2 t3:Nat} {b b':Bool}
theorem rO {w:Bool} (hs:kY ds (some (i,w))=some t1) (hb:bh σ (.tmp t1) = .sc (.bool b)):bq ds (some (i,w)) σ=some (b==w):=by
 simp only[kY] at hs;simp only[bh] at hb;simp only[bq,hs,Option.bind_some,hb,gB]
theorem kH {d:D} (h:t1≠t2):bh (σ.put (some t2) d) (.tmp t1)=bh σ (.tmp t1):=by
 simp[bh,St.put,VP,ua (sF h)]
theorem rP {d:D} (h:t2<σ.slots.length):bh (σ.put (some t2) d) (.tmp t2)=d:=by
 simp[bh,St.put,VP,h]
theorem FD {d x:D}:cZ ((σ.put (some t2) d).put (some t3) x) ((σ.put (some t2) .any).put (some t3) x):=cZ.le (BP (nY.refl _) t3 (BP (nY.any _) t2 (j4.refl _))) (xm.refl _)
theorem xy:bh σ (.const (.bool true)) = .sc (.bool true):=rfl
theorem uz:bh σ (.const (.bool false)) = .sc (.bool false):=rfl
theorem ah.Yn (hs:kY ds (some (i,false))=some t1) (hb:bh σ (.tmp t1) = .sc (.bool b)) (hne:t1≠t2) (hlt:t2<σ.slots.length) (he:pZ op=false) (ho:gS P σ op=some (.sc (.bool b')))
  (hx:(σ.put (some t2) .any).put (some t3) (.sc (.bool (b||b')))=σ') (hn:ah P ds Q l σ'):ah P ds Q (⟨some t2,op,ty,pos,af,some (i,false)⟩::⟨some t3, .pick (.tmp t1) (.const (.bool true)) (.tmp t2),ty',pos',NG,none⟩::l) σ:=by
 subst hx;have hg:=rO (w:=false) hs hb;cases b
 ·refine ah.step (σ':=σ.put (some t2) (.sc (.bool b'))) (by simp[nk,hg,he,ho]) (ah.step (σ':=(σ.put (some t2) (.sc (.bool b'))).put (some t3) (.sc (.bool b'))) ?_ (ah.imp FD (by simpa using hn)));simp[nk,bq,pZ,gS,kH hne,hb,rP hlt]
 ·refine ah.step (σ':=σ.put (some t2) (.sc undef)) (by simp[nk,hg]) (ah.step (σ':=(σ.put (some t2) (.sc undef)).put (some t3) (.sc (.bool true))) ?_ (ah.imp FD (by simpa using hn)));simp[nk,bq,pZ,gS,kH hne,hb,xy,uz]
variable {ops:Array Oper} {K:St->Prop} {fuel:Nat} {listed:Array Bool}
theorem fC.imp (h:cZ σ σ') (hn:fC P ops K fuel listed σ'):fC P ops K fuel listed σ:=fun w0 p a w hr=>hn w0 p a w (h w0 p a w hr)
theorem fC.Yn (n m:Nat) (hi:ops[n]? = some ⟨some t2,op,ty,pos,af,some (i,false)⟩) (hj:ops[m]? = some ⟨some t3, .pick (.tmp t1) (.const (.bool true)) (.tmp t2),ty',pos',NG,none⟩) (hd:ops.toList.map (·.dst)=ds)
  (ht:i7 ops listed n=true) (ht':i7 ops (listed.setIfInBounds n true) m=true) (hop:zb P σ op=true) (hs:kY ds (some (i,false))=some t1) (hb:bh σ (.tmp t1) = .sc (.bool b)) (hne:t1≠t2) (hlt:t2<σ.slots.length) (ho:gS P σ op=some (.sc (.bool b')))
  (hx:(σ.put (some t2) .any).put (some t3) (.sc (.bool (b||b')))=σ') (hn:fC P ops K fuel ((listed.setIfInBounds n true).setIfInBounds m true) σ'):fC P ops K (fuel+1+1) listed σ:=by
 subst hx;have hg:=rO (w:=false) hs hb;cases b
 ·refine fC.first (σ':=σ.put (some t2) (.sc (.bool b'))) n hi hd ht hop (by simp[fK,hg,ho]) (fC.first (σ':=(σ.put (some t2) (.sc (.bool b'))).put (some t3) (.sc (.bool b'))) m hj hd ht' rfl ?_ (fC.imp FD (by simpa using hn)))
  simp[fK,bq,gS,kH hne,hb,rP hlt]
 ·refine fC.first (σ':=σ.put (some t2) (.sc undef)) n hi hd ht hop (by simp[fK,hg]) (fC.first (σ':=(σ.put (some t2) (.sc undef)).put (some t3) (.sc (.bool true))) m hj hd ht' rfl ?_ (fC.imp FD (by simpa using hn)))
  simp[fK,bq,gS,kH hne,hb,xy,uz]
theorem fC.Wb (n m:Nat) {t:TypeId} {x:Operand} (hi:ops[n]? = some ⟨some t2, .load t x,ty,pos,af,some (i,false)⟩) (hj:ops[m]? = some ⟨some t3, .pick (.tmp t1) (.const (.bool true)) (.tmp t2),ty',pos',NG,none⟩) (hd:ops.toList.map (·.dst)=ds)
  (ht:i7 ops listed n=true) (ht':i7 ops (listed.setIfInBounds n true) m=true) (hro:FC (bh σ x)=true) (hs:kY ds (some (i,false))=some t1) (hb:bh σ (.tmp t1) = .sc (.bool b)) (hne:t1≠t2) (hlt:t2<σ.slots.length) (ho:gS P σ (.load t x)=some (.sc (.bool b')))
  (hx:(σ.put (some t2) .any).put (some t3) (.sc (.bool (b||b')))=σ') (hn:fC P ops K fuel ((listed.setIfInBounds n true).setIfInBounds m true) σ'):fC P ops K (fuel+1+1) listed σ:=by
 subst hx;have hg:=rO (w:=false) hs hb;cases b
 ·refine fC.ro (σ':=σ.put (some t2) (.sc (.bool b'))) n hi hd ht (.inl hro) (by simp[fK,hg,ho]) (fC.first (σ':=(σ.put (some t2) (.sc (.bool b'))).put (some t3) (.sc (.bool b'))) m hj hd ht' rfl ?_ (fC.imp FD (by simpa using hn)));simp[fK,bq,gS,kH hne,hb,rP hlt]
 ·refine fC.ro (σ':=σ.put (some t2) (.sc undef)) n hi hd ht (.inl hro) (by simp[fK,hg]) (fC.first (σ':=(σ.put (some t2) (.sc undef)).put (some t3) (.sc (.bool true))) m hj hd ht' rfl ?_ (fC.imp FD (by simpa using hn)));simp[fK,bq,gS,kH hne,hb,xy,uz]
def ze (ops:Array Oper):List (Option Nat):=ops.toList.map (·.dst)
theorem Dn {j:Nat}:(ze ops)[j]? = (ops[j]?).map (·.dst):=by simp[ze]
attribute [go_sem] Dn List.getElem?_toArray Option.map_some
end
inductive Pl
 | d
 | f (i:Nat) (p:Pl)
 | r (i:Nat) (p:Pl)
 | o (i j:Nat) (p:Pl)
 | q (i j:Nat) (p:Pl)
 | a (p:Pl)
 | b (i:Nat) (p s:Pl)
 | e
def Pl.heads:Pl->List Nat
 | .b i _ s=>i::s.heads
 | _=>[]
def Pl.ok (ops:Array Oper):Pl->Array Bool->Bool
 | .d,ls=>(Region.ready .any ops ls).isEmpty
 | .f i p,ls=>i7 ops ls i&&p.ok ops (ls.setIfInBounds i true)
 | .r i p,ls=>i7 ops ls i&&p.ok ops (ls.setIfInBounds i true)
 | .o i j p,ls=>i7 ops ls i&&(i7 ops (ls.setIfInBounds i true) j&&p.ok ops ((ls.setIfInBounds i true).setIfInBounds j true))
 | .q i j p,ls=>i7 ops ls i&&(i7 ops (ls.setIfInBounds i true) j&&p.ok ops ((ls.setIfInBounds i true).setIfInBounds j true))
 | .a p,ls=>Region.ready .any ops ls==p.heads&&(!p.heads.isEmpty&&p.ok ops ls)
 | .b i p s,ls=>p.ok ops (ls.setIfInBounds i true)&&s.ok ops ls
 | .e,_=>true
section
variable {P:Program} {ds:List (Option Nat)} {Q:Exit->St->Prop} {σ σ':St} {op:Op} {ty ty':TypeId} {pos pos':String} {af NG:Array Edge} {i j t1 t2 t3:Nat} {b b':Bool} {ops:Array Oper} {K:St->Prop} {fuel:Nat} {listed:Array Bool} {p s:Pl} {dst:Option Nat} {g:Option (Nat×Bool)} {t:TypeId} {x:Operand}
def aJ (P:Program) (ops:Array Oper) (K:St->Prop) (pl:Pl) (fuel:Nat) (listed:Array Bool) (σ:St):Prop:=pl.ok ops listed=true->fC P ops K fuel listed σ
def aI (P:Program) (ops:Array Oper) (ds:List (Option Nat)) (K:St->Prop) (pl:Pl) (fuel:Nat) (listed:Array Bool) (σ:St):Prop:=pl.ok ops listed=true->lz P ops ds K fuel listed σ pl.heads
theorem cA (h:aJ P ops K p fuel listed σ):aJ P ops K p fuel listed σ:=h
theorem aJ.F (hi:ops[i]? = some ⟨dst,op,ty,pos,af,g⟩) (hop:zb P σ op=true) (h:fK P (ze ops) dst op g σ=some σ') (hn:aJ P ops K p fuel (listed.setIfInBounds i true) σ'):aJ P ops K (.f i p) (fuel+1) listed σ:=fun hk=>by
 simp only[Pl.ok,jj] at hk;exact fC.first i hi rfl hk.1 hop h (hn hk.2)
theorem aJ.R (hi:ops[i]? = some ⟨dst,.load t x,ty,pos,af,g⟩) (hx:FC (bh σ x)=true\/bq (ze ops) g σ=some false) (h:fK P (ze ops) dst (.load t x) g σ=some σ') (hn:aJ P ops K p fuel (listed.setIfInBounds i true) σ'):aJ P ops K (.r i p) (fuel+1) listed σ:=fun hk=>by
 simp only[Pl.ok,jj] at hk;exact fC.ro i hi rfl hk.1 hx h (hn hk.2)
theorem aJ.O {u:Nat} (hi:ops[i]? = some ⟨some t2,op,ty,pos,af,some (u,false)⟩) (hj:ops[j]? = some ⟨some t3,.pick (.tmp t1) (.const (.bool true)) (.tmp t2),ty',pos',NG,none⟩) (hop:zb P σ op=true) (hs:kY (ze ops) (some (u,false))=some t1) (hb:bh σ (.tmp t1) = .sc (.bool b)) (hne:t1≠t2) (hlt:t2<σ.slots.length) (ho:gS P σ op=some (.sc (.bool b')))
  (hx:(σ.put (some t2) .any).put (some t3) (.sc (.bool (b||b')))=σ') (hn:aJ P ops K p fuel ((listed.setIfInBounds i true).setIfInBounds j true) σ'):aJ P ops K (.o i j p) (fuel+1+1) listed σ:=fun hk=>by
 simp only[Pl.ok,jj] at hk;exact fC.Yn i j hi hj rfl hk.1 hk.2.1 hop hs hb hne hlt ho hx (hn hk.2.2)
theorem aJ.Or {u:Nat} (hi:ops[i]? = some ⟨some t2,.load t x,ty,pos,af,some (u,false)⟩) (hj:ops[j]? = some ⟨some t3,.pick (.tmp t1) (.const (.bool true)) (.tmp t2),ty',pos',NG,none⟩) (hro:FC (bh σ x)=true) (hs:kY (ze ops) (some (u,false))=some t1) (hb:bh σ (.tmp t1) = .sc (.bool b)) (hne:t1≠t2) (hlt:t2<σ.slots.length) (ho:gS P σ (.load t x)=some (.sc (.bool b')))
  (hx:(σ.put (some t2) .any).put (some t3) (.sc (.bool (b||b')))=σ') (hn:aJ P ops K p fuel ((listed.setIfInBounds i true).setIfInBounds j true) σ'):aJ P ops K (.q i j p) (fuel+1+1) listed σ:=fun hk=>by
 simp only[Pl.ok,jj] at hk;exact fC.Wb i j hi hj rfl hk.1 hk.2.1 hro hs hb hne hlt ho hx (hn hk.2.2)
theorem aJ.A (h:aI P ops (ze ops) K p fuel listed σ):aJ P ops K (.a p) (fuel+1) listed σ:=fun hk=>by
 simp only[Pl.ok,jj,nX,Pp,List.isEmpty_eq_false_iff] at hk;exact fC.all p.heads hk.1 hk.2.1 rfl (h hk.2.2)
theorem aJ.D (h:K σ):aJ P ops K .d fuel listed σ:=fun hk=>fC.done (by simpa only[Pl.ok,List.isEmpty_iff] using hk) h
theorem aI.E:aI P ops ds K .e fuel listed σ:=fun _=>lz.nil
theorem aI.B {o:Oper} (ho:ops[i]? = some o) (h:ah P ds (fun e σ'=>e = .normal/\aJ P ops K p fuel (listed.setIfInBounds i true) σ') [o] σ) (hn:aI P ops ds K s fuel listed σ):aI P ops ds K (.b i p s) fuel listed σ:=fun hk=>by
 simp only[Pl.ok,jj] at hk;refine lz.cons ho ?_ (hn hk.2)
 have e:(fun (e:Exit) (σ':St)=>e = .normal/\aJ P ops K p fuel (listed.setIfInBounds i true) σ')=(fun e σ'=>e = .normal/\fC P ops K fuel (listed.setIfInBounds i true) σ'):=by
  funext e σ'
  simp only[aJ,hk.1,true_implies]
 rw[e] at h;exact h
theorem ah.QX (h:aJ P ops K p fuel listed σ):ah P ds (fun e σ'=>e = .normal/\aJ P ops K p fuel listed σ') [] σ:=ah.nil ⟨rfl,h⟩
theorem ay.bU (id:Nat) {l:List Oper} {Q:Exit->St->Prop} (hm:P.follows .mixedOrders=true) (n:Nat) (hl:l.length=n) (pl:Pl) (hk:pl.ok l.toArray (Array.replicate n false)=true) (h:aJ P l.toArray (Q .normal) pl n (Array.replicate n false) σ):ay P (.region id l.toArray true) Q σ:=
 ay.QW id hm n hl (h hk)
end
attribute [irreducible] aJ aI
def Cv (c p:Prop):Prop:=c->p
theorem cL {c p:Prop} (h:Cv c p):c->p:=h
theorem cB {c p:Prop} (h:c->p):Cv c p:=h
theorem fG:type_of% (And.intro @pQ (And.intro @Ph (And.intro @jj (And.intro @vP (And.intro @Bool.and_eq_false_iff (And.intro @MF (And.intro @Pp (And.intro @Bool.not_eq_false' (And.intro @Bool.not_eq_eq_eq_not (And.intro @Bool.not_true (And.intro @Bool.not_false (And.intro @nX.{0} (And.intro @bne_iff_ne.{0} (And.intro @yX.{0} (And.intro @bne_eq_false_iff_eq.{0} (And.intro @Int.not_lt (And.intro @Int.not_le @Decidable.not_not))))))))))))))))):=And.intro @pQ (And.intro @Ph (And.intro @jj (And.intro @vP (And.intro @Bool.and_eq_false_iff (And.intro @MF (And.intro @Pp (And.intro @Bool.not_eq_false' (And.intro @Bool.not_eq_eq_eq_not (And.intro @Bool.not_true (And.intro @Bool.not_false (And.intro @nX.{0} (And.intro @bne_iff_ne.{0} (And.intro @yX.{0} (And.intro @bne_eq_false_iff_eq.{0} (And.intro @Int.not_lt (And.intro @Int.not_le @Decidable.not_not))))))))))))))))
def PK:Exit->Bool
 | .normal=>true
 | .ret=>true
 | _=>false
theorem aC.q {P:Program} {fn:Func} {ins new:List Nat} {ret d d':D} {xs outs:List Obj} {e:Exit} {σ:St} (he:PK e=true) (hd:iw P σ fn.results.toList=some d) (hn:jy ins (BL d)=new) (qX:(ins++new).Nodup)
  (hr:um (ins++new) d=some d') (ho:lX (ins++new) σ.heap (ins++new)=some xs) (hl:(ins++new).length=outs.length) (h:Al d' ret/\q9 xs outs):aC P fn ins ret outs e σ:=
 aC.auto (by cases e<;>simp_all[PK]) hd hn qX hr (p7 h.1) ho hl (l8 h.2)
section
variable {P:Program} {ds:List (Option Nat)} {Q:Exit->St->Prop} {Qv:St->Prop} {σ σ':St} {l:List Oper} {dst:Option Nat} {ty:TypeId} {pos:String} {af:Array Edge} {g:Option (Nat×Bool)} {f:FuncId} {x:Operand} {xs:Array Operand} {ts:Array TypeId} {caps args:List D} {ret:D} {K:St->Prop} {sn:Bool}
def bN (P:Program) (ds:List (Option Nat)) (g:Option (Nat×Bool)) (σ:St) (dst:Option Nat) (f:FuncId) (args:List D) (sn:Bool) (K:St->Prop):Prop:=
 ∃ new ret outs σ',ak P f args ret outs/\jY ds g σ dst [] new sn ret outs=some σ'/\K σ'
theorem bN.c (new:List Nat) {outs:List Obj} (hc:ak P f args ret outs) (h:jY ds g σ dst [] new sn ret outs=some σ') (hn:K σ'):bN P ds g σ dst f args sn K:=⟨new,ret,outs,σ',hc,h,hn⟩
theorem ah.dE (hx:bh σ x = .fn f caps) (hargs:iu [] (xs.toList.map (bh σ)++caps)=some args) (h:bN P ds g σ dst f args false (fun σ'=>ah P ds Q l σ')):ah P ds Q (⟨dst, .call { callee:= .value x,args:=xs,argTypes:=ts },ty,pos,af,g⟩::l) σ:=by
 obtain ⟨new,ret,outs,σ',h1,h2,h3⟩:=h;exact ah.cE new hx h1 hargs h2 h3
theorem ah.dS (hx:bh σ x = .fn f caps) (hargs:fZ (ef σ [] 4) (xs.toList.map (bh σ)++caps)=some args) (h:bN P ds g σ dst f args true (fun σ'=>ah P ds Q l σ')):ah P ds Q (⟨dst, .call { callee:= .value x,args:=xs,argTypes:=ts },ty,pos,af,g⟩::l) σ:=by
 obtain ⟨new,ret,outs,σ',h1,h2,h3⟩:=h;exact ah.cS new hx h1 hargs h2 h3
def iO (P:Program) (ds:List (Option Nat)) (g:Option (Nat×Bool)) (σ:St) (dst:Option Nat) (f:FuncId) (args:List D) (sn:Bool) (K:St->Prop):Prop:=
 ∃ ret σ',ak P f args ret []/\vj ds g σ dst sn ret=some σ'/\K σ'
theorem iO.c (hc:ak P f args ret []) (h:vj ds g σ dst sn ret=some σ') (hn:K σ'):iO P ds g σ dst f args sn K:=⟨ret,σ',hc,h,hn⟩
theorem bz.dE (hx:bh σ x = .fn f caps) (hargs:iu [] (xs.toList.map (bh σ)++caps)=some args) (h:iO P ds g σ dst f args false (fun σ'=>bz P ds Qv l σ')):bz P ds Qv (⟨dst, .call { callee:= .value x,args:=xs,argTypes:=ts },ty,pos,af,g⟩::l) σ:=by
 obtain ⟨ret,σ',h1,h2,h3⟩:=h;exact bz.cE hx h1 hargs h2 h3
theorem bz.dS (hx:bh σ x = .fn f caps) (hargs:fZ (ef σ [] 4) (xs.toList.map (bh σ)++caps)=some args) (h:iO P ds g σ dst f args true (fun σ'=>bz P ds Qv l σ')):bz P ds Qv (⟨dst, .call { callee:= .value x,args:=xs,argTypes:=ts },ty,pos,af,g⟩::l) σ:=by
 obtain ⟨ret,σ',h1,h2,h3⟩:=h;exact bz.cS hx h1 hargs h2 h3
end
attribute [irreducible] bN iO
end Go.eB
namespace Go.eB
open Go.RowKit Go.Sort
section
variable {α:Type} {enc:α->Value} {P:Program} {f:FuncId}
theorem FE {w:World} {st:Nat->Prop} {g:Nat} (h1:∀ z,(enc z).oneCell'=true):∀ {l:List α} {off:Nat},(∀ j z,l[j]? = some z->w.cell? ⟨g,off+j,none⟩=some (enc z))->RR w st 1 g off (l.map fun z=>[.sc (enc z)])
 | [],_,_=>by simp[RR]
 | z::l,off,h=>by
   simp only[fk,RR,RC,R,List.length_cons,List.length_nil,and_true,true_and];refine ⟨⟨enc z,?_,h1 z,rfl⟩,FE h1 fun j y hj=>?_⟩
   ·have:=h 0 z rfl;simpa using this
   ·have:=h (j+1) y (by simpa using hj);rw[show off+1+j=off+(j+1) by omega];exact this
theorem KS {w:World} {st:Nat->Prop} {g:Nat} {l:List α} {j:Nat} {z:α} (h:RR w st 1 g 0 (l.map fun z=>[.sc (enc z)])) (hj:l[j]? = some z):w.cell? ⟨g,j,none⟩=some (enc z):=by
 have h2:=(ug h (i:=j) (r:=[.sc (enc z)]) (by simp[hj])).2;simp only[RC,R,kO,JV,and_true] at h2;obtain ⟨v,e1,_,e2⟩:=h2;rw[e1,e2]
variable [Inhabited α]
theorem lJ {d:List α} {c:Array Value} {j:Nat}:(putCells enc 0 d.toArray c)[j]? = (c[j]?).map fun x=>if j<d.length then enc ((d[j]?).getD default) else x:=by
 simp only[putCells,Array.getElem?_mapIdx,ek,true_and,kO,Nat.sub_zero,zS]
 congr 1
 funext x
 split
 ·rename_i h;simp[h]
 ·rfl
theorem FF (yR:List α->List α) (hlen:∀ l,(yR l).length=l.length) (h1:∀ z,(enc z).oneCell'=true) (rQ:∀ xs w,(callFunc f xs).run P w = .ok (.enter f xs) w)
  (hc:∀ (blk cap:Nat) (zs:List α) (w:World),Holds enc w blk 0 zs.toArray->blk<w.heap.size->zs.length<4611686018427387904->Calls P f #[.slice (some ⟨blk,0,none⟩) zs.length cap] w fun e w'=>e = .returned (.tuple #[])/\∃ n os,w'=grow (putRow enc (Sort.ahead w n) blk 0 (yR zs).toArray) os)
  {zs:List α} (hne:zs≠[]) (hsz:zs.length<=1000000):aF P f [.row 1 (zs.map fun z=>[.sc (enc z)])] [.cW 0 1 0 zs.length] (.cT []) [.row 1 ((yR zs).map fun z=>[.sc (enc z)])]:=by
 refine ⟨rQ,fun w st ρ vs hst hin hargs=>?_⟩;have hpos:0<zs.length:=List.length_pos_iff.2 hne;simp only[RL,R] at hargs;obtain ⟨v,vs',rfl,hv,rfl⟩:=hargs;rcases hv with ⟨_,_,h0,_⟩|⟨g,cap,A,hρ,hsh,hle,hcap,rfl,hA⟩
 ·omega
 have hro:=hin.objs 0;simp only[Po,RO,hρ] at hro;obtain ⟨cur,e,cap',r1,r2,r3,r4,r5⟩:=hro;have Ij:=hA (by omega);simp only[MH] at Ij;subst Ij;have hg:g<w.heap.size:=(zQ.1 r1).1
 have hH:Holds enc w g 0 zs.toArray:=by
  intro j hj;have hj':j<zs.length:=by simpa using hj
  have hz:zs[j]? = some zs[j]:=rF hj';refine ⟨?_,?_⟩
  ·rw[kO,KS r5 hz];simp[hj']
  ·simp[World.frozen?,r1]
 refine Calls.mono (hc g _ zs w hH hg (by omega)) ?_;rintro ex w' ⟨rfl,n,os,rfl⟩
 have hcell:∀ k,(grow (putRow enc (Sort.ahead w n) g 0 (yR zs).toArray) os).heap[k]? = if k<w.heap.size then (if g=k then some (.cells (putCells enc 0 (yR zs).toArray cur) e (0,0)) else w.heap[k]?) else (os[k-w.heap.size]?):=by
  intro k;simp only[grow,Array.getElem?_append,size_putRow,Sort.ahead]
  split
  ·simp only[putRow,mapBlock,Vp]
   split
   ·rename_i e1;subst e1;simp[r1,onCells]
   ·rfl
  ·rfl
 have JK:(grow (putRow enc (Sort.ahead w n) g 0 (yR zs).toArray) os).heap[g]? = some (.cells (putCells enc 0 (yR zs).toArray cur) e (0,0)):=by rw[hcell,bC hg,bC rfl]
 have hsize:w.heap.size<=(grow (putRow enc (Sort.ahead w n) g 0 (yR zs).toArray) os).heap.size:=by
  simp only[grow,Array.size_append,size_putRow,Sort.ahead];omega
 have hcs:(putCells enc 0 (yR zs).toArray cur).size=cur.size:=by simp[putCells]
 refine ⟨.tuple #[],rfl,ρ,?_,fun _ _=>rfl,?_,fun j=>?_,fun j g' hj hg'=>?_,fun j j' g' hj hj' e1 e2=>?_,fun j g' hj hh=>?_⟩
 ·refine ⟨rfl,rfl,rfl,hsize,fun k hk hn=>?_,fun g' m hs=>?_⟩
  ·rw[hcell,bC hk,aE];rintro rfl;exact hn ⟨0,by simp, .inl hρ⟩
  ·obtain ⟨uq,e2,h3,h4⟩:=hs;have hlt:g'<w.heap.size:=(zQ.1 h3).1;by_cases Ta:g=g'
   ·subst Ta;rw[r1] at h3;cases h3;exact ⟨_,e,JK,by rw[hcs];exact h4⟩
   ·exact ⟨uq,e2,by rw[hcell,bC hlt,aE Ta];exact h3,h4⟩
 ·simp[R,RL]
 ·cases j with
  | succ j=>simp[RO]
  | zero=>
    simp only[Po,RO,hρ];have lE:zs.length<=cur.size:=by rw[r2.size];simpa using r4
    refine ⟨_,e,cap',JK,⟨by rw[hcs];exact r2.size,fun v hv=>?_⟩,r3,by simpa[hlen] using r4,FE h1 fun j z hj=>?_⟩
    ·obtain ⟨i,hi⟩:=Vs hv;rw[oe,lJ,ku] at hi;obtain ⟨x,hx,Wc⟩:=hi;subst Wc
     split
     ·exact h1 _
     ·exact r2.one x (fS (by rw[oe];exact hx))
    ·have hjl:j<(yR zs).length:=(jM.1 hj).1;have R8:j<cur.size:=by rw[hlen] at hjl;omega
     rw[kO,cell_of_row _ g j _ e (0,0) JK,lJ,Pf R8];simp only[Option.map_some,bC hjl,hj,Option.getD_some]
 ·cases j with
  | succ j=>simp at hj
  | zero=>exact .inr ⟨0,by simp,hg'⟩
 ·cases j with
  | succ j=>simp at hj
  | zero=>
    cases j' with
    | succ j=>simp at hj'
    | zero=>rfl
 ·cases j with
  | succ j=>simp at hj
  | zero=>exact Ie (hin.hlt 0 g' (by simp) hh) hsize
end
theorem ay.PL {P:Program} {Q:Exit->St->Prop} {s:List D} {h:List (Nat×Obj)} {τ:Type} {c:Code} (l:τ->List (Nat×D)) (m:τ->List (Nat×Obj)) (I:τ->Prop) (μ:τ->Nat) (t0:τ) (h0:I t0)
  {s':τ->List D} {h':τ->List (Nat×Obj)} (es:∀ t,BJ (l t) s=s' t) (eh:∀ t,Ks (m t) h=h' t) (hs:j4 s (s' t0)) (hh:xm h (h' t0))
  (hb:∀ t,I t->ay P c (o7 (fun σ'=> ∃ t',I t'/\μ t'<μ t/\cZ σ' { slots:=s' t',heap:=h' t' }) Q) { slots:=s' t,heap:=h' t }):ay P (.loop c) Q { slots:=s,heap:=h }:=
 ay.loop (fun t=>{ slots:=s' t,heap:=h' t }) I μ t0 h0 (cZ.PA hs hh) (fun t ht=>ay.mono (hb t ht) (fun e σ' hq=>by
  cases e with
  | normal=>
    obtain ⟨t',h1,h2,h3⟩:=hq;exact ⟨t',h1,h2,h3⟩
  | _=>exact hq))
theorem wA {τ:Type} {I:τ->Prop} {μ:τ->Nat} {t:τ} {σ:St} {s':τ->List D} {h':τ->List (Nat×Obj)} (t':τ) (hi:cZ σ { slots:=s' t',heap:=h' t' }) (hI:I t') (hm:μ t'<μ t):
  ∃ t',I t'/\μ t'<μ t/\cZ σ { slots:=s' t',heap:=h' t' }:=⟨t',hI,hm,hi⟩
end Go.eB
namespace Go.eB
open Go.RowKit
mutual
def NH (o d:Nat):D->D
 | .ref o' off=>if o'=o then .ref d off else if o'=d then .any else .ref o' off
 | .mp o'=>if o'=o then .mp d else if o'=d then .any else .mp o'
 | .jN o' k' i off=>if o'=o then .jN d k' i off else if o'=d then .any else .jN o' k' i off
 | .cW o' k' off len=>if o'=o then .cW d k' off len else if o'=d then .any else .cW o' k' off len
 | .agg cs=> .agg (MR o d cs)
 | .cT cs=> .cT (MR o d cs)
 | .fn f cs=> .fn f (MR o d cs)
 | .any=> .any
 | .sc v=> .sc v
 | .sl k rows=> .sl k rows
 | .ro cs=> .ro cs
def MR (o d:Nat):List D->List D
 | []=>[]
 | c::cs=>NH o d c::MR o d cs
end
def Obj.rn (o d:Nat):Obj->Obj
 | .box cs=> .box (MR o d cs)
 | .ext e=>cond (iP o e.qt||iP d e.qt) (.ext Pu) (.ext e)
 | x=>x
def ER (o d:Nat):List (Nat×Obj)->List (Nat×Obj)
 | []=>[]
 | (q,x)::h=>(q,x.rn o d)::ER o d h
def St.rn (σ:St) (o d:Nat):St:={ slots:=MR o d σ.slots,heap:=aG (aG (ER o d σ.heap) o .dead) d ((az σ.heap o).rn o d) }
theorem Dp {o d:Nat}:∀ {h:List (Nat×Obj)} {o':Nat},az (ER o d h) o'=(az h o').rn o d
 | [],_=>by simp[ER,az,Obj.rn]
 | (q,x)::h,o'=>by
   by_cases e:q=o'
   ·simp[ER,az,e]
   ·simp[ER,az,e,Dp]
theorem Dq {o d:Nat}:∀ {h:List (Nat×Obj)} {o':Nat},ec (ER o d h) o'=ec h o'
 | [],_=>by simp[ER,ec]
 | (q,x)::h,o'=>by simp[ER,ec,Dq]
section
variable {w:World} {st:Nat->Prop} {ρ ρ':Nat->Option (Option Nat)} {o d:Nat}
mutual
theorem R.rn (h1:ρ' d=ρ o) (h2:∀ x,x≠d->ρ' x=ρ x):∀ {c:D} {v:Value},R w st ρ c v->R w st ρ' (NH o d c) v
 | .any,_,_=>by simp[NH,R]
 | .sc _,_,hd=>by simpa[NH,R] using hd
 | .sl _ _,_,hd=>by simpa[NH,R] using hd
 | .ro _,_,hd=>by simpa[NH,R] using hd
 | .agg _,_,hd | .cT _,_,hd | .fn _ _,_,hd=>by
   simp only[NH,R] at hd ⊢;obtain ⟨vs,h3,h4⟩:=hd;exact ⟨vs,h3,RL.rn h1 h2 h4⟩
 | .ref o' _,_,hd | .mp o',_,hd | .jN o' _ _ _,_,hd | .cW o' _ _ _,_,hd=>by
   simp only[NH]
   split
   ·rename_i e;subst e;simp only[R,h1] at hd ⊢;exact hd
   ·split
    ·simp[R]
    ·rename_i e;simp only[R,h2 _ e] at hd ⊢;exact hd
theorem RL.rn (h1:ρ' d=ρ o) (h2:∀ x,x≠d->ρ' x=ρ x):∀ {cs:List D} {vs:List Value},RL w st ρ cs vs->RL w st ρ' (MR o d cs) vs
 | [],_,hd=>by simpa[MR,RL] using hd
 | _::_,_,hd=>by
   simp only[MR,RL] at hd ⊢;obtain ⟨v,vs',h3,h4,h5⟩:=hd;exact ⟨v,vs',h3,R.rn h1 h2 h4,RL.rn h1 h2 h5⟩
end
end
theorem cZ.vU (σ:St) (o d:Nat) (hne:o≠d) (hh:hfree σ.heap d=true):cZ σ (σ.rn o d):=by
 rintro w0 p a w ⟨ρ,h⟩;obtain ⟨QY,R9⟩:=ep.1 hh
 have kT:∀ x,az (σ.rn o d).heap x=if x=d then (az σ.heap o).rn o d else if x=o then .dead else (az σ.heap x).rn o d:=by
  intro x;unfold St.rn;by_cases e:x=d
  ·subst e;rw[bC rfl];exact aX (by rw[fY,Dq];exact QY)
  ·rw[aE e,aM e];by_cases e2:x=o
   ·subst e2;rw[bC rfl];cases hx:ec (ER x d σ.heap) x with
    | true=>exact aX hx
    | false=>
      cases hy:az (aG (ER x d σ.heap) x .dead) x with
      | dead=>rfl
      | _=>
        have:=cC (h:=aG (ER x d σ.heap) x .dead) (o:=x) (by rw[hy];simp);rw[fY,hx] at this;cases this
   ·rw[aE e2,aM e2,Dp]
 have Px:∀ x:Obj,x.rn o d≠ .dead↔x≠ .dead:=by
  intro x;cases x with
  | ext e=>cases hm:(iP o e.qt||iP d e.qt)<;>simp[Obj.rn,hm]
  | _=>simp[Obj.rn]
 let pr:Nat->Nat:=fun x=>if x=d then o else x
 let ρ':Nm:=⟨fun x=>ρ (pr x),fun x=>ρ.hid (pr x)⟩
 have pd:pr d=o:=by simp[pr]
 have pn:∀ x,x≠d->pr x=x:=fun x hx=>by simp[pr,hx]
 have Io:ρ' d=ρ o:=by simp[ρ',pd]
 have Ip:∀ x,x≠d->ρ' x=ρ x:=fun x hx=>by simp[ρ',pn x hx]
 have live:∀ x,az (σ.rn o d).heap x≠ .dead->az σ.heap (pr x)≠ .dead/\(x=d\/(x≠d/\x≠o)):=by
  intro x hx;rw[kT] at hx;by_cases e:x=d
  ·rw[bC e,Px] at hx;rw[e,pd];exact ⟨hx, .inl rfl⟩
  ·rw[aE e] at hx;by_cases e2:x=o
   ·simp[e2] at hx
   ·rw[aE e2,Px] at hx;rw[pn x e];exact ⟨hx, .inr ⟨e,e2⟩⟩
 have hst:∀ g,bO p σ.heap ρ w g->bO p (σ.rn o d).heap ρ' w g:=fun g hs=>⟨hs.1,hs.2.1,fun x hx=>hs.2.2 (pr x) (live x hx).1⟩
 have Tb:∀ x,RO w (bO p (σ.rn o d).heap ρ' w) ρ' x ((az σ.heap (pr x)).rn o d):=by
  intro x;have h1:=RO.mono (fun _ _ _=>rfl) (fun _ _ hs=>hs) hst (fun _ _=>rfl) (h.objs (pr x));cases hx:az σ.heap (pr x) with
  | dead=>simp[RO,Obj.rn]
  | row k' eu=>rw[hx] at h1;exact h1
  | box cs=>
    rw[hx] at h1;simp only[RO,Obj.rn] at h1 ⊢;obtain ⟨g,cur,e',r1,r2,r3⟩:=h1;exact ⟨g,cur,e',r1,r2,RL.rn Io Ip r3⟩
  | ext e'=>
    rw[hx] at h1;simp only[RO,Obj.rn] at h1 ⊢;obtain ⟨g,r1,r2⟩:=h1;cases hm:(iP o e'.qt||iP d e'.qt) with
    | true=>exact ⟨g,r1,e'.lt r2⟩
    | false=>
      simp only[MF] at hm;exact ⟨g,r1,e'.loc (fun y hy=>Ip y (fun e=>by subst e;rw[lU.2 hy] at hm;simp at hm)) r2⟩
 refine ⟨ρ',h.open_,h.defers,RL.rn Io Ip (RL.mono (fun _ _ _=>rfl) (fun _ _ hs=>hs) hst h.slots),fun x=>?_,fun x1 x2 g h1 h2 e1 e2=>?_,fun x g h1 e1=>h.fresh (pr x) g (live x h1).1 e1,fun x g h1 e1=>h.hlt (pr x) g (live x h1).1 e1,h.below,fun x hx=>?_⟩
 ·rw[kT];by_cases e:x=d
  ·have:=Tb x;rw[show pr x=o by rw[e,pd]] at this;rw[bC e];exact this
  ·rw[aE e];by_cases e2:x=o
   ·simp[e2,RO]
   ·have:=Tb x;rw[pn x e] at this;rw[aE e2];exact this
 ·obtain ⟨l1,n1⟩:=live x1 h1;obtain ⟨l2,n2⟩:=live x2 h2;have:=h.inj (pr x1) (pr x2) g l1 l2 e1 e2;rcases n1 with n1|⟨n1,m1⟩<;>rcases n2 with n2|⟨n2,m2⟩
  ·rw[n1,n2]
  ·rw[n1,pd,pn x2 n2] at this;exact absurd this.symm m2
  ·rw[n2,pd,pn x1 n1] at this;exact absurd this m1
  ·rw[pn x1 n1,pn x2 n2] at this;exact this
 ·have:x≠d:=by omega
  show ρ (pr x)=_;rw[pn x this];exact h.kf x hx
section
variable {P:Program} {Q:Exit->St->Prop} {σ σ':St}
theorem ay.rn {c:Code} (o d:Nat) (hne:o≠d) (hh:hfree σ.heap d=true) (he:σ.rn o d=σ') (h:ay P c Q σ'):ay P c Q σ:=ay.imp (he▸cZ.vU σ o d hne hh) h
theorem cZ.wJ {σ2:St} (o d:Nat) (hne:o≠d) (hh:hfree σ.heap d=true) (he:σ.rn o d=σ') (h:cZ σ' σ2):cZ σ σ2:=cZ.trans (he▸cZ.vU σ o d hne hh) h
theorem aC.rn {fn:Func} {ids:List Nat} {ret:D} {outs:List Obj} {e:Exit} (o d:Nat) (hne:o≠d) (hh:hfree σ.heap d=true) (he:σ.rn o d=σ') (h:aC P fn ids ret outs e σ'):aC P fn ids ret outs e σ:=aC.imp (he▸cZ.vU σ o d hne hh) h
end
section
variable {P:Program} {σ σ':St} {ty ty':TypeId} {pos pos':String} {af NG:Array Edge} {i j t1 t2 t3 u:Nat} {ops:Array Oper} {K:St->Prop} {fuel:Nat} {listed:Array Bool} {p:Pl} {t:TypeId} {x:Operand}
attribute [local semireducible] aJ
end
attribute [go_sem] NH MR Obj.rn ER St.rn
def Hg (s:ByteArray):List (List D):=s.data.toList.map fun b=>[.sc (.int .u8 b.toNat)]
theorem xA (s:ByteArray):(Hg s).length=s.size:=by
 rw[Hg,dD,Array.length_toList];rfl
section
variable {P:Program} {σ σ':St}
end
attribute [go_sem] xA
section
variable {P:Program} {Q:Exit->St->Prop} {σ σ':St}
theorem cZ.As (σ:St) (o j d k:Nat) {cs:List D} (ho:az σ.heap o = .box cs) (hj:(og d cs)[j]? = some (.sc (.slice none 0 0))) (hne:o≠d) (hh:hfree σ.heap d=true):
  cZ σ { σ.bF [d] with heap:=aG (aG (σ.bF [d]).heap d (.row k [])) o (.box ((og d cs).set j (.cW d k 0 0))) }:=by
 rintro w0 p a w ⟨ρ,h⟩;have hv:=h.BA (ids:=[d]) (o:=d) (k:=k) (by simp) hh
 have hg:az (aG (σ.bF [d]).heap d (.row k [])) o = .box (og d cs):=by
  rw[aM hne];simp only[St.bF,fI,aE hne,ho,Obj.kz]
 refine ⟨_,hv.xp (o:=o) (x:= .box ((og d cs).set j (.cW d k 0 0))) (by show az (aG (σ.bF [d]).heap d (.row k [])) o≠_;rw[hg];simp) (by simp) (fun st hst=>?_)⟩;have Cn:=hv.objs o;change RO w _ _ o (az (aG (σ.bF [d]).heap d (.row k [])) o) at Cn;rw[hg] at Cn;simp only[RO] at Cn ⊢;obtain ⟨g,cur,e,h1,h2,h3⟩:=Cn;obtain ⟨v,h4,h5⟩:=pV h3 hj;simp only[R] at h5;subst h5;have h6:=Fa (i:=j) (d:= .cW d k 0 0) (v:= .slice none 0 0) h3 (by simp only[R,bK];exact .inl ⟨trivial,trivial,trivial,none,rfl⟩)
 have h7:cur.toList.set j (.slice none 0 0)=cur.toList:=by
  apply MD;intro i;by_cases e:j=i
  ·subst e;rw[uf (jM.1 h4).1,h4]
  ·rw[ua e]
 rw[h7] at h6;exact ⟨g,cur,e,h1,h2,RL.mono (fun _ _ _=>rfl) (fun _ _ hh=>hh) hst h6⟩
theorem ay.As {c:Code} (o j d k:Nat) {cs:List D} (ho:az σ.heap o = .box cs) (hj:(og d cs)[j]? = some (.sc (.slice none 0 0))) (hne:o≠d) (hh:hfree σ.heap d=true)
  (he:({ σ.bF [d] with heap:=aG (aG (σ.bF [d]).heap d (.row k [])) o (.box ((og d cs).set j (.cW d k 0 0))) }:St)=σ') (hn:ay P c Q σ'):ay P c Q σ:=by
 subst he;exact ay.imp (cZ.As σ o j d k ho hj hne hh) hn
end
theorem cI:type_of% (And.intro @Ym (And.intro @Kh.eq_def (And.intro @SV.eq_def (And.intro @CT.eq_def @Ki.eq_def)))):=And.intro @Ym (And.intro @Kh.eq_def (And.intro @SV.eq_def (And.intro @CT.eq_def @Ki.eq_def)))
end Go.eB
