/- The abstract machine, parts Y to ZI. -/
import Derived.Test.YteemiclhnfkekaaGreatZAvmQ
import Derived.Laws.StructEq
import Derived.Lib.Overlaps
import Derived.Sort.Grow
import Derived.Deep.AppendSrc
set_option linter.unusedSimpArgs false
set_option linter.unusedVariables false
set_option maxRecDepth 10000
namespace Go.fe
open Go.RowKit
section
variable {w0:World} {p:Pm} {σ:St} {a:Act} {w:World} {ρ:Nm}
theorem aU.w5 (h:aU w0 p σ a w ρ) {o:Nat} {x:Obj} (eH:az σ.heap o≠ .dead) (J6:x≠ .dead)
  (hx:∀ st:Nat->Prop,(∀ g,bO p σ.heap ρ w g->st g)->RO w st ρ o x):aU w0 p { σ with heap:=aG σ.heap o x } a w ρ:=by
 have qV:ec σ.heap o=true:=cC eH;have kU:∀ o',o'≠o->az (aG σ.heap o x) o'=az σ.heap o':=fun o' e=>aM e
 have iX:∀ o',az (aG σ.heap o x) o'≠ .dead↔az σ.heap o'≠ .dead:=by
  intro o';by_cases e:o'=o
  ·subst e;rw[aX qV];exact ⟨fun _=>eH,fun _=>J6⟩
  ·rw[kU o' e]
 have hst:∀ k,bO p σ.heap ρ w k->bO p (aG σ.heap o x) ρ w k:=fun k hk=>⟨hk.1,hk.2.1,fun o' ho'=>hk.2.2 o' ((iX o').1 ho')⟩
 have hc:∀ k off,bO p σ.heap ρ w k->w.cell? ⟨k,off,none⟩=w.cell? ⟨k,off,none⟩:=fun _ _ _=>rfl;refine ⟨h.open_,h.defers,RL.mono hc (fun _ _ hh=>hh) hst h.slots,fun o'=>?_,fun o1 o2 g' h1 h2=>h.inj o1 o2 g' ((iX o1).1 h1) ((iX o2).1 h2),fun o1 g' h1=>h.fresh o1 g' ((iX o1).1 h1),fun o1 g' h1=>h.hlt o1 g' ((iX o1).1 h1),h.below,h.kf⟩;by_cases e':o'=o
 ·subst e';show RO _ _ ρ o' (az (aG σ.heap o' x) o');rw[aX qV];exact hx _ hst
 ·show RO _ _ ρ o' (az (aG σ.heap o x) o');rw[kU o' e'];exact RO.mono hc (fun _ _ hh=>hh) hst (fun _ _=>rfl) (h.objs o')
end
def Iu (k:Nat) (rows:List (List D)):Ext where
 qv:=[]
 φ w st _ _ g:= ∃ cur e,w.heap[g]? = some (.cells cur e (0,0))/\zU cur (rows.length*k)/\rows.length<=maxLen/\RR w st k g 0 rows
 lt h:=by
  obtain ⟨cur,e,h1,_⟩:=h;exact (zQ.1 h1).1
 mono hc hs hst hb _ h:=by
  obtain ⟨cur,e,h1,h2,h3,h4⟩:=h;exact ⟨cur,e,hb.trans h1,h2,h3,RR.mono hc hs hst (fun off=>World.cell?_of_block (a:=⟨_,off,none⟩) hb) h4⟩
 loc _ h:=h
theorem KS {k:Nat} {rows:List (List D)}:(Iu k rows).qv=[]:=rfl
attribute [go_sem] KS iQ List.isEmpty_nil cond_true cond_false
def Fx (k n:Nat):List (List D):=List.replicate n (List.replicate k .any)
theorem aj {k n:Nat}:(Fx k n).length=n:=dx
theorem KT {w:World} {st:Nat->Prop} {g:Nat}:∀ {k off:Nat},(∀ j,j<k->∃ v,w.cell? ⟨g,off+j,none⟩=some v/\v.oneCell'=true)->RC w st g off (List.replicate k .any)
 | 0,_,_=>by simp[RC]
 | k+1,off,h=>by
   simp only[List.replicate_succ,RC];obtain ⟨v,h1,h2⟩:=h 0 (by omega);refine ⟨⟨v,by simpa using h1,h2,by simp[R]⟩,KT fun j hj=>?_⟩;have:=h (j+1) (by omega);simpa[Nat.add_assoc,Nat.add_comm 1 j] using this
theorem KU {w:World} {st:Nat->Prop} {k g:Nat}:∀ {n off:Nat},(∀ j,j<n*k->∃ v,w.cell? ⟨g,off+j,none⟩=some v/\v.oneCell'=true)->RR w st k g off (Fx k n)
 | 0,_,_=>by simp[Fx,RR]
 | n+1,off,h=>by
   simp only[Fx,List.replicate_succ,RR];refine ⟨by simp,KT fun j hj=>h j (by rw[sK];omega),KU (n:=n) fun j hj=>?_⟩;have:=h (k+j) (by rw[sK];omega);simpa[Nat.add_assoc] using this
theorem KW {w:World} {st:Nat->Prop} {k g:Nat}:∀ {rs ss:List (List D)} {off:Nat},RR w st k g off rs->RR w st k g (off+rs.length*k) ss->RR w st k g off (rs++ss)
 | [],_,_,_,h=>by simpa using h
 | r::rs,ss,off,h,h2=>by
   simp only[RR,List.cons_append] at h ⊢;refine ⟨h.1,h.2.1,KW h.2.2 ?_⟩;rw[List.length_cons,sK] at h2;rw[show off+k+rs.length*k=off+(rs.length*k+1*k) by omega];exact h2
section
variable {P:Program} {ds:List (Option Nat)} {Q:Exit->St->Prop} {σ σ':St} {l:List Oper} {dst:Option Nat} {ty:TypeId} {pos:String} {af:Array Edge} {g:Option (Nat×Bool)}
theorem ah.cap {x:Operand} {t e:TypeId} {ti:TI} {q k off len:Nat} {rows:List (List D)} (hg:bq ds g σ=some true) (ht:aA P t=some ti) (hk:ti.kind.elem? = some e)
  (hx:bg σ x = .cW q k off len) (yM:0<k) (hrow:az σ.heap q = .row k rows) (hne:0<rows.length)
  (hn:∀ m:Nat,rows.length+m<=maxLen->ah P ds Q l (St.put { σ with heap:=aG σ.heap q (.ext (Iu k (rows++Fx k m))) } dst (.sc (.int .i64 ((rows.length+m-off:Nat):Int))))):ah P ds Q (⟨dst,.call { callee:= .builtin .cap,args:= #[x],argTypes:= #[t] },ty,pos,af,g⟩::l) σ:=by
 intro all ha w0 p a w hr;have hw:=aT (all:=all) (o:=⟨dst, .call { callee:= .builtin .cap,args:= #[x],argTypes:= #[t] },ty,pos,af,g⟩) (by rw[bV ha];exact hg) hr;obtain ⟨ρ,hr⟩:=hr;have hu:=eU ht hk;have ho:=hr.objs q;rw[hrow] at ho;have h1:=hr.bg x;rw[hx] at h1;simp only[R] at h1;cases hρ:ρ q with
 | none=>simp only[RO,hρ] at ho
 | some z=>
   cases z with
   | none=>
     simp only[RO,hρ] at ho;subst ho;simp at hne
   | some gg=>
     simp only[RO,hρ] at ho;obtain ⟨cur,e',cap,e1,e2,e3,e4,e5⟩:=ho;rcases h1 with ⟨f1,_⟩|⟨g',cap',A,f1,f2,f3,f4,f5,f6⟩
     ·rw[hρ] at f1;simp at f1
     ·rw[hρ] at f1;simp only[fF] at f1;subst f1;obtain ⟨um,e6,f7,f8⟩:=f2;rw[e1] at f7;simp only[fF,Obj.cells.injEq] at f7;obtain ⟨rfl,_⟩:=f7;have lF:cap'=cap:=RP yM (f8.symm.trans e2.size);subst lF
      have hrun:(execOp a.eval ⟨dst, .call { callee:= .builtin .cap,args:= #[x],argTypes:= #[t] },ty,pos,af,g⟩).run P w = .ok (.value (.int .i64 ((cap'-off:Nat):Int))) w:=by
       simp[execOp,resolve,invoke,builtin,Builtin.cap_,run_underlying hu,f5,goInt]
      have NF:rows.length+(cap'-rows.length)=cap':=by omega
      refine bp hw (.inl hrun) (hn (cap'-rows.length) (by omega) all ha w0 p _ _ ⟨ρ,aU.put ?_ dst ?_⟩)
      ·refine hr.w5 (by rw[hrow];simp) (by simp) fun st hst=>?_;simp only[RO];refine ⟨gg,hρ,cur,e',e1,⟨?_,e2.one⟩,?_,KW (RR.mono (fun _ _ _=>rfl) (fun _ _ hh=>hh) hst (fun _=>rfl) e5) (KU fun j hj=>?_)⟩
       ·rw[e2.size,bW];simp only[Fx,dx,NF]
       ·rw[bW];simp only[Fx,dx,NF];exact e3
       ·have hlt:rows.length*k+j<cur.size:=by
         rw[e2.size, <- NF,sK];omega
        refine ⟨cur[rows.length*k+j],?_,e2.one _ (by simp)⟩;rw[kO,cell_of_row w gg _ cur e' (0,0) e1];exact Pj hlt
      ·rw[NF];simp[R]
theorem cZ.R6 (q:Nat) {k:Nat} {rows:List (List D)} (h:az σ.heap q = .ext (Iu k rows)):cZ σ { σ with heap:=aG σ.heap q (.row k rows) }:=by
 rintro w0 p a w ⟨ρ,hr⟩;have ho:=hr.objs q;rw[h] at ho;simp only[RO] at ho;obtain ⟨g,hρ,cur,e,e1,e2,e3,e4⟩:=ho;refine ⟨ρ,hr.w5 (by rw[h];simp) (by simp) fun st hst=>?_⟩;simp only[RO,hρ];exact ⟨cur,e,rows.length,e1,e2,e3,iU _,RR.mono (fun _ _ _=>rfl) (fun _ _ hh=>hh) hst (fun _=>rfl) e4⟩
theorem ah.imp (h:cZ σ σ') (hn:ah P ds Q l σ'):ah P ds Q l σ:=fun all ha=>dG.imp h (hn all ha)
theorem ah.R6 (q:Nat) {k:Nat} {rows:List (List D)} (h:az σ.heap q = .ext (Iu k rows)) (he:{ σ with heap:=aG σ.heap q (.row k rows) }=σ') (hn:ah P ds Q l σ'):ah P ds Q l σ:=ah.imp (cZ.R6 q h) (he▸hn)
theorem ay.R6 {c:Code} (q:Nat) {k:Nat} {rows:List (List D)} (h:az σ.heap q = .ext (Iu k rows)) (he:{ σ with heap:=aG σ.heap q (.row k rows) }=σ') (hn:ay P c Q σ'):ay P c Q σ:=ay.imp (cZ.R6 q h) (he▸hn)
theorem ah.wz {x:Operand} {lo hi:Option Operand} {t e:TypeId} {ti ei:TI} {q k off len lb hb:Nat} {rows:List (List D)} (hg:bq ds g σ=some true) (ht:aA P t=some ti) (hk:ti.kind.elem? = some e) (he:aA P e=some ei) (hks:ei.size=k) (yM:0<k)
  (hx:bg σ x = .cW q k off len) (hrow:az σ.heap q = .row k rows) (hlo:yQ σ 0 lo=some lb) (hhi:yQ σ len hi=some hb) (h1:lb<=hb) (h2:off+hb<=rows.length) (h3:off<rows.length)
  (hn:ah P ds Q l (σ.put dst (.cW q k (off+lb) (hb-lb)))):ah P ds Q (⟨dst, .slice t x lo hi none,ty,pos,af,g⟩::l) σ:=by
 intro all ha w0 p a w hr;have hw:=aT (all:=all) (o:=⟨dst, .slice t x lo hi none,ty,pos,af,g⟩) (by rw[bV ha];exact hg) hr;obtain ⟨ρ,hr⟩:=hr;have ho:=hr.objs q;rw[hrow] at ho;have hX:=hr.bg x;rw[hx] at hX;simp only[R] at hX;cases hρ:ρ q with
 | none=>simp only[RO,hρ] at ho
 | some z=>
   cases z with
   | none=>
     simp only[RO,hρ] at ho;subst ho;simp at h3
   | some gg=>
     simp only[RO,hρ] at ho;obtain ⟨cur,e',cap,e1,e2,e3,e4,e5⟩:=ho;rcases hX with ⟨f1,_⟩|⟨g',cap',A,f1,f2,f3,f4,f5,f6⟩
     ·rw[hρ] at f1;simp at f1
     ·rw[hρ] at f1;simp only[fF] at f1;subst f1;obtain ⟨um,e6,f7,f8⟩:=f2;rw[e1] at f7;simp only[fF,Obj.cells.injEq] at f7;obtain ⟨rfl,_⟩:=f7;have lF:cap'=cap:=RP yM (f8.symm.trans e2.size);subst lF
      have hrun:(execOp a.eval ⟨dst, .slice t x lo hi none,ty,pos,af,g⟩).run P w = .ok (.value (.slice (if cap'-off=lb then A else A.map (·.add (lb*ei.size))) (hb-lb) (cap'-off-lb))) w:=by
       obtain ⟨⟨dt,hu,zW⟩,_⟩:=ej ht w;obtain ⟨_,hsz,_⟩:=ej he w;cases hkk:ti.kind with
       | slice e'=>
         rw[hkk] at hk zW;simp only[TK.elem?,fF] at hk;subst hk;obtain rfl:=iW zW;rcases lX hr hlo with ⟨rfl,rfl⟩|⟨y,k',rfl,hy⟩<;>rcases lX hr hhi with ⟨rfl,rfl⟩|⟨y',k'',rfl,hy'⟩
         ·simp[execOp,f5,Instr.sliceAt,hu,Instr.slice,Instr.sliceBounds,hsz]
         ·have hb':=run_sliceBound (P:=P) w k'' (hb:Int) (cap'-off) .sliceAcap (by omega) (by omega);simp[execOp,f5,Instr.sliceAt,hu,Instr.slice,Instr.sliceBounds,hsz,hy',hb']
         ·have hb':=run_sliceBound (P:=P) w k' (lb:Int) hb .sliceB (by omega) (by omega);simp[execOp,f5,Instr.sliceAt,hu,Instr.slice,Instr.sliceBounds,hsz,hy,hb']
         ·have KX:=run_sliceBound (P:=P) w k' (lb:Int) hb .sliceB (by omega) (by omega);have MO:=run_sliceBound (P:=P) w k'' (hb:Int) (cap'-off) .sliceAcap (by omega) (by omega);simp[execOp,f5,Instr.sliceAt,hu,Instr.slice,Instr.sliceBounds,hsz,hy,KX,hy',MO]
       | _=>rw[hkk] at hk;simp[TK.elem?] at hk
      refine bp hw (.inl hrun) (hn all ha w0 p _ _ ⟨ρ,hr.put dst ?_⟩);simp only[R];refine .inr ⟨gg,cap',_,hρ,⟨cur,e',e1,f8⟩,by omega,f4,by rw[Nat.sub_sub],?_⟩;intro hlt;rw[aE (by omega),f6 (by omega),hks];simp[Addr.add_lit,sK]
theorem ah.slice3 {x y:Operand} {lo hi:Option Operand} {t e:TypeId} {ti ei:TI} {len lb hb mb:Nat} (hg:bq ds g σ=some true) (ht:aA P t=some ti) (hk:ti.kind.elem? = some e) (he:aA P e=some ei)
  (hx:lY (bg σ x)=some len) (hlo:yQ σ 0 lo=some lb) (hh:hi.isSome=true) (hhi:yQ σ len hi=some hb) (Zc:yQ σ 0 (some y)=some mb) (h1:lb<=hb) (h2:hb<=mb) (h3:mb<=len)
  (hn:ah P ds Q l (σ.put dst .any)):ah P ds Q (⟨dst, .slice t x lo hi (some y),ty,pos,af,g⟩::l) σ:=by
 intro all ha w0 p a w hr;have hw:=aT (all:=all) (o:=⟨dst, .slice t x lo hi (some y),ty,pos,af,g⟩) (by rw[bV ha];exact hg) hr;obtain ⟨ρ,hr⟩:=hr
 obtain ⟨A,c,hA,hc⟩:∃ A c,a.eval x = .slice A len c/\len<=c:=by
  have h1:=hr.bg x;cases hx':bg σ x with
  | sl k rows=>
    rw[hx'] at h1 hx;simp only[lY,fF] at hx;simp only[R] at h1;obtain ⟨A,c,e1,e2,_⟩:=h1;exact ⟨A,c,by rw[e1,hx],by omega⟩
  | cW o k off n=>
    rw[hx'] at h1 hx;simp only[lY,fF] at hx;subst hx;simp only[R] at h1;rcases h1 with ⟨_,_,e3,A,e4⟩|⟨g,cap,A,_,_,e3,_,e5,_⟩
    ·exact ⟨A,0,by rw[e4,e3],by omega⟩
    ·exact ⟨A,_,e5,by omega⟩
  | any|sc|agg|ro|ref|jN|cT|fn|mp=>rw[hx'] at hx;simp[lY] at hx
 obtain ⟨v,hv⟩:∃ v,(execOp a.eval ⟨dst, .slice t x lo hi (some y),ty,pos,af,g⟩).run P w = .ok (.value v) w:=by
  obtain ⟨⟨dt,hu,zW⟩,_⟩:=ej ht w;obtain ⟨_,hsz,_⟩:=ej he w;rcases lX hr Zc with ⟨h0,_⟩|⟨y',k',e0,hy'⟩
  ·cases h0
  ·cases e0;cases hkk:ti.kind with
   | slice e'=>
     rw[hkk] at hk zW;simp only[TK.elem?,fF] at hk;subst hk;obtain rfl:=iW zW;have hm':=run_sliceBound (P:=P) w k' (mb:Int) c .slice3Acap (by omega) (by omega);rcases lX hr hhi with ⟨rfl,_⟩|⟨z,k2,rfl,hz⟩
     ·simp at hh
     ·have MN:=run_sliceBound (P:=P) w k2 (hb:Int) mb .slice3B (by omega) (by omega);rcases lX hr hlo with ⟨rfl,rfl⟩|⟨u,k3,rfl,Zd⟩
      ·exact ⟨_,by simp[execOp,hA,Instr.sliceAt,hu,Instr.slice,Instr.sliceBounds,hsz,hy',hm',hz,MN];rfl⟩
      ·have hl':=run_sliceBound (P:=P) w k3 (lb:Int) hb .slice3C (by omega) (by omega);exact ⟨_,by simp[execOp,hA,Instr.sliceAt,hu,Instr.slice,Instr.sliceBounds,hsz,hy',hm',hz,MN,Zd,hl'];rfl⟩
   | _=>rw[hkk] at hk;simp[TK.elem?] at hk
 exact bp hw (.inl hv) (hn all ha w0 p _ _ ⟨ρ,hr.put dst (by simp[R])⟩)
end
theorem vW {P:Program} {w:World} (t t' ty e:TypeId) (k':IntKind) (i:TypeInfo) (z:Value) (ht:P.underlying t=some (.slice e)) (ht':P.underlying t'=some (.int k')) (hi:P.info? e=some i) (hz:i.zero=some z)
  (b:Addr) (sLen sCap:Nat) (olds:List Value) (hlo:olds.length=sLen*i.size) (holds:∀ j v,olds[j]? = some v->w.cell? (b.add j)=some v) (kx:IntKind) (n:Nat) (hn0:0<n) (hs0:0<i.size)
  (hg:sCap<sLen+n) (h63:((sLen+n:Nat):Int)<=9223372036854775807) (hbytes:(sLen+n)*i.bytes<=140737488355328) (V5:n*i.bytes<=281474976710656):
  (Builtin.append_ #[t,t'] ty #[.slice (some b) sLen sCap, .int kx (n:Int)]).run P w =
   .ok (.slice (some ⟨w.heap.size,0,none⟩) (sLen+n) (grownCap w (sLen+n) sCap e))
    (w.drew.alloc (.cells (olds.toArray++Builtin.zeroCells z.cells n++Builtin.zeroCells z.cells (grownCap w (sLen+n) sCap e-(sLen+n))) e)):=by
 have hn:¬ (sLen+n<=sCap):=by omega
 have h63':¬ (9223372036854775807<((sLen:Int)+(n:Int))):=by omega
 have hfit:=growslice_fits (need:=sLen+n) (old:=sCap) (by omega) hbytes;have QD:¬ (281474976710656<Builtin.nextslicecap (sLen+n) sCap*i.bytes):=by omega
 have hfo:=run_firstCells_some (P:=P) w.drew i.size sLen b sLen sCap olds hlo (by simpa using holds);have hwr:IntKind.i64.wrap (n:Int)=(n:Int):=IntWalk.i64_in _ ⟨by omega,by omega⟩;have hneg:¬ ((n:Int)<0):=by omega
 have h48:¬ (281474976710656<(n:Int)*(i.bytes:Int)):=by
  have:((n*i.bytes:Nat):Int)<=((281474976710656:Nat):Int):=Int.ofNat_le.2 V5;rw[Int.natCast_mul] at this;omega
 have Nn:¬ (n*i.size=0):=by
  have:=Nat.mul_pos hn0 hs0;omega
 have Ze:¬ (n=0\/i.size=0):=by omega
 have Zf:¬ (n=0):=by omega
 have Zg:¬ (i.size=0):=by omega
 simp[Builtin.append_,run_underlying ht,run_underlying ht',sizeOf,typeInfo,zeroValue,hi,hz,asInt,asIntOf,hwr,hneg,h48,hn,h63',QD,Question.forced,hfo,newRow,grownCap,Zf,Zg];exact fun h=>absurd h Nn
section
variable {P:Program} {ds:List (Option Nat)} {Q:Exit->St->Prop} {σ σ':St} {l:List Oper} {dst:Option Nat} {ty:TypeId} {pos:String} {af:Array Edge} {g:Option (Nat×Bool)}
theorem KY {w:World} {st:Nat->Prop} {k g n:Nat} {rows:List (List D)} {cur:Array Value} {e:TypeId} (hg:w.heap[g]? = some (.cells cur e (0,0))) (h:RR w st k g 0 rows) (hn:n<=rows.length) (hone:∀ v∈cur.toList,v.oneCell'=true):
  (cur.toList.take (n*k)).length=n*k/\(∀ v∈cur.toList.take (n*k),v.oneCell'=true)/\RL w st (fun _=>none) (rows.take n).flatten (cur.toList.take (n*k))/\(∀ r∈rows.take n,r.length=k):=by
 have h2:=oa n h;obtain ⟨vs,f1,f2,f3,f4,f5⟩:=qA h2;have hl:(rows.take n).length=n:=by rw[cw];omega
 rw[hl] at f1
 have e1:cur.toList.take (n*k)=vs:=by
  apply MD;intro j;rw[JG]
  split
  ·rename_i hj;have hv:j<vs.length:=by omega
   have:=f5 j _ (rJ hv);rw[kO,cell_of_row w g j cur e (0,0) hg] at this;rw[nZ,this,rJ hv]
  ·rename_i hj;rw[GV (by omega)]
 rw[e1];exact ⟨f1,f3,f2,f4⟩
theorem G8 {w:World} {st:Nat->Prop} {ρ:Nat->Option (Option Nat)}:∀ {ds es:List D} {vs us:List Value},RL w st ρ ds vs->RL w st ρ es us->RL w st ρ (ds++es) (vs++us)
 | [],_,_,_,h,h2=>by simp only[RL] at h;subst h;simpa using h2
 | d::ds,es,vs,us,h,h2=>by
   simp only[RL,List.cons_append] at h ⊢;obtain ⟨v,vs',h3,h4,h5⟩:=h;subst h3;exact ⟨v,vs'++us,rfl,h4,G8 h5 h2⟩
theorem ah.G9 {s x:Operand} {t t' e d:Nat} {kx k':IntKind} {m:Int} {ti Yj ei:TI} {q k n:Nat} {rows:List (List D)} (hg:bq ds g σ=some true) (ht:aA P t=some ti) (hk:ti.kind.elem? = some e) (he:aA P e=some ei) (ht':aA P t'=some Yj) (hk':Yj.kind = .int k') (hks:ei.size=k) (yM:0<k)
  (hzs:ei.zero.cells.size=ei.size) (qW:ei.zero.cells.toList.all (·.oneCell')=true) (hb0:0<ei.bytes) (hh:hfree σ.heap d=true) (hs:bg σ s = .cW q k 0 n) (hrow:az σ.heap q = .ext (Iu k rows)) (hx:bg σ x = .sc (.int kx m)) (hm:0<m) (hgrow:(rows.length:Int)<n+m) (hnl:n<=rows.length) (Vw:0<rows.length)
  (hb:(n+m.toNat)*ei.bytes<=140737488355328)
  (hn:ah P ds Q l (σ.Bx d (.row k (rows.take n++List.replicate m.toNat (ei.zero.cells.toList.map .sc))) (.cW d k 0 (n+m.toNat)))):ah P ds Q (⟨some d, .call { callee:= .builtin .append,args:= #[s,x],argTypes:= #[t,t'] },ty,pos,af,g⟩::l) σ:=by
 intro all ha w0 p a w hr;have hw:=aT (all:=all) (o:=⟨some d, .call { callee:= .builtin .append,args:= #[s,x],argTypes:= #[t,t'] },ty,pos,af,g⟩) (by rw[bV ha];exact hg) hr;obtain ⟨ρ,hr⟩:=hr;obtain ⟨N,rfl⟩:∃ N:Nat,m=N:=⟨m.toNat,by omega⟩
 simp only[Int.toNat_natCast] at hn hb;have hu:=eU ht hk;obtain ⟨ie,de,Fj,R4,y1,y2,y3,y4⟩:=cr he;obtain ⟨i2,d2,hi2,Zh,_,_,_,y5⟩:=cr ht'
 have V6:P.underlying t'=some (.int k'):=by
  rw[hk'] at y5;cases d2<;>simp[nD] at y5;subst y5;exact Zh
 have ho:=hr.objs q;rw[hrow] at ho;simp only[RO] at ho;obtain ⟨gg,hρ,cur,e',e1,e2,e3,e4⟩:=ho;have hS:=hr.bg s;rw[hs] at hS;simp only[R] at hS;have hX:=hr.bg x;rw[hx] at hX;simp only[R] at hX;rcases hS with ⟨f1,_⟩|⟨g',cap',A,f1,f2,f3,f4,f5,f6⟩
 ·rw[hρ] at f1;simp at f1
 ·rw[hρ] at f1;simp only[fF] at f1;subst f1;obtain ⟨um,e6,f7,f8⟩:=f2;rw[e1] at f7;simp only[fF,Obj.cells.injEq] at f7;obtain ⟨rfl,_⟩:=f7;have lF:cap'=rows.length:=RP yM (f8.symm.trans e2.size);subst lF;obtain ⟨c1,c2,c3,c4⟩:=KY e1 e4 hnl e2.one;have Zi:=f6 (by omega)
  have hlt:n+N<=maxLen:=by
   have:(n+N)*1<=(n+N)*ei.bytes:=Nat.mul_le_mul_left _ hb0;unfold maxLen;omega
  have hrun:=vW (P:=P) (w:=w) t t' ty e k' ie ei.zero hu V6 Fj y3 ⟨gg,0*k,none⟩ n (rows.length-0) (cur.toList.take (n*k)) (by rw[y1,hks];exact c1) (by
   intro j v hj;rw[JG] at hj
   split at hj
   ·rw[Addr.add_lit,show 0*k+j=j by omega,cell_of_row w gg j cur e' (0,0) e1];rw[<- nZ];exact hj
   ·cases hj) kx N (by omega) (by omega) (by omega) (by unfold maxLen at hlt;omega) (by rw[y2];exact hb) (by rw[y2];exact J2 (Nat.mul_le_mul (Nat.le_add_left N n) (iU ei.bytes)) (J2 hb (by decide)))
  have kg:∀ v w',(Builtin.append_ #[t,t'] ty #[.slice (some ⟨gg,0*k,none⟩) n (rows.length-0), .int kx (N:Int)]).run P w = .ok v w'->
    (execOp a.eval ⟨some d, .call { callee:= .builtin .append,args:= #[s,x],argTypes:= #[t,t'] },ty,pos,af,g⟩).run P w = .ok (.value v) w':=by
   intro v w' h;rw[Zi] at f5;simp only[execOp,resolve,invoke,builtin,List.map_toArray,fk,eM,f5,hX,Sem.run_bind,Sem.run_pure,Result.andThen_ok,h]
  refine bp hw (.inl (kg _ _ hrun)) (hn all ha w0 p _ _ ?_);have hge:=grownCap_ge w (n+N) (rows.length-0) e;have Fh:=grownCap_le_maxLen w (n+N) (rows.length-0) e hlt;generalize grownCap w (n+N) (rows.length-0) e=cap at hge Fh ⊢;have Yk:∀ m,(Builtin.zeroCells ei.zero.cells m).toList=(List.replicate m ei.zero.cells.toList).flatten:=p6
  have hsz:zU ((cur.toList.take (n*k)).toArray++Builtin.zeroCells ei.zero.cells N++Builtin.zeroCells ei.zero.cells (cap-(n+N))) (cap*k):=by
   refine ⟨?_,?_⟩
   ·simp only[Array.size_append,zS,size_zeroCells,hzs,c1,hks, <- sK]
    congr 1;omega
   ·intro v hv;simp only[Vs,lU] at hv;rcases hv with (hv|hv)|hv
    ·exact c2 v (by simpa using hv)
    ·exact iH (fun v hv=>yO.1 qW v hv) v hv
    ·exact iH (fun v hv=>yO.1 qW v hv) v hv
  have wQ:∀ st:Nat->Prop,(∀ g,bO p σ.heap ρ w g->st g)->∀ cu,cu=(cur.toList.take (n*k)).toArray++Builtin.zeroCells ei.zero.cells N++Builtin.zeroCells ei.zero.cells (cap-(n+N))->
    RR (w.drew.alloc (.cells cu e)) st k w.heap.size 0 (rows.take n++List.replicate N (ei.zero.cells.toList.map .sc)):=by
   intro st hst cu Zj;have hc:∀ g off,bO p σ.heap ρ w g->(w.drew.alloc (.cells cu e)).cell? ⟨g,off,none⟩=w.cell? ⟨g,off,none⟩:=fun g off hg=>World.cell?_alloc_lt w.drew _ ⟨g,off,none⟩ hg.2.1;have hsh:∀ g n,Sh w g n->Sh (w.drew.alloc (.cells cu e)) g n:=fun g n hs=>ct (Below.heap_alloc w.drew _ g hs.lt) hs
   have hlr:(List.replicate N (ei.zero.cells.toList.map D.sc)).flatten=((List.replicate N ei.zero.cells.toList).flatten).map D.sc:=by
    rw[List.map_flatten,List.map_replicate]
   refine l5 (vs:=cur.toList.take (n*k)++(List.replicate N ei.zero.cells.toList).flatten) (fun r hr=>?_) ?_ (fun v hv=>?_) (fun j v hj=>?_)
   ·rcases lU.1 hr with h|h
    ·exact c4 r h
    ·obtain ⟨_,rfl⟩:=List.mem_replicate.1 h;rw[dD,Array.length_toList,hzs,hks]
   ·rw[Pq,hlr];exact G8 (RL.mono hc hsh hst c3) (pU _)
   ·rcases lU.1 hv with h|h
    ·exact c2 v h
    ·rw[<- Yk] at h;exact iH (fun v hv=>yO.1 qW v hv) v h
   ·rw[kO,World.cell?_alloc_at (w:=w.drew) cu e w.heap.size j rfl,Zj];rw[<- nZ];simp only[Vs,Yk];rw[Ck ?_]
    ·simpa using hj
    ·have:=(jL.1 hj).1;simpa using this
  have hnb:=hr.drew.jS (ids:=[d]) (o:=d) (x:= .row k (rows.take n++List.replicate N (ei.zero.cells.toList.map .sc))) (cur:=(cur.toList.take (n*k)).toArray++Builtin.zeroCells ei.zero.cells N++Builtin.zeroCells ei.zero.cells (cap-(n+N))) (e:=e) (by simp) hh (by simp) (fun st hst=>by
   simp only[RO,bK]
   exact ⟨_,e,cap,heap_alloc_new w.drew _,hsz,Fh,by rw[bW,cw,dx];omega,wQ st hst _ rfl⟩)
  refine ⟨_,hnb.put (some d) ?_⟩;simp only[R,bK];exact .inr ⟨w.heap.size,cap,some ⟨w.heap.size,0,none⟩,rfl,⟨_,e,heap_alloc_new w.drew _,hsz.size⟩,by omega,Fh,by simp,fun _=>by simp⟩
theorem cZ.take (t d:Nat) {o k n:Nat} {rows:List (List D)} (ht:σ.slots[t]? = some (.cW o k 0 n)) (hrow:az σ.heap o = .row k rows) (hnl:n<=rows.length) (hh:hfree σ.heap d=true):
  cZ σ (St.put { σ.bF [o,d] with heap:=aG (σ.bF [o,d]).heap d (.row k (rows.take n)) } (some t) (.cW d k 0 n)):=by
 rintro w0 p a w ⟨ρ,hr⟩;have hT:=hr.bg (.tmp t);have Tc:bg σ (.tmp t) = .cW o k 0 n:=by simp[bg,VM,ht]
 rw[Tc] at hT;have ho:=hr.objs o;rw[hrow] at ho
 have Zk:=hr.Kj (d:=d) (eu:=rows.take n) (w':=w) hrow hh (fun _ _ _=>rfl) (fun _ _ h=>h) (iU _) rfl rfl rfl (fun st hst=>by
  simp only[RO,bK];cases hρ:ρ o with
  | none=>simp only[RO,hρ] at ho
  | some z=>
    cases z with
    | none=>
      simp only[RO,hρ] at ho;subst ho;simp
    | some gg=>
      simp only[RO,hρ] at ho;obtain ⟨cur,e',cap,e1,e2,e3,e4,e5⟩:=ho
      exact ⟨cur,e',cap,e1,e2,e3,by rw[cw];omega,RR.mono (fun _ _ _=>rfl) (fun _ _ hh=>hh) hst (fun _=>rfl) (oa n e5)⟩)
 have hput:=Zk.put (some t) (v:=a.eval (.tmp t)) (d:= .cW d k 0 n) (by
  simp only[R,bK] at hT ⊢
  exact hT)
 have Td:a.put (some t) (a.eval (.tmp t))=a:=by
  simp only[Act.put,Act.eval]
  congr 1
  apply Array.ext_getElem?;intro j;rw[Array.getElem?_setIfInBounds]
  split
  ·rename_i h;subst h
   split
   ·rename_i hlt;simp[hlt]
   ·rename_i hlt;rw[SI (by omega)]
  ·rfl
 rw[Td] at hput;exact ⟨_,hput⟩
theorem aC.take {fn:Func} {ids:List Nat} {ret:D} {outs:List Obj} {e:Exit} (t d:Nat) {o k n:Nat} {rows:List (List D)} (ht:σ.slots[t]? = some (.cW o k 0 n)) (hrow:az σ.heap o = .row k rows) (hnl:n<=rows.length) (hh:hfree σ.heap d=true)
  (he:St.put { σ.bF [o,d] with heap:=aG (σ.bF [o,d]).heap d (.row k (rows.take n)) } (some t) (.cW d k 0 n)=σ') (h:aC P fn ids ret outs e σ'):aC P fn ids ret outs e σ:=aC.imp (cZ.take t d ht hrow hnl hh) (he▸h)
theorem ay.take {c:Code} (t d:Nat) {o k n:Nat} {rows:List (List D)} (ht:σ.slots[t]? = some (.cW o k 0 n)) (hrow:az σ.heap o = .row k rows) (hnl:n<=rows.length) (hh:hfree σ.heap d=true)
  (he:St.put { σ.bF [o,d] with heap:=aG (σ.bF [o,d]).heap d (.row k (rows.take n)) } (some t) (.cW d k 0 n)=σ') (h:ay P c Q σ'):ay P c Q σ:=ay.imp (cZ.take t d ht hrow hnl hh) (he▸h)
end
section
variable {P:Program} {ds:List (Option Nat)} {Q:Exit->St->Prop} {σ:St} {l:List Oper} {dst:Option Nat} {ty:TypeId} {pos:String} {af:Array Edge} {g:Option (Nat×Bool)} {x y:Operand} {lo hi:Option Operand} {t:TypeId} {xs:Array Operand} {ts:Array TypeId}
theorem PL (h:ah P ds Q (⟨dst, .call { callee:= .builtin .cap,args:=xs,argTypes:=ts },ty,pos,af,g⟩::l) σ):ah P ds Q (⟨dst, .call { callee:= .builtin .cap,args:=xs,argTypes:=ts },ty,pos,af,g⟩::l) σ:=h
theorem isSlice (h:ah P ds Q (⟨dst, .slice t x lo hi none,ty,pos,af,g⟩::l) σ):ah P ds Q (⟨dst, .slice t x lo hi none,ty,pos,af,g⟩::l) σ:=h
theorem C5 (h:ah P ds Q (⟨dst, .slice t x lo hi (some y),ty,pos,af,g⟩::l) σ):ah P ds Q (⟨dst, .slice t x lo hi (some y),ty,pos,af,g⟩::l) σ:=h
theorem aY (n:Nat) {a:Array Oper} (h:ay P (.region n a true) Q σ):ay P (.region n a true) Q σ:=h
end
section
variable {P:Program} {ds:List (Option Nat)} {Q:Exit->St->Prop} {σ σ':St} {l:List Oper} {dst:Option Nat} {ty:TypeId} {pos:String} {af:Array Edge} {g:Option (Nat×Bool)}
theorem C6 {w0:World} {p:Pm} {a:Act} {w:World} {ρ:Nm} (h:aU w0 p σ a w ρ) {x:Operand} {q k off len:Nat} {rows:List (List D)} (hx:bg σ x = .cW q k off len) (hq:az σ.heap q = .row k rows) (hk:0<k) (hr:off<rows.length):
  ∃ g cur e A c,ρ q=some (some g)/\w.heap[g]? = some (.cells cur e (0,0))/\0<cur.size/\A=(⟨g,off*k,none⟩:Addr)/\a.eval x = .slice (some A) len c:=by
 have ho:=h.objs q;rw[hq] at ho;have h1:=h.bg x;rw[hx] at h1;simp only[R] at h1;cases hρ:ρ q with
 | none=>simp only[RO,hρ] at ho
 | some z=>
   cases z with
   | none=>simp only[RO,hρ] at ho;subst ho;simp at hr
   | some gg=>
     simp only[RO,hρ] at ho;obtain ⟨cur,e',cap,e1,e2,e3,e4,e5⟩:=ho;rcases h1 with ⟨f1,_⟩|⟨g',cap',A,f1,f2,f3,f4,f5,f6⟩
     ·rw[hρ] at f1;simp at f1
     ·rw[hρ] at f1;simp only[fF] at f1;subst f1;obtain ⟨um,e6,f7,f8⟩:=f2;rw[e1] at f7;simp only[fF,Obj.cells.injEq] at f7;obtain ⟨rfl,_⟩:=f7;have lF:cap'=cap:=RP hk (f8.symm.trans e2.size);subst lF;have hpos:0<cur.size:=by rw[e2.size];exact Nat.mul_pos (by omega) hk
      exact ⟨gg,cur,e',_,_,rfl,e1,hpos,rfl,by rw[f5,f6 (by omega)]⟩
theorem ah.overlaps {x y:Operand} {ts:Array TypeId} {f:FuncId} {fn:Func} {t e tR:TypeId} {ti ei:TI} {q q' k off off' len len':Nat} {rows eu:List (List D)} (hg:bq ds g σ=some true) (hf:P.funcs[f]? = some fn) (hname:(fn.name == "runtime.NumGoroutine")=false) (hb:fn.body.isNone=true) (hn:Extern.findNext fn=none)
  (he:Extern.find fn=some (Extern.SlicesOverlaps.overlaps #[t,t] #[tR])) (ht:aA P t=some ti) (hk:ti.kind.elem? = some e) (het:aA P e=some ei) (hx:bg σ x = .cW q k off len) (yM:0<k) (hy:bg σ y = .cW q' k off' len') (hne:q≠q') (hq:az σ.heap q = .row k rows) (KZ:az σ.heap q' = .row k eu) (h1:off<rows.length) (h2:off'<eu.length)
  (hnext:ah P ds Q l (σ.put dst (.sc (.bool false)))):ah P ds Q (⟨dst, .call { callee:= .value (.func f),args:= #[x,y],argTypes:=ts },ty,pos,af,g⟩::l) σ:=by
 intro all ha w0 p a w hr;have hw:=aT (all:=all) (o:=⟨dst, .call { callee:= .value (.func f),args:= #[x,y],argTypes:=ts },ty,pos,af,g⟩) (by rw[bV ha];exact hg) hr;obtain ⟨ρ,hr⟩:=hr;obtain ⟨b1,c1,e1,A1,k1,r1,r2,r3,r4,r5⟩:=C6 hr hx hq yM h1;obtain ⟨b2,c2,e2,A2,k2,s1,s2,s3,s4,s5⟩:=C6 hr hy KZ yM h2;subst r4 s4;have R5:b1≠b2:=fun e=>hne (hr.inj q q' b1 (by rw[hq];simp) (by rw[KZ];simp) (.inl r1) (.inl (by rw[s1,e])));have hu:=eU ht hk;have hsz:∀ w,(sizeOf e).run P w = .ok ei.size w:=fun w=>(ej het w).2.1;have EN:=Lib.run_overlaps_apart (P:=P) w t tR e hu ei.size hsz ⟨b1,off*k,none⟩ ⟨b2,off'*k,none⟩ len k1 len' k2 R5 e1 e2 c1.size c2.size (by simp[World.shape?,r2]) (by simp[World.shape?,s2]) (by omega) (by simp[World.frozen?,r2]) (by simp[World.frozen?,r2])
 have kg:(execOp a.eval ⟨dst, .call { callee:= .value (.func f),args:= #[x,y],argTypes:=ts },ty,pos,af,g⟩).run P w = .ok (.value (.bool false)) w:=by
  have Tc:a.eval (.func f) = .func (.func f) #[] #[]:=rfl
  have h0:(execOp a.eval ⟨dst, .call { callee:= .value (.func f),args:= #[x,y],argTypes:=ts },ty,pos,af,g⟩).run P w=(callFunc f #[a.eval x,a.eval y]).run P w:=by
   simp[execOp,resolve,invoke,Tc,Deferred.ofValue]
  rw[h0,run_callFunc_extern hf hname hb hn he,r5,s5,EN];rfl
 exact bp hw (.inl kg) (hnext all ha w0 p _ _ ⟨ρ,hr.put dst (by simp[R])⟩)
end
theorem C7 {α:Type} (rows:List α) {i j:Nat} (hij:i<=j) (hj:j<=rows.length) (W Z V:List α):List.take (i+(rows.length-j)) (List.take (i+(rows.length-j)) (List.take i rows++List.drop j rows++W)++Z++V)=List.take i rows++List.drop j rows:=by
 have h1:i+(rows.length-j)=(List.take i rows++List.drop j rows).length:=by simp;omega
 rw[h1,List.take_left,lS,List.take_left]
theorem Aj {α:Type} (rows xs Z R:List α) {i K:Nat} (hi:i<=rows.length) (hR:R.length=rows.length+xs.length-i) (hK:K=rows.length+xs.length):
  List.take (i+xs.length) (List.take i (List.take i (rows++Z)++R)++xs++List.drop (i+xs.length) (List.take i (rows++Z)++R))++List.take (rows.length-i) (List.take (rows.length-i) (List.drop i (rows++Z))) ++
   List.drop K (List.take i (List.take i (rows++Z)++R)++xs++List.drop (i+xs.length) (List.take i (rows++Z)++R))=List.take i rows++xs++List.drop i rows:=by
 have h1:List.take i (rows++Z)=List.take i rows:=SG hi;have h2:(List.take i rows).length=i:=by rw[cw];omega
 have h3:List.take i (List.take i rows++R)=List.take i rows:=RW h2;have h4:List.drop i (rows++Z)=List.drop i rows++Z:=List.drop_append_of_le_length hi;have h5:(List.drop i rows).length=rows.length-i:=bQ;have h6:List.take (rows.length-i) (List.drop i rows++Z)=List.drop i rows:=RW h5;have h7:List.take (rows.length-i) (List.drop i rows)=List.drop i rows:=lz (by omega);rw[h1,h3,h4,h6,h7];have h8:(List.take i rows++xs).length=i+xs.length:=by rw[bW,h2]
 rw[RW h8,List.drop_of_length_le (i:=K) (by rw[bW,h8,bQ,bW,h2,hR];omega),yP]
theorem Ak {α:Type} (rows xs Z:List α) {i:Nat} (hi:i<=rows.length) (hz:xs.length<=Z.length):
  List.take (rows.length+xs.length) (List.take i (List.take (i+xs.length) (rows++Z)++List.take (rows.length+xs.length-(i+xs.length)) (List.take (rows.length+xs.length-i) (List.drop i (rows++Z)))++List.drop (i+xs.length+(rows.length+xs.length-(i+xs.length))) (rows++Z))++xs ++
   List.drop (i+xs.length) (List.take (i+xs.length) (rows++Z)++List.take (rows.length+xs.length-(i+xs.length)) (List.take (rows.length+xs.length-i) (List.drop i (rows++Z)))++List.drop (i+xs.length+(rows.length+xs.length-(i+xs.length))) (rows++Z)))=List.take i rows++xs++List.drop i rows:=by
 have h1:List.take i (rows++Z)=List.take i rows:=SG hi;have h2:(List.take i rows).length=i:=by rw[cw];omega
 have h4:List.drop i (rows++Z)=List.drop i rows++Z:=List.drop_append_of_le_length hi;have h5:(List.drop i rows).length=rows.length-i:=bQ;have h9:(List.take (i+xs.length) (rows++Z)).length=i+xs.length:=by rw[cw,bW];omega
 have hT:List.take (rows.length+xs.length-(i+xs.length)) (List.take (rows.length+xs.length-i) (List.drop i (rows++Z)))=List.drop i rows:=by
  rw[List.take_take,h4,show min (rows.length+xs.length-(i+xs.length)) (rows.length+xs.length-i)=rows.length-i by omega];exact RW h5
 rw[hT,lS (List.take (i+xs.length) (rows++Z)),SG (l₁:=List.take (i+xs.length) (rows++Z)) (by omega),List.take_take,SM (by omega),h1,List.drop_left' h9, <- lS];exact RW (by simp only[bW,h2,h5];omega)
section
variable {P:Program}
theorem o8:aQ P program=some P:=rfl
theorem ou {d:Nat} {t:TypeId} {fs:Array Field} {xs ys:Array Value} (ht:P.underlying t=some (.struct fs)) (hp:P.stoodInHeld t=false):
  aQ P (Op.equalIn (d+1) t (.agg xs) (.agg ys))=aQ P (Op.eqFields d xs ys fs.toList):=by
 simp only[Op.equalIn,bk,cm ht,o8,Option.bind_some,hp,pT,jc];rw[<- Array.forIn_toList];generalize fs.toList=l;clear ht
 induction l with
 | nil=>simp[Op.eqFields,cM]
 | cons f l ih=>
   rw[List.forIn_cons];simp only[Op.eqFields,bk]
   by_cases hf:f.name≠ "_"
   ·rcases h1:aQ P (part f.type xs f.offset) with _|a
    ·simp[hf,bk,h1]
    ·rcases h2:aQ P (part f.type ys f.offset) with _|b
     ·simp[hf,bk,h1,h2]
     ·rcases h3:aQ P (Op.equalIn d f.type a b) with _|r
      ·simp[hf,bk,h1,h2,h3]
      ·cases r
       ·simp[hf,bk,h1,h2,h3,cM]
       ·simp only[hf,ne_eq,not_false_eq_true,jg,bk,h1,h2,h3,Option.bind_some,Bool.not_true,pT,jc,cM];simpa[bk] using ih
   ·simp only[hf,jc,cM,Option.bind_some];simpa[bk] using ih
theorem fP {d:Nat} {t:TypeId} {k k':IntKind} {a b:Int} (h:P.underlying t=some (.int k')):aQ P (Op.equalIn (d+1) t (.int k a) (.int k b))=some (a==b):=by
 simp[Op.equalIn,bk,cm h,cM]
theorem ov {d:Nat} {t:TypeId} {a b:ByteArray} (h:P.underlying t=some .string):aQ P (Op.equalIn (d+1) t (.string a) (.string b))=some (a.toList==b.toList):=by
 simp[Op.equalIn,bk,cm h,cM,beq_toListBytes]
theorem eC {t:TypeId} {d:TypeDesc} {vs:Array Value} {off:Nat} {v:Value} (h:P.underlying t=some d) (ha:(match d with | .struct _ | .array _ _=>true|_=>false)=false) (hv:vs[off]? = some v):aQ P (part t vs off)=some v:=by
 unfold part;simp only[isAgg,bk,cm h,Option.bind_some];cases d<;>simp_all[cM]
theorem C8 {t:TypeId} {fs:Array Field} {x y:Operand} {xs ys:Array Value} {b:Bool} (ht:P.underlying t=some (.struct fs)) (hp:P.stoodInHeld t=false) (hm:P.eqGuardType P.depth t=false) (h:aQ P (Op.eqFields 9999 xs ys fs.toList)=some b):
  vU P .eql t x y (.agg xs) (.agg ys)=some (.bool b)/\vU P .neq t x y (.agg xs) (.agg ys)=some (.bool !b):=by
 have hg:∀ op,aQ P (eqGuard op t x y (.agg xs) (.agg ys))=some ():=by
  intro op;cases op<;>simp[eqGuard,bk,o8,hm,cM]
 have he:aQ P (Op.equal t (.agg xs) (.agg ys))=some b:=by
  show aQ P (Op.equalIn (9999+1) t (.agg xs) (.agg ys))=_;rw[ou ht hp,h]
 have h1:Go.binOp .eql t (.agg xs) (.agg ys)=(do let r <- Op.equal t (.agg xs) (.agg ys);pure (.bool r)):=rfl;have h2:Go.binOp .neq t (.agg xs) (.agg ys)=(do let r <- Op.equal t (.agg xs) (.agg ys);pure (.bool !r)):=rfl;constructor
 ·show aQ P (do eqGuard .eql t x y (.agg xs) (.agg ys);Go.binOp .eql t (.agg xs) (.agg ys))=_;rw[bk,hg,Option.bind_some,h1,bk,he];rfl
 ·show aQ P (do eqGuard .neq t x y (.agg xs) (.agg ys);Go.binOp .neq t (.agg xs) (.agg ys))=_;rw[bk,hg,Option.bind_some,h2,bk,he];rfl
theorem iI {d:Nat} {xs ys:Array Value} {f:Field} {fs:List Field} {a b:Value} {r:Bool} (hn:f.name≠ "_") (ha:aQ P (part f.type xs f.offset)=some a) (hb:aQ P (part f.type ys f.offset)=some b) (he:aQ P (Op.equalIn d f.type a b)=some r)
  {s:Bool} (h:aQ P (Op.eqFields d xs ys fs)=some s):aQ P (Op.eqFields d xs ys (f::fs))=some (r&&s):=by
 simp only[Op.eqFields,hn,ne_eq,not_false_eq_true,jg,bk,ha,hb,he,Option.bind_some];cases r
 ·simp[cM]
 ·simpa using h
theorem sX {d:Nat} {xs ys:Array Value}:aQ P (Op.eqFields d xs ys [])=some true:=rfl
end
attribute [go_sem] Nat.sub_zero zh Option.isNone_none Option.isNone_some
def C9 (o:Nat):List Nat->Bool
 | []=>false
 | x::l=>if o=x then true else C9 o l
theorem Da {o:Nat}:∀ {l:List Nat},C9 o l=true↔o∈l
 | []=>by simp[C9]
 | x::l=>by
   by_cases h:o=x
   ·simp[C9,h]
   ·simp[C9,h,Da]
def ox:List Nat->Bool
 | []=>true
 | x::l=> !C9 x l&&ox l
theorem l8:∀ {l:List Nat},ox l=true->l.Nodup
 | [],_=>List.nodup_nil
 | x::l,h=>by
   simp only[ox,jl,Pt] at h;refine Nb.2 ⟨fun hx=>?_,l8 h.2⟩;rw[Da.2 hx] at h;cases h.1
def Db (p:Nat->Bool):List Nat->Bool
 | []=>true
 | x::l=>p x&&Db p l
theorem w6 {p:Nat->Bool}:∀ {l:List Nat},Db p l=true->l.all p=true
 | [],_=>rfl
 | x::l,h=>by
   simp only[Db,jl] at h;simp only[List.all_cons,jl];exact ⟨h.1,w6 h.2⟩
def Dc (p:Obj->Bool):List Obj->Bool
 | []=>true
 | x::l=>p x&&Dc p l
theorem w9 {p:Obj->Bool}:∀ {l:List Obj},Dc p l=true->l.all p=true
 | [],_=>rfl
 | x::l,h=>by
   simp only[Dc,jl] at h;simp only[List.all_cons,jl];exact ⟨h.1,w9 h.2⟩
def qF:List Nat->List Obj->Bool
 | [],[]=>true
 | _::l,_::m=>qF l m
 | _,_=>false
theorem vg:∀ {l:List Nat} {m:List Obj},qF l m=true->l.length=m.length
 | [],[],_=>rfl
 | _::l,_::m,h=>by
   simp only[qF] at h;simp[vg h]
def jY (ds:List (Option Nat)) (g:Option (Nat×Bool)) (σ:St) (dst:Option Nat) (ins new:List Nat) (flat:Bool) (ret:D) (outs:List Obj):Option St:=
 (bq ds g σ).bind fun b=>cond b (cond (ox (ins++new)) (cond (qF (ins++new) outs) (cond (Db (ec σ.heap) (ins++new)) (cond (Db (fun o=>decide (o<1000)) new) (cond (vQ outs.length ret) (cond (Dc (wu outs.length) outs)
  (cond flat (cond (mT ret) (cond (Dc Ad outs) (some (σ.sN dst ins new ret outs)) none) none) (some (σ.sN dst ins new ret outs))) none) none) none) none) none) none) none
theorem l9 {ds:List (Option Nat)} {g:Option (Nat×Bool)} {σ σ':St} {dst:Option Nat} {ins new:List Nat} {flat:Bool} {ret:D} {outs:List Obj} (h:jY ds g σ dst ins new flat ret outs=some σ'):
  bq ds g σ=some true/\(ins++new).Nodup/\(ins++new).length=outs.length/\(ins++new).all (ec σ.heap)=true/\new.all (fun o=>decide (o<1000))=true/\vQ outs.length ret=true/\outs.all (wu outs.length)=true/\σ.sN dst ins new ret outs=σ'/\(flat=true->Flat ret outs):=by
 simp only[jY,j4] at h;obtain ⟨b,hb,h⟩:=h;cases b with
 | false=>simp only[cond_false,reduceCtorEq] at h
 | true=>
 simp only[cond_true] at h;cases h1:ox (ins++new) with
 | false=>simp only[h1,cond_false,reduceCtorEq] at h
 | true=>
 cases h2:qF (ins++new) outs with
 | false=>simp only[h1,h2,cond_true,cond_false,reduceCtorEq] at h
 | true=>
 cases h3:Db (ec σ.heap) (ins++new) with
 | false=>simp only[h1,h2,h3,cond_true,cond_false,reduceCtorEq] at h
 | true=>
 cases h4:Db (fun o=>decide (o<1000)) new with
 | false=>simp only[h1,h2,h3,h4,cond_true,cond_false,reduceCtorEq] at h
 | true=>
 cases h5:vQ outs.length ret with
 | false=>simp only[h1,h2,h3,h4,h5,cond_true,cond_false,reduceCtorEq] at h
 | true=>
 cases h6:Dc (wu outs.length) outs with
 | false=>simp only[h1,h2,h3,h4,h5,h6,cond_true,cond_false,reduceCtorEq] at h
 | true=>
 simp only[h1,h2,h3,h4,h5,h6,cond_true] at h
 have fin:σ.sN dst ins new ret outs=σ'/\(flat=true->Flat ret outs):=by
  cases flat
  ·simp only[cond_false,fF] at h;exact ⟨h,fun e=>by cases e⟩
  ·simp only[cond_true] at h;cases h7:mT ret with
   | false=>simp only[h7,cond_false,reduceCtorEq] at h
   | true=>
     cases h8:Dc Ad outs with
     | false=>simp only[h7,h8,cond_true,cond_false,reduceCtorEq] at h
     | true=>
       simp only[h7,h8,cond_true,fF] at h;exact ⟨h,fun _=>G5 h7 (w9 h8)⟩
 exact ⟨hb,l8 h1,vg h2,w6 h3,w6 h4,rfl,w9 h6,fin.1,fin.2⟩
section
variable {P:Program} {ds:List (Option Nat)} {Q:Exit->St->Prop} {Qv:St->Prop} {σ σ':St} {l:List Oper} {dst:Option Nat} {ty:TypeId} {pos:String} {af:Array Edge} {g:Option (Nat×Bool)} {f:FuncId} {x:Operand} {xs:Array Operand} {ts:Array TypeId} {caps args:List D} {ret:D}
theorem ah.cE (new:List Nat) {outs:List Obj} (hx:bg σ x = .fn f caps) (hc:ak P f args ret outs) (hargs:iy [] (xs.toList.map (bg σ)++caps)=some args) (h:jY ds g σ dst [] new false ret outs=some σ')
  (hn:ah P ds Q l σ'):ah P ds Q (⟨dst, .call { callee:= .value x,args:=xs,argTypes:=ts },ty,pos,af,g⟩::l) σ:=by
 obtain ⟨h1,h2,h3,h4,h5,h6,h7,h8,_⟩:=l9 h;exact ah.ve [] new h1 hx hc hargs rfl h2 h3 h4 h5 h6 h7 h8 hn
theorem ah.cS (new:List Nat) {outs:List Obj} (hx:bg σ x = .fn f caps) (hc:ak P f args ret outs) (hargs:fZ (ef σ [] 4) (xs.toList.map (bg σ)++caps)=some args) (h:jY ds g σ dst [] new true ret outs=some σ')
  (hn:ah P ds Q l σ'):ah P ds Q (⟨dst, .call { callee:= .value x,args:=xs,argTypes:=ts },ty,pos,af,g⟩::l) σ:=by
 obtain ⟨h1,h2,h3,h4,h5,h6,h7,h8,h9⟩:=l9 h;exact ah.KB [] new h1 hx hc hargs (j3.refl _) rfl (j6.refl _) (h9 rfl) h2 h3 h4 h5 h6 h7 h8 hn
theorem ah.cI (new:List Nat) {objs outs:List Obj} {ins:List Nat} (hx:bg σ x = .fn f caps) (hi:jy [] (ur (xs.toList.map (bg σ)++caps))=ins) (hc:aF P f objs args ret outs) (hargs:iy ins (xs.toList.map (bg σ)++caps)=some args) (sU:jQ σ (iy ins) ins=some objs)
  (h:jY ds g σ dst ins new false ret outs=some σ') (hn:ah P ds Q l σ'):ah P ds Q (⟨dst, .call { callee:= .value x,args:=xs,argTypes:=ts },ty,pos,af,g⟩::l) σ:=by
 obtain ⟨h1,h2,h3,h4,h5,h6,h7,h8,_⟩:=l9 h;exact ah.ve ins new h1 hx hc hargs sU h2 h3 h4 h5 h6 h7 h8 hn
def vh (ds:List (Option Nat)) (g:Option (Nat×Bool)) (σ:St) (dst:Option Nat) (flat:Bool) (ret:D):Option St:=
 (bq ds g σ).bind fun b=>cond b (cond (vQ 0 ret) (cond (!flat||mT ret) (some (σ.put dst (CB [] ret))) none) none) none
theorem xb {flat:Bool} (h:vh ds g σ dst flat ret=some σ'):bq ds g σ=some true/\vQ 0 ret=true/\σ.put dst (CB [] ret)=σ'/\(flat=true->Flat ret []):=by
 simp only[vh,j4] at h;obtain ⟨b,hb,h⟩:=h;cases b with
 | false=>simp only[cond_false,reduceCtorEq] at h
 | true=>
 simp only[cond_true] at h;cases h1:vQ 0 ret with
 | false=>simp only[h1,cond_false,reduceCtorEq] at h
 | true=>
 cases h2:(!flat||mT ret) with
 | false=>simp only[h1,h2,cond_true,cond_false,reduceCtorEq] at h
 | true=>
 simp only[h1,h2,cond_true,fF] at h;refine ⟨hb,rfl,h,fun e=>G5 ?_ rfl⟩;subst e;simpa using h2
theorem bz.cE (hx:bg σ x = .fn f caps) (hc:ak P f args ret []) (hargs:iy [] (xs.toList.map (bg σ)++caps)=some args) (h:vh ds g σ dst false ret=some σ')
  (hn:bz P ds Qv l σ'):bz P ds Qv (⟨dst, .call { callee:= .value x,args:=xs,argTypes:=ts },ty,pos,af,g⟩::l) σ:=by
 obtain ⟨h1,h2,h3,_⟩:=xb h;exact bz.ve h1 hx hc hargs h2 h3 hn
theorem bz.cS (hx:bg σ x = .fn f caps) (hc:ak P f args ret []) (hargs:fZ (ef σ [] 4) (xs.toList.map (bg σ)++caps)=some args) (h:vh ds g σ dst true ret=some σ')
  (hn:bz P ds Qv l σ'):bz P ds Qv (⟨dst, .call { callee:= .value x,args:=xs,argTypes:=ts },ty,pos,af,g⟩::l) σ:=by
 obtain ⟨h1,h2,h3,h4⟩:=xb h;exact bz.KB h1 hx hc hargs (h4 rfl) h2 h3 hn
end
mutual
def zO:D->D->Prop
 | .any, .any=>True
 | .sc v, .any=>True
 | .agg ds, .any=>True
 | .sl k rows, .any=>True
 | .cT ds, .any=>True
 | .ro cs, .any=>True
 | .ref o off, .any=>True
 | .jN o k i off, .any=>True
 | .cW o k off n, .any=>True
 | .fn f cs, .any=>True
 | .mp o, .any=>True
 | .mp o, .mp o'=>o=o'
 | .sc v, .sc u=>v=u
 | .sc v, .sl k rows=>v = .slice none 0 0/\rows=[]
 | .cW o k off n, .cW o' k' off' n'=>o=o'/\k=k'/\off=off'/\n=n'
 | .sl k rows, .sl k' eu=>k=k'/\rows=eu
 | .agg ds, .agg es=>qP ds es
 | .cT ds, .cT es=>qP ds es
 | .ref o off, .ref o' off'=>o=o'/\off=off'
 | .jN o k i off, .jN o' k' i' off'=>o=o'/\k=k'/\i=i'/\off=off'
 | .ro cs, .ro es=>qP cs es
 | .fn f cs, .fn f' es=>f=f'/\qP cs es
 | _,_=>False
def qP:List D->List D->Prop
 | [],[]=>True
 | d::ds,e::es=>zO d e/\qP ds es
 | _,_=>False
end
mutual
theorem p8:∀ {d e:D},zO d e->nW d e
 | d,e,h=>by
   cases e with
   | any=>exact nW.any d
   | sc u=>cases d<;>simp only[zO] at h;subst h;exact nW.refl _
   | sl k' eu=>
     cases d<;>simp only[zO] at h
     ·obtain ⟨rfl,rfl⟩:=h;exact nW.nil _
     ·obtain ⟨rfl,rfl⟩:=h;exact nW.refl _
   | cW=>cases d<;>simp only[zO] at h;obtain ⟨rfl,rfl,rfl,rfl⟩:=h;exact nW.refl _
   | mp=>cases d<;>simp only[zO] at h;subst h;exact nW.refl _
   | ref=>cases d<;>simp only[zO] at h;obtain ⟨rfl,rfl⟩:=h;exact nW.refl _
   | jN=>cases d<;>simp only[zO] at h;obtain ⟨rfl,rfl,rfl,rfl⟩:=h;exact nW.refl _
   | agg es=>cases d<;>simp only[zO] at h;exact nW.agg (bL h)
   | cT es=>cases d<;>simp only[zO] at h;exact nW.cT (bL h)
   | ro es=>cases d<;>simp only[zO] at h;exact nW.ro (bL h)
   | fn f' es=>cases d<;>simp only[zO] at h;obtain ⟨rfl,h⟩:=h;exact nW.fn (bL h)
theorem bL:∀ {ds es:List D},qP ds es->j3 ds es
 | [],[],_=>j3.nil
 | d::ds,e::es,h=>by
   simp only[qP] at h;exact j3.cons (p8 h.1) (bL h.2)
 | [],_::_,h=>by simp only[qP] at h
 | _::_,[],h=>by simp only[qP] at h
end
def Dd:Obj->Obj->Prop
 | _, .dead=>True
 | .row k rs, .row k' ss=>k=k'/\rs=ss
 | .box ds, .box es=>qP ds es
 | .ext e, .ext e'=>e=e'
 | _,_=>False
theorem Al {x y:Obj} (h:Dd x y):CA x y:=by
 cases y with
 | dead=>exact CA.dead _
 | row=>cases x<;>simp only[Dd] at h;obtain ⟨rfl,rfl⟩:=h;exact CA.refl _
 | box=>cases x<;>simp only[Dd] at h;exact CA.box (bL h)
 | ext=>cases x<;>simp only[Dd] at h;subst h;exact CA.refl _
def De:List (Nat×Obj)->List (Nat×Obj)->Prop
 | [],[]=>True
 | (o,x)::h,(o',y)::k=>o=o'/\Dd x y/\De h k
 | _,_=>False
theorem bX:∀ {h k:List (Nat×Obj)},De h k->wZ h k
 | [],[],_=>wZ.nil
 | (o,x)::h,(o',y)::k,e=>by
   simp only[De] at e;obtain ⟨rfl,e1,e2⟩:=e;exact wZ.cons (Al e1) (bX e2)
 | [],_::_,e=>by simp only[De] at e
 | _::_,[],e=>by simp only[De] at e
def qX:List Obj->List Obj->Prop
 | [],[]=>True
 | x::xs,y::ys=>Dd x y/\qX xs ys
 | _,_=>False
theorem mc:∀ {xs ys:List Obj},qX xs ys->j6 xs ys
 | [],[],_=>j6.nil
 | x::xs,y::ys,e=>by
   simp only[qX] at e;exact j6.cons (Al e.1) (mc e.2)
 | [],_::_,e=>by simp only[qX] at e
 | _::_,[],e=>by simp only[qX] at e
attribute [go_sem] Bool.true_or Bool.false_or Bool.or_true Bool.or_false eq_self jY vh ox C9 Db Dc qF zO qP Dd De qX Value.int.injEq Value.bool.injEq Value.string.injEq
def QV:Obj->List Nat
 | .box cs=>ur cs
 | _=>[]
def K1 (σ:St):List Nat->List Nat
 | []=>[]
 | o::os=>QV (az σ.heap o)++K1 σ os
def nq (σ:St) (ids:List Nat):List Nat:=jy [] (ids++K1 σ ids)
section
variable {P:Program} {ds:List (Option Nat)} {Q:Exit->St->Prop} {σ σ':St} {l:List Oper} {dst:Option Nat} {ty:TypeId} {pos:String} {af:Array Edge} {g:Option (Nat×Bool)} {f:FuncId} {x:Operand} {xs:Array Operand} {ts:Array TypeId} {caps args:List D} {ret:D}
theorem ah.cJ (new:List Nat) {objs outs:List Obj} {ins:List Nat} (hx:bg σ x = .fn f caps) (hi:nq σ (ur (xs.toList.map (bg σ)++caps))=ins) (hc:aF P f objs args ret outs) (hargs:iy ins (xs.toList.map (bg σ)++caps)=some args) (sU:jQ σ (iy ins) ins=some objs)
  (h:jY ds g σ dst ins new false ret outs=some σ') (hn:ah P ds Q l σ'):ah P ds Q (⟨dst, .call { callee:= .value x,args:=xs,argTypes:=ts },ty,pos,af,g⟩::l) σ:=by
 obtain ⟨h1,h2,h3,h4,h5,h6,h7,h8,_⟩:=l9 h;exact ah.ve ins new h1 hx hc hargs sU h2 h3 h4 h5 h6 h7 h8 hn
end
attribute [go_sem] QV K1 nq
mutual
def EO (o:Nat) (bs:List D):D->D
 | .ref o' off=>if o'=o then .ro (bs.drop off) else .ref o' off
 | .jN o' k' i off=>if o'=o then .any else .jN o' k' i off
 | .mp o'=>if o'=o then .any else .mp o'
 | .cW o' k' off len=>if o'=o then .any else .cW o' k' off len
 | .agg cs=> .agg (MP o bs cs)
 | .cT cs=> .cT (MP o bs cs)
 | .fn f cs=> .fn f (MP o bs cs)
 | .any=> .any
 | .sc v=> .sc v
 | .sl k rows=> .sl k rows
 | .ro cs=> .ro cs
def MP (o:Nat) (bs:List D):List D->List D
 | []=>[]
 | d::ds=>EO o bs d::MP o bs ds
end
def Obj.bx (o:Nat) (bs:List D):Obj->Obj
 | .box cs=> .box (MP o bs cs)
 | x=>x
def He (o:Nat) (bs:List D):List (Nat×Obj)->List (Nat×Obj)
 | []=>[]
 | (q,x)::h=>(q,x.bx o bs)::He o bs h
def St.bx (σ:St) (o:Nat) (bs:List D):St:={ slots:=MP o bs σ.slots,heap:=aG (He o bs σ.heap) o .dead }
theorem Df {o:Nat} {bs:List D}:∀ {h:List (Nat×Obj)} {o':Nat},az (He o bs h) o'=(az h o').bx o bs
 | [],_=>by simp[He,az,Obj.bx]
 | (q,x)::h,o'=>by
   by_cases e:q=o'
   ·simp[He,az,e]
   ·simp[He,az,e,Df]
theorem Dg {o:Nat} {bs:List D}:∀ {h:List (Nat×Obj)} {o':Nat},ec (He o bs h) o'=ec h o'
 | [],_=>by simp[He,ec]
 | (q,x)::h,o'=>by simp[He,ec,Dg]
section
variable {w:World} {st:Nat->Prop} {ρ:Nat->Option (Option Nat)} {o:Nat} {bs:List D}
mutual
theorem R.bx (hr:∀ g,ρ o=some (some g)->st g/\∀ off,RC w st g off (bs.drop off)):∀ {d:D} {v:Value},R w st ρ d v->R w st ρ (EO o bs d) v
 | .any,_,_=>by simp[EO,R]
 | .sc _,_,hd=>by simpa[EO,R] using hd
 | .sl _ _,_,hd=>by simpa[EO,R] using hd
 | .ro _,_,hd=>by simpa[EO,R] using hd
 | .agg _,_,hd | .cT _,_,hd | .fn _ _,_,hd=>by
   simp only[EO,R] at hd ⊢;obtain ⟨vs,h1,h2⟩:=hd;exact ⟨vs,h1,RL.bx hr h2⟩
 | .ref o' off,_,hd=>by
   by_cases e:o'=o
   ·subst e;simp only[EO,jg,R] at hd ⊢;obtain ⟨g,h1,h2⟩:=hd;exact ⟨g,off,h2,(hr g h1).1,(hr g h1).2 off⟩
   ·simp only[EO,aE e];exact hd
 | .jN o' _ _ _,_,hd=>by
   by_cases e:o'=o
   ·simp[EO,e,R]
   ·simp only[EO,aE e];exact hd
 | .mp o',_,hd=>by
   by_cases e:o'=o
   ·simp[EO,e,R]
   ·simp only[EO,aE e];exact hd
 | .cW o' _ _ _,_,hd=>by
   by_cases e:o'=o
   ·simp[EO,e,R]
   ·simp only[EO,aE e];exact hd
theorem RL.bx (hr:∀ g,ρ o=some (some g)->st g/\∀ off,RC w st g off (bs.drop off)):∀ {ds:List D} {vs:List Value},RL w st ρ ds vs->RL w st ρ (MP o bs ds) vs
 | [],_,hd=>by simpa[MP,RL] using hd
 | _::_,_,hd=>by
   simp only[MP,RL] at hd ⊢;obtain ⟨v,vs',h1,h2,h3⟩:=hd;exact ⟨v,vs',h1,R.bx hr h2,RL.bx hr h3⟩
end
end
theorem Am {w:World} {st:Nat->Prop} {ρ:Nat->Option (Option Nat)} {g:Nat}:∀ {cs:List D} {vs:List Value} {off:Nat},jB cs=true->RL w st ρ cs vs->(∀ j v,vs[j]? = some v->w.cell? ⟨g,off+j,none⟩=some v/\v.oneCell'=true)->RC w st g off cs
 | [],_,_,_,_,_=>by simp[RC]
 | c::cs,vs,off,hc,h,hv=>by
   simp only[jB,jl] at hc;simp only[RL] at h;obtain ⟨v,vs',rfl,h2,h3⟩:=h;have h0:=hv 0 v rfl;simp only[RC];refine ⟨⟨v,h0.1,h0.2,rM hc.1 h2⟩,Am hc.2 h3 fun j u hj=>?_⟩;have:=hv (j+1) u (by simpa using hj);rw[show off+1+j=off+(j+1) by omega];exact this
def Fy:List D->Bool
 | []=>true
 | d::ds=>wL d&&qQ d&&Fy ds
theorem An:∀ {cs:List D},Fy cs=true->jB cs=true/\cs.all qQ=true
 | [],_=>⟨rfl,rfl⟩
 | d::ds,h=>by
   simp only[Fy,jl] at h;have:=An h.2;simp only[jB,List.all_cons,jl];exact ⟨⟨h.1.1,this.1⟩,h.1.2,this.2⟩
theorem cZ.Hf (σ:St) (o:Nat) (bs:List D) (hg:az σ.heap o = .box bs) (hok:Fy bs=true):cZ σ (σ.bx o bs):=by
 rintro w0 p a w ⟨ρ,h⟩;obtain ⟨V7,hone⟩:=An hok;have hh:ec σ.heap o=true:=cC (by rw[hg];simp)
 have kU:∀ o',az (σ.bx o bs).heap o'=if o'=o then .dead else (az σ.heap o').bx o bs:=by
  intro o';unfold St.bx;by_cases e:o'=o
  ·subst e;rw[bC rfl];exact aX (by rw[Dg];exact hh)
  ·rw[aE e,aM e,Df]
 have PA:∀ x:Obj,x.bx o bs≠ .dead↔x≠ .dead:=by intro x;cases x<;>simp[Obj.bx]
 have live:∀ o',az (σ.bx o bs).heap o'≠ .dead->o'≠o/\az σ.heap o'≠ .dead:=by
  intro o' ho';rw[kU] at ho';by_cases e:o'=o
  ·simp[e] at ho'
  ·rw[aE e,PA] at ho';exact ⟨e,ho'⟩
 have hst:∀ g,bO p σ.heap ρ w g->bO p (σ.bx o bs).heap ρ w g:=fun g hs=>⟨hs.1,hs.2.1,fun o' ho'=>hs.2.2 o' (live o' ho').2⟩
 have hro:=h.objs o;rw[hg] at hro;simp only[RO] at hro;obtain ⟨g0,cur,e',r1,r2,r3⟩:=hro
 have hr:∀ g,ρ o=some (some g)->bO p (σ.bx o bs).heap ρ w g/\∀ off,RC w (bO p (σ.bx o bs).heap ρ w) g off (bs.drop off):=by
  intro g e;have hlt:=(h.objs o).lt (by rw[hg];simp) e;rw[r1] at e;simp only[fF] at e;subst e;have Te:=rL hone r3
  have hrc:RC w (bO p (σ.bx o bs).heap ρ w) g0 0 bs:=by
   refine Am V7 (RL.mono (fun _ _ _=>rfl) (fun _ _ hs=>hs) hst r3) fun j v hj=>⟨?_,Te v (fS hj)⟩
   rw[kO,cell_of_row w g0 j cur e' (0,0) r2, <- nZ];exact hj
  refine ⟨⟨h.open_ g0 (h.fresh o g0 (by rw[hg];simp) (.inl r1)),hlt,fun o' ho' e2=>?_⟩,fun off=>?_⟩
  ·obtain ⟨n1,l1⟩:=live o' ho';exact n1 (h.inj o' o g0 l1 (by rw[hg];simp) e2 (.inl r1))
  ·have:=sL off hrc;rw[kO] at this;exact this
 refine ⟨ρ,h.open_,h.defers,RL.bx hr (RL.mono (fun _ _ _=>rfl) (fun _ _ hs=>hs) hst h.slots),fun o'=>?_,fun o1 o2 g h1 h2=>h.inj o1 o2 g (live o1 h1).2 (live o2 h2).2,fun o1 g h1=>h.fresh o1 g (live o1 h1).2,fun o1 g h1=>h.hlt o1 g (live o1 h1).2,h.below,h.kf⟩;rw[kU];by_cases e:o'=o
 ·simp[e,RO]
 ·rw[aE e];have h1:=RO.mono (fun _ _ _=>rfl) (fun _ _ hs=>hs) hst (fun _ _=>rfl) (h.objs o');cases hx:az σ.heap o' with
  | dead=>simp[RO,Obj.bx]
  | row k' eu=>rw[hx] at h1;exact h1
  | box cs=>
    rw[hx] at h1;simp only[RO,Obj.bx] at h1 ⊢;obtain ⟨g,cur,e',r1,r2,r3⟩:=h1;exact ⟨g,cur,e',r1,r2,RL.bx hr r3⟩
  | ext e'=>rw[hx] at h1;exact h1
section
variable {P:Program} {ds:List (Option Nat)} {Q:Exit->St->Prop} {σ σ':St} {l:List Oper}
theorem ah.bx (o:Nat) {bs:List D} (hg:az σ.heap o = .box bs) (hok:Fy bs=true) (he:σ.bx o bs=σ') (hn:ah P ds Q l σ'):ah P ds Q l σ:=
 fun all ha w0 p a w hr=>hn all ha w0 p a w (by subst he;exact cZ.Hf σ o bs hg hok w0 p a w hr)
theorem ay.bx {c:Code} (o:Nat) {bs:List D} (hg:az σ.heap o = .box bs) (hok:Fy bs=true) (he:σ.bx o bs=σ') (hn:ay P c Q σ'):ay P c Q σ:=by subst he;exact ay.imp (cZ.Hf σ o bs hg hok) hn
end
attribute [go_sem] EO MP Obj.bx He St.bx Fy
section
variable {P:Program} {ops:Array Oper} {Q Q':Exit->Act->World->Prop} {G G':World->Prop}
def p9 (P:Program) (ops:Array Oper) (G:World->Prop) (Q:Exit->Act->World->Prop):Nat->Array Bool->Act->World->Prop
 | 0,listed,a,w=>Region.ready .any ops listed=[]/\Q .normal a w
 | fuel+1,listed,a,w=>(Region.ready .any ops listed=[]->Q .normal a w)/\
   ∀ i∈Region.ready .any ops listed,wpOp P ops Q i (fun a' w'=>G w'/\p9 P ops G Q fuel (listed.setIfInBounds i true) a' w') a w
theorem vi:∀ (fuel:Nat) (listed:Array Bool) (a:Act) (w:World),p9 P ops G Q fuel listed a w->wpAny P .any ops Q fuel listed a w
 | 0,_,_,_,h=>h
 | fuel+1,listed,a,w,h=>⟨h.1,fun i hi=>wpOp_mono (fun a' w' h'=>vi fuel _ a' w' h'.2) (h.2 i hi)⟩
theorem Fz {i:Nat} {a:Act} {w:World} {K:Act->World->Prop} (hq:∀ e a w,Q e a w->Q' e a w) (h:wpOp P ops Q i K a w):wpOp P ops Q' i K a w:=by
 unfold wpOp at h ⊢
 split
 ·rename_i h0;simpa[h0] using h
 ·rename_i o ho;simp only[ho] at h
  split
  ·rename_i hw;rw[bC hw] at h;exact h.imp (fun h2=>Oper.Ai hq h2) (fun h2=>⟨h2.1,by obtain ⟨a,w,h3⟩:=h2.2;exact ⟨a,w,hq _ _ _ h3⟩⟩)
  ·rename_i hw;rw[aE hw] at h;exact h
theorem qa (hg:∀ w,G w->G' w) (hq:∀ e a w,Q e a w->Q' e a w):∀ (fuel:Nat) (listed:Array Bool) (a:Act) (w:World),p9 P ops G Q fuel listed a w->p9 P ops G' Q' fuel listed a w
 | 0,_,_,_,h=>⟨h.1,hq _ _ _ h.2⟩
 | fuel+1,listed,a,w,h=>⟨fun h0=>hq _ _ _ (h.1 h0),fun i hi=>Fz hq (wpOp_mono (fun a' w' h'=>⟨hg _ h'.1,qa hg hq fuel _ a' w' h'.2⟩) (h.2 i hi))⟩
def oy (P:Program) (ops:Array Oper) (G:World->Prop) (o:Oper) (v:Value) (a:Act):Prop:=
 (Region.wanted o (yielded ops a.tmps)=true/\∀ w,G w->(execOp a.eval o).run P w = .ok (.value v) w)\/(Region.wanted o (yielded ops a.tmps)=false/\v=undef)
theorem oy.wpOp {i:Nat} {o:Oper} {v:Value} {a:Act} (hi:ops[i]? = some o) (hy:oy P ops G o v a) {K:Act->World->Prop} {w:World} (hG:G w) (h:K (a.put o.dst v) w):wpOp P ops Q i K a w:=by
 unfold Go.wpOp;simp only[hi];rcases hy with ⟨h1,h2⟩|⟨h1,h2⟩
 ·rw[bC h1];left;unfold Oper.wp;rw[h2 w hG];exact h
 ·rw[aE (by rw[h1];simp), <- h2];exact h
theorem FA {j:Nat} {oj:Oper} {d:Option Tmp} {v:Value} {K:Act->World->Prop} {a:Act} {w:World} (Y:Act->Prop) (hj:ops[j]? = some oj) (hl:∀ x,d=some x->x∉oj.looksAt ops) (hd:∀ x,d=some x->oj.dst≠some x)
  (hsj:∀ cs b,oj.op≠ .select cs b) (hQ:∀ c a w,¬ Q (.panic c) a w) (hY:∀ u,Y (a.put oj.dst u)) (Zl:∀ dd u,Y (({ a with defers:=dd::a.defers }:Act).put oj.dst u))
  (h:wpOp P ops Q j K (a.put d v) w):wpOp P ops Q j (fun a' w'=>Y a'/\K (a'.put d v) w') a w:=by
 have Ao:∀ (b:Act) (u:Value),(b.put oj.dst u).put d v=(b.put d v).put oj.dst u:=by
  intro b u;cases QW:d with
  | none=>rfl
  | some x=>
    cases Zm:oj.dst with
    | none=>rfl
    | some y=>
      have hne:y≠x:=fun e=>hd x QW (by rw[Zm,e]);simp only[Act.put];rw[Array.setIfInBounds_comm _ _ hne]
 have hex:=execOp_put (ops:=ops) oj hsj a d v hl;unfold wpOp at h ⊢;simp only[hj,wanted_put oj a d v hl] at h ⊢
 split at h
 ·rename_i hw;rw[bC hw];refine h.imp (fun h=>?_) (fun h=>⟨by unfold Oper.asks at *;rw[hex] at h;exact h.1,h.2⟩);unfold Oper.wp at h ⊢;rw[hex] at h
  revert h
  generalize (execOp a.eval oj).run P w=r;intro h;cases r with
  | halt x w'=>cases x<;>simp only[Oper.upon] at h ⊢<;>first|exact h|exact absurd h (hQ _ _ _)
  | ok n w'=>
    cases n<;>simp only[Oper.upon] at h ⊢
    case value u=>exact ⟨hY u,by rw[Ao];exact h⟩
    case skip=>exact ⟨hY _,by rw[Ao];exact h⟩
    case defer dd=>exact ⟨Zl dd _,by rw[Ao, <- Act.put_defers];exact h⟩
    case enter f args=>
     refine Calls.mono h fun e w'' he=>?_;cases e with
     | returned u=>exact ⟨hY u,by rw[Ao];exact he⟩
     | panicked c=>exact absurd he (hQ _ _ _)
     | outgrown=>exact he
    case row row args=>exact Rows.mono h fun u w'' he=>⟨hY u,by rw[Ao];exact he⟩
 ·rename_i hw;rw[aE hw];exact ⟨hY _,by rw[Ao];exact h⟩
theorem iA {i:Nat} {oi:Oper} {v:Value} (hi:ops[i]? = some oi) (hsel:Region.noSelect ops=true) (hQ:∀ c a w,¬ Q (.panic c) a w):
  ∀ (fuel:Nat) (listed:Array Bool) (a:Act) (w:World),(∀ j oj,ops[j]? = some oj->j≠i->listed.getD j true=false->(∀ e∈oj.after,Region.binds .any e=true->e.on≠i)->oi.apart ops oj=true)->
    i∈Region.ready .any ops listed->oy P ops G oi v a->G w->p9 P ops G Q fuel (listed.setIfInBounds i true) (a.put oi.dst v) w->p9 P ops G Q (fuel+1) listed a w
 | 0,listed,a,w,_,hr,hy,hG,H=>by
   refine ⟨fun h=>(by rw[h] at hr;cases hr),fun j hj=>?_⟩;by_cases hji:j=i
   ·subst hji;exact hy.wpOp hi hG ⟨hG,H⟩
   ·have:=ready_mono hj hji;rw[H.1] at this;cases this
 | fuel+1,listed,a,w,hfree,hr,hy,hG,H=>by
   refine ⟨fun h=>(by rw[h] at hr;cases hr),fun j hj=>?_⟩;by_cases hji:j=i
   ·subst hji;exact hy.wpOp hi hG ⟨hG,H⟩
   have h1:=H.2 j (ready_mono hj hji);obtain ⟨hun,oj,Ni,hall⟩:=mem_ready.1 hj
   have hni:listed.getD i false=false:=by
    have h0:=(mem_ready.1 hr).1;rcases Pw i listed.size with h'|h'
    ·simp[h'] at h0 ⊢;exact h0
    ·simp[SI h']
   have hap:=hfree j oj Ni hji hun fun e he hb heq=>by
    have h2:=hall e he hb;rw[heq,hni] at h2;cases h2
   obtain ⟨a1,a2,a3⟩:=Oper.apart_spec hap;have hsi:=fun cs b=>Region.noSelect_spec hsel i oi cs b hi;have hsj:=fun cs b=>Region.noSelect_spec hsel j oj cs b Ni
   have hkeep:∀ (b:Act),oy P ops G oi v b->∀ u,oy P ops G oi v (b.put oj.dst u):=fun b hb u=>by
    unfold oy at hb ⊢;rw[execOp_put oi hsi b oj.dst u a3,wanted_put oi b oj.dst u a3];exact hb
   have h2:=FA (fun b=>oy P ops G oi v b) Ni a1 (fun x hx e=>a2 x hx e) hsj hQ (hkeep a hy) (fun dd u=>hkeep { a with defers:=dd::a.defers } hy u) h1;refine wpOp_mono (fun a' w' h3=>⟨h3.2.1,?_⟩) h2;refine iA hi hsel hQ fuel (listed.setIfInBounds j true) a' w' (fun k ok hk hki hu hno=>hfree k ok hk hki ?_ hno) (ready_mono hr (sF hji)) h3.1 h3.2.1 ?_
   ·by_cases hjk:j=k
    ·subst hjk;exact hun
    ·rw[getD_set_ne true hjk] at hu;exact hu
   ·rw[Array.setIfInBounds_comm _ _ hji];exact h3.2.2
end
theorem aU.QX {w0:World} {p:Pm} {σ:St} {a:Act} {w:World} {ρ:Nm} (h:aU w0 p σ a w ρ):aU w { p with own:=fun g=> ∃ o,az σ.heap o≠ .dead/\ow ρ o g } σ a w ρ where
 open_:=fun g hg=>by
  rcases hg with hg|⟨o,h1,h2⟩
  ·exact h.open_ g (.inl (J2 h.below.size hg))
  ·exact h.open_ g (h.fresh o g h1 h2)
 defers:=h.defers
 slots:=h.slots
 objs:=h.objs
 inj:=h.inj
 fresh:=fun o g h1 h2=> .inr ⟨o,h1,h2⟩
 hlt:=h.hlt
 below:=gK.refl _ _
 kf:=h.kf
theorem aU.QY {w0:World} {p:Pm} {σ σ':St} {a a':Act} {w w':World} {ρ:Nm} (h:aU w0 p σ a w ρ) (h':Rel w { p with own:=fun g=> ∃ o,az σ.heap o≠ .dead/\ow ρ o g } σ' a' w'):Rel w0 p σ' a' w':=by
 obtain ⟨ρ',r⟩:=h';refine ⟨ρ',h.open_,r.defers,r.slots,r.objs,r.inj,fun o g h1 h2=>?_,r.hlt,h.below.trans r.below fun g hg ⟨o,h1,h2⟩=>?_,r.kf⟩
 ·rcases r.fresh o g h1 h2 with h3|⟨o',h3,h4⟩
  ·exact .inl (J2 h.below.size h3)
  ·exact h.fresh o' g h3 h4
 ·rcases h.fresh o g h1 h2 with h3|h3
  ·omega
  ·exact h3
section
variable {P:Program} {σ:St}
theorem NG {t:TypeId} {x:Operand} {cs:List D} {d:D} (hx:bg σ x = .ro cs) (h:gS P σ (.load t x)=some d) {w0:World} {p:Pm} {a:Act} {w:World} {ρ:Nm} {o:Oper} (ho:o.op = .load t x) (hr:aU w0 p σ a w ρ):
  ∃ g v,bO p σ.heap ρ w g/\R w (bO p σ.heap ρ w) ρ d v/\∀ w',(∀ off,w'.cell? ⟨g,off,none⟩=w.cell? ⟨g,off,none⟩)->(execOp a.eval o).run P w' = .ok (.value v) w':=by
 simp only[gS,j4] at h;obtain ⟨ti,ht,cs',hcs,h⟩:=h;rw[hx] at hcs;simp only[fX,fF] at hcs;subst hcs
 split at h
 ·rename_i hl;have hX:=hr.bg x;rw[hx] at hX;simp only[R] at hX;obtain ⟨g,off,h1,h4,h5⟩:=hX;obtain ⟨vs,h2,h3⟩:=wq (ρ:=ρ) h5;have hlen:=dF h2;have lE:=mQ ti.size h2;refine ⟨g,?_⟩;unfold MK at h;by_cases hA:ti.kind.isAgg=true
  ·rw[bC hA] at h;simp only[fF] at h;subst h;have hlt:(vs.take ti.size).length=ti.size:=by rw[cw];omega
   refine ⟨.agg (vs.take ti.size).toArray,h4,?_,fun w' JJ=>?_⟩
   ·simp only[R];exact ⟨_,rfl,by simpa using lE⟩
   ·obtain ⟨_,hsz,_,_,EL⟩:=ej ht w'
    have hrun:=run_loadCells_list (P:=P) w' ⟨g,off,none⟩ (vs.take ti.size) (fun j v hj=>by
     rw[Addr.add_lit];rw[JG] at hj
     split at hj
     ·rw[JJ];exact h3 j v hj
     ·cases hj)
    rw[hlt] at hrun;simp[execOp,ho,Instr.loadAt,h1,Instr.sureAddr,loadVar,EL,hA,hsz,hrun]
  ·rw[aE hA] at h;have Ib:ti.kind.isAgg=false:=by simpa using hA
   match hcs:cs.take ti.size,h with
   | [c],hd=>
     simp only[fF] at hd;subst hd;rw[hcs] at lE;simp only[RL] at lE;obtain ⟨v,vs',e1,e2,e3⟩:=lE
     have hpos:0<ti.size:=by
      rcases SL ti.size with h0|h0
      ·rw[h0] at hcs;simp at hcs
      ·exact h0
     have hv:vs[0]? = some v:=by
      have:(vs.take ti.size)[0]? = some v:=by rw[e1];rfl
      rwa [EJ hpos] at this
     have hc:=h3 0 v hv;simp only[Nat.add_zero] at hc;refine ⟨v,h4,e2,fun w' JJ=>?_⟩;obtain ⟨_,hsz,_,_,EL⟩:=ej ht w';have Np:w'.cell? ⟨g,off,none⟩=some v:=by rw[JJ];exact hc
     simp[execOp,ho,Instr.loadAt,h1,Instr.sureAddr,loadVar,EL,Ib,Np]
 ·cases h
end
theorem Rel.below_ {w0:World} {p:Pm} {σ:St} {a:Act} {w:World} (h:Rel w0 p σ a w):gK p.own w0 w:=by obtain ⟨_,h⟩:=h;exact h.below
def fA (P:Program) (ops:Array Oper) (K:St->Prop) (fuel:Nat) (listed:Array Bool) (σ:St):Prop:=
 ∀ w0 p a w,Rel w0 p σ a w->p9 P ops (fun w'=>gK p.own w0 w') (fun e a' w'=>e = .normal/\∃ σ',K σ'/\Rel w0 p σ' a' w') fuel listed a w
section
variable {P:Program} {σ σ':St} {ops:Array Oper} {K:St->Prop} {fuel:Nat} {listed:Array Bool} {ds:List (Option Nat)}
theorem fA.done (hr:Region.ready .any ops listed=[]) (h:K σ):fA P ops K fuel listed σ:=by
 intro w0 p a w iY;cases fuel with
 | zero=>exact ⟨hr,rfl,σ,h,iY⟩
 | succ n=>exact ⟨fun _=>⟨rfl,σ,h,iY⟩,fun i hi=>by rw[hr] at hi;cases hi⟩
theorem fA.first (i:Nat) {dst:Option Nat} {op:Op} {ty:TypeId} {pos:String} {af:Array Edge} {g:Option (Nat×Bool)} (hi:ops[i]? = some ⟨dst,op,ty,pos,af,g⟩) (hd:ops.toList.map (·.dst)=ds) (ht:i4 ops listed i=true) (hop:zh P σ op=true) (h:fM P ds dst op g σ=some σ')
  (hn:fA P ops K fuel (listed.setIfInBounds i true) σ'):fA P ops K (fuel+1) listed σ:=by
 simp only[i4,jl] at ht;obtain ⟨⟨t1,t2⟩,t3⟩:=ht;rintro w0 p a w iY;have KR:=iY;simp only[fM,j4] at h;obtain ⟨b,hb,h⟩:=h;rw[<- bV hd ⟨dst,op,ty,pos,af,g⟩ σ] at hb;have hw:=aT hb iY;obtain ⟨ρ,hr⟩:=iY;have hQ:∀ (c:_) (a':Act) (w':World),¬ (Exit.panic c=Exit.normal/\∃ σ',K σ'/\Rel w0 p σ' a' w'):=fun c a' w' h=>by cases h.1
 cases b
 ·simp only[pT,jc,fF] at h;subst h;exact iA hi t1 hQ fuel listed a w (Region.free_spec hi t2) (by simpa using t3) (.inr ⟨hw,rfl⟩) hr.below (hn w0 p _ w ⟨ρ,hr.put dst (by simp[R])⟩)
 ·simp only[jg,kr] at h;obtain ⟨d,hd',rfl⟩:=h;obtain ⟨v,hv,hR⟩:=jx hd' w0 p a w ρ ⟨dst,op,ty,pos,af,g⟩ rfl hr;have hno:=(C4 hop hd' (o:=⟨dst,op,ty,pos,af,g⟩) rfl hr) w _ _ hv;exact iA hi t1 hQ fuel listed a w (Region.free_spec hi t2) (by simpa using t3) (.inl ⟨hw,fun w' _=>hno.2 w'⟩) hr.below (hn w0 p _ w ⟨ρ,hr.put dst hR⟩)
def FB:D->Bool
 | .ro _=>true
 | _=>false
theorem fA.ro (i:Nat) {dst:Option Nat} {t:TypeId} {x:Operand} {ty:TypeId} {pos:String} {af:Array Edge} {g:Option (Nat×Bool)} (hi:ops[i]? = some ⟨dst,.load t x,ty,pos,af,g⟩) (hd:ops.toList.map (·.dst)=ds) (ht:i4 ops listed i=true) (hx:FB (bg σ x)=true\/bq ds g σ=some false) (h:fM P ds dst (.load t x) g σ=some σ')
  (hn:fA P ops K fuel (listed.setIfInBounds i true) σ'):fA P ops K (fuel+1) listed σ:=by
 simp only[i4,jl] at ht;obtain ⟨⟨t1,t2⟩,t3⟩:=ht;rintro w0 p a w iY;have KR:=iY;simp only[fM,j4] at h;obtain ⟨b,Yl,h⟩:=h;have hb:=Yl;rw[<- bV hd ⟨dst, .load t x,ty,pos,af,g⟩ σ] at hb;have hw:=aT hb iY;obtain ⟨ρ,hr⟩:=iY;cases b
 ·simp only[pT,jc,fF] at h;subst h;exact iA hi t1 (fun c a' w' h=>by cases h.1) fuel listed a w (Region.free_spec hi t2) (by simpa using t3) (.inr ⟨hw,rfl⟩) hr.below (hn w0 p _ w ⟨ρ,hr.put dst (by simp[R])⟩)
 ·simp only[jg,kr] at h;obtain ⟨d,hd',rfl⟩:=h
  have hx':FB (bg σ x)=true:=by
   rcases hx with hx|hx
   ·exact hx
   ·rw[Yl] at hx;cases hx
  obtain ⟨cs,hcs⟩:∃ cs,bg σ x = .ro cs:=by
   cases hh:bg σ x<;>rw[hh] at hx'<;>simp[FB] at hx';exact ⟨_,rfl⟩
  obtain ⟨gg,v,s1,s2,s3⟩:=NG hcs hd' (o:=⟨dst, .load t x,ty,pos,af,g⟩) rfl hr;have hput:=hr.put dst s2;have KX:=hr.QX;have H:=hn w _ _ w ⟨ρ,KX.put dst s2⟩
  have hG:∀ w',gK (fun g=> ∃ o,az σ.heap o≠ .dead/\ow ρ o g) w w'->gK p.own w0 w':=fun w' hb'=>hr.below.trans hb' fun g hg ⟨o,h1,h2⟩=>by
   rcases hr.fresh o g h1 h2 with h3|h3
   ·omega
   ·exact h3
  refine qa hG ?_ _ _ _ _ (iA (G:=fun w'=>gK (fun g=> ∃ o,az σ.heap o≠ .dead/\ow ρ o g) w w') (v:=v) hi t1 (fun c a' w' h=>by cases h.1) fuel listed a w (Region.free_spec hi t2) (by simpa using t3) (.inl ⟨hw,fun w' hb'=>s3 w' fun off=>World.cell?_of_block (w:=w) (a:=⟨gg,off,none⟩) (hb'.block gg s1.2.1 fun ⟨o,h1,h2⟩=>s1.2.2 o h1 h2)⟩) (gK.refl _ _) H)
  ·rintro e a' w' ⟨h0,σ',h1,h2⟩;exact ⟨h0,σ',h1,hr.QY h2⟩
def PN (P:Program) (ops:Array Oper) (ds:List (Option Nat)) (K:St->Prop) (fuel:Nat) (listed:Array Bool) (σ:St) (i:Nat):Prop:=
 ∃ o,ops[i]? = some o/\ah P ds (fun e σ'=>e = .normal/\fA P ops K fuel (listed.setIfInBounds i true) σ') [o] σ
def lB (P:Program) (ops:Array Oper) (ds:List (Option Nat)) (K:St->Prop) (fuel:Nat) (listed:Array Bool) (σ:St):List Nat->Prop
 | []=>True
 | i::l=>PN P ops ds K fuel listed σ i/\lB P ops ds K fuel listed σ l
theorem lB.all:∀ {l:List Nat},lB P ops ds K fuel listed σ l->∀ i∈l,PN P ops ds K fuel listed σ i
 | _::l,h,i,hi=>by
   rcases lp.1 hi with rfl|hi
   ·exact h.1
   ·exact h.2.all i hi
theorem fA.all (rs:List Nat) (hr:Region.ready .any ops listed=rs) (hne:rs≠[]) (hd:ops.toList.map (·.dst)=ds) (h:lB P ops ds K fuel listed σ rs):fA P ops K (fuel+1) listed σ:=by
 intro w0 p a w iY;refine ⟨fun h0=>absurd (hr▸h0) hne,fun i hi=>?_⟩;rw[hr] at hi;obtain ⟨o,ho,ht⟩:=h.all i hi;have hl:=ht ops hd w0 p a w iY;unfold wpOp;simp only[ho];simp only[wpList] at hl
 split
 ·rename_i hw;rw[bC hw] at hl;rcases hl with hl|⟨h1,h2⟩
  ·left;unfold Oper.wp at hl ⊢;generalize (execOp a.eval o).run P w=r at *;cases r with
   | ok n w'=>
     cases n<;>simp only[Oper.upon] at hl ⊢<;>first
      | (obtain ⟨σ',⟨_,h3⟩,h4⟩:=hl;exact ⟨h4.below_,h3 _ _ _ _ h4⟩)
      | exact Calls.mono hl (fun e w'' he=>by
        cases e with
        | returned v=>obtain ⟨σ',⟨_,h3⟩,h4⟩:=he;exact ⟨h4.below_,h3 _ _ _ _ h4⟩
        | panicked c=>obtain ⟨σ',⟨h3,_⟩,_⟩:=he;cases h3
        | outgrown=>obtain ⟨_,_,σ',⟨h3,_⟩,_⟩:=he;cases h3)
      | exact Rows.mono hl (fun v w'' he=>by obtain ⟨σ',⟨_,h3⟩,h4⟩:=he;exact ⟨h4.below_,h3 _ _ _ _ h4⟩)
      | exact hl
   | halt x w'=>cases x<;>simp only[Oper.upon] at hl ⊢<;>first|exact hl|(obtain ⟨σ',⟨h3,_⟩,_⟩:=hl;cases h3)
  ·obtain ⟨_,_,σ',⟨h3,_⟩,_⟩:=h2;cases h3
 ·rename_i hw;rw[aE hw] at hl;obtain ⟨σ',⟨_,h3⟩,h4⟩:=hl;exact ⟨h4.below_,h3 _ _ _ _ h4⟩
theorem lB.nil:lB P ops ds K fuel listed σ []:=trivial
theorem lB.cons {i:Nat} {rs:List Nat} {o:Oper} (ho:ops[i]? = some o) (h:ah P ds (fun e σ'=>e = .normal/\fA P ops K fuel (listed.setIfInBounds i true) σ') [o] σ) (hn:lB P ops ds K fuel listed σ rs):lB P ops ds K fuel listed σ (i::rs):=⟨⟨o,ho,h⟩,hn⟩
theorem ay.QZ (id:Nat) {l:List Oper} {Q:Exit->St->Prop} (hm:P.follows .mixedOrders=true) (n:Nat) (hl:l.length=n) (h:fA P l.toArray (Q .normal) n (Array.replicate n false) σ):ay P (.region id l.toArray true) Q σ:=by
 rintro w0 p a w ⟨ρ,hr⟩;refine wp_region_any hm ?_;subst hl;refine p7 ?_ _ _ _ _ (vi _ _ _ _ (h w0 p a _ ⟨ρ,hr.drew⟩));rintro e a' w' ⟨rfl,h2⟩;exact h2
end
attribute [go_sem] FB
theorem Ym:type_of% (And.intro @Int.fdiv_eq_ediv_of_nonneg (And.intro @C0 (And.intro @C1 (And.intro @IntWalk.i64_in (And.intro @IntWalk.u8_in (And.intro @IntWalk.u64_in (And.intro @IntWalk.i32_in (And.intro @IntWalk.u32_in (And.intro @bC.{1} (And.intro @aE.{1} (And.intro @GQ @HW))))))))))):=And.intro @Int.fdiv_eq_ediv_of_nonneg (And.intro @C0 (And.intro @C1 (And.intro @IntWalk.i64_in (And.intro @IntWalk.u8_in (And.intro @IntWalk.u64_in (And.intro @IntWalk.i32_in (And.intro @IntWalk.u32_in (And.intro @bC.{1} (And.intro @aE.{1} (And.intro @GQ @HW))))))))))
theorem BL {x y:D} (hx:nW x y):∀ {s s':List D} (t:Nat),j3 s s'->j3 (s.set t x) (s'.set t y)
 | _,_,_, .nil=> .nil
 | _,_,0, .cons h1 h2=> .cons hx h2
 | _,_,t+1, .cons h1 h2=> .cons h1 (BL hx t h2)
section
variable {P:Program} {ds:List (Option Nat)} {Q:Exit->St->Prop} {σ σ':St} {l:List Oper} {op:Op} {ty ty':TypeId} {pos pos':String} {af NH:Array Edge} {i t1 t2 t3:Nat} {b b':Bool}
theorem rQ {w:Bool} (hs:kZ ds (some (i,w))=some t1) (hb:bg σ (.tmp t1) = .sc (.bool b)):bq ds (some (i,w)) σ=some (b==w):=by
 simp only[kZ] at hs;simp only[bg] at hb;simp only[bq,hs,Option.bind_some,hb,gB]
theorem kG {d:D} (h:t1≠t2):bg (σ.put (some t2) d) (.tmp t1)=bg σ (.tmp t1):=by
 simp[bg,St.put,VM,ua (sF h)]
theorem rR {d:D} (h:t2<σ.slots.length):bg (σ.put (some t2) d) (.tmp t2)=d:=by
 simp[bg,St.put,VM,h]
theorem FC {d x:D}:cZ ((σ.put (some t2) d).put (some t3) x) ((σ.put (some t2) .any).put (some t3) x):=cZ.le (BL (nW.refl _) t3 (BL (nW.any _) t2 (j3.refl _))) (wZ.refl _)
theorem xd:bg σ (.const (.bool true)) = .sc (.bool true):=rfl
theorem ux:bg σ (.const (.bool false)) = .sc (.bool false):=rfl
theorem ah.Yn (hs:kZ ds (some (i,false))=some t1) (hb:bg σ (.tmp t1) = .sc (.bool b)) (hne:t1≠t2) (hlt:t2<σ.slots.length) (he:p5 op=false) (ho:gS P σ op=some (.sc (.bool b')))
  (hx:(σ.put (some t2) .any).put (some t3) (.sc (.bool (b||b')))=σ') (hn:ah P ds Q l σ'):ah P ds Q (⟨some t2,op,ty,pos,af,some (i,false)⟩::⟨some t3, .pick (.tmp t1) (.const (.bool true)) (.tmp t2),ty',pos',NH,none⟩::l) σ:=by
 subst hx;have hg:=rQ (w:=false) hs hb;cases b
 ·refine ah.step (σ':=σ.put (some t2) (.sc (.bool b'))) (by simp[nk,hg,he,ho]) (ah.step (σ':=(σ.put (some t2) (.sc (.bool b'))).put (some t3) (.sc (.bool b'))) ?_ (ah.imp FC (by simpa using hn)));simp[nk,bq,p5,gS,kG hne,hb,rR hlt]
 ·refine ah.step (σ':=σ.put (some t2) (.sc undef)) (by simp[nk,hg]) (ah.step (σ':=(σ.put (some t2) (.sc undef)).put (some t3) (.sc (.bool true))) ?_ (ah.imp FC (by simpa using hn)));simp[nk,bq,p5,gS,kG hne,hb,xd,ux]
variable {ops:Array Oper} {K:St->Prop} {fuel:Nat} {listed:Array Bool}
theorem fA.imp (h:cZ σ σ') (hn:fA P ops K fuel listed σ'):fA P ops K fuel listed σ:=fun w0 p a w hr=>hn w0 p a w (h w0 p a w hr)
theorem fA.Yn (n m:Nat) (hi:ops[n]? = some ⟨some t2,op,ty,pos,af,some (i,false)⟩) (hj:ops[m]? = some ⟨some t3, .pick (.tmp t1) (.const (.bool true)) (.tmp t2),ty',pos',NH,none⟩) (hd:ops.toList.map (·.dst)=ds)
  (ht:i4 ops listed n=true) (ht':i4 ops (listed.setIfInBounds n true) m=true) (hop:zh P σ op=true) (hs:kZ ds (some (i,false))=some t1) (hb:bg σ (.tmp t1) = .sc (.bool b)) (hne:t1≠t2) (hlt:t2<σ.slots.length) (ho:gS P σ op=some (.sc (.bool b')))
  (hx:(σ.put (some t2) .any).put (some t3) (.sc (.bool (b||b')))=σ') (hn:fA P ops K fuel ((listed.setIfInBounds n true).setIfInBounds m true) σ'):fA P ops K (fuel+1+1) listed σ:=by
 subst hx;have hg:=rQ (w:=false) hs hb;cases b
 ·refine fA.first (σ':=σ.put (some t2) (.sc (.bool b'))) n hi hd ht hop (by simp[fM,hg,ho]) (fA.first (σ':=(σ.put (some t2) (.sc (.bool b'))).put (some t3) (.sc (.bool b'))) m hj hd ht' rfl ?_ (fA.imp FC (by simpa using hn)))
  simp[fM,bq,gS,kG hne,hb,rR hlt]
 ·refine fA.first (σ':=σ.put (some t2) (.sc undef)) n hi hd ht hop (by simp[fM,hg]) (fA.first (σ':=(σ.put (some t2) (.sc undef)).put (some t3) (.sc (.bool true))) m hj hd ht' rfl ?_ (fA.imp FC (by simpa using hn)))
  simp[fM,bq,gS,kG hne,hb,xd,ux]
theorem fA.V8 (n m:Nat) {t:TypeId} {x:Operand} (hi:ops[n]? = some ⟨some t2, .load t x,ty,pos,af,some (i,false)⟩) (hj:ops[m]? = some ⟨some t3, .pick (.tmp t1) (.const (.bool true)) (.tmp t2),ty',pos',NH,none⟩) (hd:ops.toList.map (·.dst)=ds)
  (ht:i4 ops listed n=true) (ht':i4 ops (listed.setIfInBounds n true) m=true) (hro:FB (bg σ x)=true) (hs:kZ ds (some (i,false))=some t1) (hb:bg σ (.tmp t1) = .sc (.bool b)) (hne:t1≠t2) (hlt:t2<σ.slots.length) (ho:gS P σ (.load t x)=some (.sc (.bool b')))
  (hx:(σ.put (some t2) .any).put (some t3) (.sc (.bool (b||b')))=σ') (hn:fA P ops K fuel ((listed.setIfInBounds n true).setIfInBounds m true) σ'):fA P ops K (fuel+1+1) listed σ:=by
 subst hx;have hg:=rQ (w:=false) hs hb;cases b
 ·refine fA.ro (σ':=σ.put (some t2) (.sc (.bool b'))) n hi hd ht (.inl hro) (by simp[fM,hg,ho]) (fA.first (σ':=(σ.put (some t2) (.sc (.bool b'))).put (some t3) (.sc (.bool b'))) m hj hd ht' rfl ?_ (fA.imp FC (by simpa using hn)));simp[fM,bq,gS,kG hne,hb,rR hlt]
 ·refine fA.ro (σ':=σ.put (some t2) (.sc undef)) n hi hd ht (.inl hro) (by simp[fM,hg]) (fA.first (σ':=(σ.put (some t2) (.sc undef)).put (some t3) (.sc (.bool true))) m hj hd ht' rfl ?_ (fA.imp FC (by simpa using hn)));simp[fM,bq,gS,kG hne,hb,xd,ux]
def zj (ops:Array Oper):List (Option Nat):=ops.toList.map (·.dst)
theorem Dh {j:Nat}:(zj ops)[j]? = (ops[j]?).map (·.dst):=by simp[zj]
attribute [go_sem] Dh List.getElem?_toArray Option.map_some
end
inductive Pl
 | d
 | f (i:Nat) (p:Pl)
 | r (i:Nat) (p:Pl)
 | o (i j:Nat) (p:Pl)
 | q (i j:Nat) (p:Pl)
 | a (p:Pl)
 | b (i:Nat) (p s:Pl)
 | e
def Pl.heads:Pl->List Nat
 | .b i _ s=>i::s.heads
 | _=>[]
def Pl.ok (ops:Array Oper):Pl->Array Bool->Bool
 | .d,ls=>(Region.ready .any ops ls).isEmpty
 | .f i p,ls=>i4 ops ls i&&p.ok ops (ls.setIfInBounds i true)
 | .r i p,ls=>i4 ops ls i&&p.ok ops (ls.setIfInBounds i true)
 | .o i j p,ls=>i4 ops ls i&&(i4 ops (ls.setIfInBounds i true) j&&p.ok ops ((ls.setIfInBounds i true).setIfInBounds j true))
 | .q i j p,ls=>i4 ops ls i&&(i4 ops (ls.setIfInBounds i true) j&&p.ok ops ((ls.setIfInBounds i true).setIfInBounds j true))
 | .a p,ls=>Region.ready .any ops ls==p.heads&&(!p.heads.isEmpty&&p.ok ops ls)
 | .b i p s,ls=>p.ok ops (ls.setIfInBounds i true)&&s.ok ops ls
 | .e,_=>true
section
variable {P:Program} {ds:List (Option Nat)} {Q:Exit->St->Prop} {σ σ':St} {op:Op} {ty ty':TypeId} {pos pos':String} {af NH:Array Edge} {i j t1 t2 t3:Nat} {b b':Bool} {ops:Array Oper} {K:St->Prop} {fuel:Nat} {listed:Array Bool} {p s:Pl} {dst:Option Nat} {g:Option (Nat×Bool)} {t:TypeId} {x:Operand}
def aJ (P:Program) (ops:Array Oper) (K:St->Prop) (pl:Pl) (fuel:Nat) (listed:Array Bool) (σ:St):Prop:=pl.ok ops listed=true->fA P ops K fuel listed σ
def aI (P:Program) (ops:Array Oper) (ds:List (Option Nat)) (K:St->Prop) (pl:Pl) (fuel:Nat) (listed:Array Bool) (σ:St):Prop:=pl.ok ops listed=true->lB P ops ds K fuel listed σ pl.heads
theorem cA (h:aJ P ops K p fuel listed σ):aJ P ops K p fuel listed σ:=h
theorem aJ.F (hi:ops[i]? = some ⟨dst,op,ty,pos,af,g⟩) (hop:zh P σ op=true) (h:fM P (zj ops) dst op g σ=some σ') (hn:aJ P ops K p fuel (listed.setIfInBounds i true) σ'):aJ P ops K (.f i p) (fuel+1) listed σ:=fun hk=>by
 simp only[Pl.ok,jl] at hk;exact fA.first i hi rfl hk.1 hop h (hn hk.2)
theorem aJ.R (hi:ops[i]? = some ⟨dst,.load t x,ty,pos,af,g⟩) (hx:FB (bg σ x)=true\/bq (zj ops) g σ=some false) (h:fM P (zj ops) dst (.load t x) g σ=some σ') (hn:aJ P ops K p fuel (listed.setIfInBounds i true) σ'):aJ P ops K (.r i p) (fuel+1) listed σ:=fun hk=>by
 simp only[Pl.ok,jl] at hk;exact fA.ro i hi rfl hk.1 hx h (hn hk.2)
theorem aJ.O {u:Nat} (hi:ops[i]? = some ⟨some t2,op,ty,pos,af,some (u,false)⟩) (hj:ops[j]? = some ⟨some t3,.pick (.tmp t1) (.const (.bool true)) (.tmp t2),ty',pos',NH,none⟩) (hop:zh P σ op=true) (hs:kZ (zj ops) (some (u,false))=some t1) (hb:bg σ (.tmp t1) = .sc (.bool b)) (hne:t1≠t2) (hlt:t2<σ.slots.length) (ho:gS P σ op=some (.sc (.bool b')))
  (hx:(σ.put (some t2) .any).put (some t3) (.sc (.bool (b||b')))=σ') (hn:aJ P ops K p fuel ((listed.setIfInBounds i true).setIfInBounds j true) σ'):aJ P ops K (.o i j p) (fuel+1+1) listed σ:=fun hk=>by
 simp only[Pl.ok,jl] at hk;exact fA.Yn i j hi hj rfl hk.1 hk.2.1 hop hs hb hne hlt ho hx (hn hk.2.2)
theorem aJ.Or {u:Nat} (hi:ops[i]? = some ⟨some t2,.load t x,ty,pos,af,some (u,false)⟩) (hj:ops[j]? = some ⟨some t3,.pick (.tmp t1) (.const (.bool true)) (.tmp t2),ty',pos',NH,none⟩) (hro:FB (bg σ x)=true) (hs:kZ (zj ops) (some (u,false))=some t1) (hb:bg σ (.tmp t1) = .sc (.bool b)) (hne:t1≠t2) (hlt:t2<σ.slots.length) (ho:gS P σ (.load t x)=some (.sc (.bool b')))
  (hx:(σ.put (some t2) .any).put (some t3) (.sc (.bool (b||b')))=σ') (hn:aJ P ops K p fuel ((listed.setIfInBounds i true).setIfInBounds j true) σ'):aJ P ops K (.q i j p) (fuel+1+1) listed σ:=fun hk=>by
 simp only[Pl.ok,jl] at hk;exact fA.V8 i j hi hj rfl hk.1 hk.2.1 hro hs hb hne hlt ho hx (hn hk.2.2)
theorem aJ.A (h:aI P ops (zj ops) K p fuel listed σ):aJ P ops K (.a p) (fuel+1) listed σ:=fun hk=>by
 simp only[Pl.ok,jl,nX,Pt,List.isEmpty_eq_false_iff] at hk;exact fA.all p.heads hk.1 hk.2.1 rfl (h hk.2.2)
theorem aJ.D (h:K σ):aJ P ops K .d fuel listed σ:=fun hk=>fA.done (by simpa only[Pl.ok,List.isEmpty_iff] using hk) h
theorem aI.E:aI P ops ds K .e fuel listed σ:=fun _=>lB.nil
theorem aI.B {o:Oper} (ho:ops[i]? = some o) (h:ah P ds (fun e σ'=>e = .normal/\aJ P ops K p fuel (listed.setIfInBounds i true) σ') [o] σ) (hn:aI P ops ds K s fuel listed σ):aI P ops ds K (.b i p s) fuel listed σ:=fun hk=>by
 simp only[Pl.ok,jl] at hk;refine lB.cons ho ?_ (hn hk.2)
 have e:(fun (e:Exit) (σ':St)=>e = .normal/\aJ P ops K p fuel (listed.setIfInBounds i true) σ')=(fun e σ'=>e = .normal/\fA P ops K fuel (listed.setIfInBounds i true) σ'):=by
  funext e σ'
  simp only[aJ,hk.1,true_implies]
 rw[e] at h;exact h
theorem ah.Q0 (h:aJ P ops K p fuel listed σ):ah P ds (fun e σ'=>e = .normal/\aJ P ops K p fuel listed σ') [] σ:=ah.nil ⟨rfl,h⟩
theorem ay.bU (id:Nat) {l:List Oper} {Q:Exit->St->Prop} (hm:P.follows .mixedOrders=true) (n:Nat) (hl:l.length=n) (pl:Pl) (hk:pl.ok l.toArray (Array.replicate n false)=true) (h:aJ P l.toArray (Q .normal) pl n (Array.replicate n false) σ):ay P (.region id l.toArray true) Q σ:=
 ay.QZ id hm n hl (h hk)
end
attribute [irreducible] aJ aI
def Cv (c p:Prop):Prop:=c->p
theorem cL {c p:Prop} (h:Cv c p):c->p:=h
theorem cB {c p:Prop} (h:c->p):Cv c p:=h
theorem fH:type_of% (And.intro @pP (And.intro @Pk (And.intro @jl (And.intro @vN (And.intro @Bool.and_eq_false_iff (And.intro @MC (And.intro @Pt (And.intro @Bool.not_eq_false' (And.intro @Bool.not_eq_eq_eq_not (And.intro @Bool.not_true (And.intro @Bool.not_false (And.intro @nX.{0} (And.intro @bne_iff_ne.{0} (And.intro @y8.{0} (And.intro @bne_eq_false_iff_eq.{0} (And.intro @Int.not_lt (And.intro @Int.not_le @Decidable.not_not))))))))))))))))):=And.intro @pP (And.intro @Pk (And.intro @jl (And.intro @vN (And.intro @Bool.and_eq_false_iff (And.intro @MC (And.intro @Pt (And.intro @Bool.not_eq_false' (And.intro @Bool.not_eq_eq_eq_not (And.intro @Bool.not_true (And.intro @Bool.not_false (And.intro @nX.{0} (And.intro @bne_iff_ne.{0} (And.intro @y8.{0} (And.intro @bne_eq_false_iff_eq.{0} (And.intro @Int.not_lt (And.intro @Int.not_le @Decidable.not_not))))))))))))))))
def PO:Exit->Bool
 | .normal=>true
 | .ret=>true
 | _=>false
theorem aC.q {P:Program} {fn:Func} {ins new:List Nat} {ret d d':D} {xs outs:List Obj} {e:Exit} {σ:St} (he:PO e=true) (hd:iq P σ fn.results.toList=some d) (hn:jy ins (BF d)=new) (qU:(ins++new).Nodup)
  (hr:uj (ins++new) d=some d') (ho:lZ (ins++new) σ.heap (ins++new)=some xs) (hl:(ins++new).length=outs.length) (h:zO d' ret/\qX xs outs):aC P fn ins ret outs e σ:=
 aC.auto (by cases e<;>simp_all[PO]) hd hn qU hr (p8 h.1) ho hl (mc h.2)
section
variable {P:Program} {ds:List (Option Nat)} {Q:Exit->St->Prop} {Qv:St->Prop} {σ σ':St} {l:List Oper} {dst:Option Nat} {ty:TypeId} {pos:String} {af:Array Edge} {g:Option (Nat×Bool)} {f:FuncId} {x:Operand} {xs:Array Operand} {ts:Array TypeId} {caps args:List D} {ret:D} {K:St->Prop} {sn:Bool}
def bN (P:Program) (ds:List (Option Nat)) (g:Option (Nat×Bool)) (σ:St) (dst:Option Nat) (f:FuncId) (args:List D) (sn:Bool) (K:St->Prop):Prop:=
 ∃ new ret outs σ',ak P f args ret outs/\jY ds g σ dst [] new sn ret outs=some σ'/\K σ'
theorem bN.c (new:List Nat) {outs:List Obj} (hc:ak P f args ret outs) (h:jY ds g σ dst [] new sn ret outs=some σ') (hn:K σ'):bN P ds g σ dst f args sn K:=⟨new,ret,outs,σ',hc,h,hn⟩
theorem ah.dE (hx:bg σ x = .fn f caps) (hargs:iy [] (xs.toList.map (bg σ)++caps)=some args) (h:bN P ds g σ dst f args false (fun σ'=>ah P ds Q l σ')):ah P ds Q (⟨dst, .call { callee:= .value x,args:=xs,argTypes:=ts },ty,pos,af,g⟩::l) σ:=by
 obtain ⟨new,ret,outs,σ',h1,h2,h3⟩:=h;exact ah.cE new hx h1 hargs h2 h3
theorem ah.dS (hx:bg σ x = .fn f caps) (hargs:fZ (ef σ [] 4) (xs.toList.map (bg σ)++caps)=some args) (h:bN P ds g σ dst f args true (fun σ'=>ah P ds Q l σ')):ah P ds Q (⟨dst, .call { callee:= .value x,args:=xs,argTypes:=ts },ty,pos,af,g⟩::l) σ:=by
 obtain ⟨new,ret,outs,σ',h1,h2,h3⟩:=h;exact ah.cS new hx h1 hargs h2 h3
def iO (P:Program) (ds:List (Option Nat)) (g:Option (Nat×Bool)) (σ:St) (dst:Option Nat) (f:FuncId) (args:List D) (sn:Bool) (K:St->Prop):Prop:=
 ∃ ret σ',ak P f args ret []/\vh ds g σ dst sn ret=some σ'/\K σ'
theorem iO.c (hc:ak P f args ret []) (h:vh ds g σ dst sn ret=some σ') (hn:K σ'):iO P ds g σ dst f args sn K:=⟨ret,σ',hc,h,hn⟩
theorem bz.dE (hx:bg σ x = .fn f caps) (hargs:iy [] (xs.toList.map (bg σ)++caps)=some args) (h:iO P ds g σ dst f args false (fun σ'=>bz P ds Qv l σ')):bz P ds Qv (⟨dst, .call { callee:= .value x,args:=xs,argTypes:=ts },ty,pos,af,g⟩::l) σ:=by
 obtain ⟨ret,σ',h1,h2,h3⟩:=h;exact bz.cE hx h1 hargs h2 h3
theorem bz.dS (hx:bg σ x = .fn f caps) (hargs:fZ (ef σ [] 4) (xs.toList.map (bg σ)++caps)=some args) (h:iO P ds g σ dst f args true (fun σ'=>bz P ds Qv l σ')):bz P ds Qv (⟨dst, .call { callee:= .value x,args:=xs,argTypes:=ts },ty,pos,af,g⟩::l) σ:=by
 obtain ⟨ret,σ',h1,h2,h3⟩:=h;exact bz.cS hx h1 hargs h2 h3
end
attribute [irreducible] bN iO
end Go.fe
namespace Go.fe
open Go.RowKit Go.Sort
section
variable {α:Type} {enc:α->Value} {P:Program} {f:FuncId}
theorem FD {w:World} {st:Nat->Prop} {g:Nat} (h1:∀ z,(enc z).oneCell'=true):∀ {l:List α} {off:Nat},(∀ j z,l[j]? = some z->w.cell? ⟨g,off+j,none⟩=some (enc z))->RR w st 1 g off (l.map fun z=>[.sc (enc z)])
 | [],_,_=>by simp[RR]
 | z::l,off,h=>by
   simp only[fk,RR,RC,R,List.length_cons,List.length_nil,and_true,true_and];refine ⟨⟨enc z,?_,h1 z,rfl⟩,FD h1 fun j y hj=>?_⟩
   ·have:=h 0 z rfl;simpa using this
   ·have:=h (j+1) y (by simpa using hj);rw[show off+1+j=off+(j+1) by omega];exact this
theorem K2 {w:World} {st:Nat->Prop} {g:Nat} {l:List α} {j:Nat} {z:α} (h:RR w st 1 g 0 (l.map fun z=>[.sc (enc z)])) (hj:l[j]? = some z):w.cell? ⟨g,j,none⟩=some (enc z):=by
 have h2:=(uc h (i:=j) (r:=[.sc (enc z)]) (by simp[hj])).2;simp only[RC,R,kO,J3,and_true] at h2;obtain ⟨v,e1,_,e2⟩:=h2;rw[e1,e2]
variable [Inhabited α]
theorem lK {d:List α} {c:Array Value} {j:Nat}:(putCells enc 0 d.toArray c)[j]? = (c[j]?).map fun x=>if j<d.length then enc ((d[j]?).getD default) else x:=by
 simp only[putCells,Array.getElem?_mapIdx,ek,true_and,kO,Nat.sub_zero,zS]
 congr 1
 funext x
 split
 ·rename_i h;simp[h]
 ·rfl
theorem FE (yR:List α->List α) (hlen:∀ l,(yR l).length=l.length) (h1:∀ z,(enc z).oneCell'=true) (rS:∀ xs w,(callFunc f xs).run P w = .ok (.enter f xs) w)
  (hc:∀ (blk cap:Nat) (zs:List α) (w:World),Holds enc w blk 0 zs.toArray->blk<w.heap.size->zs.length<4611686018427387904->Calls P f #[.slice (some ⟨blk,0,none⟩) zs.length cap] w fun e w'=>e = .returned (.tuple #[])/\∃ n os,w'=grow (putRow enc (Sort.ahead w n) blk 0 (yR zs).toArray) os)
  {zs:List α} (hne:zs≠[]) (hsz:zs.length<=1000000):aF P f [.row 1 (zs.map fun z=>[.sc (enc z)])] [.cW 0 1 0 zs.length] (.cT []) [.row 1 ((yR zs).map fun z=>[.sc (enc z)])]:=by
 refine ⟨rS,fun w st ρ vs hst hin hargs=>?_⟩;have hpos:0<zs.length:=List.length_pos_iff.2 hne;simp only[RL,R] at hargs;obtain ⟨v,vs',rfl,hv,rfl⟩:=hargs;rcases hv with ⟨_,_,h0,_⟩|⟨g,cap,A,hρ,hsh,hle,hcap,rfl,hA⟩
 ·omega
 have hro:=hin.objs 0;simp only[Pp,RO,hρ] at hro;obtain ⟨cur,e,cap',r1,r2,r3,r4,r5⟩:=hro;have Ib:=hA (by omega);simp only[MG] at Ib;subst Ib;have hg:g<w.heap.size:=(zQ.1 r1).1
 have hH:Holds enc w g 0 zs.toArray:=by
  intro j hj;have hj':j<zs.length:=by simpa using hj
  have hz:zs[j]? = some zs[j]:=rJ hj';refine ⟨?_,?_⟩
  ·rw[kO,K2 r5 hz];simp[hj']
  ·simp[World.frozen?,r1]
 refine Calls.mono (hc g _ zs w hH hg (by omega)) ?_;rintro ex w' ⟨rfl,n,os,rfl⟩
 have hcell:∀ k,(grow (putRow enc (Sort.ahead w n) g 0 (yR zs).toArray) os).heap[k]? = if k<w.heap.size then (if g=k then some (.cells (putCells enc 0 (yR zs).toArray cur) e (0,0)) else w.heap[k]?) else (os[k-w.heap.size]?):=by
  intro k;simp only[grow,Array.getElem?_append,size_putRow,Sort.ahead]
  split
  ·simp only[putRow,mapBlock,Vm]
   split
   ·rename_i e1;subst e1;simp[r1,onCells]
   ·rfl
  ·rfl
 have JJ:(grow (putRow enc (Sort.ahead w n) g 0 (yR zs).toArray) os).heap[g]? = some (.cells (putCells enc 0 (yR zs).toArray cur) e (0,0)):=by rw[hcell,bC hg,bC rfl]
 have hsize:w.heap.size<=(grow (putRow enc (Sort.ahead w n) g 0 (yR zs).toArray) os).heap.size:=by
  simp only[grow,Array.size_append,size_putRow,Sort.ahead];omega
 have hcs:(putCells enc 0 (yR zs).toArray cur).size=cur.size:=by simp[putCells]
 refine ⟨.tuple #[],rfl,ρ,?_,fun _ _=>rfl,?_,fun j=>?_,fun j g' hj hg'=>?_,fun j j' g' hj hj' e1 e2=>?_,fun j g' hj hh=>?_⟩
 ·refine ⟨rfl,rfl,rfl,hsize,fun k hk hn=>?_,fun g' m hs=>?_⟩
  ·rw[hcell,bC hk,aE];rintro rfl;exact hn ⟨0,by simp, .inl hρ⟩
  ·obtain ⟨um,e2,h3,h4⟩:=hs;have hlt:g'<w.heap.size:=(zQ.1 h3).1;by_cases Tf:g=g'
   ·subst Tf;rw[r1] at h3;cases h3;exact ⟨_,e,JJ,by rw[hcs];exact h4⟩
   ·exact ⟨um,e2,by rw[hcell,bC hlt,aE Tf];exact h3,h4⟩
 ·simp[R,RL]
 ·cases j with
  | succ j=>simp[RO]
  | zero=>
    simp only[Pp,RO,hρ];have lF:zs.length<=cur.size:=by rw[r2.size];simpa using r4
    refine ⟨_,e,cap',JJ,⟨by rw[hcs];exact r2.size,fun v hv=>?_⟩,r3,by simpa[hlen] using r4,FD h1 fun j z hj=>?_⟩
    ·obtain ⟨i,hi⟩:=Vr hv;rw[nZ,lK,kr] at hi;obtain ⟨x,hx,V9⟩:=hi;subst V9
     split
     ·exact h1 _
     ·exact r2.one x (fS (by rw[nZ];exact hx))
    ·have hjl:j<(yR zs).length:=(jL.1 hj).1;have R7:j<cur.size:=by rw[hlen] at hjl;omega
     rw[kO,cell_of_row _ g j _ e (0,0) JJ,lK,Pj R7];simp only[Option.map_some,bC hjl,hj,Option.getD_some]
 ·cases j with
  | succ j=>simp at hj
  | zero=>exact .inr ⟨0,by simp,hg'⟩
 ·cases j with
  | succ j=>simp at hj
  | zero=>
    cases j' with
    | succ j=>simp at hj'
    | zero=>rfl
 ·cases j with
  | succ j=>simp at hj
  | zero=>exact H6 (hin.hlt 0 g' (by simp) hh) hsize
end
theorem ay.PR {P:Program} {Q:Exit->St->Prop} {s:List D} {h:List (Nat×Obj)} {τ:Type} {c:Code} (l:τ->List (Nat×D)) (m:τ->List (Nat×Obj)) (I:τ->Prop) (μ:τ->Nat) (t0:τ) (h0:I t0)
  {s':τ->List D} {h':τ->List (Nat×Obj)} (es:∀ t,BE (l t) s=s' t) (eh:∀ t,KA (m t) h=h' t) (hs:j3 s (s' t0)) (hh:wZ h (h' t0))
  (hb:∀ t,I t->ay P c (o7 (fun σ'=> ∃ t',I t'/\μ t'<μ t/\cZ σ' { slots:=s' t',heap:=h' t' }) Q) { slots:=s' t,heap:=h' t }):ay P (.loop c) Q { slots:=s,heap:=h }:=
 ay.loop (fun t=>{ slots:=s' t,heap:=h' t }) I μ t0 h0 (cZ.PF hs hh) (fun t ht=>ay.mono (hb t ht) (fun e σ' hq=>by
  cases e with
  | normal=>
    obtain ⟨t',h1,h2,h3⟩:=hq;exact ⟨t',h1,h2,h3⟩
  | _=>exact hq))
theorem wA {τ:Type} {I:τ->Prop} {μ:τ->Nat} {t:τ} {σ:St} {s':τ->List D} {h':τ->List (Nat×Obj)} (t':τ) (hi:cZ σ { slots:=s' t',heap:=h' t' }) (hI:I t') (hm:μ t'<μ t):
  ∃ t',I t'/\μ t'<μ t/\cZ σ { slots:=s' t',heap:=h' t' }:=⟨t',hI,hm,hi⟩
end Go.fe
namespace Go.fe
open Go.RowKit
mutual
def NI (o d:Nat):D->D
 | .ref o' off=>if o'=o then .ref d off else if o'=d then .any else .ref o' off
 | .mp o'=>if o'=o then .mp d else if o'=d then .any else .mp o'
 | .jN o' k' i off=>if o'=o then .jN d k' i off else if o'=d then .any else .jN o' k' i off
 | .cW o' k' off len=>if o'=o then .cW d k' off len else if o'=d then .any else .cW o' k' off len
 | .agg cs=> .agg (MQ o d cs)
 | .cT cs=> .cT (MQ o d cs)
 | .fn f cs=> .fn f (MQ o d cs)
 | .any=> .any
 | .sc v=> .sc v
 | .sl k rows=> .sl k rows
 | .ro cs=> .ro cs
def MQ (o d:Nat):List D->List D
 | []=>[]
 | c::cs=>NI o d c::MQ o d cs
end
def Obj.rn (o d:Nat):Obj->Obj
 | .box cs=> .box (MQ o d cs)
 | .ext e=>cond (iQ o e.qv||iQ d e.qv) (.ext Px) (.ext e)
 | x=>x
def EP (o d:Nat):List (Nat×Obj)->List (Nat×Obj)
 | []=>[]
 | (q,x)::h=>(q,x.rn o d)::EP o d h
def St.rn (σ:St) (o d:Nat):St:={ slots:=MQ o d σ.slots,heap:=aG (aG (EP o d σ.heap) o .dead) d ((az σ.heap o).rn o d) }
theorem Di {o d:Nat}:∀ {h:List (Nat×Obj)} {o':Nat},az (EP o d h) o'=(az h o').rn o d
 | [],_=>by simp[EP,az,Obj.rn]
 | (q,x)::h,o'=>by
   by_cases e:q=o'
   ·simp[EP,az,e]
   ·simp[EP,az,e,Di]
theorem Dj {o d:Nat}:∀ {h:List (Nat×Obj)} {o':Nat},ec (EP o d h) o'=ec h o'
 | [],_=>by simp[EP,ec]
 | (q,x)::h,o'=>by simp[EP,ec,Dj]
section
variable {w:World} {st:Nat->Prop} {ρ ρ':Nat->Option (Option Nat)} {o d:Nat}
mutual
theorem R.rn (h1:ρ' d=ρ o) (h2:∀ x,x≠d->ρ' x=ρ x):∀ {c:D} {v:Value},R w st ρ c v->R w st ρ' (NI o d c) v
 | .any,_,_=>by simp[NI,R]
 | .sc _,_,hd=>by simpa[NI,R] using hd
 | .sl _ _,_,hd=>by simpa[NI,R] using hd
 | .ro _,_,hd=>by simpa[NI,R] using hd
 | .agg _,_,hd | .cT _,_,hd | .fn _ _,_,hd=>by
   simp only[NI,R] at hd ⊢;obtain ⟨vs,h3,h4⟩:=hd;exact ⟨vs,h3,RL.rn h1 h2 h4⟩
 | .ref o' _,_,hd | .mp o',_,hd | .jN o' _ _ _,_,hd | .cW o' _ _ _,_,hd=>by
   simp only[NI]
   split
   ·rename_i e;subst e;simp only[R,h1] at hd ⊢;exact hd
   ·split
    ·simp[R]
    ·rename_i e;simp only[R,h2 _ e] at hd ⊢;exact hd
theorem RL.rn (h1:ρ' d=ρ o) (h2:∀ x,x≠d->ρ' x=ρ x):∀ {cs:List D} {vs:List Value},RL w st ρ cs vs->RL w st ρ' (MQ o d cs) vs
 | [],_,hd=>by simpa[MQ,RL] using hd
 | _::_,_,hd=>by
   simp only[MQ,RL] at hd ⊢;obtain ⟨v,vs',h3,h4,h5⟩:=hd;exact ⟨v,vs',h3,R.rn h1 h2 h4,RL.rn h1 h2 h5⟩
end
end
theorem cZ.vS (σ:St) (o d:Nat) (hne:o≠d) (hh:hfree σ.heap d=true):cZ σ (σ.rn o d):=by
 rintro w0 p a w ⟨ρ,h⟩;obtain ⟨Q5,R8⟩:=ep.1 hh
 have kU:∀ x,az (σ.rn o d).heap x=if x=d then (az σ.heap o).rn o d else if x=o then .dead else (az σ.heap x).rn o d:=by
  intro x;unfold St.rn;by_cases e:x=d
  ·subst e;rw[bC rfl];exact aX (by rw[fY,Dj];exact Q5)
  ·rw[aE e,aM e];by_cases e2:x=o
   ·subst e2;rw[bC rfl];cases hx:ec (EP x d σ.heap) x with
    | true=>exact aX hx
    | false=>
      cases hy:az (aG (EP x d σ.heap) x .dead) x with
      | dead=>rfl
      | _=>
        have:=cC (h:=aG (EP x d σ.heap) x .dead) (o:=x) (by rw[hy];simp);rw[fY,hx] at this;cases this
   ·rw[aE e2,aM e2,Di]
 have PA:∀ x:Obj,x.rn o d≠ .dead↔x≠ .dead:=by
  intro x;cases x with
  | ext e=>cases hm:(iQ o e.qv||iQ d e.qv)<;>simp[Obj.rn,hm]
  | _=>simp[Obj.rn]
 let pr:Nat->Nat:=fun x=>if x=d then o else x
 let ρ':Nm:=⟨fun x=>ρ (pr x),fun x=>ρ.hid (pr x)⟩
 have pd:pr d=o:=by simp[pr]
 have pn:∀ x,x≠d->pr x=x:=fun x hx=>by simp[pr,hx]
 have Ig:ρ' d=ρ o:=by simp[ρ',pd]
 have Ih:∀ x,x≠d->ρ' x=ρ x:=fun x hx=>by simp[ρ',pn x hx]
 have live:∀ x,az (σ.rn o d).heap x≠ .dead->az σ.heap (pr x)≠ .dead/\(x=d\/(x≠d/\x≠o)):=by
  intro x hx;rw[kU] at hx;by_cases e:x=d
  ·rw[bC e,PA] at hx;rw[e,pd];exact ⟨hx, .inl rfl⟩
  ·rw[aE e] at hx;by_cases e2:x=o
   ·simp[e2] at hx
   ·rw[aE e2,PA] at hx;rw[pn x e];exact ⟨hx, .inr ⟨e,e2⟩⟩
 have hst:∀ g,bO p σ.heap ρ w g->bO p (σ.rn o d).heap ρ' w g:=fun g hs=>⟨hs.1,hs.2.1,fun x hx=>hs.2.2 (pr x) (live x hx).1⟩
 have Tg:∀ x,RO w (bO p (σ.rn o d).heap ρ' w) ρ' x ((az σ.heap (pr x)).rn o d):=by
  intro x;have h1:=RO.mono (fun _ _ _=>rfl) (fun _ _ hs=>hs) hst (fun _ _=>rfl) (h.objs (pr x));cases hx:az σ.heap (pr x) with
  | dead=>simp[RO,Obj.rn]
  | row k' eu=>rw[hx] at h1;exact h1
  | box cs=>
    rw[hx] at h1;simp only[RO,Obj.rn] at h1 ⊢;obtain ⟨g,cur,e',r1,r2,r3⟩:=h1;exact ⟨g,cur,e',r1,r2,RL.rn Ig Ih r3⟩
  | ext e'=>
    rw[hx] at h1;simp only[RO,Obj.rn] at h1 ⊢;obtain ⟨g,r1,r2⟩:=h1;cases hm:(iQ o e'.qv||iQ d e'.qv) with
    | true=>exact ⟨g,r1,e'.lt r2⟩
    | false=>
      simp only[MC] at hm;exact ⟨g,r1,e'.loc (fun y hy=>Ih y (fun e=>by subst e;rw[lW.2 hy] at hm;simp at hm)) r2⟩
 refine ⟨ρ',h.open_,h.defers,RL.rn Ig Ih (RL.mono (fun _ _ _=>rfl) (fun _ _ hs=>hs) hst h.slots),fun x=>?_,fun x1 x2 g h1 h2 e1 e2=>?_,fun x g h1 e1=>h.fresh (pr x) g (live x h1).1 e1,fun x g h1 e1=>h.hlt (pr x) g (live x h1).1 e1,h.below,fun x hx=>?_⟩
 ·rw[kU];by_cases e:x=d
  ·have:=Tg x;rw[show pr x=o by rw[e,pd]] at this;rw[bC e];exact this
  ·rw[aE e];by_cases e2:x=o
   ·simp[e2,RO]
   ·have:=Tg x;rw[pn x e] at this;rw[aE e2];exact this
 ·obtain ⟨l1,n1⟩:=live x1 h1;obtain ⟨l2,n2⟩:=live x2 h2;have:=h.inj (pr x1) (pr x2) g l1 l2 e1 e2;rcases n1 with n1|⟨n1,m1⟩<;>rcases n2 with n2|⟨n2,m2⟩
  ·rw[n1,n2]
  ·rw[n1,pd,pn x2 n2] at this;exact absurd this.symm m2
  ·rw[n2,pd,pn x1 n1] at this;exact absurd this m1
  ·rw[pn x1 n1,pn x2 n2] at this;exact this
 ·have:x≠d:=by omega
  show ρ (pr x)=_;rw[pn x this];exact h.kf x hx
section
variable {P:Program} {Q:Exit->St->Prop} {σ σ':St}
theorem ay.rn {c:Code} (o d:Nat) (hne:o≠d) (hh:hfree σ.heap d=true) (he:σ.rn o d=σ') (h:ay P c Q σ'):ay P c Q σ:=ay.imp (he▸cZ.vS σ o d hne hh) h
theorem cZ.xg {σ2:St} (o d:Nat) (hne:o≠d) (hh:hfree σ.heap d=true) (he:σ.rn o d=σ') (h:cZ σ' σ2):cZ σ σ2:=cZ.trans (he▸cZ.vS σ o d hne hh) h
theorem aC.rn {fn:Func} {ids:List Nat} {ret:D} {outs:List Obj} {e:Exit} (o d:Nat) (hne:o≠d) (hh:hfree σ.heap d=true) (he:σ.rn o d=σ') (h:aC P fn ids ret outs e σ'):aC P fn ids ret outs e σ:=aC.imp (he▸cZ.vS σ o d hne hh) h
end
section
variable {P:Program} {σ σ':St} {ty ty':TypeId} {pos pos':String} {af NH:Array Edge} {i j t1 t2 t3 u:Nat} {ops:Array Oper} {K:St->Prop} {fuel:Nat} {listed:Array Bool} {p:Pl} {t:TypeId} {x:Operand}
attribute [local semireducible] aJ
end
attribute [go_sem] NI MQ Obj.rn EP St.rn
def Hg (s:ByteArray):List (List D):=s.data.toList.map fun b=>[.sc (.int .u8 b.toNat)]
theorem xh (s:ByteArray):(Hg s).length=s.size:=by
 rw[Hg,dD,Array.length_toList];rfl
section
variable {P:Program} {σ σ':St}
end
attribute [go_sem] xh
section
variable {P:Program} {Q:Exit->St->Prop} {σ σ':St}
theorem cZ.Ap (σ:St) (o j d k:Nat) {cs:List D} (ho:az σ.heap o = .box cs) (hj:(n8 d cs)[j]? = some (.sc (.slice none 0 0))) (hne:o≠d) (hh:hfree σ.heap d=true):
  cZ σ { σ.bF [d] with heap:=aG (aG (σ.bF [d]).heap d (.row k [])) o (.box ((n8 d cs).set j (.cW d k 0 0))) }:=by
 rintro w0 p a w ⟨ρ,h⟩;have hv:=h.Bu (ids:=[d]) (o:=d) (k:=k) (by simp) hh
 have hg:az (aG (σ.bF [d]).heap d (.row k [])) o = .box (n8 d cs):=by
  rw[aM hne];simp only[St.bF,fI,aE hne,ho,Obj.ku]
 refine ⟨_,hv.w5 (o:=o) (x:= .box ((n8 d cs).set j (.cW d k 0 0))) (by show az (aG (σ.bF [d]).heap d (.row k [])) o≠_;rw[hg];simp) (by simp) (fun st hst=>?_)⟩;have Cm:=hv.objs o;change RO w _ _ o (az (aG (σ.bF [d]).heap d (.row k [])) o) at Cm;rw[hg] at Cm;simp only[RO] at Cm ⊢;obtain ⟨g,cur,e,h1,h2,h3⟩:=Cm;obtain ⟨v,h4,h5⟩:=pV h3 hj;simp only[R] at h5;subst h5;have h6:=E9 (i:=j) (d:= .cW d k 0 0) (v:= .slice none 0 0) h3 (by simp only[R,bK];exact .inl ⟨trivial,trivial,trivial,none,rfl⟩)
 have h7:cur.toList.set j (.slice none 0 0)=cur.toList:=by
  apply MD;intro i;by_cases e:j=i
  ·subst e;rw[tZ (jL.1 h4).1,h4]
  ·rw[ua e]
 rw[h7] at h6;exact ⟨g,cur,e,h1,h2,RL.mono (fun _ _ _=>rfl) (fun _ _ hh=>hh) hst h6⟩
theorem ay.Ap {c:Code} (o j d k:Nat) {cs:List D} (ho:az σ.heap o = .box cs) (hj:(n8 d cs)[j]? = some (.sc (.slice none 0 0))) (hne:o≠d) (hh:hfree σ.heap d=true)
  (he:({ σ.bF [d] with heap:=aG (aG (σ.bF [d]).heap d (.row k [])) o (.box ((n8 d cs).set j (.cW d k 0 0))) }:St)=σ') (hn:ay P c Q σ'):ay P c Q σ:=by
 subst he;exact ay.imp (cZ.Ap σ o j d k ho hj hne hh) hn
end
theorem cI:type_of% (And.intro @Ym (And.intro @Kp.eq_def (And.intro @S0.eq_def (And.intro @CO.eq_def @Kq.eq_def)))):=And.intro @Ym (And.intro @Kp.eq_def (And.intro @S0.eq_def (And.intro @CO.eq_def @Kq.eq_def)))
end Go.fe
