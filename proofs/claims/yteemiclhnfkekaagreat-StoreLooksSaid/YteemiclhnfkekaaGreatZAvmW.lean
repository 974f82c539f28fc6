/- The abstract machine, parts ZT to ZW. -/
import Derived.Test.YteemiclhnfkekaaGreatZAvmU
import Derived.Maps.RangeRun
import Derived.Laws.Pointers
set_option linter.unusedSimpArgs false
set_option linter.unusedVariables false
namespace Go.eB
open Go.RowKit Go.MapKept
def ng (k:Value):List (Value×BC)->Option Nat
 | []=>none
 | p::l=>if oa p.1 k=true then some 0 else (ng k l).map (· + 1)
theorem MB.find {kk:KK} {k:Value} (hk:IsKey kk.desc k):∀ {l:List (Value×BC)} {es:List MapEntry} (i:Nat),es.length=l.length->(∀ (j:Nat) k c e,l[j]? = some (k,c)->es[j]? = some e->e.key=k)->(∀ x∈es,IsKey kk.desc x.key)->
  (ng k l=none/\Instr.findNow kk.desc k es i=some none/\∀ x∈es,x.key≠k)\/
   ∃ j e c,ng k l=some j/\l[j]? = some (k,c)/\Instr.findNow kk.desc k es i=some (some (i+j,e.val))/\es[j]? = some e/\e.key=k
 | [],es,i,h,_,_=>by
   have:es=[]:=uc h;subst this;exact .inl ⟨rfl,rfl,by simp⟩
 | p::l,[],i,h,_,_=>by simp at h
 | p::l,e::es,i,h,hkeys,hks=>by
   have he:=hks e (.head _);have h2:e.key=p.1:=hkeys 0 p.1 p.2 e rfl rfl;obtain ⟨r,hr,hiff⟩:=sameNow_of_keys hk he;rw[h2] at hr hiff he;cases r with
   | true=>
     have e1:k=p.1:=hiff.1 rfl;have hb:oa p.1 k=true:=(s6 he hk).2 e1.symm;exact .inr ⟨0,e,p.2,by simp[ng,hb],by rw[e1];rfl,by simp[Instr.findNow,h2,hr],rfl,by rw[h2,e1]⟩
   | false=>
     have hne:k≠p.1:=fun q=>by have:=hiff.2 q;cases this
     have hb:oa p.1 k=false:=by rw[Bool.eq_false_iff];exact fun q=>hne ((s6 he hk).1 q).symm
     rcases MB.find hk (i+1) (by simpa using h) (fun j k c e' hl he'=>hkeys (j+1) k c e' (by simpa using hl) (by simpa using he')) (fun x hx=>hks x (.tail _ hx)) with ⟨f1,f2,f3⟩|⟨j,e',c,f1,f2,f3,f4,f5⟩
     ·refine .inl ⟨by simp[ng,hb,f1],by simp[Instr.findNow,h2,hr,f2],fun x hx=>?_⟩;cases hx with
      | head=>rw[h2];exact hne.symm
      | tail _ hx=>exact f3 x hx
     ·exact .inr ⟨j+1,e',c,by simp[ng,hb,f1],by simpa using f2,by simp[Instr.findNow,h2,hr,f3];omega,by simpa using f4,f5⟩
theorem MB.keys {w:World} {st:Nat->Prop} {ρ:Nat->Option (Option Nat)} {hd:Nat->Prop} {g:Nat} {l:List (Value×BC)} {es:List MapEntry} {bs:List (Option Nat)} (h:MB w st ρ hd g l es bs):∀ (j:Nat) k c e,l[j]? = some (k,c)->es[j]? = some e->e.key=k:=fun j k c e hl he=>by
 obtain ⟨e',bo,h1,_,h3,_⟩:=h.2.2.2.2 j k c hl;rw[h1] at he;cases he;exact h3
theorem MB.mono {w w':World} {st st':Nat->Prop} {ρ:Nat->Option (Option Nat)} {hd:Nat->Prop} {g:Nat} {l:List (Value×BC)} {es:List MapEntry} {bs:List (Option Nat)} (h:MB w st ρ hd g l es bs) (hc:∀ k off,st k->w'.cell? ⟨k,off,none⟩=w.cell? ⟨k,off,none⟩) (hs:∀ k n,Sh w k n->Sh w' k n) (hst:∀ k,st k->st' k) (hb:∀ b,b≠g->w'.heap[b]? = w.heap[b]?):MB w' st' ρ hd g l es bs:=by
 obtain ⟨m1,m2,m3,m4,m5⟩:=h;refine ⟨m1,m2,m3,m4,fun j k c hj=>?_⟩;obtain ⟨e,bo,e1,e2,e3,e4⟩:=m5 j k c hj;exact ⟨e,bo,e1,e2,e3,e4.mono hc hs hst (fun b h=>hb b (m3 j b (by rw[e2,h])).2)⟩
theorem MB.push {w:World} {st:Nat->Prop} {ρ:Nat->Option (Option Nat)} {hd:Nat->Prop} {g o b:Nat} {k v:Value} {l:List (Value×BC)} {es:List MapEntry} {bs:List (Option Nat)} (h:MB w st ρ hd g l es bs) (hv:R w st ρ (.ref o 0) v):MB w st ρ hd g (l++[(k,.nm o)]) (es++[⟨k,v,b⟩]) (bs++[none]):=by
 obtain ⟨m1,m2,m3,m4,m5⟩:=h
 have hn:∀ (j b:Nat),(bs++[none])[j]? = some (some b)->bs[j]? = some (some b):=fun j b hj=>by
  rw[List.getElem?_append] at hj
  split at hj
  ·exact hj
  ·cases hq:j-bs.length with
   | zero=>rw[hq] at hj;simp at hj
   | succ q=>rw[hq] at hj;simp at hj
 refine ⟨by simp[m1],by simp[m2],fun j b hj=>m3 j b (hn j b hj),fun i j b hi hj=>m4 i j b (hn i b hi) (hn j b hj),fun j k' c hj=>?_⟩;by_cases hlt:j<l.length
 ·rw[Cl hlt] at hj;obtain ⟨e,bo,e1,e2,e3,e4⟩:=m5 j k' c hj;exact ⟨e,bo,by rw[Cl (by omega)];exact e1,by rw[Cl (by omega)];exact e2,e3,e4⟩
 ·have Zt:j=l.length:=by
   have:=(jM.1 hj).1;simp at this;omega
  subst Zt;rw[EJ (iU _)] at hj;simp at hj;obtain ⟨rfl,rfl⟩:=hj;exact ⟨⟨k,v,b⟩,none,by rw[<- m1];simp,by rw[<- m2];simp,rfl,rfl,hv⟩
theorem get_erase {α:Type} {l:List α} {j i:Nat} {x:α} (h:(l.eraseIdx j)[i]? = some x):l[if i<j then i else i+1]? = some x:=by
 rw[List.getElem?_eraseIdx] at h
 split at h
 ·rename_i q;rw[bC q];exact h
 ·rename_i q;rw[aE q];exact h
theorem MB.erase {w:World} {st:Nat->Prop} {ρ:Nat->Option (Option Nat)} {hd:Nat->Prop} {g j:Nat} {l:List (Value×BC)} {es:List MapEntry} {bs:List (Option Nat)} (h:MB w st ρ hd g l es bs) (hj:j<l.length):MB w st ρ hd g (l.eraseIdx j) (es.eraseIdx j) (bs.eraseIdx j):=by
 obtain ⟨m1,m2,m3,m4,m5⟩:=h;refine ⟨by rw[Vm (by omega),Vm (by omega),m1],by rw[Vm (by omega),Vm (by omega),m2],fun i b hi=>m3 _ b (get_erase hi),fun i i' b hi hi'=>?_,fun i k c hi=>?_⟩
 ·have:=m4 _ _ b (get_erase hi) (get_erase hi')
  split at this<;>split at this<;>omega
 ·obtain ⟨e,bo,e1,e2,e3,e4⟩:=m5 _ k c (get_erase hi);refine ⟨e,bo,?_,?_,e3,e4⟩
  ·rw[List.getElem?_eraseIdx];split<;>rename_i q<;>simp only[q,jg,jd] at e1<;>exact e1
  ·rw[List.getElem?_eraseIdx];split<;>rename_i q<;>simp only[q,jg,jd] at e2<;>exact e2
section
variable {P:Program} {ds:List (Option Nat)} {Q:Exit->St->Prop} {σ σ':St} {l:List Oper} {dst:Option Nat} {ty:TypeId} {pos:String} {af:Array Edge} {g:Option (Nat×Bool)}
theorem ah.wm {t kt et:TypeId} {ti ki ei:TI} {kk:KK} {o:Nat} {x k:Operand} {kv:Value} {m:List (Value×BC)} (hg:bq ds g σ=some true) (ht:aA P t=some ti) (hk:k5 ti.kind=some (kt,et)) (zf:aA P kt=some ki) (hkk:rR ki.kind=some kk) (het:aA P et=some ei)
  (hx:bh σ x = .mp o) (hm:az σ.heap o = .ext (eO kk m)) (hkey:bh σ k = .sc kv) (hok:kk.ok kv=true) (hf:ng kv m=none) (he:σ.put dst (.sc ei.zero)=σ') (hn:ah P ds Q l σ'):ah P ds Q (⟨dst, .lookup t x k false,ty,pos,af,g⟩::l) σ:=by
 intro all ha w0 p a w hr;have hw:=aT (all:=all) (o:=⟨dst, .lookup t x k false,ty,pos,af,g⟩) (by rw[bV ha];exact hg) hr;obtain ⟨ρ,hr⟩:=hr;obtain ⟨hu,vl⟩:=rT ht hk zf hkk;obtain ⟨gm,mM,hρ,es,cl,hb,hst,hks,bs,hN⟩:=qc hr hx hm;have h2:=hr.bh k;rw[hkey] at h2;simp only[R] at h2;have iF:=KK.isKey hok;have hz:=(ej het w).2.2.2.1;rcases MB.find iF 0 hN.1 hN.keys hks with ⟨f1,f2,_⟩|⟨j,e,c,f1,_⟩
 ·have hrun:(execOp a.eval ⟨dst, .lookup t x k false,ty,pos,af,g⟩).run P w = .ok (.value ei.zero) w:=by
   simp[execOp,Instr.lookup,run_underlying hu,mM,h2,JE hb,run_checkKey vl iF,run_findKey vl f2,hz,Result.andThen]
  refine bp hw (.inl hrun) (hn all ha w0 p _ _ ⟨ρ,?_⟩);subst he;exact hr.put dst (by simp[R])
 ·rw[hf] at f1;cases f1
theorem ah.Oj {t kt et:TypeId} {ti ki:TI} {kk:KK} {o d j:Nat} {x k:Operand} {kv k':Value} {m:List (Value×BC)} (hg:bq ds g σ=some true) (ht:aA P t=some ti) (hk:k5 ti.kind=some (kt,et)) (zf:aA P kt=some ki) (hkk:rR ki.kind=some kk)
  (hx:bh σ x = .mp o) (hm:az σ.heap o = .ext (eO kk m)) (hkey:bh σ k = .sc kv) (hok:kk.ok kv=true) (hf:ng kv m=some j) (hj:m[j]? = some (k',.nm d)) (he:σ.put dst (.ref d 0)=σ') (hn:ah P ds Q l σ'):ah P ds Q (⟨dst,.lookup t x k false,ty,pos,af,g⟩::l) σ:=by
 intro all ha w0 p a w hr;have hw:=aT (all:=all) (o:=⟨dst, .lookup t x k false,ty,pos,af,g⟩) (by rw[bV ha];exact hg) hr;obtain ⟨ρ,hr⟩:=hr;obtain ⟨hu,vl⟩:=rT ht hk zf hkk;obtain ⟨gm,mM,hρ,es,cl,hb,hst,hks,bs,hN⟩:=qc hr hx hm;have h2:=hr.bh k;rw[hkey] at h2;simp only[R] at h2;have iF:=KK.isKey hok;rcases MB.find iF 0 hN.1 hN.keys hks with ⟨f1,_⟩|⟨j',e,c,f1,f2,f3,f4,f5⟩
 ·rw[hf] at f1;cases f1
 ·rw[hf] at f1;cases f1;rw[hj] at f2;cases f2
  have hrun:(execOp a.eval ⟨dst, .lookup t x k false,ty,pos,af,g⟩).run P w = .ok (.value e.val) w:=by
   simp[execOp,Instr.lookup,run_underlying hu,mM,h2,JE hb,run_checkKey vl iF,run_findKey vl f3,Result.andThen]
  refine bp hw (.inl hrun) (hn all ha w0 p _ _ ⟨ρ,?_⟩);subst he;obtain ⟨e',bo,g1,g2,g3,g4⟩:=hN.2.2.2.2 j _ _ hj;rw[f4] at g1;cases g1;exact hr.put dst g4.2
theorem ah.EX {t kt et:TypeId} {ti ki:TI} {kk:KK} {o d:Nat} {x k y:Operand} {kv:Value} {m:List (Value×BC)} (hg:bq ds g σ=some true) (ht:aA P t=some ti) (hk:k5 ti.kind=some (kt,et)) (zf:aA P kt=some ki) (hkk:rR ki.kind=some kk)
  (hx:bh σ x = .mp o) (hm:az σ.heap o = .ext (eO kk m)) (hkey:bh σ k = .sc kv) (hok:kk.ok kv=true) (hf:ng kv m=none) (hy:bh σ y = .ref d 0) (he:St.put { σ with heap:=aG σ.heap o (.ext (eO kk (m++[(kv,.nm d)]))) } dst (.sc undef)=σ') (hn:ah P ds Q l σ'):ah P ds Q (⟨dst,.mapUpdate t x k y,ty,pos,af,g⟩::l) σ:=by
 intro all ha w0 p a w hr;have hw:=aT (all:=all) (o:=⟨dst, .mapUpdate t x k y,ty,pos,af,g⟩) (by rw[bV ha];exact hg) hr;obtain ⟨ρ,hr⟩:=hr;obtain ⟨hu,vl⟩:=rT ht hk zf hkk;obtain ⟨gm,mM,hρ,es,cl,hb,hst,hks,bs,hN⟩:=qc hr hx hm;have h2:=hr.bh k;rw[hkey] at h2;simp only[R] at h2;have h3:=hr.bh y;rw[hy] at h3;have iF:=KK.isKey hok;have eL:az σ.heap o≠ .dead:=by rw[hm];simp
 rcases MB.find iF 0 hN.1 hN.keys hks with ⟨f1,f2,f3⟩|⟨j',e,c,f1,_⟩
 ·have NK:∀ z∈(es.push ⟨kv,a.eval y,cl⟩).toList,IsKey kk.desc z.key:=by
   intro z hz;simp only[Array.toList_push,lS,rG] at hz;rcases hz with hz|rfl
   ·exact hks z hz
   ·exact iF
  have yZ:=stamped_push hst (val:=a.eval y) f3
  have hrun:(execOp a.eval ⟨dst, .mapUpdate t x k y,ty,pos,af,g⟩).run P w = .ok .skip (eF w gm (es.push ⟨kv,a.eval y,cl⟩) (cl+1)):=by
   simp[execOp,Instr.mapUpdate,run_underlying hu,mM,h2,JE hb,run_checkKey vl iF,run_findKey vl f2,run_setObj_map _ hb,Result.andThen,eF]
  refine bp hw (.inr ⟨rfl,hrun⟩) (hn all ha w0 p _ _ ⟨ρ,?_⟩);subst he;refine aU.put ?_ dst (by simp[R]);refine hr.Dr eL hρ hb (by simp) fun st h1 hc hs=>?_;simp only[RO];refine ⟨gm,hρ,_,_,ig hb,yZ,NK,bs++[none],?_⟩;rw[Array.toList_push];exact (hN.mono hc hs h1 fun b Pv=>lK Pv).push (R.mono hc hs h1 h3)
 ·rw[hf] at f1;cases f1
theorem ah.EU {t t' kt et:TypeId} {ti ki:TI} {kk:KK} {o j:Nat} {x k:Operand} {kv:Value} {m:List (Value×BC)} (hg:bq ds g σ=some true) (ht:aA P t=some ti) (hk:k5 ti.kind=some (kt,et)) (zf:aA P kt=some ki) (hkk:rR ki.kind=some kk)
  (hx:bh σ x = .mp o) (hm:az σ.heap o = .ext (eO kk m)) (hkey:bh σ k = .sc kv) (hok:kk.ok kv=true) (hf:ng kv m=some j) (he:{ σ with heap:=aG σ.heap o (.ext (eO kk (m.eraseIdx j))) }=σ') (hn:ah P ds Q l σ'):ah P ds Q (⟨none,.call { callee:= .builtin .delete,args:= #[x,k],argTypes:= #[t,t'] },ty,pos,af,g⟩::l) σ:=by
 intro all ha w0 p a w hr;have hw:=aT (all:=all) (o:=⟨none, .call { callee:= .builtin .delete,args:= #[x,k],argTypes:= #[t,t'] },ty,pos,af,g⟩) (by rw[bV ha];exact hg) hr;obtain ⟨ρ,hr⟩:=hr;obtain ⟨hu,vl⟩:=rT ht hk zf hkk;obtain ⟨gm,mM,hρ,es,cl,hb,hst,hks,bs,hN⟩:=qc hr hx hm;have h2:=hr.bh k;rw[hkey] at h2;simp only[R] at h2;have iF:=KK.isKey hok;have eL:az σ.heap o≠ .dead:=by rw[hm];simp
 subst he;rcases MB.find iF 0 hN.1 hN.keys hks with ⟨f1,_⟩|⟨j',e,c,f1,f2,f3,f4,f5⟩
 ·rw[hf] at f1;cases f1
 ·rw[hf] at f1;cases f1;rw[kO] at f3
  have hrun:(execOp a.eval ⟨none, .call { callee:= .builtin .delete,args:= #[x,k],argTypes:= #[t,t'] },ty,pos,af,g⟩).run P w = .ok (.value (.tuple #[])) (eF w gm (es.eraseIdxIfInBounds j) cl):=by
   simp[execOp,resolve,invoke,builtin,Builtin.delete_,run_underlying hu,mM,h2,JE hb,run_checkKey vl iF,run_findKey vl f3,run_setObj_map _ hb,Result.andThen,eF]
  refine bp hw (.inl hrun) (hn all ha w0 p _ _ ⟨ρ,?_⟩);refine hr.Dr eL hρ hb (by simp) fun st h1 hc hs=>?_;simp only[RO];refine ⟨gm,hρ,_,_,ig hb,stamped_erase hst j,fun y hy=>?_,bs.eraseIdx j,?_⟩
  ·rw[Vl] at hy;exact hks y (List.mem_of_mem_eraseIdx hy)
  ·rw[Vl];exact (hN.mono hc hs h1 fun b Pv=>lK Pv).erase (jM.1 f2).1
theorem ah.Bl {t:TypeId} {ti:TI} {kt et:TypeId} {kk:KK} {o:Nat} {x:Operand} {m:List (Value×BC)} (hg:bq ds g σ=some true) (ht:aA P t=some ti) (hk:k5 ti.kind=some (kt,et))
  (hx:bh σ x = .mp o) (hm:az σ.heap o = .ext (eO kk m)) (he:σ.put dst (.sc (.int .i64 m.length))=σ') (hn:ah P ds Q l σ'):ah P ds Q (⟨dst, .call { callee:= .builtin .len,args:= #[x],argTypes:= #[t] },ty,pos,af,g⟩::l) σ:=by
 intro all ha w0 p a w hr;have hw:=aT (all:=all) (o:=⟨dst, .call { callee:= .builtin .len,args:= #[x],argTypes:= #[t] },ty,pos,af,g⟩) (by rw[bV ha];exact hg) hr;obtain ⟨ρ,hr⟩:=hr;obtain ⟨gm,mM,hρ,es,cl,hb,hst,hks,bs,hN⟩:=qc hr hx hm;obtain ⟨i,d,h1,hu,_,_,_,h6⟩:=cr ht;rw[<- h6] at hk;rw[rS hk] at hu
 have hrun:(execOp a.eval ⟨dst, .call { callee:= .builtin .len,args:= #[x],argTypes:= #[t] },ty,pos,af,g⟩).run P w = .ok (.value (.int .i64 m.length)) w:=by
  have:=hN.1;simp only[Array.length_toList] at this;simp[execOp,resolve,invoke,builtin,Builtin.len_,run_underlying hu,mM,JE hb,Result.andThen,goInt,this]
 subst he;exact bp hw (.inl hrun) (hn all ha w0 p _ _ ⟨ρ,hr.put dst (by simp[R])⟩)
end
section
variable {w0:World} {p:Pm} {σ:St} {a:Act} {w:World} {ρ:Nm}
theorem aU.Ol (h:aU w0 p σ a w ρ) {d:Nat} {kk:KK} (hh:hfree σ.heap d=true):
  aU w0 p { σ.bF [d] with heap:=aG (σ.bF [d]).heap d (.ext (eO kk [])) } a (w.alloc (.map #[] 0)) (fJ ρ d (some (some w.heap.size))):=by
 have hk:aU w0 p (σ.bF [d]) a w (fJ ρ d (some (some w.heap.size))):=h.bF (fun o' e=>gd (fun e'=>e (by simp[e']))) (fun o' h1=>eU (fun e'=>absurd (ep.1 hh).2 (by omega)))
 refine hk.born (gM (by simp)) (by rw[jw];exact (ep.1 hh).1) (fun g hg=>?_) (fun g hg=>by simp[fJ] at hg) (fun g hg _=>Below.heap_alloc w _ g hg) (fun g n hs=>ct (Below.heap_alloc w _ g hs.lt) hs) (by simp) rfl rfl rfl (by simp)
  (fun st hst=>?_)
 ·rw[jR] at hg;simp only[fD] at hg;subst hg;refine ⟨fun hs=>by have:=hs.2.1;omega,fun o' ho' e'=>?_, .inl h.below.size⟩;have:=hk.mQ ho' e';omega
 ·simp only[RO];exact ⟨w.heap.size,bK _ _, #[],0,(heap_alloc w _).1,stamped_empty 0,by simp,[],rfl,rfl,by simp,by simp,by simp⟩
end
section
variable {P:Program} {ds:List (Option Nat)} {Q:Exit->St->Prop} {σ σ':St} {l:List Oper} {ty:TypeId} {pos:String} {af:Array Edge} {g:Option (Nat×Bool)}
theorem ah.JP {t kt et:TypeId} {ti ki:TI} {kk:KK} {d:Nat} (hg:bq ds g σ=some true) (ht:aA P t=some ti) (hk:k5 ti.kind=some (kt,et)) (zf:aA P kt=some ki) (hkk:rR ki.kind=some kk) (hh:hfree σ.heap d=true)
  (he:σ.BE d (.ext (eO kk [])) (.mp d)=σ') (hn:ah P ds Q l σ'):ah P ds Q (⟨some d, .makeMap t none,ty,pos,af,g⟩::l) σ:=by
 intro all ha w0 p a w hr;have hw:=aT (all:=all) (o:=⟨some d, .makeMap t none,ty,pos,af,g⟩) (by rw[bV ha];exact hg) hr;obtain ⟨ρ,hr⟩:=hr
 have hrun:(execOp a.eval ⟨some d, .makeMap t none,ty,pos,af,g⟩).run P w = .ok (.value (.map (some w.heap.size))) (w.alloc (.map #[] 0)):=by
  simp[execOp,Instr.makeMap,Result.andThen]
 subst he;refine bp hw (.inl hrun) (hn all ha w0 p _ _ ⟨fJ ρ d (some (some w.heap.size)),?_⟩);exact (hr.Ol hh).put (some d) (by simp only[R];exact ⟨_,bK _ _,rfl⟩)
end
def dR (l:List (Value×List D)):List (Value×BC):=l.map fun e=>(e.1, .own e.2)
theorem cj {l:List (Value×List D)}:(dR l).length=l.length:=by simp[dR]
theorem xJ {l:List (Value×List D)} {j:Nat} {k:Value} {cs:List D} (h:l[j]? = some (k,cs)):(dR l)[j]? = some (k, .own cs):=by simp[dR,h]
theorem k6:∀ {l:List (Value×List D)},j7 (dR l)=[]
 | []=>rfl
 | e::l=>k6 (l:=l)
theorem xK:∀ (l m:List (Value×BC)),j7 (l++m)=j7 l++j7 m
 | [],_=>rfl
 | (_, .own _)::l,m=>xK l m
 | (_, .nm o)::l,m=>by rw[List.cons_append,j7,j7,xK l m];rfl
theorem Dx {k:Value} {d:Nat}:∀ {l:List (Value×List D)} {j:Nat},j7 ((dR l).set j (k, .nm d))=if j<l.length then [d] else []
 | [],j=>by simp[dR,j7]
 | e::l,0=>by
   show j7 ((k,BC.nm d)::dR l)=_;rw[j7,k6];simp
 | e::l,j+1=>by
   show j7 ((e.1,BC.own e.2)::(dR l).set j (k, .nm d))=_;rw[j7,Dx (l:=l) (j:=j)];simp
theorem II {k:Value} {d:Nat} {l:List (Value×List D)}:j7 (dR l++[(k, .nm d)])=[d]:=by rw[xK,k6];rfl
theorem Ay {l:List (Value×List D)} {j d:Nat} {k:Value} {cs:List D}:((dR l).set j (k, .nm d)).set j (k, .own cs)=dR (l.set j (k,cs)):=by
 rw[List.set_set,dR,dR,qN]
theorem IJ {l:List (Value×List D)} {k:Value} {cs:List D}:dR l++[(k, .own cs)]=dR (l++[(k,cs)]):=by simp[dR]
theorem xL {l:List (Value×List D)} {d:Nat} {k:Value} {cs:List D}:(dR l++[(k,BC.nm d)]).set l.length (k, .own cs)=dR (l++[(k,cs)]):=by
 rw[Pk _ _ (by rw[cj];exact iU _),cj,JI, <- IJ];rfl
theorem Dy:∀ {l:List (Value×List D)} {j:Nat},(dR l).eraseIdx j=dR (l.eraseIdx j)
 | [],_=>rfl
 | e::l,0=>rfl
 | e::l,j+1=>by
   show (e.1,BC.own e.2)::(dR l).eraseIdx j=(e.1,BC.own e.2)::dR (l.eraseIdx j);rw[Dy (l:=l) (j:=j)]
theorem bT {l:List (Value×List D)} {j d:Nat} {k:Value}:((dR l).set j (k, .nm d)).eraseIdx j=dR (l.eraseIdx j):=by
 rw[List.eraseIdx_set_eq,Dy]
def wM (k:Value):List (Value×List D)->Option Nat
 | []=>none
 | p::l=>if oa p.1 k=true then some 0 else (wM k l).map (· + 1)
theorem nw (k:Value):∀ l:List (Value×List D),ng k (dR l)=wM k l
 | []=>rfl
 | p::l=>by
   show (if oa p.1 k=true then some 0 else (ng k (dR l)).map (· + 1))=_;rw[nw k l];rfl
theorem Dz (k k':Value) (c:BC):∀ (l:List (Value×BC)) (j:Nat),(∀ p,l[j]? = some p->p.1=k')->ng k (l.set j (k',c))=ng k l
 | [],_,_=>rfl
 | p::l,0,h=>by
   have e:=h p rfl;show (if oa k' k=true then some 0 else (ng k l).map (· + 1))=_;rw[<- e];rfl
 | p::l,j+1,h=>by
   show (if oa p.1 k=true then some 0 else (ng k (l.set j (k',c))).map (· + 1))=_;rw[Dz k k' c l j (fun q hq=>h q (by simpa using hq))];rfl
theorem ay.i7 {P:Program} {Q:Exit->St->Prop} {σ σ':St} {c:Code} (o j d:Nat) {kk:KK} {l:List (Value×List D)} {k:Value} {cs:List D} (ho:az σ.heap o = .ext (eO kk (dR l))) (hj:l[j]? = some (k,cs)) (hd:hfree σ.heap d=true) (hne:o≠d)
  (he:({ σ.kill d with heap:=aG (aG (σ.kill d).heap o (.ext (eO kk ((dR l).set j (k, .nm d))))) d (.box cs) }:St)=σ') (h:ay P c Q σ'):ay P c Q σ:=by
 subst he;exact ay.imp (cZ.i7 σ o j d ho (xJ hj) hd hne (by rw[k6];rfl)) h
theorem cZ.Rf (σ:St) {σ' σ2:St} (o j d:Nat) {kk:KK} {l:List (Value×List D)} {k:Value} {cs:List D} (hj:j<l.length) (ho:az σ.heap o = .ext (eO kk ((dR l).set j (k, .nm d)))) (hd:az σ.heap d = .box cs) (hp:jA cs=true) (zg:d<1000) (hne:o≠d)
  (he:(({ σ with heap:=aG (aG σ.heap d .dead) o (.ext (eO kk (dR (l.set j (k,cs))))) }:St).kill d)=σ') (h:cZ σ' σ2):cZ σ σ2:=by
 have hm:iP d (j7 (((dR l).set j (k, .nm d)).set j (k, .own cs)))=false:=by rw[Ay,k6];rfl
 have:=cZ.PY σ o j d ho (uf (by rw[cj];exact hj)) hd hp zg hne hm;rw[Ay,he] at this;exact fun w0 p a w hr=>h w0 p a w (this w0 p a w hr)
theorem cZ.Rg (σ:St) {σ' σ2:St} (o d:Nat) {kk:KK} {l:List (Value×List D)} {k:Value} {cs:List D} (ho:az σ.heap o = .ext (eO kk (dR l++[(k, .nm d)]))) (hd:az σ.heap d = .box cs) (hp:jA cs=true) (zg:d<1000) (hne:o≠d)
  (he:(({ σ with heap:=aG (aG σ.heap d .dead) o (.ext (eO kk (dR (l++[(k,cs)])))) }:St).kill d)=σ') (h:cZ σ' σ2):cZ σ σ2:=by
 have hg:(dR l++[(k,BC.nm d)])[l.length]? = some (k, .nm d):=by rw[EJ (by rw[cj];exact iU _),cj,JI];rfl
 have hm:iP d (j7 ((dR l++[(k,BC.nm d)]).set l.length (k,BC.own cs)))=false:=by rw[xL,k6];rfl
 have:=cZ.PY σ o l.length d ho hg hd hp zg hne hm;rw[xL,he] at this;exact fun w0 p a w hr=>h w0 p a w (this w0 p a w hr)
theorem wE {k k':Value} {j d:Nat} {l:List (Value×List D)} {cs:List D} (hj:l[j]? = some (k',cs)) (hf:wM k l=some j):ng k ((dR l).set j (k', .nm d))=some j:=by
 rw[Dz k k' (.nm d) (dR l) j (fun p hp=>by rw[xJ hj] at hp;cases hp;rfl),nw,hf]
section
variable {P:Program} {ds:List (Option Nat)} {Q:Exit->St->Prop} {σ σ1 σ':St} {l:List Oper} {dst:Option Nat} {ty:TypeId} {pos:String} {af:Array Edge} {g:Option (Nat×Bool)}
theorem ah.Om {t kt et:TypeId} {ti ki:TI} {kk:KK} {o j d:Nat} {x k:Operand} {kv k':Value} {cs:List D} {m:List (Value×List D)} (ho:az σ.heap o = .ext (eO kk (dR m))) (hf:wM kv m=some j) (hj:m[j]? = some (k',cs)) (hd:hfree σ.heap d=true) (hne:o≠d)
  (h1:({ σ.kill d with heap:=aG (aG (σ.kill d).heap o (.ext (eO kk ((dR m).set j (k', .nm d))))) d (.box cs) }:St)=σ1)
  (hg:bq ds g σ1=some true) (ht:aA P t=some ti) (hk:k5 ti.kind=some (kt,et)) (zf:aA P kt=some ki) (hkk:rR ki.kind=some kk) (hx:bh σ1 x = .mp o) (hm:az σ1.heap o = .ext (eO kk ((dR m).set j (k',.nm d)))) (hkey:bh σ1 k = .sc kv) (hok:kk.ok kv=true)
  (he:σ1.put (some d) (.ref d 0)=σ') (hn:ah P ds Q l σ'):ah P ds Q (⟨some d, .lookup t x k false,ty,pos,af,g⟩::l) σ:=by
 have hlt:=(jM.1 hj).1
 have h2:ah P ds Q (⟨some d, .lookup t x k false,ty,pos,af,g⟩::l) σ1:=
  ah.Oj hg ht hk zf hkk hx hm hkey hok (wE hj hf) (uf (by rw[cj];exact hlt)) he hn
 subst h1;exact fun all ha=>dH.imp (cZ.i7 σ o j d ho (xJ hj) hd hne (by rw[k6];rfl)) (h2 all ha)
theorem ny {d:Nat} {t:TypeId} {x k:Operand} (h:ah P ds Q (⟨some d, .lookup t x k false,ty,pos,af,g⟩::l) σ):ah P ds Q (⟨some d, .lookup t x k false,ty,pos,af,g⟩::l) σ:=h
end
attribute [go_sem] Dw k6 II
end Go.eB
namespace Go.eB
open Go.RowKit Go.MapKept
open Go.ChangeMaps (setBlock)
def IK (kk:KK) (l:List (Value×BC)) (bn:List Nat) (ck:Nat):Ext where
 qt:=j7 l
 φ w st ρ hd g:= ∃ es,w.heap[g]? = some (.map es ck)/\Stamped es ck/\(∀ x∈es.toList,IsKey kk.desc x.key)/\es.toList.map (·.born)=bn/\∃ bs,MB w st ρ hd g l es.toList bs
 lt h:=by
  obtain ⟨_,h1,_⟩:=h;exact (zQ.1 h1).1
 mono hc hs hst hg hb h:=by
  obtain ⟨es,h1,h2,h3,h4,bs,m1,m2,m3,m4,m5⟩:=h;refine ⟨es,hg.trans h1,h2,h3,h4,bs,m1,m2,m3,m4,fun j k c hj=>?_⟩;obtain ⟨e,bo,e1,e2,e3,e4⟩:=m5 j k c hj;exact ⟨e,bo,e1,e2,e3,e4.mono hc hs hst (fun b h=>hb b (m3 j b (by rw[e2,h])).1)⟩
 loc hl h:=by
  obtain ⟨es,h1,h2,h3,h4,bs,m1,m2,m3,m4,m5⟩:=h;refine ⟨es,h1,h2,h3,h4,bs,m1,m2,m3,m4,fun j k c hj=>?_⟩;obtain ⟨e,bo,e1,e2,e3,e4⟩:=m5 j k c hj;exact ⟨e,bo,e1,e2,e3,e4.vU fun o h=>hl o (tg (by rw[hj,h]))⟩
theorem Lh {kk:KK} {l:List (Value×BC)} {bn:List Nat} {ck:Nat}:(IK kk l bn ck).qt=j7 l:=rfl
def Lj (o ck:Nat) (seen:List Nat):Ext where
 qt:=[o]
 φ w st ρ hd g:= ∃ bm c0,ρ o=some (some bm)/\c0=ck/\w.heap[g]? = some (.mapIter (some bm) ck seen.toArray c0)
 lt h:=by
  obtain ⟨_,_,_,_,h1⟩:=h;exact (zQ.1 h1).1
 mono hc hs hst hg hb h:=by
  obtain ⟨bm,c0,h1,h2,h3⟩:=h;exact ⟨bm,c0,h1,h2,hg.trans h3⟩
 loc hl h:=by
  obtain ⟨bm,c0,h1,h2,h3⟩:=h;exact ⟨bm,c0,(hl o (by simp)).trans h1,h2,h3⟩
theorem IL {o ck:Nat} {seen:List Nat}:(Lj o ck seen).qt=[o]:=rfl
theorem DA {w:World} {g:Nat} {es:Array MapEntry} {c:Nat} (h:w.heap[g]? = some (.map es c)):eF w g es c=w:=by
 unfold eF
 have:w.heap.setIfInBounds g (.map es c)=w.heap:=by
  apply Array.ext
  ·simp
  ·intro i h1 h2;rw[Array.getElem_setIfInBounds]
   split
   ·rename_i e;subst e;have:=zQ.1 h;exact this.2.symm
   ·rfl
 rw[this]
section
variable {w0:World} {p:Pm} {σ:St} {a:Act} {w:World} {ρ:Nm}
theorem aU.told (h:aU w0 p σ a w ρ) {o:Nat} {kk:KK} {m:List (Value×BC)} (hm:az σ.heap o = .ext (eO kk m)):
  ∃ bn ck,bn.length=m.length/\bn.Nodup/\(∀ b∈bn,b<ck)/\aU w0 p { σ with heap:=aG σ.heap o (.ext (IK kk m bn ck)) } a w ρ:=by
 have ho:=h.objs o;rw[hm] at ho;simp only[RO] at ho;obtain ⟨gm,hρ,es,cl,hb,hst,hks,bs,hN⟩:=ho;have hl:az σ.heap o≠ .dead:=by rw[hm];simp
 refine ⟨es.toList.map (·.born),cl,by rw[dD,hN.1],?_,?_,?_⟩
 ·exact hst.2.1
 ·intro b hb';obtain ⟨x,hx,rfl⟩:=qq.1 hb';exact hst.1 x hx
 ·have:=h.Dr (x:= .ext (IK kk m (es.toList.map (·.born)) cl)) (es':=es) (c':=cl) hl hρ hb (by simp) fun st h1 hc hs=>by
   simp only[RO];exact ⟨gm,hρ,es,ig hb,hst,hks,rfl,bs,hN.mono hc hs h1 fun b Pv=>lK Pv⟩
  rwa [DA hb] at this
theorem aU.Oo (h:aU w0 p σ a w ρ) {o d gm ck:Nat} (hρ:ρ o=some (some gm)) (hne:o≠d) (hh:hfree σ.heap d=true):
  aU w0 p { σ.bF [d] with heap:=aG (σ.bF [d]).heap d (.ext (Lj o ck [])) } a (w.alloc (.mapIter (some gm) ck #[] ck)) (fJ ρ d (some (some w.heap.size))):=by
 have hk:aU w0 p (σ.bF [d]) a w (fJ ρ d (some (some w.heap.size))):=h.bF (fun o' e=>gd (fun e'=>e (by simp[e']))) (fun o' h1=>eU (fun e'=>absurd (ep.1 hh).2 (by omega)))
 refine hk.born (gM (by simp)) (by rw[jw];exact (ep.1 hh).1) (fun g hg=>?_) (fun g hg=>by simp[fJ] at hg) (fun g hg _=>Below.heap_alloc w _ g hg) (fun g n hs=>ct (Below.heap_alloc w _ g hs.lt) hs) (by simp) rfl rfl rfl (by simp)
  (fun st hst=>?_)
 ·rw[jR] at hg;simp only[fD] at hg;subst hg;refine ⟨fun hs=>by have:=hs.2.1;omega,fun o' ho' e'=>?_, .inl h.below.size⟩;have:=hk.mQ ho' e';omega
 ·simp only[RO];exact ⟨w.heap.size,bK _ _,gm,ck,(eU hne).trans hρ,rfl,(heap_alloc w _).1⟩
end
section
variable {P:Program} {ds:List (Option Nat)} {Q:Exit->St->Prop} {σ σ':St} {l:List Oper} {dst:Option Nat} {ty:TypeId} {pos:String} {af:Array Edge} {g:Option (Nat×Bool)}
theorem ah.range {t kt et:TypeId} {ti:TI} {kk:KK} {o d:Nat} {x:Operand} {m:List (Value×BC)} (hg:∀ e,bq ds g { σ with heap:=aG σ.heap o (.ext e) }=some true) (ht:aA P t=some ti) (hk:k5 ti.kind=some (kt,et))
  (hx:bh σ x = .mp o) (hm:az σ.heap o = .ext (eO kk m)) (hne:o≠d) (hh:hfree (aG σ.heap o (.ext (eO kk m))) d=true) (hf:∀ e,hfree (aG σ.heap o (.ext e)) d=true) (hx':∀ e,bh { σ with heap:=aG σ.heap o (.ext e) } x = .mp o)
  (hn:∀ bn ck,bn.length=m.length->bn.Nodup->ah P ds Q l (St.BE { σ with heap:=aG σ.heap o (.ext (IK kk m bn ck)) } d (.ext (Lj o ck [])) (.ref d 0))):ah P ds Q (⟨some d, .range t x,ty,pos,af,g⟩::l) σ:=by
 intro all ha w0 p a w hr;obtain ⟨ρ,hr⟩:=hr;obtain ⟨bn,ck,q1,q2,q3,hr⟩:=hr.told hm;have hw:=aT (all:=all) (o:=⟨some d, .range t x,ty,pos,af,g⟩) (by rw[bV ha];exact hg _) ⟨ρ,hr⟩;have eL:az σ.heap o≠ .dead:=by rw[hm];simp
 have hm2:az (aG σ.heap o (.ext (IK kk m bn ck))) o = .ext (IK kk m bn ck):=aX (cC eL);obtain ⟨gm,mM,hρ,es,hb,hst,hks,Rh,bs,hN⟩:=qc hr (hx' _) hm2;obtain ⟨i,dd,h1,hu,_,_,_,h6⟩:=cr ht;rw[<- h6] at hk;rw[rS hk] at hu
 have hrun:(execOp a.eval ⟨some d, .range t x,ty,pos,af,g⟩).run P w = .ok (.value (.pointer (some ⟨w.heap.size,0,none⟩))) (w.alloc (.mapIter (some gm) ck #[] ck)):=by
  simp[execOp,Instr.range,run_underlying hu,mM,JE hb,Result.andThen]
 refine bp hw (.inl hrun) (hn bn ck q1 q2 all ha w0 p _ _ ⟨fJ ρ d (some (some w.heap.size)),?_⟩);exact (hr.Oo hρ hne (hf _)).put (some d) (by simp only[R];exact ⟨_,bK _ _,rfl⟩)
end
attribute [go_sem] Lh IL
def Tx (ins:List Nat) (h:List (Nat×Obj)) (d:D):List Nat:=jy ins (BL d)++jy (ins++jy ins (BL d)) ((jy ins (BL d)).flatMap fun o=>QS (az h o))
theorem aC.q2 {P:Program} {fn:Func} {ins new:List Nat} {ret d d':D} {xs outs:List Obj} {e:Exit} {σ:St} (he:PK e=true) (hd:iw P σ fn.results.toList=some d) (hn:Tx ins σ.heap d=new) (qX:(ins++new).Nodup)
  (hr:um (ins++new) d=some d') (ho:lX (ins++new) σ.heap (ins++new)=some xs) (hl:(ins++new).length=outs.length) (h:Al d' ret/\q9 xs outs):aC P fn ins ret outs e σ:=
 ⟨σ,fun _ _ _ _ h=>h,by cases e<;>simp_all[PK],new,d,qX,hd,⟨d',hr,p7 h.1⟩,xs,ho,l8 h.2⟩
def Lk:Option Nat->List Nat
 | none=>[]
 | some d=>[d,500+d]
section
variable {P:Program} {st:List Nat} {ds:List (Option Nat)} {Q:Exit->St->Prop} {σ:St} {l:List Oper} {dst:Option Nat} {g:Option (Nat×Bool)} {f:FuncId} {args:List D} {ret:D} {sn:Bool} {outs:List Obj}
theorem aq.n2 (hc:ak P f args ret outs) (h:rV (jY ds g σ dst [] (Lk dst) sn ret outs) P st ds Q l):aq P st ds g σ dst f args sn Q l:=aq.w _ hc h
end
attribute [go_sem] Lk Tx
end Go.eB
namespace Go.eB
open Go.RowKit Go.MapKept
def DB:D->Option Bool
 | .ref _ _=>some false
 | .sc (.pointer none)=>some true
 | _=>none
def Ll:TK->Option TypeId
 | .ptr e=>some e
 | _=>none
theorem Az {d:TypeDesc} {e:TypeId} (h:Ll (nD d)=some e):d = .pointer e:=by
 cases d<;>simp[nD,Ll] at h;subst h;rfl
section
variable {P:Program} {ds:List (Option Nat)} {Q:Exit->St->Prop} {σ σ':St} {l:List Oper} {dst:Option Nat} {ty:TypeId} {pos:String} {af:Array Edge} {g:Option (Nat×Bool)}
theorem DC {w0:World} {p:Pm} {a:Act} {w:World} {ρ:Nm} (hr:aU w0 p σ a w ρ) {x:Operand} {b:Bool} (hx:DB (bh σ x)=some b):∃ q,a.eval x = .pointer q/\q.isNone=b:=by
 have h:=hr.bh x;unfold DB at hx
 split at hx
 ·rename_i o n he;rw[he] at h;simp only[R] at h;obtain ⟨g,_,e⟩:=h;simp only[fD] at hx;exact ⟨_,e,by rw[<- hx];rfl⟩
 ·rename_i he;rw[he] at h;simp only[R] at h;simp only[fD] at hx;exact ⟨none,h,by rw[<- hx];rfl⟩
 ·cases hx
theorem ah.ptrEq {x:Operand} {t t2 e:TypeId} {ti:TI} {b:Bool} (hg:bq ds g σ=some true) (ht:aA P t=some ti) (hk:Ll ti.kind=some e) (hx:DB (bh σ x)=some b) (he:σ.put dst (.sc (.bool b))=σ')
  (hn:ah P ds Q l σ'):ah P ds Q (⟨dst, .binOp .eql t x (.const (.pointer none)) t2,ty,pos,af,g⟩::l) σ:=by
 intro all ha w0 p a w hr;have hw:=aT (all:=all) (o:=⟨dst, .binOp .eql t x (.const (.pointer none)) t2,ty,pos,af,g⟩) (by rw[bV ha];exact hg) hr;obtain ⟨ρ,hr⟩:=hr;obtain ⟨q,hq,rfl⟩:=DC hr hx;obtain ⟨i,dd,h1,hu,_,_,_,h6⟩:=cr ht;rw[<- h6] at hk;rw[Az hk] at hu;have hp:P.underlying t=some (.pointer (P.pointee t)):=by rw[Program.pointee,hu]
 have hgd:∀ y:Operand,eqGuard .eql t x y (.pointer q) (.pointer none)=pure ():=fun y=>rfl;have MN:a.eval (.const (.pointer none)) = .pointer none:=rfl
 have hrun:(execOp a.eval ⟨dst, .binOp .eql t x (.const (.pointer none)) t2,ty,pos,af,g⟩).run P w = .ok (.value (.bool q.isNone)) w:=by
  simp[execOp,hq,MN,hgd,run_eql_pointer_nil w t q hp]
 subst he;exact bp hw (.inl hrun) (hn all ha w0 p _ _ ⟨ρ,hr.put dst (by simp[R])⟩)
theorem ah.Ss {x:Operand} {t t2 e:TypeId} {ti:TI} {b:Bool} (hg:bq ds g σ=some true) (ht:aA P t=some ti) (hk:Ll ti.kind=some e) (hx:DB (bh σ x)=some b) (he:σ.put dst (.sc (.bool !b))=σ')
  (hn:ah P ds Q l σ'):ah P ds Q (⟨dst, .binOp .neq t x (.const (.pointer none)) t2,ty,pos,af,g⟩::l) σ:=by
 intro all ha w0 p a w hr;have hw:=aT (all:=all) (o:=⟨dst, .binOp .neq t x (.const (.pointer none)) t2,ty,pos,af,g⟩) (by rw[bV ha];exact hg) hr;obtain ⟨ρ,hr⟩:=hr;obtain ⟨q,hq,rfl⟩:=DC hr hx;obtain ⟨i,dd,h1,hu,_,_,_,h6⟩:=cr ht;rw[<- h6] at hk;rw[Az hk] at hu;have hp:P.underlying t=some (.pointer (P.pointee t)):=by rw[Program.pointee,hu]
 have hgd:∀ y:Operand,eqGuard .neq t x y (.pointer q) (.pointer none)=pure ():=fun y=>rfl;have MN:a.eval (.const (.pointer none)) = .pointer none:=rfl
 have hrun:(execOp a.eval ⟨dst, .binOp .neq t x (.const (.pointer none)) t2,ty,pos,af,g⟩).run P w = .ok (.value (.bool !q.isNone)) w:=by
  simp[execOp,hq,MN,hgd,run_neq_pointer_nil w t q hp]
 subst he;exact bp hw (.inl hrun) (hn all ha w0 p _ _ ⟨ρ,hr.put dst (by simp[R])⟩)
theorem qp {x:Operand} {t t2:TypeId} (h:ah P ds Q (⟨dst, .binOp .eql t x (.const (.pointer none)) t2,ty,pos,af,g⟩::l) σ):ah P ds Q (⟨dst, .binOp .eql t x (.const (.pointer none)) t2,ty,pos,af,g⟩::l) σ:=h
theorem M3 {x:Operand} {t t2:TypeId} (h:ah P ds Q (⟨dst, .binOp .neq t x (.const (.pointer none)) t2,ty,pos,af,g⟩::l) σ):ah P ds Q (⟨dst, .binOp .neq t x (.const (.pointer none)) t2,ty,pos,af,g⟩::l) σ:=h
end
def Ty (S:St) (e:Exit) (σ':St):Prop:=e = .normal/\σ'=S
theorem ay.pR {P:Program} {c:Code} {Q:Exit->St->Prop} {σ S:St} (h1:ay P c (Ty S) σ) (h2:Q .normal S):ay P c Q σ:=
 ay.mono h1 fun e σ' h=>by obtain ⟨rfl,rfl⟩:=h;exact h2
theorem jt {S:St}:Ty S .normal S:=⟨rfl,rfl⟩
section
variable {P:Program} {ds:List (Option Nat)} {Q:Exit->St->Prop} {σ σ1 σ':St} {l:List Oper} {dst:Option Nat} {ty:TypeId} {pos:String} {af:Array Edge} {g:Option (Nat×Bool)}
theorem ah.sH {t kt et:TypeId} {ti ki:TI} {kk:KK} {o j d:Nat} {x k:Operand} {kv k':Value} {cs:List D} {m:List (Value×List D)} (hx0:bh σ x = .mp o) (ho:az σ.heap o = .ext (eO kk (dR m))) (yQ:bh σ k = .sc kv) (hf:wM kv m=some j) (hj:m[j]? = some (k',cs)) (hd:hfree σ.heap d=true) (hne:o≠d)
  (h1:({ σ.kill d with heap:=aG (aG (σ.kill d).heap o (.ext (eO kk ((dR m).set j (k', .nm d))))) d (.box cs) }:St)=σ1)
  (hg:bq ds g σ1=some true) (ht:aA P t=some ti) (hk:k5 ti.kind=some (kt,et)) (zf:aA P kt=some ki) (hkk:rR ki.kind=some kk) (hx:bh σ1 x = .mp o) (hm:az σ1.heap o = .ext (eO kk ((dR m).set j (k',.nm d)))) (hkey:bh σ1 k = .sc kv) (hok:kk.ok kv=true)
  (he:σ1.put (some d) (.ref d 0)=σ') (hn:ah P ds Q l σ'):ah P ds Q (⟨some d, .lookup t x k false,ty,pos,af,g⟩::l) σ:=
 ah.Om ho hf hj hd hne h1 hg ht hk zf hkk hx hm hkey hok he hn
theorem cZ.Bm {σ σ':St} (o d:Nat) {j:Nat} {kk:KK} {l:List (Value×List D)} {k:Value} {cs:List D} (ho:az σ.heap o = .ext (eO kk ((dR l).set j (k, .nm d)))) (hd:az σ.heap d = .box cs) (hp:jA cs=true) (hj:j<l.length) (zg:d<1000) (hne:o≠d)
  (he:(({ σ with heap:=aG (aG σ.heap d .dead) o (.ext (eO kk (dR (l.set j (k,cs))))) }:St).kill d)=σ'):cZ σ σ':=cZ.Rf σ o j d hj ho hd hp zg hne he (cZ.refl _)
theorem cZ.M1 {σ σ':St} (o d:Nat) {kk:KK} {l:List (Value×List D)} {k:Value} {cs:List D} (ho:az σ.heap o = .ext (eO kk (dR l++[(k, .nm d)]))) (hd:az σ.heap d = .box cs) (hp:jA cs=true) (zg:d<1000) (hne:o≠d)
  (he:(({ σ with heap:=aG (aG σ.heap d .dead) o (.ext (eO kk (dR (l++[(k,cs)])))) }:St).kill d)=σ'):cZ σ σ':=cZ.Rg σ o d ho hd hp zg hne he (cZ.refl _)
theorem ah.FD (h:cZ σ σ') (hn:ah P ds Q l σ'):ah P ds Q l σ:=fun all ha=>dH.imp h (hn all ha)
end
def Oq:TK->Bool
 | .ptr _=>true
 | _=>false
theorem IP {d:TypeDesc} (h:Oq (nD d)=true):∃ e,d = .pointer e:=by
 cases d<;>simp[nD,Oq] at h;exact ⟨_,rfl⟩
def AA (P:Program) (t:TypeId):Bool:=match aA P t with
 | some ti=>Oq ti.kind
 | none=>false
theorem FK {P:Program} {t:TypeId} (h:AA P t=true):P.underlying t=some (.pointer (P.pointee t)):=by
 unfold AA at h
 split at h
 ·rename_i ti ht;obtain ⟨i,dd,h1,hu,_,_,_,h6⟩:=cr ht;rw[<- h6] at h;obtain ⟨e,he⟩:=IP h;rw[he] at hu;rw[Program.pointee,hu]
 ·cases h
theorem qS {P:Program} {d:Nat} {t e:TypeId} (h:P.underlying t=some (.pointer e)):aQ P (Op.equalIn (d+1) t (.pointer none) (.pointer none))=some true:=by
 simp[Op.equalIn,bk,cm h,cM]
theorem tn {P:Program} {t:TypeId} (h:AA P t=true):aQ P ((pure ():Sem Unit) >>= fun _=>Go.binOp .eql t (.pointer none) (.pointer none))=some (.bool true)/\aQ P ((pure ():Sem Unit) >>= fun _=>Go.binOp .neq t (.pointer none) (.pointer none))=some (.bool false):=by
 have hp:=FK h
 have he:aQ P (Op.equal t (.pointer none) (.pointer none))=some true:=by
  show aQ P (Op.equalIn (9999+1) t (.pointer none) (.pointer none))=_;exact qS hp
 have h1:Go.binOp .eql t (.pointer none) (.pointer none)=(do let r <- Op.equal t (.pointer none) (.pointer none);pure (.bool r)):=rfl;have h2:Go.binOp .neq t (.pointer none) (.pointer none)=(do let r <- Op.equal t (.pointer none) (.pointer none);pure (.bool !r)):=rfl;constructor
 ·rw[bk,cM,Option.bind_some,h1,bk,he];rfl
 ·rw[bk,cM,Option.bind_some,h2,bk,he];rfl
theorem zi {P:Program} {t:TypeId} (h:AA P t=true):aQ P ((pure ():Sem Unit) >>= fun _=>Go.binOp .eql t (.pointer none) (.pointer none))=some (.bool true):=(tn h).1
theorem zj {P:Program} {t:TypeId} (h:AA P t=true):aQ P ((pure ():Sem Unit) >>= fun _=>Go.binOp .neq t (.pointer none) (.pointer none))=some (.bool false):=(tn h).2
theorem IQ {o j d:Nat} {k:Value} {l:List (Value×List D)}:iP o (j7 ((dR l).set j (k, .nm d)))=if d=o then decide (j<l.length) else false:=by
 rw[Dx];by_cases h:j<l.length<;>by_cases e:d=o<;>simp[h,e,iP]
theorem Lm:j7 []=[]:=rfl
theorem Ln {kk:KK}:(eO kk []).qt=[]:=rfl
def oF:Code->List Code
 | .seq x y=>oF x++oF y
 | .block _ c=>oF c
 | .loop c=>c::oF c
 | .cond _ x y=>oF x++oF y
 | _=>[]
def PZ (fn:Func) (k:Nat):Option Code:=match fn.body with
 | some c=>(oF c)[k]?
 | none=>none
def Tz (P:Program) (fn:Func) (k:Nat) (Q:Exit->St->Prop) (σ:St):Prop:= ∀ c,PZ fn k=some c->ay P c Q σ
theorem Tz.of {P:Program} {fn:Func} {k:Nat} {Q:Exit->St->Prop} {σ:St} {c:Code} (h:PZ fn k=some c) (ht:ay P c Q σ):Tz P fn k Q σ:=fun c' h'=>by
 rw[h] at h';cases h';exact ht
attribute [go_sem] DB Ll Lm Ln AA Oq IQ zi zj
end Go.eB
