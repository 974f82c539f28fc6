/- The abstract machine, parts ZT to ZW. -/
import Derived.Test.YteemiclhnfkekaaZAvmU
import Derived.Maps.RangeRun
import Derived.Laws.Pointers
/- The abstract machine, part ZT: look-ups, updates, deletes and the length of maps whose elements are pointers to boxes of their own. -/
namespace Go.Avm
set_option linter.unusedVariables false
set_option linter.unusedSimpArgs false
open Go.RowKit Go.MapKept
def bIdx (k:Value):List (Value×BC)→Option Nat
 | []=>none
 | p::l=>if keyB p.1 k=true then some 0 else (bIdx k l).map (· + 1)
theorem MB.find {kk:KK} {k:Value} (hk:IsKey kk.desc k): ∀ {l:List (Value×BC)} {es:List MapEntry} (i:Nat),es.length=l.length→(∀ (j:Nat) k c e,l[j]? = some (k,c)→es[j]? = some e→e.key=k)→(∀ x∈es,IsKey kk.desc x.key)→
  (bIdx k l=none∧Instr.findNow kk.desc k es i=some none∧ ∀ x∈es,x.key≠k)∨
   ∃ j e c,bIdx k l=some j∧l[j]? = some (k,c)∧Instr.findNow kk.desc k es i=some (some (i+j,e.val))∧es[j]? = some e∧e.key=k
 | [],es,i,h,_,_=>by
   have:es=[]:=List.eq_nil_of_length_eq_zero h
   subst this
   exact .inl ⟨rfl,rfl,by simp⟩
 | p::l,[],i,h,_,_=>by simp at h
 | p::l,e::es,i,h,hkeys,hks=>by
   have he:=hks e (.head _)
   have h2:e.key=p.1:=hkeys 0 p.1 p.2 e rfl rfl
   obtain ⟨r,hr,hiff⟩:=sameNow_of_keys hk he
   rw [h2] at hr hiff he
   cases r with
   | true=>
     have e1:k=p.1:=hiff.1 rfl
     have hb:keyB p.1 k=true:=(keyB_iff he hk).2 e1.symm
     exact .inr ⟨0,e,p.2,by simp [bIdx,hb],by rw [e1];rfl,by simp [Instr.findNow,h2,hr],rfl,by rw [h2,e1]⟩
   | false=>
     have hne:k≠p.1:=fun q=>by have:=hiff.2 q;cases this
     have hb:keyB p.1 k=false:=by rw [Bool.eq_false_iff];exact fun q=>hne ((keyB_iff he hk).1 q).symm
     rcases MB.find hk (i+1) (by simpa using h) (fun j k c e' hl he'=>hkeys (j+1) k c e' (by simpa using hl) (by simpa using he')) (fun x hx=>hks x (.tail _ hx)) with ⟨f1,f2,f3⟩|⟨j,e',c,f1,f2,f3,f4,f5⟩
     ·refine .inl ⟨by simp [bIdx,hb,f1],by simp [Instr.findNow,h2,hr,f2],fun x hx=>?_⟩
      cases hx with
      | head=>rw [h2];exact hne.symm
      | tail _ hx=>exact f3 x hx
     ·exact .inr ⟨j+1,e',c,by simp [bIdx,hb,f1],by simpa using f2,by simp [Instr.findNow,h2,hr,f3];omega,by simpa using f4,f5⟩
theorem MB.keys {w:World} {st:Nat→Prop} {ρ:Nat→Option (Option Nat)} {hd:Nat→Prop} {g:Nat} {l:List (Value×BC)} {es:List MapEntry} {bs:List (Option Nat)} (h:MB w st ρ hd g l es bs): ∀ (j:Nat) k c e,l[j]? = some (k,c)→es[j]? = some e→e.key=k:=fun j k c e hl he=>by
 obtain ⟨e',bo,h1,_,h3,_⟩:=h.2.2.2.2 j k c hl
 rw [h1] at he
 cases he
 exact h3
theorem MB.mono {w w':World} {st st':Nat→Prop} {ρ:Nat→Option (Option Nat)} {hd:Nat→Prop} {g:Nat} {l:List (Value×BC)} {es:List MapEntry} {bs:List (Option Nat)} (h:MB w st ρ hd g l es bs) (hc: ∀ k off,st k→w'.cell? ⟨k,off,none⟩=w.cell? ⟨k,off,none⟩) (hs: ∀ k n,Sh w k n→Sh w' k n) (hst: ∀ k,st k→st' k) (hb: ∀ b,b≠g→w'.heap[b]? = w.heap[b]?):MB w' st' ρ hd g l es bs:=by
 obtain ⟨m1,m2,m3,m4,m5⟩:=h
 refine ⟨m1,m2,m3,m4,fun j k c hj=>?_⟩
 obtain ⟨e,bo,e1,e2,e3,e4⟩:=m5 j k c hj
 exact ⟨e,bo,e1,e2,e3,e4.mono hc hs hst (fun b h=>hb b (m3 j b (by rw [e2,h])).2)⟩
theorem MB.push {w:World} {st:Nat→Prop} {ρ:Nat→Option (Option Nat)} {hd:Nat→Prop} {g o b:Nat} {k v:Value} {l:List (Value×BC)} {es:List MapEntry} {bs:List (Option Nat)} (h:MB w st ρ hd g l es bs) (hv:R w st ρ (.ref o 0) v):MB w st ρ hd g (l++[(k,.nm o)]) (es++[⟨k,v,b⟩]) (bs++[none]):=by
 obtain ⟨m1,m2,m3,m4,m5⟩:=h
 have hn: ∀ (j b:Nat),(bs++[none])[j]? = some (some b)→bs[j]? = some (some b):=fun j b hj=>by
  rw [List.getElem?_append] at hj
  split at hj
  ·exact hj
  ·cases hq:j-bs.length with
   | zero=>rw [hq] at hj;simp at hj
   | succ q=>rw [hq] at hj;simp at hj
 refine ⟨by simp [m1],by simp [m2],fun j b hj=>m3 j b (hn j b hj),fun i j b hi hj=>m4 i j b (hn i b hi) (hn j b hj),fun j k' c hj=>?_⟩
 by_cases hlt:j<l.length
 ·rw [List.getElem?_append_left hlt] at hj
  obtain ⟨e,bo,e1,e2,e3,e4⟩:=m5 j k' c hj
  exact ⟨e,bo,by rw [List.getElem?_append_left (by omega)];exact e1,by rw [List.getElem?_append_left (by omega)];exact e2,e3,e4⟩
 ·have hje:j=l.length:=by
   have:=(List.getElem?_eq_some_iff.1 hj).1
   simp at this;omega
  subst hje
  rw [List.getElem?_append_right (Nat.le_refl _)] at hj
  simp at hj
  obtain ⟨rfl,rfl⟩:=hj
  exact ⟨⟨k,v,b⟩,none,by rw [← m1];simp,by rw [← m2];simp,rfl,rfl,hv⟩
section
variable {P:Program} {ds:List (Option Nat)} {Q:Exit→St→Prop} {σ σ':St} {l:List Oper} {dst:Option Nat} {ty:TypeId} {pos:String} {af:Array Edge} {g:Option (Nat×Bool)}
/-- No such key: the element type's zero. -/
theorem TriD.lookupN {t kt et:TypeId} {ti ki ei:TI} {kk:KK} {o:Nat} {x k:Operand} {kv:Value} {m:List (Value×BC)} (hg:aguardC ds g σ=some true) (ht:tiGet P t=some ti) (hk:mapKE ti.kind=some (kt,et)) (hkt:tiGet P kt=some ki) (hkk:kkOf ki.kind=some kk) (het:tiGet P et=some ei)
  (hx:evl σ x = .mp o) (hm:hget σ.heap o = .ext (mapB kk m)) (hkey:evl σ k = .sc kv) (hok:kk.ok kv=true) (hf:bIdx kv m=none) (he:σ.put dst (.sc ei.zero)=σ') (hn:TriD P ds Q l σ'):TriD P ds Q (⟨dst, .lookup t x k false,ty,pos,af,g⟩::l) σ:=by
 intro all ha w0 p a w hr
 have hw:=aguard_wanted (all:=all) (o:=⟨dst, .lookup t x k false,ty,pos,af,g⟩) (by rw [aguard_C ha];exact hg) hr
 obtain ⟨ρ,hr⟩:=hr
 obtain ⟨hu,hku⟩:=map_ti ht hk hkt hkk
 obtain ⟨gm,hxv,hρ,es,cl,hb,hst,hks,bs,hN⟩:=map_at hr hx hm
 have h2:=hr.evl k
 rw [hkey] at h2
 simp only [R] at h2
 have hkey':=KK.isKey hok
 have hz:=(run_ti het w).2.2.2.1
 rcases MB.find hkey' 0 hN.1 hN.keys hks with ⟨f1,f2,_⟩|⟨j,e,c,f1,_⟩
 ·have hrun:(execOp a.eval ⟨dst, .lookup t x k false,ty,pos,af,g⟩).run P w = .ok (.value ei.zero) w:=by
   simp [execOp,Instr.lookup,run_underlying hu,hxv,h2,Go.MapKept.run_getObj_map hb,run_checkKey hku hkey',run_findKey hku f2,hz,Result.andThen]
  refine wpList_of_step hw (.inl hrun) (hn all ha w0 p _ _ ⟨ρ,?_⟩)
  subst he
  exact hr.put dst (by simp [R])
 ·rw [hf] at f1;cases f1
/-- The key of a named box: its pointer. -/
theorem TriD.lookupB {t kt et:TypeId} {ti ki:TI} {kk:KK} {o d j:Nat} {x k:Operand} {kv k':Value} {m:List (Value×BC)} (hg:aguardC ds g σ=some true) (ht:tiGet P t=some ti) (hk:mapKE ti.kind=some (kt,et)) (hkt:tiGet P kt=some ki) (hkk:kkOf ki.kind=some kk)
  (hx:evl σ x = .mp o) (hm:hget σ.heap o = .ext (mapB kk m)) (hkey:evl σ k = .sc kv) (hok:kk.ok kv=true) (hf:bIdx kv m=some j) (hj:m[j]? = some (k',.nm d)) (he:σ.put dst (.ref d 0)=σ') (hn:TriD P ds Q l σ'):TriD P ds Q (⟨dst,.lookup t x k false,ty,pos,af,g⟩::l) σ:=by
 intro all ha w0 p a w hr
 have hw:=aguard_wanted (all:=all) (o:=⟨dst, .lookup t x k false,ty,pos,af,g⟩) (by rw [aguard_C ha];exact hg) hr
 obtain ⟨ρ,hr⟩:=hr
 obtain ⟨hu,hku⟩:=map_ti ht hk hkt hkk
 obtain ⟨gm,hxv,hρ,es,cl,hb,hst,hks,bs,hN⟩:=map_at hr hx hm
 have h2:=hr.evl k
 rw [hkey] at h2
 simp only [R] at h2
 have hkey':=KK.isKey hok
 rcases MB.find hkey' 0 hN.1 hN.keys hks with ⟨f1,_⟩|⟨j',e,c,f1,f2,f3,f4,f5⟩
 ·rw [hf] at f1;cases f1
 ·rw [hf] at f1
  cases f1
  rw [hj] at f2
  cases f2
  have hrun:(execOp a.eval ⟨dst, .lookup t x k false,ty,pos,af,g⟩).run P w = .ok (.value e.val) w:=by
   simp [execOp,Instr.lookup,run_underlying hu,hxv,h2,Go.MapKept.run_getObj_map hb,run_checkKey hku hkey',run_findKey hku f3,Result.andThen]
  refine wpList_of_step hw (.inl hrun) (hn all ha w0 p _ _ ⟨ρ,?_⟩)
  subst he
  obtain ⟨e',bo,g1,g2,g3,g4⟩:=hN.2.2.2.2 j _ _ hj
  rw [f4] at g1
  cases g1
  exact hr.put dst g4.2
/-- A new key with a pointer to a named box. -/
theorem TriD.mapUpdateB {t kt et:TypeId} {ti ki:TI} {kk:KK} {o d:Nat} {x k y:Operand} {kv:Value} {m:List (Value×BC)} (hg:aguardC ds g σ=some true) (ht:tiGet P t=some ti) (hk:mapKE ti.kind=some (kt,et)) (hkt:tiGet P kt=some ki) (hkk:kkOf ki.kind=some kk)
  (hx:evl σ x = .mp o) (hm:hget σ.heap o = .ext (mapB kk m)) (hkey:evl σ k = .sc kv) (hok:kk.ok kv=true) (hf:bIdx kv m=none) (hy:evl σ y = .ref d 0) (he:St.put { σ with heap:=hset σ.heap o (.ext (mapB kk (m++[(kv,.nm d)]))) } dst (.sc undef)=σ') (hn:TriD P ds Q l σ'):TriD P ds Q (⟨dst,.mapUpdate t x k y,ty,pos,af,g⟩::l) σ:=by
 intro all ha w0 p a w hr
 have hw:=aguard_wanted (all:=all) (o:=⟨dst, .mapUpdate t x k y,ty,pos,af,g⟩) (by rw [aguard_C ha];exact hg) hr
 obtain ⟨ρ,hr⟩:=hr
 obtain ⟨hu,hku⟩:=map_ti ht hk hkt hkk
 obtain ⟨gm,hxv,hρ,es,cl,hb,hst,hks,bs,hN⟩:=map_at hr hx hm
 have h2:=hr.evl k
 rw [hkey] at h2
 simp only [R] at h2
 have h3:=hr.evl y
 rw [hy] at h3
 have hkey':=KK.isKey hok
 have hlive:hget σ.heap o≠ .dead:=by rw [hm];simp
 rcases MB.find hkey' 0 hN.1 hN.keys hks with ⟨f1,f2,f3⟩|⟨j',e,c,f1,_⟩
 ·have hks': ∀ z∈(es.push ⟨kv,a.eval y,cl⟩).toList,IsKey kk.desc z.key:=by
   intro z hz
   simp only [Array.toList_push,List.mem_append,List.mem_singleton] at hz
   rcases hz with hz|rfl
   ·exact hks z hz
   ·exact hkey'
  have hst':=stamped_push hst (val:=a.eval y) f3
  have hrun:(execOp a.eval ⟨dst, .mapUpdate t x k y,ty,pos,af,g⟩).run P w = .ok .skip (setMap w gm (es.push ⟨kv,a.eval y,cl⟩) (cl+1)):=by
   simp [execOp,Instr.mapUpdate,run_underlying hu,hxv,h2,Go.MapKept.run_getObj_map hb,run_checkKey hku hkey',run_findKey hku f2,run_setObj_map _ hb,Result.andThen,setMap]
  refine wpList_of_step hw (.inr ⟨rfl,hrun⟩) (hn all ha w0 p _ _ ⟨ρ,?_⟩)
  subst he
  refine RelAt.put ?_ dst (by simp [R])
  refine hr.updM hlive hρ hb (by simp) fun st h1 hc hs=>?_
  simp only [RO]
  refine ⟨gm,hρ,_,_,setMap_same hb,hst',hks',bs++[none],?_⟩
  rw [Array.toList_push]
  exact (hN.mono hc hs h1 fun b hbg=>setMap_other hbg).push (R.mono hc hs h1 h3)
 ·rw [hf] at f1;cases f1
theorem TriD.mapLenB {t:TypeId} {ti:TI} {kt et:TypeId} {kk:KK} {o:Nat} {x:Operand} {m:List (Value×BC)} (hg:aguardC ds g σ=some true) (ht:tiGet P t=some ti) (hk:mapKE ti.kind=some (kt,et))
  (hx:evl σ x = .mp o) (hm:hget σ.heap o = .ext (mapB kk m)) (he:σ.put dst (.sc (.int .i64 m.length))=σ') (hn:TriD P ds Q l σ'):TriD P ds Q (⟨dst, .call { callee:= .builtin .len,args:= #[x],argTypes:= #[t] },ty,pos,af,g⟩::l) σ:=by
 intro all ha w0 p a w hr
 have hw:=aguard_wanted (all:=all) (o:=⟨dst, .call { callee:= .builtin .len,args:= #[x],argTypes:= #[t] },ty,pos,af,g⟩) (by rw [aguard_C ha];exact hg) hr
 obtain ⟨ρ,hr⟩:=hr
 obtain ⟨gm,hxv,hρ,es,cl,hb,hst,hks,bs,hN⟩:=map_at hr hx hm
 obtain ⟨i,d,h1,hu,_,_,_,h6⟩:=tiGet_spec ht
 rw [← h6] at hk
 rw [mapKE_spec hk] at hu
 have hrun:(execOp a.eval ⟨dst, .call { callee:= .builtin .len,args:= #[x],argTypes:= #[t] },ty,pos,af,g⟩).run P w = .ok (.value (.int .i64 m.length)) w:=by
  have:=hN.1
  simp only [Array.length_toList] at this
  simp [execOp,resolve,invoke,builtin,Builtin.len_,run_underlying hu,hxv,Go.MapKept.run_getObj_map hb,Result.andThen,goInt,this]
 subst he
 exact wpList_of_step hw (.inl hrun) (hn all ha w0 p _ _ ⟨ρ,hr.put dst (by simp [R])⟩)
end
section
variable {w0:World} {p:Pm} {σ:St} {a:Act} {w:World} {ρ:Nm}
theorem RelAt.newMapB (h:RelAt w0 p σ a w ρ) {d:Nat} {kk:KK} (hh:hfree σ.heap d=true):
  RelAt w0 p { σ.kills [d] with heap:=hset (σ.kills [d]).heap d (.ext (mapB kk [])) } a (w.alloc (.map #[] 0)) (updρ ρ d (some (some w.heap.size))):=by
 have hk:RelAt w0 p (σ.kills [d]) a w (updρ ρ d (some (some w.heap.size))):=h.kills (fun o' e=>updρ_sm (fun e'=>e (by simp [e']))) (fun o' h1=>updρ_other (fun e'=>absurd (hfree_iff.1 hh).2 (by omega)))
 refine hk.born (hget_kills_in (by simp)) (by rw [hhas_kills];exact (hfree_iff.1 hh).1) (fun g hg=>?_) (fun g hg=>by simp [updρ] at hg) (fun g hg _=>Below.heap_alloc w _ g hg) (fun g n hs=>Sh_of_block (Below.heap_alloc w _ g hs.lt) hs) (by simp) rfl rfl rfl (by simp)
  (fun st hst=>?_)
 ·rw [updρ_ow] at hg
  simp only [l_5] at hg
  subst hg
  refine ⟨fun hs=>by have:=hs.2.1;omega,fun o' ho' e'=>?_, .inl h.below.size⟩
  have:=hk.lt_ow ho' e'
  omega
 ·simp only [RO]
  exact ⟨w.heap.size,updρ_same _ _, #[],0,(heap_alloc w _).1,stamped_empty 0,by simp,[],rfl,rfl,by simp,by simp,by simp⟩
end
section
variable {P:Program} {ds:List (Option Nat)} {Q:Exit→St→Prop} {σ σ':St} {l:List Oper} {ty:TypeId} {pos:String} {af:Array Edge} {g:Option (Nat×Bool)}
theorem TriD.makeMapB {t kt et:TypeId} {ti ki:TI} {kk:KK} {d:Nat} (hg:aguardC ds g σ=some true) (ht:tiGet P t=some ti) (hk:mapKE ti.kind=some (kt,et)) (hkt:tiGet P kt=some ki) (hkk:kkOf ki.kind=some kk) (hh:hfree σ.heap d=true)
  (he:σ.bear d (.ext (mapB kk [])) (.mp d)=σ') (hn:TriD P ds Q l σ'):TriD P ds Q (⟨some d, .makeMap t none,ty,pos,af,g⟩::l) σ:=by
 intro all ha w0 p a w hr
 have hw:=aguard_wanted (all:=all) (o:=⟨some d, .makeMap t none,ty,pos,af,g⟩) (by rw [aguard_C ha];exact hg) hr
 obtain ⟨ρ,hr⟩:=hr
 have hrun:(execOp a.eval ⟨some d, .makeMap t none,ty,pos,af,g⟩).run P w = .ok (.value (.map (some w.heap.size))) (w.alloc (.map #[] 0)):=by
  simp [execOp,Instr.makeMap,Result.andThen]
 subst he
 refine wpList_of_step hw (.inl hrun) (hn all ha w0 p _ _ ⟨updρ ρ d (some (some w.heap.size)),?_⟩)
 exact (hr.newMapB hh).put (some d) (by simp only [R];exact ⟨_,updρ_same _ _,rfl⟩)
end
end Go.Avm
/- The abstract machine, part ZU: maps of boxes of their own, as lists of keys and boxes; an element's box taken and healed. -/
namespace Go.Avm
set_option linter.unusedVariables false
set_option linter.unusedSimpArgs false
open Go.RowKit Go.MapKept
/-- All elements own their boxes. -/
def ownB (l:List (Value×List D)):List (Value×BC):=l.map fun e=>(e.1, .own e.2)
theorem ownB_len {l:List (Value×List D)}:(ownB l).length=l.length:=by simp [ownB]
theorem ownB_get {l:List (Value×List D)} {j:Nat} {k:Value} {cs:List D} (h:l[j]? = some (k,cs)):(ownB l)[j]? = some (k, .own cs):=by simp [ownB,h]
theorem nmsB_own: ∀ {l:List (Value×List D)},nmsB (ownB l)=[]
 | []=>rfl
 | e::l=>nmsB_own (l:=l)
theorem nmsB_app: ∀ (l m:List (Value×BC)),nmsB (l++m)=nmsB l++nmsB m
 | [],_=>rfl
 | (_, .own _)::l,m=>nmsB_app l m
 | (_, .nm o)::l,m=>by rw [List.cons_append,nmsB,nmsB,nmsB_app l m];rfl
theorem nmsB_set {k:Value} {d:Nat}: ∀ {l:List (Value×List D)} {j:Nat},nmsB ((ownB l).set j (k, .nm d))=if j<l.length then [d] else []
 | [],j=>by simp [ownB,nmsB]
 | e::l,0=>by
   show nmsB ((k,BC.nm d)::ownB l)=_
   rw [nmsB,nmsB_own];simp
 | e::l,j+1=>by
   show nmsB ((e.1,BC.own e.2)::(ownB l).set j (k, .nm d))=_
   rw [nmsB,nmsB_set (l:=l) (j:=j)];simp
theorem nmsB_snoc {k:Value} {d:Nat} {l:List (Value×List D)}:nmsB (ownB l++[(k, .nm d)])=[d]:=by rw [nmsB_app,nmsB_own];rfl
theorem ownB_heal {l:List (Value×List D)} {j d:Nat} {k:Value} {cs:List D}:((ownB l).set j (k, .nm d)).set j (k, .own cs)=ownB (l.set j (k,cs)):=by
 rw [List.set_set,ownB,ownB,List.map_set]
theorem ownB_snoc {l:List (Value×List D)} {k:Value} {cs:List D}:ownB l++[(k, .own cs)]=ownB (l++[(k,cs)]):=by simp [ownB]
theorem ownB_hsnoc {l:List (Value×List D)} {d:Nat} {k:Value} {cs:List D}:(ownB l++[(k,BC.nm d)]).set l.length (k, .own cs)=ownB (l++[(k,cs)]):=by
 rw [List.set_append_right _ _ (by rw [ownB_len];exact Nat.le_refl _),ownB_len,Nat.sub_self, ← ownB_snoc];rfl
/-- Where a key stands. -/
def kIdx (k:Value):List (Value×List D)→Option Nat
 | []=>none
 | p::l=>if keyB p.1 k=true then some 0 else (kIdx k l).map (· + 1)
theorem bIdx_own (k:Value): ∀ l:List (Value×List D),bIdx k (ownB l)=kIdx k l
 | []=>rfl
 | p::l=>by
   show (if keyB p.1 k=true then some 0 else (bIdx k (ownB l)).map (· + 1))=_
   rw [bIdx_own k l];rfl
theorem bIdx_set (k k':Value) (c:BC): ∀ (l:List (Value×BC)) (j:Nat),(∀ p,l[j]? = some p→p.1=k')→bIdx k (l.set j (k',c))=bIdx k l
 | [],_,_=>rfl
 | p::l,0,h=>by
   have e:=h p rfl
   show (if keyB k' k=true then some 0 else (bIdx k l).map (· + 1))=_
   rw [← e];rfl
 | p::l,j+1,h=>by
   show (if keyB p.1 k=true then some 0 else (bIdx k (l.set j (k',c))).map (· + 1))=_
   rw [bIdx_set k k' c l j (fun q hq=>h q (by simpa using hq))];rfl
theorem Tri.takeB {P:Program} {Q:Exit→St→Prop} {σ σ':St} {c:Code} (o j d:Nat) {kk:KK} {l:List (Value×List D)} {k:Value} {cs:List D} (ho:hget σ.heap o = .ext (mapB kk (ownB l))) (hj:l[j]? = some (k,cs)) (hd:hfree σ.heap d=true) (hne:o≠d)
  (he:({ σ.kill d with heap:=hset (hset (σ.kill d).heap o (.ext (mapB kk ((ownB l).set j (k, .nm d))))) d (.box cs) }:St)=σ') (h:Tri P c Q σ'):Tri P c Q σ:=by
 subst he
 exact Tri.imp (Imp.takeB σ o j d ho (ownB_get hj) hd hne (by rw [nmsB_own];rfl)) h
theorem Imp.healBo (σ:St) {σ' σ2:St} (o j d:Nat) {kk:KK} {l:List (Value×List D)} {k:Value} {cs:List D} (hj:j<l.length) (ho:hget σ.heap o = .ext (mapB kk ((ownB l).set j (k, .nm d)))) (hd:hget σ.heap d = .box cs) (hp:pureL cs=true) (hd3:d<1000) (hne:o≠d)
  (he:(({ σ with heap:=hset (hset σ.heap d .dead) o (.ext (mapB kk (ownB (l.set j (k,cs))))) }:St).kill d)=σ') (h:Imp σ' σ2):Imp σ σ2:=by
 have hm:memN d (nmsB (((ownB l).set j (k, .nm d)).set j (k, .own cs)))=false:=by rw [ownB_heal,nmsB_own];rfl
 have:=Imp.healB σ o j d ho (List.getElem?_set_self (by rw [ownB_len];exact hj)) hd hp hd3 hne hm
 rw [ownB_heal,he] at this
 exact fun w0 p a w hr=>h w0 p a w (this w0 p a w hr)
theorem Imp.healBs (σ:St) {σ' σ2:St} (o d:Nat) {kk:KK} {l:List (Value×List D)} {k:Value} {cs:List D} (ho:hget σ.heap o = .ext (mapB kk (ownB l++[(k, .nm d)]))) (hd:hget σ.heap d = .box cs) (hp:pureL cs=true) (hd3:d<1000) (hne:o≠d)
  (he:(({ σ with heap:=hset (hset σ.heap d .dead) o (.ext (mapB kk (ownB (l++[(k,cs)])))) }:St).kill d)=σ') (h:Imp σ' σ2):Imp σ σ2:=by
 have hg:(ownB l++[(k,BC.nm d)])[l.length]? = some (k, .nm d):=by rw [List.getElem?_append_right (by rw [ownB_len];exact Nat.le_refl _),ownB_len,Nat.sub_self];rfl
 have hm:memN d (nmsB ((ownB l++[(k,BC.nm d)]).set l.length (k,BC.own cs)))=false:=by rw [ownB_hsnoc,nmsB_own];rfl
 have:=Imp.healB σ o l.length d ho hg hd hp hd3 hne hm
 rw [ownB_hsnoc,he] at this
 exact fun w0 p a w hr=>h w0 p a w (this w0 p a w hr)
theorem bIdx_taken {k k':Value} {j d:Nat} {l:List (Value×List D)} {cs:List D} (hj:l[j]? = some (k',cs)) (hf:kIdx k l=some j):bIdx k ((ownB l).set j (k', .nm d))=some j:=by
 rw [bIdx_set k k' (.nm d) (ownB l) j (fun p hp=>by rw [ownB_get hj] at hp;cases hp;rfl),bIdx_own,hf]
section
variable {P:Program} {ds:List (Option Nat)} {Q:Exit→St→Prop} {σ σ1 σ':St} {l:List Oper} {dst:Option Nat} {ty:TypeId} {pos:String} {af:Array Edge} {g:Option (Nat×Bool)}
/-- The pointer of a key's box, which gets the name of the result's slot. -/
theorem TriD.lookupO {t kt et:TypeId} {ti ki:TI} {kk:KK} {o j d:Nat} {x k:Operand} {kv k':Value} {cs:List D} {m:List (Value×List D)} (ho:hget σ.heap o = .ext (mapB kk (ownB m))) (hf:kIdx kv m=some j) (hj:m[j]? = some (k',cs)) (hd:hfree σ.heap d=true) (hne:o≠d)
  (h1:({ σ.kill d with heap:=hset (hset (σ.kill d).heap o (.ext (mapB kk ((ownB m).set j (k', .nm d))))) d (.box cs) }:St)=σ1)
  (hg:aguardC ds g σ1=some true) (ht:tiGet P t=some ti) (hk:mapKE ti.kind=some (kt,et)) (hkt:tiGet P kt=some ki) (hkk:kkOf ki.kind=some kk) (hx:evl σ1 x = .mp o) (hm:hget σ1.heap o = .ext (mapB kk ((ownB m).set j (k',.nm d)))) (hkey:evl σ1 k = .sc kv) (hok:kk.ok kv=true)
  (he:σ1.put (some d) (.ref d 0)=σ') (hn:TriD P ds Q l σ'):TriD P ds Q (⟨some d, .lookup t x k false,ty,pos,af,g⟩::l) σ:=by
 have hlt:=(List.getElem?_eq_some_iff.1 hj).1
 have h2:TriD P ds Q (⟨some d, .lookup t x k false,ty,pos,af,g⟩::l) σ1:=
  TriD.lookupB hg ht hk hkt hkk hx hm hkey hok (bIdx_taken hj hf) (List.getElem?_set_self (by rw [ownB_len];exact hlt)) he hn
 subst h1
 exact fun all ha=>TriL.imp (Imp.takeB σ o j d ho (ownB_get hj) hd hne (by rw [nmsB_own];rfl)) (h2 all ha)
theorem isLookupO {d:Nat} {t:TypeId} {x k:Operand} (h:TriD P ds Q (⟨some d, .lookup t x k false,ty,pos,af,g⟩::l) σ):TriD P ds Q (⟨some d, .lookup t x k false,ty,pos,af,g⟩::l) σ:=h
end
attribute [go_sem] mapB_nms nmsB_own nmsB_snoc
end Go.Avm
/- The abstract machine, part ZV: a range over a map of boxes: the map with its stamps told, the iterator, its steps. -/
namespace Go.Avm
set_option linter.unusedVariables false
set_option linter.unusedSimpArgs false
open Go.RowKit Go.MapKept
open Go.ChangeMaps (setBlock)
/-- The map with its entries' stamps and its clock. -/
def mapT (kk:KK) (l:List (Value×BC)) (bn:List Nat) (ck:Nat):Ext where
 nms:=nmsB l
 φ w st ρ hd g:= ∃ es,w.heap[g]? = some (.map es ck)∧Stamped es ck∧(∀ x∈es.toList,IsKey kk.desc x.key)∧es.toList.map (·.born)=bn∧ ∃ bs,MB w st ρ hd g l es.toList bs
 lt h:=by
  obtain ⟨_,h1,_⟩:=h
  exact (Array.getElem?_eq_some_iff.1 h1).1
 mono hc hs hst hg hb h:=by
  obtain ⟨es,h1,h2,h3,h4,bs,m1,m2,m3,m4,m5⟩:=h
  refine ⟨es,hg.trans h1,h2,h3,h4,bs,m1,m2,m3,m4,fun j k c hj=>?_⟩
  obtain ⟨e,bo,e1,e2,e3,e4⟩:=m5 j k c hj
  exact ⟨e,bo,e1,e2,e3,e4.mono hc hs hst (fun b h=>hb b (m3 j b (by rw [e2,h])).1)⟩
 loc hl h:=by
  obtain ⟨es,h1,h2,h3,h4,bs,m1,m2,m3,m4,m5⟩:=h
  refine ⟨es,h1,h2,h3,h4,bs,m1,m2,m3,m4,fun j k c hj=>?_⟩
  obtain ⟨e,bo,e1,e2,e3,e4⟩:=m5 j k c hj
  exact ⟨e,bo,e1,e2,e3,e4.ren fun o h=>hl o (mem_nmsB (by rw [hj,h]))⟩
theorem mapT_nms {kk:KK} {l:List (Value×BC)} {bn:List Nat} {ck:Nat}:(mapT kk l bn ck).nms=nmsB l:=rfl
/-- An iterator over the map o, begun at the clock ck, that has handed out the entries with these stamps. -/
def iterX (o ck:Nat) (seen:List Nat):Ext where
 nms:=[o]
 φ w st ρ hd g:= ∃ bm c0,ρ o=some (some bm)∧c0=ck∧w.heap[g]? = some (.mapIter (some bm) ck seen.toArray c0)
 lt h:=by
  obtain ⟨_,_,_,_,h1⟩:=h
  exact (Array.getElem?_eq_some_iff.1 h1).1
 mono hc hs hst hg hb h:=by
  obtain ⟨bm,c0,h1,h2,h3⟩:=h
  exact ⟨bm,c0,h1,h2,hg.trans h3⟩
 loc hl h:=by
  obtain ⟨bm,c0,h1,h2,h3⟩:=h
  exact ⟨bm,c0,(hl o (by simp)).trans h1,h2,h3⟩
theorem iterX_nms {o ck:Nat} {seen:List Nat}:(iterX o ck seen).nms=[o]:=rfl
theorem setMap_self {w:World} {g:Nat} {es:Array MapEntry} {c:Nat} (h:w.heap[g]? = some (.map es c)):setMap w g es c=w:=by
 unfold setMap
 have:w.heap.setIfInBounds g (.map es c)=w.heap:=by
  apply Array.ext
  ·simp
  ·intro i h1 h2
   rw [Array.getElem_setIfInBounds]
   split
   ·rename_i e
    subst e
    have:=Array.getElem?_eq_some_iff.1 h
    exact this.2.symm
   ·rfl
 rw [this]
section
variable {w0:World} {p:Pm} {σ:St} {a:Act} {w:World} {ρ:Nm}
/-- The stamps told. -/
theorem RelAt.told (h:RelAt w0 p σ a w ρ) {o:Nat} {kk:KK} {m:List (Value×BC)} (hm:hget σ.heap o = .ext (mapB kk m)):
  ∃ bn ck,bn.length=m.length∧bn.Nodup∧(∀ b∈bn,b<ck)∧RelAt w0 p { σ with heap:=hset σ.heap o (.ext (mapT kk m bn ck)) } a w ρ:=by
 have ho:=h.objs o
 rw [hm] at ho
 simp only [RO] at ho
 obtain ⟨gm,hρ,es,cl,hb,hst,hks,bs,hN⟩:=ho
 have hl:hget σ.heap o≠ .dead:=by rw [hm];simp
 refine ⟨es.toList.map (·.born),cl,by rw [List.length_map,hN.1],?_,?_,?_⟩
 ·exact hst.2.1
 ·intro b hb'
  obtain ⟨x,hx,rfl⟩:=List.mem_map.1 hb'
  exact hst.1 x hx
 ·have:=h.updM (x:= .ext (mapT kk m (es.toList.map (·.born)) cl)) (es':=es) (c':=cl) hl hρ hb (by simp) fun st h1 hc hs=>by
   simp only [RO]
   exact ⟨gm,hρ,es,setMap_same hb,hst,hks,rfl,bs,hN.mono hc hs h1 fun b hbg=>setMap_other hbg⟩
  rwa [setMap_self hb] at this
theorem RelAt.newIter (h:RelAt w0 p σ a w ρ) {o d gm ck:Nat} (hρ:ρ o=some (some gm)) (hne:o≠d) (hh:hfree σ.heap d=true):
  RelAt w0 p { σ.kills [d] with heap:=hset (σ.kills [d]).heap d (.ext (iterX o ck [])) } a (w.alloc (.mapIter (some gm) ck #[] ck)) (updρ ρ d (some (some w.heap.size))):=by
 have hk:RelAt w0 p (σ.kills [d]) a w (updρ ρ d (some (some w.heap.size))):=h.kills (fun o' e=>updρ_sm (fun e'=>e (by simp [e']))) (fun o' h1=>updρ_other (fun e'=>absurd (hfree_iff.1 hh).2 (by omega)))
 refine hk.born (hget_kills_in (by simp)) (by rw [hhas_kills];exact (hfree_iff.1 hh).1) (fun g hg=>?_) (fun g hg=>by simp [updρ] at hg) (fun g hg _=>Below.heap_alloc w _ g hg) (fun g n hs=>Sh_of_block (Below.heap_alloc w _ g hs.lt) hs) (by simp) rfl rfl rfl (by simp)
  (fun st hst=>?_)
 ·rw [updρ_ow] at hg
  simp only [l_5] at hg
  subst hg
  refine ⟨fun hs=>by have:=hs.2.1;omega,fun o' ho' e'=>?_, .inl h.below.size⟩
  have:=hk.lt_ow ho' e'
  omega
 ·simp only [RO]
  exact ⟨w.heap.size,updρ_same _ _,gm,ck,(updρ_other hne).trans hρ,rfl,(heap_alloc w _).1⟩
end
section
variable {P:Program} {ds:List (Option Nat)} {Q:Exit→St→Prop} {σ σ':St} {l:List Oper} {dst:Option Nat} {ty:TypeId} {pos:String} {af:Array Edge} {g:Option (Nat×Bool)}
/-- A range begins: the map's stamps are told, an iterator is born. -/
theorem TriD.range {t kt et:TypeId} {ti:TI} {kk:KK} {o d:Nat} {x:Operand} {m:List (Value×BC)} (hg: ∀ e,aguardC ds g { σ with heap:=hset σ.heap o (.ext e) }=some true) (ht:tiGet P t=some ti) (hk:mapKE ti.kind=some (kt,et))
  (hx:evl σ x = .mp o) (hm:hget σ.heap o = .ext (mapB kk m)) (hne:o≠d) (hh:hfree (hset σ.heap o (.ext (mapB kk m))) d=true) (hf: ∀ e,hfree (hset σ.heap o (.ext e)) d=true) (hx': ∀ e,evl { σ with heap:=hset σ.heap o (.ext e) } x = .mp o)
  (hn: ∀ bn ck,bn.length=m.length→bn.Nodup→TriD P ds Q l (St.bear { σ with heap:=hset σ.heap o (.ext (mapT kk m bn ck)) } d (.ext (iterX o ck [])) (.ref d 0))):TriD P ds Q (⟨some d, .range t x,ty,pos,af,g⟩::l) σ:=by
 intro all ha w0 p a w hr
 obtain ⟨ρ,hr⟩:=hr
 obtain ⟨bn,ck,q1,q2,q3,hr⟩:=hr.told hm
 have hw:=aguard_wanted (all:=all) (o:=⟨some d, .range t x,ty,pos,af,g⟩) (by rw [aguard_C ha];exact hg _) ⟨ρ,hr⟩
 have hlive:hget σ.heap o≠ .dead:=by rw [hm];simp
 have hm2:hget (hset σ.heap o (.ext (mapT kk m bn ck))) o = .ext (mapT kk m bn ck):=hget_hset_same (hhas_of_hget hlive)
 obtain ⟨gm,hxv,hρ,es,hb,hst,hks,hbn,bs,hN⟩:=map_at hr (hx' _) hm2
 obtain ⟨i,dd,h1,hu,_,_,_,h6⟩:=tiGet_spec ht
 rw [← h6] at hk
 rw [mapKE_spec hk] at hu
 have hrun:(execOp a.eval ⟨some d, .range t x,ty,pos,af,g⟩).run P w = .ok (.value (.pointer (some ⟨w.heap.size,0,none⟩))) (w.alloc (.mapIter (some gm) ck #[] ck)):=by
  simp [execOp,Instr.range,run_underlying hu,hxv,Go.MapKept.run_getObj_map hb,Result.andThen]
 refine wpList_of_step hw (.inl hrun) (hn bn ck q1 q2 all ha w0 p _ _ ⟨updρ ρ d (some (some w.heap.size)),?_⟩)
 exact (hr.newIter hρ hne (hf _)).put (some d) (by simp only [R];exact ⟨_,updρ_same _ _,rfl⟩)
end
attribute [go_sem] mapT_nms iterX_nms
/-- The new names of a result: those that it names and those that these objects name. -/
def newC (ins:List Nat) (h:List (Nat×Obj)) (d:D):List Nat:=dedupN ins (nmsD d)++dedupN (ins++dedupN ins (nmsD d)) ((dedupN ins (nmsD d)).flatMap fun o=>nmsO (hget h o))
theorem RetOK.q2 {P:Program} {fn:Func} {ins new:List Nat} {ret d d':D} {xs outs:List Obj} {e:Exit} {σ:St} (he:exB e=true) (hd:retD P σ fn.results.toList=some d) (hn:newC ins σ.heap d=new) (hnd:(ins++new).Nodup)
  (hr:renD (ins++new) d=some d') (ho:outsOf (ins++new) σ.heap (ins++new)=some xs) (hl:(ins++new).length=outs.length) (h:leQ d' ret∧leQOs xs outs):RetOK P fn ins ret outs e σ:=
 ⟨σ,fun _ _ _ _ h=>h,by cases e<;>simp_all [exB],new,d,hnd,hd,⟨d',hr,leQ_spec h.1⟩,xs,ho,leQOs_spec h.2⟩
/-- Two new objects of a call. -/
def newOf2:Option Nat→List Nat
 | none=>[]
 | some d=>[d,500+d]
section
variable {P:Program} {st:List Nat} {ds:List (Option Nat)} {Q:Exit→St→Prop} {σ:St} {l:List Oper} {dst:Option Nat} {g:Option (Nat×Bool)} {f:FuncId} {args:List D} {ret:D} {sn:Bool} {outs:List Obj}
theorem CallL.n2 (hc:ACalls P f args ret outs) (h:resV (callR ds g σ dst [] (newOf2 dst) sn ret outs) P st ds Q l):CallL P st ds g σ dst f args sn Q l:=CallL.w _ hc h
end
attribute [go_sem] newOf2 newC
end Go.Avm
/- The abstract machine, part ZW: pointers against nil; the entry that an iterator has handed out. -/
namespace Go.Avm
set_option linter.unusedVariables false
set_option linter.unusedSimpArgs false
open Go.RowKit Go.MapKept
def nilPt:D→Option Bool
 | .ref _ _=>some false
 | .sc (.pointer none)=>some true
 | _=>none
def ptrE:TK→Option TypeId
 | .ptr e=>some e
 | _=>none
theorem ptrE_spec {d:TypeDesc} {e:TypeId} (h:ptrE (tkOf d)=some e):d = .pointer e:=by
 cases d<;>simp [tkOf,ptrE] at h
 subst h;rfl
section
variable {P:Program} {ds:List (Option Nat)} {Q:Exit→St→Prop} {σ σ':St} {l:List Oper} {dst:Option Nat} {ty:TypeId} {pos:String} {af:Array Edge} {g:Option (Nat×Bool)}
theorem nilPt_at {w0:World} {p:Pm} {a:Act} {w:World} {ρ:Nm} (hr:RelAt w0 p σ a w ρ) {x:Operand} {b:Bool} (hx:nilPt (evl σ x)=some b): ∃ q,a.eval x = .pointer q∧q.isNone=b:=by
 have h:=hr.evl x
 unfold nilPt at hx
 split at hx
 ·rename_i o n he
  rw [he] at h
  simp only [R] at h
  obtain ⟨g,_,e⟩:=h
  simp only [l_5] at hx
  exact ⟨_,e,by rw [← hx];rfl⟩
 ·rename_i he
  rw [he] at h
  simp only [R] at h
  simp only [l_5] at hx
  exact ⟨none,h,by rw [← hx];rfl⟩
 ·cases hx
theorem TriD.ptrEq {x:Operand} {t t2 e:TypeId} {ti:TI} {b:Bool} (hg:aguardC ds g σ=some true) (ht:tiGet P t=some ti) (hk:ptrE ti.kind=some e) (hx:nilPt (evl σ x)=some b) (he:σ.put dst (.sc (.bool b))=σ')
  (hn:TriD P ds Q l σ'):TriD P ds Q (⟨dst, .binOp .eql t x (.const (.pointer none)) t2,ty,pos,af,g⟩::l) σ:=by
 intro all ha w0 p a w hr
 have hw:=aguard_wanted (all:=all) (o:=⟨dst, .binOp .eql t x (.const (.pointer none)) t2,ty,pos,af,g⟩) (by rw [aguard_C ha];exact hg) hr
 obtain ⟨ρ,hr⟩:=hr
 obtain ⟨q,hq,rfl⟩:=nilPt_at hr hx
 obtain ⟨i,dd,h1,hu,_,_,_,h6⟩:=tiGet_spec ht
 rw [← h6] at hk
 rw [ptrE_spec hk] at hu
 have hp:P.underlying t=some (.pointer (P.pointee t)):=by rw [Program.pointee,hu]
 have hgd: ∀ y:Operand,eqGuard .eql t x y (.pointer q) (.pointer none)=pure ():=fun y=>rfl
 have he2:a.eval (.const (.pointer none)) = .pointer none:=rfl
 have hrun:(execOp a.eval ⟨dst, .binOp .eql t x (.const (.pointer none)) t2,ty,pos,af,g⟩).run P w = .ok (.value (.bool q.isNone)) w:=by
  simp [execOp,hq,he2,hgd,run_eql_pointer_nil w t q hp]
 subst he
 exact wpList_of_step hw (.inl hrun) (hn all ha w0 p _ _ ⟨ρ,hr.put dst (by simp [R])⟩)
theorem TriD.ptrNe {x:Operand} {t t2 e:TypeId} {ti:TI} {b:Bool} (hg:aguardC ds g σ=some true) (ht:tiGet P t=some ti) (hk:ptrE ti.kind=some e) (hx:nilPt (evl σ x)=some b) (he:σ.put dst (.sc (.bool !b))=σ')
  (hn:TriD P ds Q l σ'):TriD P ds Q (⟨dst, .binOp .neq t x (.const (.pointer none)) t2,ty,pos,af,g⟩::l) σ:=by
 intro all ha w0 p a w hr
 have hw:=aguard_wanted (all:=all) (o:=⟨dst, .binOp .neq t x (.const (.pointer none)) t2,ty,pos,af,g⟩) (by rw [aguard_C ha];exact hg) hr
 obtain ⟨ρ,hr⟩:=hr
 obtain ⟨q,hq,rfl⟩:=nilPt_at hr hx
 obtain ⟨i,dd,h1,hu,_,_,_,h6⟩:=tiGet_spec ht
 rw [← h6] at hk
 rw [ptrE_spec hk] at hu
 have hp:P.underlying t=some (.pointer (P.pointee t)):=by rw [Program.pointee,hu]
 have hgd: ∀ y:Operand,eqGuard .neq t x y (.pointer q) (.pointer none)=pure ():=fun y=>rfl
 have he2:a.eval (.const (.pointer none)) = .pointer none:=rfl
 have hrun:(execOp a.eval ⟨dst, .binOp .neq t x (.const (.pointer none)) t2,ty,pos,af,g⟩).run P w = .ok (.value (.bool !q.isNone)) w:=by
  simp [execOp,hq,he2,hgd,run_neq_pointer_nil w t q hp]
 subst he
 exact wpList_of_step hw (.inl hrun) (hn all ha w0 p _ _ ⟨ρ,hr.put dst (by simp [R])⟩)
theorem isPtrEq {x:Operand} {t t2:TypeId} (h:TriD P ds Q (⟨dst, .binOp .eql t x (.const (.pointer none)) t2,ty,pos,af,g⟩::l) σ):TriD P ds Q (⟨dst, .binOp .eql t x (.const (.pointer none)) t2,ty,pos,af,g⟩::l) σ:=h
theorem isPtrNe {x:Operand} {t t2:TypeId} (h:TriD P ds Q (⟨dst, .binOp .neq t x (.const (.pointer none)) t2,ty,pos,af,g⟩::l) σ):TriD P ds Q (⟨dst, .binOp .neq t x (.const (.pointer none)) t2,ty,pos,af,g⟩::l) σ:=h
end
/-- All orders of a drawn region end in one state. -/
def endS (S:St) (e:Exit) (σ':St):Prop:=e = .normal∧σ'=S
theorem Tri.cutS {P:Program} {c:Code} {Q:Exit→St→Prop} {σ S:St} (h1:Tri P c (endS S) σ) (h2:Q .normal S):Tri P c Q σ:=
 Tri.mono h1 fun e σ' h=>by obtain ⟨rfl,rfl⟩:=h;exact h2
theorem endS_n {S:St}:endS S .normal S:=⟨rfl,rfl⟩
section
variable {P:Program} {ds:List (Option Nat)} {Q:Exit→St→Prop} {σ σ1 σ':St} {l:List Oper} {dst:Option Nat} {ty:TypeId} {pos:String} {af:Array Edge} {g:Option (Nat×Bool)}
theorem TriD.lookupP {t kt et:TypeId} {ti ki:TI} {kk:KK} {o j d:Nat} {x k:Operand} {kv k':Value} {cs:List D} {m:List (Value×List D)} (hx0:evl σ x = .mp o) (ho:hget σ.heap o = .ext (mapB kk (ownB m))) (hk0:evl σ k = .sc kv) (hf:kIdx kv m=some j) (hj:m[j]? = some (k',cs)) (hd:hfree σ.heap d=true) (hne:o≠d)
  (h1:({ σ.kill d with heap:=hset (hset (σ.kill d).heap o (.ext (mapB kk ((ownB m).set j (k', .nm d))))) d (.box cs) }:St)=σ1)
  (hg:aguardC ds g σ1=some true) (ht:tiGet P t=some ti) (hk:mapKE ti.kind=some (kt,et)) (hkt:tiGet P kt=some ki) (hkk:kkOf ki.kind=some kk) (hx:evl σ1 x = .mp o) (hm:hget σ1.heap o = .ext (mapB kk ((ownB m).set j (k',.nm d)))) (hkey:evl σ1 k = .sc kv) (hok:kk.ok kv=true)
  (he:σ1.put (some d) (.ref d 0)=σ') (hn:TriD P ds Q l σ'):TriD P ds Q (⟨some d, .lookup t x k false,ty,pos,af,g⟩::l) σ:=
 TriD.lookupO ho hf hj hd hne h1 hg ht hk hkt hkk hx hm hkey hok he hn
/-- A named box back into its entry (at a return, or ahead of other code). -/
theorem Imp.healB2 {σ σ':St} (o d:Nat) {j:Nat} {kk:KK} {l:List (Value×List D)} {k:Value} {cs:List D} (ho:hget σ.heap o = .ext (mapB kk ((ownB l).set j (k, .nm d)))) (hd:hget σ.heap d = .box cs) (hp:pureL cs=true) (hj:j<l.length) (hd3:d<1000) (hne:o≠d)
  (he:(({ σ with heap:=hset (hset σ.heap d .dead) o (.ext (mapB kk (ownB (l.set j (k,cs))))) }:St).kill d)=σ'):Imp σ σ':=Imp.healBo σ o j d hj ho hd hp hd3 hne he (Imp.refl _)
theorem Imp.healBS2 {σ σ':St} (o d:Nat) {kk:KK} {l:List (Value×List D)} {k:Value} {cs:List D} (ho:hget σ.heap o = .ext (mapB kk (ownB l++[(k, .nm d)]))) (hd:hget σ.heap d = .box cs) (hp:pureL cs=true) (hd3:d<1000) (hne:o≠d)
  (he:(({ σ with heap:=hset (hset σ.heap d .dead) o (.ext (mapB kk (ownB (l++[(k,cs)])))) }:St).kill d)=σ'):Imp σ σ':=Imp.healBs σ o d ho hd hp hd3 hne he (Imp.refl _)
theorem TriD.impU (h:Imp σ σ') (hn:TriD P ds Q l σ'):TriD P ds Q l σ:=fun all ha=>TriL.imp h (hn all ha)
end
def ptrB:TK→Bool
 | .ptr _=>true
 | _=>false
theorem ptrB_spec {d:TypeDesc} (h:ptrB (tkOf d)=true): ∃ e,d = .pointer e:=by
 cases d<;>simp [tkOf,ptrB] at h
 exact ⟨_,rfl⟩
def isPtr (P:Program) (t:TypeId):Bool:=match tiGet P t with
 | some ti=>ptrB ti.kind
 | none=>false
theorem isPtr_spec {P:Program} {t:TypeId} (h:isPtr P t=true):P.underlying t=some (.pointer (P.pointee t)):=by
 unfold isPtr at h
 split at h
 ·rename_i ti ht
  obtain ⟨i,dd,h1,hu,_,_,_,h6⟩:=tiGet_spec ht
  rw [← h6] at h
  obtain ⟨e,he⟩:=ptrB_spec h
  rw [he] at hu
  rw [Program.pointee,hu]
 ·cases h
theorem pureRun_equalIn_ptr {P:Program} {d:Nat} {t e:TypeId} (h:P.underlying t=some (.pointer e)):pureRun P (Op.equalIn (d+1) t (.pointer none) (.pointer none))=some true:=by
 simp [Op.equalIn,pureRun_bind,pureRun_underlying h,pureRun_pure]
theorem pureRun_pnil {P:Program} {t:TypeId} (h:isPtr P t=true):pureRun P ((pure ():Sem Unit) >>= fun _=>Go.binOp .eql t (.pointer none) (.pointer none))=some (.bool true)∧pureRun P ((pure ():Sem Unit) >>= fun _=>Go.binOp .neq t (.pointer none) (.pointer none))=some (.bool false):=by
 have hp:=isPtr_spec h
 have he:pureRun P (Op.equal t (.pointer none) (.pointer none))=some true:=by
  show pureRun P (Op.equalIn (9999+1) t (.pointer none) (.pointer none))=_
  exact pureRun_equalIn_ptr hp
 have h1:Go.binOp .eql t (.pointer none) (.pointer none)=(do let r ← Op.equal t (.pointer none) (.pointer none);pure (.bool r)):=rfl
 have h2:Go.binOp .neq t (.pointer none) (.pointer none)=(do let r ← Op.equal t (.pointer none) (.pointer none);pure (.bool !r)):=rfl
 constructor
 ·rw [pureRun_bind,pureRun_pure,Option.bind_some,h1,pureRun_bind,he];rfl
 ·rw [pureRun_bind,pureRun_pure,Option.bind_some,h2,pureRun_bind,he];rfl
theorem pureRun_pnil1 {P:Program} {t:TypeId} (h:isPtr P t=true):pureRun P ((pure ():Sem Unit) >>= fun _=>Go.binOp .eql t (.pointer none) (.pointer none))=some (.bool true):=(pureRun_pnil h).1
theorem pureRun_pnil2 {P:Program} {t:TypeId} (h:isPtr P t=true):pureRun P ((pure ():Sem Unit) >>= fun _=>Go.binOp .neq t (.pointer none) (.pointer none))=some (.bool false):=(pureRun_pnil h).2
theorem memN_ownB {o j d:Nat} {k:Value} {l:List (Value×List D)}:memN o (nmsB ((ownB l).set j (k, .nm d)))=if d=o then decide (j<l.length) else false:=by
 rw [nmsB_set]
 by_cases h:j<l.length<;>by_cases e:d=o<;>simp [h,e,memN]
theorem nmsB_nil:nmsB []=[]:=rfl
theorem mapB_nil {kk:KK}:(mapB kk []).nms=[]:=rfl
/-- The bodies of a function's loops, in their order. -/
def loopsOf:Code→List Code
 | .seq x y=>loopsOf x++loopsOf y
 | .block _ c=>loopsOf c
 | .loop c=>c::loopsOf c
 | .cond _ x y=>loopsOf x++loopsOf y
 | _=>[]
def bodyK (fn:Func) (k:Nat):Option Code:=match fn.body with
 | some c=>(loopsOf c)[k]?
 | none=>none
/-- The k-th loop's body, told by its place. -/
def TriK (P:Program) (fn:Func) (k:Nat) (Q:Exit→St→Prop) (σ:St):Prop:= ∀ c,bodyK fn k=some c→Tri P c Q σ
theorem TriK.of {P:Program} {fn:Func} {k:Nat} {Q:Exit→St→Prop} {σ:St} {c:Code} (h:bodyK fn k=some c) (ht:Tri P c Q σ):TriK P fn k Q σ:=fun c' h'=>by
 rw [h] at h'
 cases h'
 exact ht
attribute [go_sem] nilPt ptrE nmsB_nil mapB_nil isPtr ptrB memN_ownB pureRun_pnil1 pureRun_pnil2
end Go.Avm
