/- The abstract machine, parts ZX to ZY. -/
import Derived.Test.YteemiclhnfkekaaGreatZAvmW
import Derived.Laws.Cover2
import Derived.Laws.Cover3
import Derived.Laws.FloatArith
set_option linter.unusedSimpArgs false
set_option linter.unusedVariables false
namespace Go.eB
open Go.RowKit
theorem Ot:∀ a:Fin 201,floatToIntVal .f64 (floatOfInt .f64 ((a.val:Nat):Int)) .i64=some ((a.val:Nat):Int):=by decide +kernel
theorem Ri {a:Int} (h0:0<=a) (h1:a<=200):floatToIntVal .f64 (floatOfInt .f64 a) .i64=some a:=by
 obtain ⟨n,rfl⟩:=M7 h0;exact Ot ⟨n,by omega⟩
section
variable {P:Program} {ds:List (Option Nat)} {Q:Exit->St->Prop} {σ σ':St} {l:List Oper} {dst:Option Nat} {ty:TypeId} {pos:String} {af:Array Edge} {g:Option (Nat×Bool)}
theorem ah.Zu {s t:TypeId} {sd:TypeDesc} {x:Operand} {q:IntKind} {n:Int} (hs:P.underlying s=some sd) (ht:P.underlying t=some (.float .f64)) (hg:bq ds g σ=some true) (hx:bh σ x = .sc (.int q n)) (he:σ.put dst (.sc (.float .f64 (floatOfInt .f64 n)))=σ')
  (hn:ah P ds Q l σ'):ah P ds Q (⟨dst, .convert s t x,ty,pos,af,g⟩::l) σ:=by
 intro all ha w0 p a w hr;have hw:=aT (all:=all) (o:=⟨dst, .convert s t x,ty,pos,af,g⟩) (by rw[bV ha];exact hg) hr;obtain ⟨ρ,hr⟩:=hr;have mM:=hr.bh x;rw[hx] at mM;simp only[R] at mM
 have hrun:(execOp a.eval ⟨dst, .convert s t x,ty,pos,af,g⟩).run P w = .ok (.value (.float .f64 (floatOfInt .f64 n))) w:=by
  simp[execOp,mM,run_convert_int_float w s t q .f64 n (by rw[hs];rfl) ht,Result.andThen]
 subst he;exact bp hw (.inl hrun) (hn all ha w0 p _ _ ⟨ρ,hr.put dst (by simp[R])⟩)
theorem ah.Lp {ts:Array TypeId} {x y:Operand} {u v:Nat} (hg:bq ds g σ=some true) (hx:bh σ x = .sc (.float .f64 u)) (hy:bh σ y = .sc (.float .f64 v)) (he:σ.put dst (.sc (.complex .f64 u v))=σ')
  (hn:ah P ds Q l σ'):ah P ds Q (⟨dst, .call { callee:= .builtin .complex,args:= #[x,y],argTypes:=ts },ty,pos,af,g⟩::l) σ:=by
 intro all ha w0 p a w hr;have hw:=aT (all:=all) (o:=⟨dst, .call { callee:= .builtin .complex,args:= #[x,y],argTypes:=ts },ty,pos,af,g⟩) (by rw[bV ha];exact hg) hr;obtain ⟨ρ,hr⟩:=hr;have mM:=hr.bh x;rw[hx] at mM;have WB:=hr.bh y;rw[hy] at WB;simp only[R] at mM WB
 have hrun:(execOp a.eval ⟨dst, .call { callee:= .builtin .complex,args:= #[x,y],argTypes:=ts },ty,pos,af,g⟩).run P w = .ok (.value (.complex .f64 u v)) w:=by
  simp[execOp,resolve,invoke,builtin,mM,WB,run_complex,Result.andThen]
 subst he;exact bp hw (.inl hrun) (hn all ha w0 p _ _ ⟨ρ,hr.put dst (by simp[R])⟩)
theorem ah.P0 {ts:Array TypeId} {x:Operand} {u v:Nat} (hg:bq ds g σ=some true) (hx:bh σ x = .sc (.complex .f64 u v)) (he:σ.put dst (.sc (.float .f64 u))=σ')
  (hn:ah P ds Q l σ'):ah P ds Q (⟨dst, .call { callee:= .builtin .real,args:= #[x],argTypes:=ts },ty,pos,af,g⟩::l) σ:=by
 intro all ha w0 p a w hr;have hw:=aT (all:=all) (o:=⟨dst, .call { callee:= .builtin .real,args:= #[x],argTypes:=ts },ty,pos,af,g⟩) (by rw[bV ha];exact hg) hr;obtain ⟨ρ,hr⟩:=hr;have mM:=hr.bh x;rw[hx] at mM;simp only[R] at mM
 have hrun:(execOp a.eval ⟨dst, .call { callee:= .builtin .real,args:= #[x],argTypes:=ts },ty,pos,af,g⟩).run P w = .ok (.value (.float .f64 u)) w:=by
  simp[execOp,resolve,invoke,builtin,mM,run_real,Result.andThen]
 subst he;exact bp hw (.inl hrun) (hn all ha w0 p _ _ ⟨ρ,hr.put dst (by simp[R])⟩)
theorem ah.P3 {ts:Array TypeId} {x:Operand} {u v:Nat} (hg:bq ds g σ=some true) (hx:bh σ x = .sc (.complex .f64 u v)) (he:σ.put dst (.sc (.float .f64 v))=σ')
  (hn:ah P ds Q l σ'):ah P ds Q (⟨dst, .call { callee:= .builtin .imag,args:= #[x],argTypes:=ts },ty,pos,af,g⟩::l) σ:=by
 intro all ha w0 p a w hr;have hw:=aT (all:=all) (o:=⟨dst, .call { callee:= .builtin .imag,args:= #[x],argTypes:=ts },ty,pos,af,g⟩) (by rw[bV ha];exact hg) hr;obtain ⟨ρ,hr⟩:=hr;have mM:=hr.bh x;rw[hx] at mM;simp only[R] at mM
 have hrun:(execOp a.eval ⟨dst, .call { callee:= .builtin .imag,args:= #[x],argTypes:=ts },ty,pos,af,g⟩).run P w = .ok (.value (.float .f64 v)) w:=by
  simp[execOp,resolve,invoke,builtin,mM,run_imag,Result.andThen]
 subst he;exact bp hw (.inl hrun) (hn all ha w0 p _ _ ⟨ρ,hr.put dst (by simp[R])⟩)
theorem IU {s t:TypeId} {x:Operand} (h:ah P ds Q (⟨dst, .convert s t x,ty,pos,af,g⟩::l) σ):ah P ds Q (⟨dst, .convert s t x,ty,pos,af,g⟩::l) σ:=h
theorem mT {s t:TypeId} {a:Int} (hs:P.underlying s=some (.float .f64)) (ht:P.underlying t=some (.int .i64)) (h0:0<=a) (h1:a<=200):aQ P (Go.convert s t (.float .f64 (floatOfInt .f64 a)))=some (.int .i64 a):=by
 have h:=Ri h0 h1;unfold floatToIntVal at h
 split at h
 ·rename_i m he
  split at h
  ·rename_i hb;cases h;have hm:a<=9223372036854775807:=by omega
   simp[convert,bk,cm hs,cm ht,Conv.floatToInt,he,hb.1,hb.2,hm,cM]
  ·cases h
 ·cases h
variable {f:FuncId} {x:Operand} {xs:Array Operand} {ts:Array TypeId} {caps args:List D} {ret:D}
theorem ah.cK (new:List Nat) {objs outs:List Obj} {ins:List Nat} (hx:bh σ x = .fn f caps) (hi:nq σ (nq σ (uv (xs.toList.map (bh σ)++caps)))=ins) (hc:aF P f objs args ret outs) (hargs:iu ins (xs.toList.map (bh σ)++caps)=some args) (sY:jQ σ (iu ins) ins=some objs)
  (h:jY ds g σ dst ins new false ret outs=some σ') (hn:ah P ds Q l σ'):ah P ds Q (⟨dst, .call { callee:= .value x,args:=xs,argTypes:=ts },ty,pos,af,g⟩::l) σ:=by
 obtain ⟨h1,h2,h3,h4,h5,h6,h7,h8,_⟩:=l7 h;exact ah.vh ins new h1 hx hc hargs sY h2 h3 h4 h5 h6 h7 h8 hn
end
theorem BR {P:Program} {σ:St} {x:Operand} {d:D} (hd:Iu (bh σ x)=some d) {w0:World} {p:Pm} {a:Act} {w:World} {ρ:Nm} {o:Oper} (ho:o.op = .nilCheck x) (hr:aU w0 p σ a w ρ):dn P (execOp a.eval o):=by
 have h1:=hr.bh x;have key:∀ g,a.eval x = .pointer (some g)->dn P (execOp a.eval o):=fun g hg=>dn.oy (v:=a.eval x) fun w'=>by simp[execOp,ho,hg]
 unfold Iu at hd
 split at hd
 ·rename_i q off he;rw[he] at h1;simp only[R] at h1;obtain ⟨g,_,e⟩:=h1;exact key _ e
 ·rename_i q k i off he;rw[he] at h1;simp only[R] at h1;obtain ⟨g,_,e⟩:=h1;first|exact key _ e|exact key _ e.1|exact key _ e.2
 ·rename_i cs he;rw[he] at h1;simp only[R] at h1;obtain ⟨g,off,e,_⟩:=h1;exact key _ e
 ·cases hd
section
variable {P:Program} {σ σ':St} {ops:Array Oper} {K:St->Prop} {fuel:Nat} {listed:Array Bool} {p:Pl} {i:Nat} {dst:Option Nat} {x:Operand} {ty:TypeId} {pos:String} {af:Array Edge} {g:Option (Nat×Bool)}
theorem fC.TA {ds:List (Option Nat)} (hi:ops[i]? = some ⟨dst, .nilCheck x,ty,pos,af,g⟩) (hd:ops.toList.map (·.dst)=ds) (ht:i7 ops listed i=true) (h:fK P ds dst (.nilCheck x) g σ=some σ')
  (hn:fC P ops K fuel (listed.setIfInBounds i true) σ'):fC P ops K (fuel+1) listed σ:=by
 simp only[i7,jj] at ht;obtain ⟨⟨t1,t2⟩,t3⟩:=ht;rintro w0 p a w i4;have KH:=i4;simp only[fK,j3] at h;obtain ⟨b,hb,h⟩:=h;rw[<- bV hd ⟨dst, .nilCheck x,ty,pos,af,g⟩ σ] at hb;have hw:=aT hb i4;obtain ⟨ρ,hr⟩:=i4;have hQ:∀ (c:_) (a':Act) (w':World),¬ (Exit.panic c=Exit.normal/\∃ σ',K σ'/\Rel w0 p σ' a' w'):=fun c a' w' h=>by cases h.1
 cases b
 ·simp only[pT,jd,fD] at h;subst h;exact iz hi t1 hQ fuel listed a w (Region.free_spec hi t2) (by simpa using t3) (.inr ⟨hw,rfl⟩) hr.below (hn w0 p _ w ⟨ρ,hr.put dst (by simp[R])⟩)
 ·simp only[jg,ku] at h;obtain ⟨d,hd',rfl⟩:=h;obtain ⟨v,hv,hR⟩:=jx hd' w0 p a w ρ ⟨dst, .nilCheck x,ty,pos,af,g⟩ rfl hr;have hno:=(BR (P:=P) (by simpa only[gS] using hd') (o:=⟨dst, .nilCheck x,ty,pos,af,g⟩) rfl hr) w _ _ hv;exact iz hi t1 hQ fuel listed a w (Region.free_spec hi t2) (by simpa using t3) (.inl ⟨hw,fun w' _=>hno.2 w'⟩) hr.below (hn w0 p _ w ⟨ρ,hr.put dst hR⟩)
theorem aJ.Fn (hi:ops[i]? = some ⟨dst, .nilCheck x,ty,pos,af,g⟩) (h:fK P (ze ops) dst (.nilCheck x) g σ=some σ') (hn:aJ P ops K p fuel (listed.setIfInBounds i true) σ'):aJ P ops K (.f i p) (fuel+1) listed σ:=by
 unfold aJ at hn ⊢;intro hk;simp only[Pl.ok,jj] at hk;exact fC.TA hi rfl hk.1 h (hn hk.2)
end
def Lr:Option Nat->List Nat
 | none=>[]
 | some d=>[d,300+d,500+d,700+d]
section
variable {P:Program} {st:List Nat} {ds:List (Option Nat)} {Q:Exit->St->Prop} {σ:St} {l:List Oper} {dst:Option Nat} {g:Option (Nat×Bool)} {f:FuncId} {args:List D} {ret:D} {sn:Bool} {outs:List Obj}
theorem aq.n4 (hc:ak P f args ret outs) (h:rV (jY ds g σ dst [] (Lr dst) sn ret outs) P st ds Q l):aq P st ds g σ dst f args sn Q l:=aq.w _ hc h
end
attribute [go_sem] Lr
section
variable {P:Program} {σ:St}
theorem run_build {o:Oper} {t:TypeId} {n:Nat} {parts:Array (Nat×Operand)} {ti ei:TI} {e:TypeId} {cells:List D} (ho:o.op = .buildSlice t n parts) (ht:aA P t=some ti) (hk:ti.kind.elem? = some e)
  (he:aA P e=some ei) (hn:n<=16777216) (hle:n*ei.size<=16777216) (hf:nK (fun i=>some (i*ei.size,ei.size)) (jB ei.zero (n*ei.size)) (parts.toList.map fun x=>(x.1,bh σ x.2))=some cells)
  (hlen:cells.length=n*ei.size) (hone:cells.all qP=true) (hpure:jA cells=true) {w0:World} {p:Pm} {a:Act} {w:World} {ρ:Nm} (h:aU w0 p σ a w ρ):
  ∃ vs:List Value,(execOp a.eval o).run P w = .ok (.value (.slice (some ⟨w.heap.size,0,none⟩) n n)) (w.alloc (.cells vs.toArray e))/\RL w (bO p σ.heap ρ w) (fun _=>none) cells vs/\(∀ v∈vs,v.oneCell'=true)/\vs.length=cells.length:=by
 have hu:=run_underlying (P:=P) (eV ht hk) w;obtain ⟨_,hs,_,hz,_⟩:=ej he w
 have Nl:RL w (bO p σ.heap ρ w) ρ (jB ei.zero (n*ei.size)) ((List.range (n*ei.size)).map fun i=>ei.zero.cells[i%ei.zero.cells.size]!):=by
  have:jB ei.zero (n*ei.size)=((List.range (n*ei.size)).map fun i=>ei.zero.cells[i%ei.zero.cells.size]!).map .sc:=by simp[jB,H7,Function.comp_def]
  rw[this];exact pU _
 obtain ⟨vs',h1,h2⟩:=nL (ov:=parts.toList.map fun x=>(x.1,a.eval x.2)) Nl (by simp[H7,Function.comp_def]) (sS h parts.toList) hf;have h3:=jv (ρ':=fun _=>none) hpure h2;have h4:=rJ hone h2;refine ⟨vs',?_,h3,h4,dF h2⟩;have hle':¬ (n*ei.size>2^24):=by omega
 have va:∀ z:Array Value,(n*ei.size=0\/z=ei.zero.cells)->Instr.fill (fun i=>some (i*ei.size,ei.size)) ((Array.range (n*ei.size)).map (z[· % z.size]!)) (parts.map fun x=>(x.1,a.eval x.2)).toList=some vs'.toArray:=by
  intro z yP
  have ez:(Array.range (n*ei.size)).map (z[· % z.size]!)=((List.range (n*ei.size)).map fun i=>ei.zero.cells[i%ei.zero.cells.size]!).toArray:=by
   rcases yP with h0|rfl
   ·rw[h0];simp
   ·apply Ig.1;simp
  rw[ez,Qs];exact h1
 by_cases h0:n*ei.size=0
 ·have Kg:=va #[] (.inl h0);simp only[execOp,ho,Instr.buildSlice,Sem.run_bind,hu,Result.andThen_ok,hs,Sem.run_pure];rw[aE hle'];simp only[Sem.run_bind,Sem.run_pure,Result.andThen_ok,bC h0];simp only[Kg,Sem.run_bind,Sem.run_pure,newRow,run_newObj,Result.andThen_ok];rfl
 ·have Kg:=va ei.zero.cells (.inr rfl);simp only[execOp,ho,Instr.buildSlice,Sem.run_bind,hu,Result.andThen_ok,hs,Sem.run_pure];rw[aE hle'];simp only[Sem.run_bind,Sem.run_pure,Result.andThen_ok,aE h0,hz];simp only[Kg,Sem.run_bind,Sem.run_pure,newRow,run_newObj,Result.andThen_ok];rfl
def uG (w:World) (cur:Array Value) (e:TypeId) (n:Nat):World:=(w.alloc (.cells cur e)).freeze ⟨w.heap.size,n,none⟩ 1
theorem Ls {w:World} {cur:Array Value} {e:TypeId} {n:Nat}:(uG w cur e n).heap[w.heap.size]? = some (.cells cur e (n,n+1)):=by
 simp only[uG,World.freeze];rw[aE (by decide)];simp only;rw[Vp,bC rfl,heap_alloc_new w _];rfl
theorem tq {w:World} {cur:Array Value} {e:TypeId} {n g:Nat} (h:g<w.heap.size):(uG w cur e n).heap[g]? = w.heap[g]? :=by
 simp only[uG,World.freeze,World.alloc];rw[aE (by decide)];simp only;rw[Vp,aE (by omega),Array.getElem?_push,aE (by omega)]
theorem AB {w:World} {cur:Array Value} {e:TypeId} {n:Nat}:(uG w cur e n).heap.size=w.heap.size+1:=by
 simp only[uG,World.freeze];rw[aE (by decide)];simp only;rw[Array.size_modify];exact Array.size_push ..
end
section
variable {P:Program} {ds:List (Option Nat)} {Q:Exit->St->Prop} {σ σ':St} {l:List Oper}
theorem ah.WC {t e:TypeId} {ti ei:TI} {n d1 d2:Nat} {parts:Array (Nat×Operand)} {cells:List D} {Sd Q0:TypeId} {pos1 pos2:String} {Se Q5:Array Edge} (ht:aA P t=some ti) (hk:ti.kind.elem? = some e) (he:aA P e=some ei) (Zv:P.underlying e=some (.int .u8)) (hks:ei.size=1)
  (hn:n<=1000) (hf:nK (fun i=>some (i*ei.size,ei.size)) (jB ei.zero (n*ei.size)) (parts.toList.map fun x=>(x.1,bh σ x.2))=some cells) (hlen:cells.length=n) (hone:cells.all qP=true) (hpure:jA cells=true) (hlt:d1<σ.slots.length)
  (hx:(σ.put (some d1) (.sl 1 (chunks 1 n cells))).put (some d2) (.sl 1 (chunks 1 n cells))=σ') (uB:ah P ds Q l σ'):
  ah P ds Q (⟨some d1, .buildSlice t n parts,Sd,pos1,Se,none⟩::⟨some d2, .convert t t (.tmp d1),Q0,pos2,Q5,none⟩::l) σ:=by
 intro all ha w0 p a w hr;obtain ⟨ρ,hr⟩:=hr;obtain ⟨vs,hrun,h3,h4,h5⟩:=run_build (o:=⟨some d1, .buildSlice t n parts,Sd,pos1,Se,none⟩) rfl ht hk he (by omega) (by rw[hks];omega) hf (by rw[hks];omega) hone hpure hr;have uj:Region.wanted (⟨some d1, .buildSlice t n parts,Sd,pos1,Se,none⟩:Oper) (yielded all a.tmps)=true:=rfl;refine bp uj (.inl hrun) ?_
 have hsz:d1<a.tmps.size:=by
  have:=dF hr.slots;rw[Array.length_toList] at this;omega
 have S7:(a.put (some d1) (.slice (some ⟨w.heap.size,0,none⟩) n n)).eval (.tmp d1) = .slice (some ⟨w.heap.size,0,none⟩) n n:=by
  simp[Act.put,Act.eval,hsz]
 have u0:=eV ht hk
 have TB:(execOp (a.put (some d1) (.slice (some ⟨w.heap.size,0,none⟩) n n)).eval ⟨some d2, .convert t t (.tmp d1),Q0,pos2,Q5,none⟩).run P (w.alloc (.cells vs.toArray e)) = .ok (.value (.slice (some ⟨w.heap.size,0,none⟩) n n)) (uG w vs.toArray e n):=by
  have hvl:vs.length=n:=by omega
  have hsh:(w.alloc (.cells vs.toArray e)).shape? w.heap.size=some (e,n):=by
   unfold World.shape?;rw[heap_alloc_new w _];simp[hvl]
  simp[execOp,S7,convert,run_underlying u0,run_underlying Zv,markStringish,uG,hsh,freeze,Sem.run,Result.andThen]
 have hg2:∀ b:Act,Region.wanted (⟨some d2, .convert t t (.tmp d1),Q0,pos2,Q5,none⟩:Oper) (yielded all b.tmps)=true:=fun _=>rfl;refine bp (hg2 _) (.inl TB) ?_
 have kW:=hr.turn (ρ':=ρ) (heap':=σ.heap) (w':=uG w vs.toArray e n) (fun _=>False) (fun _=>rfl) (fun _ _=>rfl) (fun _ _=>rfl) (fun _ _ h=>h.elim) (fun _ _ _ h=>h.elim) (fun _ _ h=>h.elim)
  (fun g hg _=>tq hg) (fun g m hs=>ct (tq hs.lt) hs) (by rw[AB];omega) rfl rfl rfl (fun _ h=>h.elim)
 have G0:=kW.2.2 w.heap.size (.inl ⟨iU _,by rw[AB];omega⟩) (fun _ h=>h.elim)
 have EN:RR (uG w vs.toArray e n) (bO p σ.heap ρ (uG w vs.toArray e n)) 1 w.heap.size 0 (chunks 1 n cells):=by
  refine uu (by omega) (RL.mono (fun g off hg=>World.cell?_of_block (tq hg.2.1)) (fun g m hs=>ct (tq hs.lt) hs) kW.2.1 h3) h4 (fun j v hj=>?_);rw[kO];simp only[World.cell?,Ls];simpa using hj
 have hR:R (uG w vs.toArray e n) (bO p σ.heap ρ (uG w vs.toArray e n)) ρ (.sl 1 (chunks 1 n cells)) (.slice (some ⟨w.heap.size,0,none⟩) n n):=by
  simp only[R];exact ⟨_,n,by rw[kP],by rw[kP];exact iU _,by unfold maxLen;omega, .inr ⟨_,0,rfl,G0,EN⟩⟩
 subst hx;exact uB all ha w0 p _ _ ⟨ρ,(kW.1.put (some d1) hR).put (some d2) hR⟩
theorem Rj {t:TypeId} {n d1 d2:Nat} {parts:Array (Nat×Operand)} {Sd Q0:TypeId} {pos1 pos2:String} {Se Q5:Array Edge} (h:ah P ds Q (⟨some d1,.buildSlice t n parts,Sd,pos1,Se,none⟩::⟨some d2,.convert t t (.tmp d1),Q0,pos2,Q5,none⟩::l) σ):ah P ds Q (⟨some d1,.buildSlice t n parts,Sd,pos1,Se,none⟩::⟨some d2,.convert t t (.tmp d1),Q0,pos2,Q5,none⟩::l) σ:=h
end
end Go.eB
namespace Go.eB
open Go.RowKit Go.MapKept
open Go.ChangeMaps (setBlock)
def TC (kk:KK) (l:List (Value×D)) (bn:List Nat) (ck:Nat):Ext where
 qt:=[]
 φ w st _ _ g:= ∃ es,w.heap[g]? = some (.map es ck)/\Stamped es ck/\(∀ x∈es.toList,IsKey kk.desc x.key)/\es.toList.map (·.born)=bn/\ME w st l es.toList
 lt h:=by
  obtain ⟨_,h1,_⟩:=h;exact (zQ.1 h1).1
 mono hc hs hst hb _ h:=by
  obtain ⟨es,h1,h2,h3,h4,h5⟩:=h;exact ⟨es,hb.trans h1,h2,h3,h4,h5.mono hc hs hst⟩
 loc _ h:=h
theorem IV {kk:KK} {l:List (Value×D)} {bn:List Nat} {ck:Nat}:(TC kk l bn ck).qt=[]:=rfl
section
variable {w0:World} {p:Pm} {σ:St} {a:Act} {w:World} {ρ:Nm}
end
section
variable {P:Program} {ds:List (Option Nat)} {Q:Exit->St->Prop} {σ σ':St} {l:List Oper} {dst:Option Nat} {ty:TypeId} {pos:String} {af:Array Edge} {g:Option (Nat×Bool)}
end
attribute [go_sem] IV
end Go.eB
namespace Go.eB
open Go.RowKit
def zk:D->Bool
 | .sc _=>true
 | .sl _ _=>true
 | .mp o=>decide (1000<=o)
 | .ref o _=>decide (1000<=o)
 | _=>false
theorem R.zk {w:World} {st:Nat->Prop} {ρ ρ':Nat->Option (Option Nat)} (h:∀ o,1000<=o->ρ' o=ρ o) {d:D} {v:Value} (hp:zk d=true) (hr:R w st ρ d v):R w st ρ' d v:=by
 cases d with
 | sc x=>simpa[R] using hr
 | sl k rows=>simpa[R] using hr
 | mp o=>
   simp only[eB.zk,pQ] at hp;simp only[R,h o hp] at hr ⊢;exact hr
 | ref o k=>
   simp only[eB.zk,pQ] at hp;simp only[R,h o hp] at hr ⊢;exact hr
 | _=>simp[eB.zk] at hp
theorem RL.zk {w:World} {st:Nat->Prop} {ρ ρ':Nat->Option (Option Nat)} (h:∀ o,1000<=o->ρ' o=ρ o):∀ {ds:List D} {vs:List Value},ds.all eB.zk=true->RL w st ρ ds vs->RL w st ρ' ds vs
 | [],_,_,hr=>by simpa[RL] using hr
 | d::ds,vs,hp,hr=>by
   rw[List.all_cons,jj] at hp;simp only[RL] at hr ⊢;obtain ⟨v,vs',e,h1,h2⟩:=hr;exact ⟨v,vs',e,R.zk h hp.1 h1,RL.zk h hp.2 h2⟩
def TD (σ:St) (ρ:Nm) (o g:Nat):Prop:= ∃ o',o'≠o/\az σ.heap o'≠ .dead/\ow ρ o' g
def TE (o:Nat) (σ:St):St:={ σ with heap:=aG σ.heap o .dead }
def Lt (o:Nat) (cs:List D) (σ:St):St:={ σ with heap:=aG σ.heap o (.box cs) }
def pmX (p:Pm) (σ:St) (ρ:Nm) (o:Nat):Pm:=⟨fun g=>p.rd g/\¬ ow ρ o g,TD σ ρ o,p.kf⟩
section
variable {w0:World} {p:Pm} {σ:St} {a:Act} {w:World} {ρ:Nm} {o:Nat} {cs:List D}
theorem RO.hid {w':World} {st:Nat->Prop} {ρ' Rk:Nm} {y:Nat} {x:Obj} (h1:Rk.nm=ρ'.nm) (h2:Rk.hid y=ρ'.hid y) (h:RO w' st ρ' y x):RO w' st Rk y x:=by
 cases x with
 | dead=>trivial
 | row k rows=>simp only[RO,h1] at h ⊢;exact h
 | box cs=>simp only[RO,h1] at h ⊢;exact h
 | ext e=>simp only[RO,h1,h2] at h ⊢;exact h
end
section
variable {P:Program} {σ σ':St} {ops:Array Oper} {K:St->Prop} {fuel:Nat} {listed:Array Bool} {ds:List (Option Nat)} {o:Nat} {cs:List D}
def WD (P:Program) (ops:Array Oper) (K:St->Prop) (fuel:Nat) (listed:Array Bool) (o:Nat) (σ:St):Prop:=
 ∀ w0 p a w ρ,aU w0 p σ a w ρ->p8 P ops (fun w'=>gL (TD σ ρ o) w w') (fun e a' w'=>e = .normal/\∃ σ',K σ'/\Rel w0 p σ' a' w') fuel listed a w
theorem fC.QX (i:Nat) {dst:Option Nat} {x:Operand} {ty:TypeId} {pos:String} {af:Array Edge} {g:Option (Nat×Bool)} (hi:ops[i]? = some ⟨dst, .nilCheck x,ty,pos,af,g⟩) (ht:i7 ops listed i=true) (h:fK P (ze ops) dst (.nilCheck x) g σ=some σ')
  (hn:fC P ops K fuel (listed.setIfInBounds i true) σ'):fC P ops K (fuel+1) listed σ:=fC.TA hi rfl ht h hn
theorem fC.q (o:Nat) (h:WD P ops K fuel listed o σ):fC P ops K fuel listed σ:=by
 rintro w0 p a w ⟨ρ,hr⟩;refine p9 (fun w' hb'=>hr.below.trans hb' fun g hg ⟨o',_,h1,h2⟩=>?_) (fun _ _ _ h=>h) _ _ _ _ (h w0 p a w ρ hr);rcases hr.fresh o' g h1 h2 with h3|h3
 ·omega
 ·exact h3
def P4 (o:Nat) (cs:List D) (K:St->Prop) (σ1:St):Prop:=ec σ1.heap o=true/\az σ1.heap o = .dead/\K (Lt o cs σ1)
theorem P4.i (h1:ec σ.heap o=true) (h2:az σ.heap o = .dead) (he:Lt o cs σ=σ') (h:K σ'):P4 o cs K σ:=⟨h1,h2,by rw[he];exact h⟩
end
attribute [go_sem] zk TE Lt
def LX (P:Program) (ds:List (Option Nat)) (Q:St->Prop):List Oper->St->Prop
 | [],σ=>Q σ
 | o::l,σ=>match bq ds o.guard σ with
   | some true=>(match gS P σ o.op with
     | some d=>LX P ds Q l (σ.put o.dst d)
     | none=>bz P ds Q (o::l) σ)
   | some false=>LX P ds Q l (σ.put o.dst (.sc undef))
   | none=>bz P ds Q (o::l) σ
def oX (e:Option D) (P:Program) (ds:List (Option Nat)) (Q:St->Prop) (o:Oper) (l:List Oper) (σ:St):Prop:=match e with
 | some d=>LX P ds Q l (σ.put o.dst d)
 | none=>bz P ds Q (o::l) σ
def gX (e:Option Bool) (P:Program) (ds:List (Option Nat)) (Q:St->Prop) (o:Oper) (l:List Oper) (σ:St):Prop:=match e with
 | some true=>oX (gS P σ o.op) P ds Q o l σ
 | some false=>LX P ds Q l (σ.put o.dst (.sc undef))
 | none=>bz P ds Q (o::l) σ
section
variable {P:Program} {ds:List (Option Nat)} {Q:St->Prop} {o:Oper} {l:List Oper} {σ σ':St} {dst:Option Nat} {op:Op} {ty:TypeId} {pos:String} {af:Array Edge} {g:Option (Nat×Bool)} {d:D}
theorem Rl:LX P ds Q [] σ=Q σ:=rfl
theorem BS:LX P ds Q (⟨dst,op,ty,pos,af,g⟩::l) σ=gX (bq ds g σ) P ds Q ⟨dst,op,ty,pos,af,g⟩ l σ:=by
 rw[LX];rfl
theorem WE:oX (some d) P ds Q ⟨dst,op,ty,pos,af,g⟩ l σ=LX P ds Q l (σ.put dst d):=rfl
theorem WG:oX none P ds Q o l σ=bz P ds Q (o::l) σ:=rfl
theorem WH:gX (some true) P ds Q ⟨dst,op,ty,pos,af,g⟩ l σ=oX (gS P σ op) P ds Q ⟨dst,op,ty,pos,af,g⟩ l σ:=rfl
theorem WI:gX (some false) P ds Q ⟨dst,op,ty,pos,af,g⟩ l σ=LX P ds Q l (σ.put dst (.sc undef)):=rfl
theorem WJ:gX none P ds Q o l σ=bz P ds Q (o::l) σ:=rfl
theorem TF:∀ {l:List Oper} {σ:St},LX P ds Q l σ->bz P ds Q l σ
 | [],σ,h=>bz.nil h
 | o::l,σ,h=>by
   obtain ⟨dst,op,ty,pos,af,g⟩:=o;rw[LX] at h;simp only at h
   split at h
   ·rename_i hg
    split at h
    ·rename_i d hb;exact bz.step (by rw[fK,hg];simp only[Option.bind_some,jg,hb,Option.map_some]) (TF h)
    ·exact h
   ·rename_i hg;exact bz.step (by rw[fK,hg];rfl) (TF h)
   ·exact h
theorem Lu {b:Bool} {e:Option Bool} {t:Nat} {x:Nat×Bool} (ht:kY ds (some x)=some t) (hb:σ.slots.getD t .any = .sc (.bool b)) (he:bq ds (some x) σ=e)
  (h1:b=true->LX P ds Q (⟨dst,op,ty,pos,af,some x⟩::l) (σ.put (some t) (.sc (.bool true)))) (h2:b=false->LX P ds Q (⟨dst,op,ty,pos,af,some x⟩::l) (σ.put (some t) (.sc (.bool false)))):gX e P ds Q ⟨dst,op,ty,pos,af,some x⟩ l σ:=by
 subst he;cases b
 ·have:=h2 rfl;rw[jC hb,BS] at this;exact this
 ·have:=h1 rfl;rw[jC hb,BS] at this;exact this
theorem dO {a b:Option D} (h:a=b) (hn:oX b P ds Q o l σ):oX a P ds Q o l σ:=h▸hn
end
def fP (P:Program) (ds:List (Option Nat)) (g:Option (Nat×Bool)) (σ:St) (dst:Option Nat) (f:FuncId) (args:List D) (sn:Bool) (Q:St->Prop) (l:List Oper):Prop:=iO P ds g σ dst f args sn (fun σ'=>LX P ds Q l σ')
def xE (e1 e2:Option (List D)) (P:Program) (ds:List (Option Nat)) (g:Option (Nat×Bool)) (σ:St) (dst:Option Nat) (f:FuncId) (Q:St->Prop) (l:List Oper):Prop:=match e1,e2 with
 | some args,_=>fP P ds g σ dst f args false Q l
 | none,some args=>fP P ds g σ dst f args true Q l
 | none,none=>False
def xG (d:D) (as:List D) (P:Program) (ds:List (Option Nat)) (g:Option (Nat×Bool)) (σ:St) (dst:Option Nat) (Q:St->Prop) (l:List Oper):Prop:=match d with
 | .fn f caps=>xE (iu [] (as++caps)) (fZ (ef σ [] 4) (as++caps)) P ds g σ dst f Q l
 | _=>False
def Lv (e:Option St) (P:Program) (ds:List (Option Nat)) (Q:St->Prop) (l:List Oper):Prop:=match e with
 | some σ'=>LX P ds Q l σ'
 | none=>False
section
variable {P:Program} {ds:List (Option Nat)} {Q:St->Prop} {σ σ':St} {l:List Oper} {dst:Option Nat} {ty:TypeId} {pos:String} {af:Array Edge} {g:Option (Nat×Bool)} {f:FuncId} {x:Operand} {xs:Array Operand} {ts:Array TypeId} {caps args as:List D} {ret:D} {sn:Bool} {e2:Option (List D)} {op:Op} {o:Oper}
theorem WK:xE (some args) e2 P ds g σ dst f Q l=fP P ds g σ dst f args false Q l:=by cases e2<;>rfl
theorem WL:xE none (some args) P ds g σ dst f Q l=fP P ds g σ dst f args true Q l:=rfl
theorem TG:xG (.fn f caps) as P ds g σ dst Q l=xE (iu [] (as++caps)) (fZ (ef σ [] 4) (as++caps)) P ds g σ dst f Q l:=rfl
theorem Rm:Lv (some σ') P ds Q l=LX P ds Q l σ':=rfl
theorem fP.c (hc:ak P f args ret []) (h:Lv (vj ds g σ dst sn ret) P ds Q l):fP P ds g σ dst f args sn Q l:=by
 unfold Lv at h
 split at h
 ·rename_i σ' he;exact iO.c hc he h
 ·exact h.elim
theorem iO.mono {K K':St->Prop} (hK:∀ σ',K σ'->K' σ') (h:iO P ds g σ dst f args sn K):iO P ds g σ dst f args sn K':=by
 unfold iO at h ⊢;obtain ⟨ret,σ',h1,h2,h3⟩:=h;exact ⟨ret,σ',h1,h2,hK _ h3⟩
theorem gQ (h:xG (bh σ x) (xs.toList.map (bh σ)) P ds g σ dst Q l):bz P ds Q (⟨dst, .call { callee:= .value x,args:=xs,argTypes:=ts },ty,pos,af,g⟩::l) σ:=by
 unfold xG at h
 split at h
 ·rename_i f caps hx;unfold xE at h
  split at h
  ·rename_i he;exact bz.dE hx he (iO.mono (fun _=>TF) h)
  ·rename_i he;exact bz.dS hx he (iO.mono (fun _=>TF) h)
  ·exact h.elim
 ·exact h.elim
theorem dX {id:Nat} {Q:Exit->St->Prop} (hm:P.follows .mixedOrders=true) (hB:Region.lexB .any l.toArray=true) (h:LX P (Av l) (Q .normal) l σ):ay P (.region id l.toArray true) Q σ:=
 ay.iK hm hB (xH l).symm (TF h)
@[congr] theorem TH {a b:Option D} (h:a=b):oX a P ds Q o l σ=oX b P ds Q o l σ:=by rw[h]
@[congr] theorem TJ {a b:Option Bool} (h:a=b):gX a P ds Q o l σ=gX b P ds Q o l σ:=by rw[h]
@[congr] theorem TL:LX P ds Q l σ=LX P ds Q l σ:=rfl
@[congr] theorem Rn {a b:Option St} (h:a=b):Lv a P ds Q l=Lv b P ds Q l:=by rw[h]
@[congr] theorem TM {a b:D} {as bs:List D} (h:a=b) (h2:as=bs):xG a as P ds g σ dst Q l=xG b bs P ds g σ dst Q l:=by rw[h,h2]
@[congr] theorem TN {a b c d:Option (List D)} (h:a=b) (h2:c=d):xE a c P ds g σ dst f Q l=xE b d P ds g σ dst f Q l:=by rw[h,h2]
@[congr] theorem P5:fP P ds g σ dst f args sn Q l=fP P ds g σ dst f args sn Q l:=rfl
@[congr] theorem P6 {l:List Oper}:bz P ds Q l σ=bz P ds Q l σ:=rfl
end
section
variable {P:Program} {ds:List (Option Nat)} {st:List Nat} {Q:Exit->St->Prop} {Qx:St->Prop} {σ:St} {l:List Oper} {dst:Option Nat} {g:Option (Nat×Bool)} {f:FuncId} {args:List D} {sn:Bool}
theorem nB (h:fP P ds g σ dst f args sn Qx l):fP P ds g σ dst f args sn Qx l:=h
theorem bJ (h:aq P st ds g σ dst f args sn Q l):aq P st ds g σ dst f args sn Q l:=h
end
attribute [irreducible] fP
attribute [go_sem] Rl BS WE WG WH WI WJ WK WL TG Rm
def b8 (P:Program) (st:List Nat) (ds:List (Option Nat)) (g:Option (Nat×Bool)) (σ:St) (dst:Option Nat) (f:FuncId) (ins:List Nat) (objs:List Obj) (args:List D) (Q:Exit->St->Prop) (l:List Oper):Prop:=
 ∃ new ret outs σ',aF P f objs args ret outs/\jY ds g σ dst ins new false ret outs=some σ'/\LV P st ds Q l σ'
def mE (e1:Option (List D)) (e2:Option (List Obj)) (P:Program) (st:List Nat) (ds:List (Option Nat)) (g:Option (Nat×Bool)) (σ:St) (dst:Option Nat) (f:FuncId) (ins:List Nat) (Q:Exit->St->Prop) (l:List Oper):Prop:=match e1,e2 with
 | some args,some objs=>b8 P st ds g σ dst f ins objs args Q l
 | _,_=>False
def mI (ins:List Nat) (as:List D) (P:Program) (st:List Nat) (ds:List (Option Nat)) (g:Option (Nat×Bool)) (σ:St) (dst:Option Nat) (f:FuncId) (Q:Exit->St->Prop) (l:List Oper):Prop:=mE (iu ins as) (jQ σ (iu ins) ins) P st ds g σ dst f ins Q l
def mG (d:D) (as:List D) (n:Nat) (P:Program) (st:List Nat) (ds:List (Option Nat)) (g:Option (Nat×Bool)) (σ:St) (dst:Option Nat) (Q:Exit->St->Prop) (l:List Oper):Prop:=match d,n with
 | .fn f caps,0=>mI (jy [] (uv (as++caps))) (as++caps) P st ds g σ dst f Q l
 | .fn f caps,1=>mI (nq σ (uv (as++caps))) (as++caps) P st ds g σ dst f Q l
 | .fn f caps,2=>mI (nq σ (nq σ (uv (as++caps)))) (as++caps) P st ds g σ dst f Q l
 | _,_=>False
section
variable {P:Program} {st:List Nat} {ds:List (Option Nat)} {Q:Exit->St->Prop} {σ σ':St} {l:List Oper} {dst:Option Nat} {ty:TypeId} {pos:String} {af:Array Edge} {g:Option (Nat×Bool)} {f:FuncId} {x:Operand} {xs:Array Operand} {ts:Array TypeId} {caps args as:List D} {ret:D} {ins:List Nat} {objs outs:List Obj}
theorem WM:mE (some args) (some objs) P st ds g σ dst f ins Q l=b8 P st ds g σ dst f ins objs args Q l:=rfl
theorem TP:mI ins as P st ds g σ dst f Q l=mE (iu ins as) (jQ σ (iu ins) ins) P st ds g σ dst f ins Q l:=rfl
theorem WN:mG (.fn f caps) as 0 P st ds g σ dst Q l=mI (jy [] (uv (as++caps))) (as++caps) P st ds g σ dst f Q l:=rfl
theorem WO:mG (.fn f caps) as 1 P st ds g σ dst Q l=mI (nq σ (uv (as++caps))) (as++caps) P st ds g σ dst f Q l:=rfl
theorem WQ:mG (.fn f caps) as 2 P st ds g σ dst Q l=mI (nq σ (nq σ (uv (as++caps)))) (as++caps) P st ds g σ dst f Q l:=rfl
theorem b8.w (new:List Nat) (hc:aF P f objs args ret outs) (h:rV (jY ds g σ dst ins new false ret outs) P st ds Q l):b8 P st ds g σ dst f ins objs args Q l:=by
 unfold rV at h
 split at h
 ·rename_i σ' he;exact ⟨new,ret,outs,σ',hc,he,h⟩
 ·exact h.elim
theorem b8.c (hc:aF P f objs args ret outs) (h:rV (jY ds g σ dst ins [] false ret outs) P st ds Q l):b8 P st ds g σ dst f ins objs args Q l:=b8.w [] hc h
theorem b8.n (hc:aF P f objs args ret outs) (h:rV (jY ds g σ dst ins (Hl dst) false ret outs) P st ds Q l):b8 P st ds g σ dst f ins objs args Q l:=b8.w _ hc h
theorem cq (m:Nat) (h:mG (bh σ x) (xs.toList.map (bh σ)) m P st ds g σ dst Q l):ah P ds Q (⟨dst, .call { callee:= .value x,args:=xs,argTypes:=ts },ty,pos,af,g⟩::l) σ:=by
 unfold mG at h
 split at h
 ·rename_i f caps hx;unfold mI mE at h
  split at h
  ·rename_i h1 h2;obtain ⟨new,ret,outs,σ',hc,he,hn⟩:=h;exact ah.cI new hx rfl hc h1 h2 he (dI hn)
  ·exact h.elim
 ·rename_i f caps hx;unfold mI mE at h
  split at h
  ·rename_i h1 h2;obtain ⟨new,ret,outs,σ',hc,he,hn⟩:=h;exact ah.cJ new hx rfl hc h1 h2 he (dI hn)
  ·exact h.elim
 ·rename_i f caps hx;unfold mI mE at h
  split at h
  ·rename_i h1 h2;obtain ⟨new,ret,outs,σ',hc,he,hn⟩:=h;exact ah.cK new hx rfl hc h1 h2 he (dI hn)
  ·exact h.elim
 ·exact h.elim
@[congr] theorem TQ {a b:Option (List D)} {c d:Option (List Obj)} (h:a=b) (h2:c=d):mE a c P st ds g σ dst f ins Q l=mE b d P st ds g σ dst f ins Q l:=by rw[h,h2]
@[congr] theorem TR {a b:List Nat} {c d:List D} (h:a=b) (h2:c=d):mI a c P st ds g σ dst f Q l=mI b d P st ds g σ dst f Q l:=by rw[h,h2]
@[congr] theorem TS {a b:D} {c d:List D} {m:Nat} (h:a=b) (h2:c=d):mG a c m P st ds g σ dst Q l=mG b d m P st ds g σ dst Q l:=by rw[h,h2]
@[congr] theorem P7:b8 P st ds g σ dst f ins objs args Q l=b8 P st ds g σ dst f ins objs args Q l:=rfl
end
attribute [irreducible] b8
attribute [go_sem] WM TP WN WO WQ
def aN:Nat->Nat->List (Nat×D)
 | _,0=>[]
 | i,n+1=>(i, .any)::aN (i+1) n
theorem WR {i:Nat}:aN i 0=[]:=rfl
theorem WS {i n:Nat}:aN i (n+1)=(i, .any)::aN (i+1) n:=rfl
theorem DE:∀ {a b:List (Nat×D)} {s:List D},BJ (a++b) s=BJ b (BJ a s)
 | [],_,_=>rfl
 | (i,d)::a,b,s=>by
   show BJ (a++b) (s.set i d)=_;rw[DE];rfl
attribute [go_sem] WR WS DE
def Hr (ids:List Nat) (n:Nat):Bool:=(ids.length==n)&&(ids.all (fun o=>decide (1000<=o))&&oC ids)
theorem IW {ids:List Nat} {n:Nat} (h:Hr ids n=true):ids.length=n/\ids.all (fun o=>decide (1000<=o))=true/\ids.Nodup:=by
 simp only[Hr,jj,nX] at h;exact ⟨h.1,h.2.1,l6 h.2.2⟩
theorem lH:type_of% (And.intro @List.all_cons (And.intro @List.all_nil (And.intro @EL (And.intro @List.length_cons (And.intro @List.length_nil @and_self))))):=And.intro @List.all_cons (And.intro @List.all_nil (And.intro @EL (And.intro @List.length_cons (And.intro @List.length_nil @and_self))))
theorem vh {P:Program} {f:FuncId} {fn:Func} {c:Code} (hf:P.funcs[f]? = some fn) (hb:fn.body=some c) (hq:(fn.name == "runtime.NumGoroutine")=false) (as:Array Value) (w:World):(callFunc f as).run P w=.ok (.enter f as) w:=by
 unfold callFunc;simp only[program,bind];have h:∀ k:Program->Sem Next,((Sem.program Sem.pure).bind k).run P w=(k P).run P w:=fun k=>rfl;rw[h];simp only[hf,hq,hb,Option.isNone_some,pT,jd];rfl
theorem dL {P:Program} {f:FuncId} {fn:Func} {c:Code} {ins:List Obj} {args:List D} {ret:D} {outs:List Obj} (ids keys:List Nat) (hf:P.funcs[f]? = some fn)
  (hq:(fn.name == "runtime.NumGoroutine")=false) {n:Nat} (hn:fn.ntmps=n) {σ:St} (hb:fn.body=some c) (hk:Hr ids ins.length=true) (hl:J0 ins.length args=true/\ins.all (wu ins.length)=true) (hs:(⟨Fc ids args++List.replicate (n-args.length) (.sc undef),oY ids ins keys⟩:St)=σ)
  (ht:ay P c (aC P fn ids ret outs) σ):aF P f ins args ret outs:=by
 obtain ⟨h1,h2,h3⟩:=IW hk;subst hs;exact dP ids keys hf hb (vh hf hb hq) h1 h2 h3 hl.1 hl.2 hn rfl rfl ht
def FL (P:Program) (rs:List ResultVar) (ins:List Nat) (ret:D) (outs:List Obj):Exit->St->Prop
 | .normal,σ=>rA (iw P σ rs) ins ret outs σ
 | .ret,σ=>rA (iw P σ rs) ins ret outs σ
 | _,_=>False
section
variable {P:Program} {rs:List ResultVar} {ins:List Nat} {ret:D} {outs:List Obj} {e:Exit} {σ:St}
theorem Ro:FL P rs ins ret outs .normal σ=rA (iw P σ rs) ins ret outs σ:=rfl
theorem Rp:FL P rs ins ret outs .ret σ=rA (iw P σ rs) ins ret outs σ:=rfl
@[congr] theorem Rq:FL P rs ins ret outs e σ=FL P rs ins ret outs e σ:=rfl
theorem FL.ok {fn:Func} (hr:fn.results.toList=rs) (h:FL P rs ins ret outs e σ):aC P fn ins ret outs e σ:=by
 cases e with
 | normal=>exact fl hr rfl h
 | ret=>exact fl hr rfl h
 | _=>exact h.elim
end
theorem bR {P:Program} {f:FuncId} {fn:Func} {c:Code} {ins:List Obj} {args:List D} {ret:D} {outs:List Obj} (ids keys:List Nat) (rs:List ResultVar) (hf:P.funcs[f]? = some fn)
  (hq:(fn.name == "runtime.NumGoroutine")=false) {n:Nat} (hn:fn.ntmps=n) {σ:St} (hb:fn.body=some c) (hr:fn.results.toList=rs) (hk:Hr ids ins.length=true) (hl:J0 ins.length args=true/\ins.all (wu ins.length)=true) (hs:(⟨Fc ids args++List.replicate (n-args.length) (.sc undef),oY ids ins keys⟩:St)=σ)
  (ht:ay P c (FL P rs ids ret outs) σ):aF P f ins args ret outs:=dL ids keys hf hq hn hb hk hl hs (ay.mono ht (fun _ _ h=>h.ok hr))
attribute [go_sem] Ro Rp
@[congr] theorem TT {c p:Prop}:Cv c p=Cv c p:=rfl
def kV (d:D) (t:Nat) (P:Program) (st:List Nat) (ds:List (Option Nat)) (Q:Exit->St->Prop) (l:List Oper) (σ:St):Prop:=match d with
 | .sc (.bool b)=>Cv (b=true) (LV P st ds Q l (σ.put (some t) (.sc (.bool true))))/\Cv (b=false) (LV P st ds Q l (σ.put (some t) (.sc (.bool false))))
 | _=>False
def jV (s:Bool) (e:Option Nat) (P:Program) (st:List Nat) (ds:List (Option Nat)) (Q:Exit->St->Prop) (l:List Oper) (σ:St):Prop:=match s,e with
 | false,some t=>kV (σ.slots.getD t .any) t P st ds Q l σ
 | _,_=>False
def kX (d:D) (t:Nat) (P:Program) (ds:List (Option Nat)) (Q:St->Prop) (l:List Oper) (σ:St):Prop:=match d with
 | .sc (.bool b)=>Cv (b=true) (LX P ds Q l (σ.put (some t) (.sc (.bool true))))/\Cv (b=false) (LX P ds Q l (σ.put (some t) (.sc (.bool false))))
 | _=>False
def jX (e:Option Nat) (P:Program) (ds:List (Option Nat)) (Q:St->Prop) (l:List Oper) (σ:St):Prop:=match e with
 | some t=>kX (σ.slots.getD t .any) t P ds Q l σ
 | none=>False
section
variable {P:Program} {st:List Nat} {ds:List (Option Nat)} {Q:Exit->St->Prop} {Qx:St->Prop} {σ:St} {l:List Oper} {t:Nat} {b:Bool} {e:Option Bool} {x:Nat×Bool} {dst:Option Nat} {op:Op} {ty:TypeId} {pos:String} {af:Array Edge}
theorem WT:kV (.sc (.bool b)) t P st ds Q l σ=(Cv (b=true) (LV P st ds Q l (σ.put (some t) (.sc (.bool true))))/\Cv (b=false) (LV P st ds Q l (σ.put (some t) (.sc (.bool false))))):=rfl
theorem WU:jV false (some t) P st ds Q l σ=kV (σ.slots.getD t .any) t P st ds Q l σ:=rfl
theorem WV:kX (.sc (.bool b)) t P ds Qx l σ=(Cv (b=true) (LX P ds Qx l (σ.put (some t) (.sc (.bool true))))/\Cv (b=false) (LX P ds Qx l (σ.put (some t) (.sc (.bool false))))):=rfl
theorem WW:jX (some t) P ds Qx l σ=kX (σ.slots.getD t .any) t P ds Qx l σ:=rfl
@[congr] theorem TU {a c:D} (h:a=c):kV a t P st ds Q l σ=kV c t P st ds Q l σ:=by rw[h]
@[congr] theorem TW {a c:D} (h:a=c):kX a t P ds Qx l σ=kX c t P ds Qx l σ:=by rw[h]
@[congr] theorem TX {a c:Bool} {m n:Option Nat} (h:a=c) (h2:m=n):jV a m P st ds Q l σ=jV c n P st ds Q l σ:=by rw[h,h2]
@[congr] theorem TY {m n:Option Nat} (h2:m=n):jX m P ds Qx l σ=jX n P ds Qx l σ:=by rw[h2]
theorem dV (h:bq ds (some x) σ=e/\jV (Au st dst) (kY ds (some x)) P st ds Q (⟨dst,op,ty,pos,af,some x⟩::l) σ):gV e P st ds Q ⟨dst,op,ty,pos,af,some x⟩ l σ:=by
 obtain ⟨he,h⟩:=h;unfold jV at h
 split at h
 ·rename_i t h1 h2;unfold kV at h
  split at h
  ·rename_i b hb;exact KY h2 hb he h.1 h.2 h1
  ·exact h.elim
 ·exact h.elim
theorem BT (h:bq ds (some x) σ=e/\jX (kY ds (some x)) P ds Qx (⟨dst,op,ty,pos,af,some x⟩::l) σ):gX e P ds Qx ⟨dst,op,ty,pos,af,some x⟩ l σ:=by
 obtain ⟨he,h⟩:=h;unfold jX at h
 split at h
 ·rename_i t h2;unfold kX at h
  split at h
  ·rename_i b hb;exact Lu h2 hb he h.1 h.2
  ·exact h.elim
 ·exact h.elim
end
attribute [go_sem] WT WU WV WW
def Bn (σ σ':St):Prop:=qR σ.slots σ'.slots/\Dj σ.heap σ'.heap
theorem Rr {s t:List D} {h k:List (Nat×Obj)}:Bn ⟨s,h⟩ ⟨t,k⟩=(qR s t/\Dj h k):=rfl
attribute [go_sem] Rr
theorem lG {σ σ':St} (h:Bn σ σ'):Bn σ σ':=h
theorem cZ.Bn {σ σ':St} (h:Bn σ σ'):cZ σ σ':=cZ.le (bL h.1) (bX h.2)
def DF {τ:Type} (I:τ->Prop) (μ:τ->Nat) (m:Nat) (f:τ->St) (σ:St):Prop:= ∃ t',I t'/\μ t'<m/\cZ σ (f t')
theorem kN {τ:Type} {I:τ->Prop} {μ:τ->Nat} {m:Nat} {f:τ->St} {σ:St} (t':τ) (hi:cZ σ (f t')) (hI:I t') (hm:μ t'<m):DF I μ m f σ:=⟨t',hI,hm,hi⟩
theorem aP {τ:Type} {I:τ->Prop} {μ:τ->Nat} {m:Nat} {f:τ->St} {σ:St} (t':τ) (hi:Bn σ (f t')) (hI:I t') (hm:μ t'<m):DF I μ m f σ:=⟨t',hI,hm,cZ.Bn hi⟩
@[congr] theorem P8 {τ:Type} {I:τ->Prop} {μ:τ->Nat} {m:Nat} {f:τ->St} {σ:St}:DF I μ m f σ=DF I μ m f σ:=rfl
theorem ay.cX {P:Program} {Q:Exit->St->Prop} {s:List D} {h:List (Nat×Obj)} {τ:Type} {c:Code} (l:τ->List (Nat×D)) (m:τ->List (Nat×Obj)) (I:τ->Prop) (μ:τ->Nat) (t0:τ) (h0:I t0)
  {f:τ->St} (e:∀ t,(⟨BJ (l t) s,Ks (m t) h⟩:St)=f t) (hs:eB.Bn ⟨s,h⟩ (f t0)) (hb:∀ t,I t->ay P c (o7 (DF I μ (μ t) f) Q) (f t)):ay P (.loop c) Q ⟨s,h⟩:=
 ay.loop f I μ t0 h0 (cZ.Bn hs) (fun t ht=>ay.mono (hb t ht) (fun e σ' hq=>by
  cases e with
  | normal=>exact hq
  | _=>exact hq))
def b2 (f:Bool->Bool->Bool) (d:D) (e:Option D) (t2 t3:Nat) (P:Program) (st:List Nat) (ds:List (Option Nat)) (Q:Exit->St->Prop) (l:List Oper) (σ:St):Prop:=match d,e with
 | .sc (.bool b),some (.sc (.bool b'))=>LV P st ds Q l ((σ.put (some t2) .any).put (some t3) (.sc (.bool (f b b'))))
 | _,_=>False
def Yq (w:Bool) (ds:List (Option Nat)) (i t1 t2 n:Nat) (op:Op):Bool:=(kY ds (some (i,w))==some t1)&&(!(t1==t2)&&(decide (t2<n) && !pZ op))
section
variable {P:Program} {st:List Nat} {ds:List (Option Nat)} {Q:Exit->St->Prop} {σ:St} {l:List Oper} {i t1 t2 t3:Nat} {op:Op} {ty ty':TypeId} {pos pos':String} {af NG:Array Edge} {f:Bool->Bool->Bool} {b b':Bool} {d:D} {e e':Option D}
theorem WX:b2 f (.sc (.bool b)) (some (.sc (.bool b'))) t2 t3 P st ds Q l σ=LV P st ds Q l ((σ.put (some t2) .any).put (some t3) (.sc (.bool (f b b')))):=rfl
@[congr] theorem T0 {a c:D} {m n:Option D} (h:a=c) (h2:m=n):b2 f a m t2 t3 P st ds Q l σ=b2 f c n t2 t3 P st ds Q l σ:=by rw[h,h2]
theorem VC {w:Bool} {n:Nat} (h:Yq w ds i t1 t2 n op=true):kY ds (some (i,w))=some t1/\t1≠t2/\t2<n/\pZ op=false:=by
 simp only[Yq,jj,nX,Pp,yX,pQ] at h;exact h
end
attribute [go_sem] WX
abbrev i6 (x:Int):D:= .sc (.int .i64 x)
attribute [go_sem] i6
end Go.eB
