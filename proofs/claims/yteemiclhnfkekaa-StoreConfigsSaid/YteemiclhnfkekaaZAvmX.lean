/- The abstract machine, parts ZX to ZY. -/
import Derived.Test.YteemiclhnfkekaaZAvmW
import Derived.Laws.Cover2
import Derived.Laws.Cover3
import Derived.Laws.FloatArith
/- The abstract machine, part ZX: small numbers through floats and complex numbers; calls whose objects are reached in two steps; four new objects. -/
namespace Go.Avm
set_option linter.unusedVariables false
set_option linter.unusedSimpArgs false
open Go.RowKit
theorem f2i_fin: ∀ a:Fin 201,floatToIntVal .f64 (floatOfInt .f64 ((a.val:Nat):Int)) .i64=some ((a.val:Nat):Int):=by decide +kernel
theorem f2i_ok {a:Int} (h0:0≤a) (h1:a≤200):floatToIntVal .f64 (floatOfInt .f64 a) .i64=some a:=by
 obtain ⟨n,rfl⟩:=Int.eq_ofNat_of_zero_le h0
 exact f2i_fin ⟨n,by omega⟩
section
variable {P:Program} {ds:List (Option Nat)} {Q:Exit→St→Prop} {σ σ':St} {l:List Oper} {dst:Option Nat} {ty:TypeId} {pos:String} {af:Array Edge} {g:Option (Nat×Bool)}
theorem TriD.toF {s t:TypeId} {sd:TypeDesc} {x:Operand} {q:IntKind} {n:Int} (hs:P.underlying s=some sd) (ht:P.underlying t=some (.float .f64)) (hg:aguardC ds g σ=some true) (hx:evl σ x = .sc (.int q n)) (he:σ.put dst (.sc (.float .f64 (floatOfInt .f64 n)))=σ')
  (hn:TriD P ds Q l σ'):TriD P ds Q (⟨dst, .convert s t x,ty,pos,af,g⟩::l) σ:=by
 intro all ha w0 p a w hr
 have hw:=aguard_wanted (all:=all) (o:=⟨dst, .convert s t x,ty,pos,af,g⟩) (by rw [aguard_C ha];exact hg) hr
 obtain ⟨ρ,hr⟩:=hr
 have hxv:=hr.evl x
 rw [hx] at hxv
 simp only [R] at hxv
 have hrun:(execOp a.eval ⟨dst, .convert s t x,ty,pos,af,g⟩).run P w = .ok (.value (.float .f64 (floatOfInt .f64 n))) w:=by
  simp [execOp,hxv,run_convert_int_float w s t q .f64 n (by rw [hs];rfl) ht,Result.andThen]
 subst he
 exact wpList_of_step hw (.inl hrun) (hn all ha w0 p _ _ ⟨ρ,hr.put dst (by simp [R])⟩)
theorem TriD.complexB {ts:Array TypeId} {x y:Operand} {u v:Nat} (hg:aguardC ds g σ=some true) (hx:evl σ x = .sc (.float .f64 u)) (hy:evl σ y = .sc (.float .f64 v)) (he:σ.put dst (.sc (.complex .f64 u v))=σ')
  (hn:TriD P ds Q l σ'):TriD P ds Q (⟨dst, .call { callee:= .builtin .complex,args:= #[x,y],argTypes:=ts },ty,pos,af,g⟩::l) σ:=by
 intro all ha w0 p a w hr
 have hw:=aguard_wanted (all:=all) (o:=⟨dst, .call { callee:= .builtin .complex,args:= #[x,y],argTypes:=ts },ty,pos,af,g⟩) (by rw [aguard_C ha];exact hg) hr
 obtain ⟨ρ,hr⟩:=hr
 have hxv:=hr.evl x
 rw [hx] at hxv
 have hyv:=hr.evl y
 rw [hy] at hyv
 simp only [R] at hxv hyv
 have hrun:(execOp a.eval ⟨dst, .call { callee:= .builtin .complex,args:= #[x,y],argTypes:=ts },ty,pos,af,g⟩).run P w = .ok (.value (.complex .f64 u v)) w:=by
  simp [execOp,resolve,invoke,builtin,hxv,hyv,run_complex,Result.andThen]
 subst he
 exact wpList_of_step hw (.inl hrun) (hn all ha w0 p _ _ ⟨ρ,hr.put dst (by simp [R])⟩)
theorem TriD.realB {ts:Array TypeId} {x:Operand} {u v:Nat} (hg:aguardC ds g σ=some true) (hx:evl σ x = .sc (.complex .f64 u v)) (he:σ.put dst (.sc (.float .f64 u))=σ')
  (hn:TriD P ds Q l σ'):TriD P ds Q (⟨dst, .call { callee:= .builtin .real,args:= #[x],argTypes:=ts },ty,pos,af,g⟩::l) σ:=by
 intro all ha w0 p a w hr
 have hw:=aguard_wanted (all:=all) (o:=⟨dst, .call { callee:= .builtin .real,args:= #[x],argTypes:=ts },ty,pos,af,g⟩) (by rw [aguard_C ha];exact hg) hr
 obtain ⟨ρ,hr⟩:=hr
 have hxv:=hr.evl x
 rw [hx] at hxv
 simp only [R] at hxv
 have hrun:(execOp a.eval ⟨dst, .call { callee:= .builtin .real,args:= #[x],argTypes:=ts },ty,pos,af,g⟩).run P w = .ok (.value (.float .f64 u)) w:=by
  simp [execOp,resolve,invoke,builtin,hxv,run_real,Result.andThen]
 subst he
 exact wpList_of_step hw (.inl hrun) (hn all ha w0 p _ _ ⟨ρ,hr.put dst (by simp [R])⟩)
theorem TriD.imagB {ts:Array TypeId} {x:Operand} {u v:Nat} (hg:aguardC ds g σ=some true) (hx:evl σ x = .sc (.complex .f64 u v)) (he:σ.put dst (.sc (.float .f64 v))=σ')
  (hn:TriD P ds Q l σ'):TriD P ds Q (⟨dst, .call { callee:= .builtin .imag,args:= #[x],argTypes:=ts },ty,pos,af,g⟩::l) σ:=by
 intro all ha w0 p a w hr
 have hw:=aguard_wanted (all:=all) (o:=⟨dst, .call { callee:= .builtin .imag,args:= #[x],argTypes:=ts },ty,pos,af,g⟩) (by rw [aguard_C ha];exact hg) hr
 obtain ⟨ρ,hr⟩:=hr
 have hxv:=hr.evl x
 rw [hx] at hxv
 simp only [R] at hxv
 have hrun:(execOp a.eval ⟨dst, .call { callee:= .builtin .imag,args:= #[x],argTypes:=ts },ty,pos,af,g⟩).run P w = .ok (.value (.float .f64 v)) w:=by
  simp [execOp,resolve,invoke,builtin,hxv,run_imag,Result.andThen]
 subst he
 exact wpList_of_step hw (.inl hrun) (hn all ha w0 p _ _ ⟨ρ,hr.put dst (by simp [R])⟩)
theorem isConvert {s t:TypeId} {x:Operand} (h:TriD P ds Q (⟨dst, .convert s t x,ty,pos,af,g⟩::l) σ):TriD P ds Q (⟨dst, .convert s t x,ty,pos,af,g⟩::l) σ:=h
theorem pureRun_f2i {s t:TypeId} {a:Int} (hs:P.underlying s=some (.float .f64)) (ht:P.underlying t=some (.int .i64)) (h0:0≤a) (h1:a≤200):pureRun P (Go.convert s t (.float .f64 (floatOfInt .f64 a)))=some (.int .i64 a):=by
 have h:=f2i_ok h0 h1
 unfold floatToIntVal at h
 split at h
 ·rename_i m he
  split at h
  ·rename_i hb
   cases h
   have hm:a≤9223372036854775807:=by omega
   simp [convert,pureRun_bind,pureRun_underlying hs,pureRun_underlying ht,Conv.floatToInt,he,hb.1,hb.2,hm,pureRun_pure]
  ·cases h
 ·cases h
variable {f:FuncId} {x:Operand} {xs:Array Operand} {ts:Array TypeId} {caps args:List D} {ret:D}
/-- A call that is handed all objects that are reached from its arguments in two steps. -/
theorem TriD.cK (new:List Nat) {objs outs:List Obj} {ins:List Nat} (hx:evl σ x = .fn f caps) (hi:closeN σ (closeN σ (nmsL (xs.toList.map (evl σ)++caps)))=ins) (hc:MCalls P f objs args ret outs) (hargs:renL ins (xs.toList.map (evl σ)++caps)=some args) (hobjs:renOs σ (renL ins) ins=some objs)
  (h:callR ds g σ dst ins new false ret outs=some σ') (hn:TriD P ds Q l σ'):TriD P ds Q (⟨dst, .call { callee:= .value x,args:=xs,argTypes:=ts },ty,pos,af,g⟩::l) σ:=by
 obtain ⟨h1,h2,h3,h4,h5,h6,h7,h8,_⟩:=callR_spec h
 exact TriD.callE ins new h1 hx hc hargs hobjs h2 h3 h4 h5 h6 h7 h8 hn
end
theorem nilCheck_noH {P:Program} {σ:St} {x:Operand} {d:D} (hd:nilD (evl σ x)=some d) {w0:World} {p:Pm} {a:Act} {w:World} {ρ:Nm} {o:Oper} (ho:o.op = .nilCheck x) (hr:RelAt w0 p σ a w ρ):NoH P (execOp a.eval o):=by
 have h1:=hr.evl x
 have key: ∀ g,a.eval x = .pointer (some g)→NoH P (execOp a.eval o):=fun g hg=>NoH.of_some (v:=a.eval x) fun w'=>by simp [execOp,ho,hg]
 unfold nilD at hd
 split at hd
 ·rename_i q off he
  rw [he] at h1
  simp only [R] at h1
  obtain ⟨g,_,e⟩:=h1
  exact key _ e
 ·rename_i q k i off he
  rw [he] at h1
  simp only [R] at h1
  obtain ⟨g,_,e⟩:=h1
  first|exact key _ e|exact key _ e.1|exact key _ e.2
 ·rename_i cs he
  rw [he] at h1
  simp only [R] at h1
  obtain ⟨g,off,e,_⟩:=h1
  exact key _ e
 ·cases hd
section
variable {P:Program} {σ σ':St} {ops:Array Oper} {K:St→Prop} {fuel:Nat} {listed:Array Bool} {p:Pl} {i:Nat} {dst:Option Nat} {x:Operand} {ty:TypeId} {pos:String} {af:Array Edge} {g:Option (Nat×Bool)}
theorem AnyG.nilc {ds:List (Option Nat)} (hi:ops[i]? = some ⟨dst, .nilCheck x,ty,pos,af,g⟩) (hd:ops.toList.map (·.dst)=ds) (ht:takeB ops listed i=true) (h:astepC P ds dst (.nilCheck x) g σ=some σ')
  (hn:AnyG P ops K fuel (listed.setIfInBounds i true) σ'):AnyG P ops K (fuel+1) listed σ:=by
 simp only [takeB,Bool.and_eq_true] at ht
 obtain ⟨⟨t1,t2⟩,t3⟩:=ht
 rintro w0 p a w hrel
 have hrel0:=hrel
 simp only [astepC,Option.bind_eq_some_iff] at h
 obtain ⟨b,hb,h⟩:=h
 rw [← aguard_C hd ⟨dst, .nilCheck x,ty,pos,af,g⟩ σ] at hb
 have hw:=aguard_wanted hb hrel
 obtain ⟨ρ,hr⟩:=hrel
 have hQ: ∀ (c:_) (a':Act) (w':World), ¬ (Exit.panic c=Exit.normal∧ ∃ σ',K σ'∧Rel w0 p σ' a' w'):=fun c a' w' h=>by cases h.1
 cases b
 ·simp only [Bool.false_eq_true,if_false,l_5] at h
  subst h
  exact wpAnyG_first hi t1 hQ fuel listed a w (Region.free_spec hi t2) (by simpa using t3) (.inr ⟨hw,rfl⟩) hr.below (hn w0 p _ w ⟨ρ,hr.put dst (by simp [R])⟩)
 ·simp only [if_true,Option.map_eq_some_iff] at h
  obtain ⟨d,hd',rfl⟩:=h
  obtain ⟨v,hv,hR⟩:=aval_sound hd' w0 p a w ρ ⟨dst, .nilCheck x,ty,pos,af,g⟩ rfl hr
  have hno:=(nilCheck_noH (P:=P) (by simpa only [aval] using hd') (o:=⟨dst, .nilCheck x,ty,pos,af,g⟩) rfl hr) w _ _ hv
  exact wpAnyG_first hi t1 hQ fuel listed a w (Region.free_spec hi t2) (by simpa using t3) (.inl ⟨hw,fun w' _=>hno.2 w'⟩) hr.below (hn w0 p _ w ⟨ρ,hr.put dst hR⟩)
theorem AnyP.Fn (hi:ops[i]? = some ⟨dst, .nilCheck x,ty,pos,af,g⟩) (h:astepC P (dsOf ops) dst (.nilCheck x) g σ=some σ') (hn:AnyP P ops K p fuel (listed.setIfInBounds i true) σ'):AnyP P ops K (.f i p) (fuel+1) listed σ:=by
 unfold AnyP at hn ⊢
 intro hk
 simp only [Pl.ok,Bool.and_eq_true] at hk
 exact AnyG.nilc hi rfl hk.1 h (hn hk.2)
end
/-- Four new objects of a call. -/
def newOf4:Option Nat→List Nat
 | none=>[]
 | some d=>[d,300+d,500+d,700+d]
section
variable {P:Program} {st:List Nat} {ds:List (Option Nat)} {Q:Exit→St→Prop} {σ:St} {l:List Oper} {dst:Option Nat} {g:Option (Nat×Bool)} {f:FuncId} {args:List D} {ret:D} {sn:Bool} {outs:List Obj}
theorem CallL.n4 (hc:ACalls P f args ret outs) (h:resV (callR ds g σ dst [] (newOf4 dst) sn ret outs) P st ds Q l):CallL P st ds g σ dst f args sn Q l:=CallL.w _ hc h
end
attribute [go_sem] newOf4
end Go.Avm
/- The abstract machine, part ZY: the bytes of a string literal. -/
namespace Go.Avm
set_option linter.unusedVariables false
set_option linter.unusedSimpArgs false
open Go.RowKit
section
variable {P:Program} {σ:St}
theorem run_build {o:Oper} {t:TypeId} {n:Nat} {parts:Array (Nat×Operand)} {ti ei:TI} {e:TypeId} {cells:List D} (ho:o.op = .buildSlice t n parts) (ht:tiGet P t=some ti) (hk:ti.kind.elem? = some e)
  (he:tiGet P e=some ei) (hn:n≤16777216) (hle:n*ei.size≤16777216) (hf:fillD (fun i=>some (i*ei.size,ei.size)) (zeroD ei.zero (n*ei.size)) (parts.toList.map fun x=>(x.1,evl σ x.2))=some cells)
  (hlen:cells.length=n*ei.size) (hone:cells.all oneD=true) (hpure:pureL cells=true) {w0:World} {p:Pm} {a:Act} {w:World} {ρ:Nm} (h:RelAt w0 p σ a w ρ):
  ∃ vs:List Value,(execOp a.eval o).run P w = .ok (.value (.slice (some ⟨w.heap.size,0,none⟩) n n)) (w.alloc (.cells vs.toArray e))∧RL w (stab p σ.heap ρ w) (fun _=>none) cells vs∧(∀ v∈vs,v.oneCell'=true)∧vs.length=cells.length:=by
 have hu:=run_underlying (P:=P) (slice_of_ti ht hk) w
 obtain ⟨_,hs,_,hz,_⟩:=run_ti he w
 have hz0:RL w (stab p σ.heap ρ w) ρ (zeroD ei.zero (n*ei.size)) ((List.range (n*ei.size)).map fun i=>ei.zero.cells[i%ei.zero.cells.size]!):=by
  have:zeroD ei.zero (n*ei.size)=((List.range (n*ei.size)).map fun i=>ei.zero.cells[i%ei.zero.cells.size]!).map .sc:=by simp [zeroD,List.map_map,Function.comp_def]
  rw [this];exact RL_sc _
 obtain ⟨vs',h1,h2⟩:=fill_spec (vparts:=parts.toList.map fun x=>(x.1,a.eval x.2)) hz0 (by simp [List.map_map,Function.comp_def]) (RL_parts h parts.toList) hf
 have h3:=pureL_spec (ρ':=fun _=>none) hpure h2
 have h4:=RL_one hone h2
 refine ⟨vs',?_,h3,h4,RL_length h2⟩
 have hle': ¬ (n*ei.size>2^24):=by omega
 have hfill: ∀ z:Array Value,(n*ei.size=0∨z=ei.zero.cells)→Instr.fill (fun i=>some (i*ei.size,ei.size)) ((Array.range (n*ei.size)).map (z[· % z.size]!)) (parts.map fun x=>(x.1,a.eval x.2)).toList=some vs'.toArray:=by
  intro z hz'
  have ez:(Array.range (n*ei.size)).map (z[· % z.size]!)=((List.range (n*ei.size)).map fun i=>ei.zero.cells[i%ei.zero.cells.size]!).toArray:=by
   rcases hz' with h0|rfl
   ·rw [h0];simp
   ·apply Array.toList_inj.1;simp
  rw [ez,Array.toList_map];exact h1
 by_cases h0:n*ei.size=0
 ·have hf0:=hfill #[] (.inl h0)
  simp only [execOp,ho,Instr.buildSlice,Sem.run_bind,hu,Result.andThen_ok,hs,Sem.run_pure]
  rw [if_neg hle']
  simp only [Sem.run_bind,Sem.run_pure,Result.andThen_ok,if_pos h0]
  simp only [hf0,Sem.run_bind,Sem.run_pure,newRow,run_newObj,Result.andThen_ok]
  rfl
 ·have hf0:=hfill ei.zero.cells (.inr rfl)
  simp only [execOp,ho,Instr.buildSlice,Sem.run_bind,hu,Result.andThen_ok,hs,Sem.run_pure]
  rw [if_neg hle']
  simp only [Sem.run_bind,Sem.run_pure,Result.andThen_ok,if_neg h0,hz]
  simp only [hf0,Sem.run_bind,Sem.run_pure,newRow,run_newObj,Result.andThen_ok]
  rfl
/-- The world with a marked new block. -/
def litW (w:World) (cur:Array Value) (e:TypeId) (n:Nat):World:=(w.alloc (.cells cur e)).freeze ⟨w.heap.size,n,none⟩ 1
theorem litW_new {w:World} {cur:Array Value} {e:TypeId} {n:Nat}:(litW w cur e n).heap[w.heap.size]? = some (.cells cur e (n,n+1)):=by
 simp only [litW,World.freeze]
 rw [if_neg (by decide)]
 simp only
 rw [Array.getElem?_modify,if_pos rfl,heap_alloc_new w _]
 rfl
theorem litW_old {w:World} {cur:Array Value} {e:TypeId} {n g:Nat} (h:g<w.heap.size):(litW w cur e n).heap[g]? = w.heap[g]? :=by
 simp only [litW,World.freeze,World.alloc]
 rw [if_neg (by decide)]
 simp only
 rw [Array.getElem?_modify,if_neg (by omega),Array.getElem?_push,if_neg (by omega)]
theorem litW_size {w:World} {cur:Array Value} {e:TypeId} {n:Nat}:(litW w cur e n).heap.size=w.heap.size+1:=by
 simp only [litW,World.freeze]
 rw [if_neg (by decide)]
 simp only
 rw [Array.size_modify]
 exact Array.size_push ..
end
section
variable {P:Program} {ds:List (Option Nat)} {Q:Exit→St→Prop} {σ σ':St} {l:List Oper}
theorem TriD.litB {t e:TypeId} {ti ei:TI} {n d1 d2:Nat} {parts:Array (Nat×Operand)} {cells:List D} {ty1 ty2:TypeId} {pos1 pos2:String} {af1 af2:Array Edge} (ht:tiGet P t=some ti) (hk:ti.kind.elem? = some e) (he:tiGet P e=some ei) (hu8:P.underlying e=some (.int .u8)) (hks:ei.size=1)
  (hn:n≤1000) (hf:fillD (fun i=>some (i*ei.size,ei.size)) (zeroD ei.zero (n*ei.size)) (parts.toList.map fun x=>(x.1,evl σ x.2))=some cells) (hlen:cells.length=n) (hone:cells.all oneD=true) (hpure:pureL cells=true) (hlt:d1<σ.slots.length)
  (hx:(σ.put (some d1) (.sl 1 (chunks 1 n cells))).put (some d2) (.sl 1 (chunks 1 n cells))=σ') (hnx:TriD P ds Q l σ'):
  TriD P ds Q (⟨some d1, .buildSlice t n parts,ty1,pos1,af1,none⟩::⟨some d2, .convert t t (.tmp d1),ty2,pos2,af2,none⟩::l) σ:=by
 intro all ha w0 p a w hr
 obtain ⟨ρ,hr⟩:=hr
 obtain ⟨vs,hrun,h3,h4,h5⟩:=run_build (o:=⟨some d1, .buildSlice t n parts,ty1,pos1,af1,none⟩) rfl ht hk he (by omega) (by rw [hks];omega) hf (by rw [hks];omega) hone hpure hr
 have hg1:Region.wanted (⟨some d1, .buildSlice t n parts,ty1,pos1,af1,none⟩:Oper) (yielded all a.tmps)=true:=rfl
 refine wpList_of_step hg1 (.inl hrun) ?_
 have hsz:d1<a.tmps.size:=by
  have:=RL_length hr.slots
  rw [Array.length_toList] at this;omega
 have hev:(a.put (some d1) (.slice (some ⟨w.heap.size,0,none⟩) n n)).eval (.tmp d1) = .slice (some ⟨w.heap.size,0,none⟩) n n:=by
  simp [Act.put,Act.eval,hsz]
 have hsl:=slice_of_ti ht hk
 have hrun2:(execOp (a.put (some d1) (.slice (some ⟨w.heap.size,0,none⟩) n n)).eval ⟨some d2, .convert t t (.tmp d1),ty2,pos2,af2,none⟩).run P (w.alloc (.cells vs.toArray e)) = .ok (.value (.slice (some ⟨w.heap.size,0,none⟩) n n)) (litW w vs.toArray e n):=by
  have hvl:vs.length=n:=by omega
  have hsh:(w.alloc (.cells vs.toArray e)).shape? w.heap.size=some (e,n):=by
   unfold World.shape?
   rw [heap_alloc_new w _]
   simp [hvl]
  simp [execOp,hev,convert,run_underlying hsl,run_underlying hu8,markStringish,litW,hsh,freeze,Sem.run,Result.andThen]
 have hg2: ∀ b:Act,Region.wanted (⟨some d2, .convert t t (.tmp d1),ty2,pos2,af2,none⟩:Oper) (yielded all b.tmps)=true:=fun _=>rfl
 refine wpList_of_step (hg2 _) (.inl hrun2) ?_
 have hturn:=hr.turn (ρ':=ρ) (heap':=σ.heap) (w':=litW w vs.toArray e n) (fun _=>False) (fun _=>rfl) (fun _ _=>rfl) (fun _ _=>rfl) (fun _ _ h=>h.elim) (fun _ _ _ h=>h.elim) (fun _ _ h=>h.elim)
  (fun g hg _=>litW_old hg) (fun g m hs=>Sh_of_block (litW_old hs.lt) hs) (by rw [litW_size];omega) rfl rfl rfl (fun _ h=>h.elim)
 have hstab:=hturn.2.2 w.heap.size (.inl ⟨Nat.le_refl _,by rw [litW_size];omega⟩) (fun _ h=>h.elim)
 have hrr:RR (litW w vs.toArray e n) (stab p σ.heap ρ (litW w vs.toArray e n)) 1 w.heap.size 0 (chunks 1 n cells):=by
  refine RR_chunks (by omega) (RL.mono (fun g off hg=>World.cell?_of_block (litW_old hg.2.1)) (fun g m hs=>Sh_of_block (litW_old hs.lt) hs) hturn.2.1 h3) h4 (fun j v hj=>?_)
  rw [Nat.zero_add]
  simp only [World.cell?,litW_new]
  simpa using hj
 have hR:R (litW w vs.toArray e n) (stab p σ.heap ρ (litW w vs.toArray e n)) ρ (.sl 1 (chunks 1 n cells)) (.slice (some ⟨w.heap.size,0,none⟩) n n):=by
  simp only [R]
  exact ⟨_,n,by rw [chunks_length],by rw [chunks_length];exact Nat.le_refl _,by unfold maxLen;omega, .inr ⟨_,0,rfl,hstab,hrr⟩⟩
 subst hx
 exact hnx all ha w0 p _ _ ⟨ρ,(hturn.1.put (some d1) hR).put (some d2) hR⟩
theorem isLitB {t:TypeId} {n d1 d2:Nat} {parts:Array (Nat×Operand)} {ty1 ty2:TypeId} {pos1 pos2:String} {af1 af2:Array Edge} (h:TriD P ds Q (⟨some d1,.buildSlice t n parts,ty1,pos1,af1,none⟩::⟨some d2,.convert t t (.tmp d1),ty2,pos2,af2,none⟩::l) σ):TriD P ds Q (⟨some d1,.buildSlice t n parts,ty1,pos1,af1,none⟩::⟨some d2,.convert t t (.tmp d1),ty2,pos2,af2,none⟩::l) σ:=h
end
end Go.Avm
