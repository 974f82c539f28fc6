/- The abstract machine, parts ZJ to ZK. -/
import Derived.Test.YteemiclhnfkekaaZAvmR
import Derived.MapKept
import Derived.ChangeMaps3
/- The abstract machine, part ZJ: a row turned in place whose head is returned, and empty rows left as they are, out of contracts of the library's shelf. -/
namespace Go.Avm
set_option linter.unusedVariables false
set_option linter.unusedSimpArgs false
open Go.RowKit Go.Sort
section
variable {α:Type} {enc:α→Value} {P:Program} {f:FuncId}
variable [Inhabited α]
/-- A row of values, one cell each, that a function of the shelf turns in place, and of which it returns the head. -/
theorem head_calls (srt:List α→List α) (hd:List α→Nat) (hdl: ∀ l,hd l≤l.length) (hlen: ∀ l,(srt l).length=l.length) (h1: ∀ z,(enc z).oneCell'=true) (henter: ∀ xs w,(callFunc f xs).run P w = .ok (.enter f xs) w)
  (hc: ∀ (blk cap:Nat) (zs:List α) (w:World),Holds enc w blk 0 zs.toArray→blk<w.heap.size→zs.length<4611686018427387904→zs.length≤cap→Calls P f #[.slice (some ⟨blk,0,none⟩) zs.length cap] w fun e w'=>e = .returned (.slice (some ⟨blk,0,none⟩) (hd zs) cap)∧ ∃ n,w'=putRow enc (Sort.ahead w n) blk 0 (srt zs).toArray)
  {zs:List α} (hne:zs≠[]) (hsz:zs.length≤1000000):MCalls P f [.row 1 (zs.map fun z=>[.sc (enc z)])] [.slo 0 1 0 zs.length] (.slo 0 1 0 (hd zs)) [.row 1 ((srt zs).map fun z=>[.sc (enc z)])]:=by
 refine ⟨henter,fun w st ρ vs hst hin hargs=>?_⟩
 have hpos:0<zs.length:=List.length_pos_iff.2 hne
 simp only [RL,R] at hargs
 obtain ⟨v,vs',rfl,hv,rfl⟩:=hargs
 rcases hv with ⟨_,_,h0,_⟩|⟨g,cap,A,hρ,hsh,hle,hcap,rfl,hA⟩
 ·omega
 have hro:=hin.objs 0
 simp only [List.getD_cons_zero,RO,hρ] at hro
 obtain ⟨cur,e,cap',r1,r2,r3,r4,r5⟩:=hro
 have hA':=hA (by omega)
 simp only [Nat.zero_mul] at hA'
 subst hA'
 have hg:g<w.heap.size:=(Array.getElem?_eq_some_iff.1 r1).1
 have hH:Holds enc w g 0 zs.toArray:=by
  intro j hj
  have hj':j<zs.length:=by simpa using hj
  have hz:zs[j]? = some zs[j]:=List.getElem?_eq_getElem hj'
  refine ⟨?_,?_⟩
  ·rw [Nat.zero_add,enc_RR r5 hz]
   simp [hj']
  ·simp [World.frozen?,r1]
 refine Calls.mono (hc g _ zs w hH hg (by omega) (by omega)) ?_
 rintro ex w' ⟨rfl,n,hw⟩
 have hgr: ∀ u:World,grow u #[]=u:=fun u=>by simp [grow]
 rw [← hgr (putRow enc (Sort.ahead w n) g 0 (srt zs).toArray)] at hw
 generalize hos:(#[]:Array _)=os at hw
 subst hw
 have hcell: ∀ k,(grow (putRow enc (Sort.ahead w n) g 0 (srt zs).toArray) os).heap[k]? = if k<w.heap.size then (if g=k then some (.cells (putCells enc 0 (srt zs).toArray cur) e (0,0)) else w.heap[k]?) else (os[k-w.heap.size]?):=by
  intro k
  simp only [grow,Array.getElem?_append,size_putRow,Sort.ahead]
  split
  ·simp only [putRow,mapBlock,Array.getElem?_modify]
   split
   ·rename_i e1
    subst e1
    simp [r1,onCells]
   ·rfl
  ·rfl
 have hw':(grow (putRow enc (Sort.ahead w n) g 0 (srt zs).toArray) os).heap[g]? = some (.cells (putCells enc 0 (srt zs).toArray cur) e (0,0)):=by rw [hcell,if_pos hg,if_pos rfl]
 have hsize:w.heap.size≤(grow (putRow enc (Sort.ahead w n) g 0 (srt zs).toArray) os).heap.size:=by
  simp only [grow,Array.size_append,size_putRow,Sort.ahead];omega
 have hcs:(putCells enc 0 (srt zs).toArray cur).size=cur.size:=by simp [putCells]
 refine ⟨_,rfl,ρ,?_,fun _ _=>rfl,?_,fun j=>?_,fun j g' hj hg'=>?_,fun j j' g' hj hj' e1 e2=>?_,fun j g' hj hh=>?_⟩
 ·refine ⟨rfl,rfl,rfl,hsize,fun k hk hn=>?_,fun g' m hs=>?_⟩
  ·rw [hcell,if_pos hk,if_neg]
   rintro rfl
   exact hn ⟨0,by simp, .inl hρ⟩
  ·obtain ⟨cur2,e2,h3,h4⟩:=hs
   have hlt:g'<w.heap.size:=(Array.getElem?_eq_some_iff.1 h3).1
   by_cases hgg:g=g'
   ·subst hgg
    rw [r1] at h3
    cases h3
    exact ⟨_,e,hw',by rw [hcs];exact h4⟩
   ·exact ⟨cur2,e2,by rw [hcell,if_pos hlt,if_neg hgg];exact h3,h4⟩
 ·simp only [R]
  have:=hdl zs
  refine .inr ⟨g,cap,some ⟨g,0,none⟩,hρ,?_,by omega,hcap,rfl,fun _=>by simp⟩
  obtain ⟨cur2,e2,h3,h4⟩:=hsh
  rw [r1] at h3
  cases h3
  exact ⟨_,e,hw',by rw [hcs];exact h4⟩
 ·cases j with
  | succ j=>simp [RO]
  | zero=>
    simp only [List.getD_cons_zero,RO,hρ]
    have hcc:zs.length≤cur.size:=by rw [r2.size];simpa using r4
    refine ⟨_,e,cap',hw',⟨by rw [hcs];exact r2.size,fun v hv=>?_⟩,r3,by simpa [hlen] using r4,RR_enc h1 fun j z hj=>?_⟩
    ·obtain ⟨i,hi⟩:=List.getElem?_of_mem hv
     rw [Array.getElem?_toList,putCells_get,Option.map_eq_some_iff] at hi
     obtain ⟨x,hx,hxe⟩:=hi
     subst hxe
     split
     ·exact h1 _
     ·exact r2.one x (List.mem_of_getElem? (by rw [Array.getElem?_toList];exact hx))
    ·have hjl:j<(srt zs).length:=(List.getElem?_eq_some_iff.1 hj).1
     have hjc:j<cur.size:=by rw [hlen] at hjl;omega
     rw [Nat.zero_add,cell_of_row _ g j _ e (0,0) hw',putCells_get,Array.getElem?_eq_getElem hjc]
     simp only [Option.map_some,if_pos hjl,hj,Option.getD_some]
 ·cases j with
  | succ j=>simp at hj
  | zero=>exact .inr ⟨0,by simp,hg'⟩
 ·cases j with
  | succ j=>simp at hj
  | zero=>
    cases j' with
    | succ j=>simp at hj'
    | zero=>rfl
 ·cases j with
  | succ j=>simp at hj
  | zero=>exact Nat.lt_of_lt_of_le (hin.hlt 0 g' (by simp) hh) hsize
theorem Sh.refl_below {own:Nat→Prop} (w:World):BelowO own w w:=⟨rfl,rfl,rfl,Nat.le_refl _,fun _ _ _=>rfl,fun _ _ h=>h⟩
theorem none_calls (henter: ∀ xs w,(callFunc f xs).run P w = .ok (.enter f xs) w)
  (hc: ∀ (p:Option Addr) (cap:Nat) (w:World),Calls P f #[.slice p 0 cap] w fun e w'=>e = .returned (.tuple #[])∧w'=w):MCalls P f [.row 1 []] [.slo 0 1 0 0] (.tup []) [.row 1 []]:=by
 refine ⟨henter,fun w st ρ vs hst hin hargs=>?_⟩
 simp only [RL,R] at hargs
 obtain ⟨v,vs',rfl,hv,rfl⟩:=hargs
 obtain ⟨a,c,rfl⟩: ∃ a c,v = .slice a 0 c:=by
  rcases hv with ⟨_,_,_,a,rfl⟩|⟨g,cap,A,_,_,_,_,rfl,_⟩
  ·exact ⟨_,_,rfl⟩
  ·exact ⟨_,_,rfl⟩
 refine Calls.mono (hc a c w) ?_
 rintro ex w' ⟨rfl,rfl⟩
 refine ⟨_,rfl,ρ,Sh.refl_below w',fun _ _=>rfl,?_,fun j=>?_,fun j g' hj hg'=>?_,fun j j' g' hj hj' e1 e2=>?_,fun j g' hj hh=>?_⟩
 ·simp [R,RL]
 ·cases j with
  | succ j=>simp [RO]
  | zero=>
    have:=hin.objs 0
    simp only [List.getD_cons_zero,RO,RR] at this ⊢
    exact this
 ·cases j with
  | succ j=>simp at hj
  | zero=>exact .inr ⟨0,by simp,hg'⟩
 ·cases j with
  | succ j=>simp at hj
  | zero=>
    cases j' with
    | succ j=>simp at hj'
    | zero=>rfl
 ·cases j with
  | succ j=>simp at hj
  | zero=>exact hin.hlt 0 g' (by simp) hh
theorem none_head (henter: ∀ xs w,(callFunc f xs).run P w = .ok (.enter f xs) w)
  (hc: ∀ (p:Option Addr) (cap:Nat) (w:World),Calls P f #[.slice p 0 cap] w fun e w'=>e = .returned (.slice p 0 cap)∧w'=w):MCalls P f [.row 1 []] [.slo 0 1 0 0] (.slo 0 1 0 0) [.row 1 []]:=by
 refine ⟨henter,fun w st ρ vs hst hin hargs=>?_⟩
 simp only [RL,R] at hargs
 obtain ⟨v,vs',rfl,hv,rfl⟩:=hargs
 obtain ⟨a,c,rfl⟩: ∃ a c,v = .slice a 0 c:=by
  rcases hv with ⟨_,_,_,a,rfl⟩|⟨g,cap,A,_,_,_,_,rfl,_⟩
  ·exact ⟨_,_,rfl⟩
  ·exact ⟨_,_,rfl⟩
 refine Calls.mono (hc a c w) ?_
 rintro ex w' ⟨rfl,rfl⟩
 refine ⟨_,rfl,ρ,Sh.refl_below w',fun _ _=>rfl,?_,fun j=>?_,fun j g' hj hg'=>?_,fun j j' g' hj hj' e1 e2=>?_,fun j g' hj hh=>?_⟩
 ·simp only [R];exact hv
 ·cases j with
  | succ j=>simp [RO]
  | zero=>
    have:=hin.objs 0
    simp only [List.getD_cons_zero,RO,RR] at this ⊢
    exact this
 ·cases j with
  | succ j=>simp at hj
  | zero=>exact .inr ⟨0,by simp,hg'⟩
 ·cases j with
  | succ j=>simp at hj
  | zero=>
    cases j' with
    | succ j=>simp at hj'
    | zero=>rfl
 ·cases j with
  | succ j=>simp at hj
  | zero=>exact hin.hlt 0 g' (by simp) hh
end
end Go.Avm
/- The abstract machine, part ZK: maps whose keys are integers or strings and whose elements are told by value. -/
namespace Go.Avm
set_option linter.unusedVariables false
set_option linter.unusedSimpArgs false
open Go.RowKit Go.MapKept

/-- The kinds of keys. -/
inductive KK where
 | int (k:IntKind)
 | str
def KK.desc:KK→TypeDesc
 | .int k=> .int k
 | .str=> .string
def kkOf:TK→Option KK
 | .int k=>some (.int k)
 | .string=>some .str
 | _=>none
def mapKE:TK→Option (TypeId×TypeId)
 | .map k e=>some (k,e)
 | _=>none
def KK.ok:KK→Value→Bool
 | .int k, .int k' _=>decide (k'=k)
 | .str, .string _=>true
 | _,_=>false
theorem KK.isKey {kk:KK} {v:Value} (h:kk.ok v=true):IsKey kk.desc v:=by
 cases kk<;>cases v<;>simp_all [KK.ok,KK.desc,IsKey]
theorem kkOf_spec {d:TypeDesc} {kk:KK} (h:kkOf (tkOf d)=some kk):d=kk.desc:=by
 cases d<;>simp [tkOf,kkOf] at h<;>subst h<;>rfl
theorem mapKE_spec {d:TypeDesc} {k e:TypeId} (h:mapKE (tkOf d)=some (k,e)):d = .map k e:=by
 cases d<;>simp [tkOf,mapKE] at h
 obtain ⟨rfl,rfl⟩:=h;rfl
def keyB:Value→Value→Bool
 | .int _ a, .int _ b=>a==b
 | .string a, .string b=>a.toList==b.toList
 | _,_=>false
theorem keyB_iff {kk:KK} {a b:Value} (ha:IsKey kk.desc a) (hb:IsKey kk.desc b):keyB a b=true↔a=b:=by
 cases kk<;>cases a<;>cases b<;>simp_all [KK.desc,IsKey,keyB]
 rename_i x y
 rw [Go.ByteArray.toList_eq,Go.ByteArray.toList_eq]
 constructor
 ·intro h
  cases x;cases y
  simpa using Array.toList_inj.1 h
 ·rintro rfl;rfl
def mFind (k:Value):List (Value×D)→Option D
 | []=>none
 | p::l=>if keyB p.1 k=true then some p.2 else mFind k l
def mSet (k:Value) (v:D):List (Value×D)→List (Value×D)
 | []=>[(k,v)]
 | p::l=>if keyB p.1 k=true then (k,v)::l else p::mSet k v l
def mDel (k:Value):List (Value×D)→List (Value×D)
 | []=>[]
 | p::l=>if keyB p.1 k=true then l else p::mDel k l
/-- The entries, one after another. -/
def ME (w:World) (st:Nat→Prop):List (Value×D)→List MapEntry→Prop
 | [],es=>es=[]
 | p::l,es=> ∃ e es',es=e::es'∧e.key=p.1∧R w st (fun _=>none) p.2 e.val∧ME w st l es'
theorem ME.mono {w w':World} {st st':Nat→Prop} (hc: ∀ g off,st g→w'.cell? ⟨g,off,none⟩=w.cell? ⟨g,off,none⟩) (hs: ∀ g n,Sh w g n→Sh w' g n) (hst: ∀ g,st g→st' g): ∀ {l:List (Value×D)} {es:List MapEntry},ME w st l es→ME w' st' l es
 | [],_,h=>h
 | _::_,_,h=>by
   obtain ⟨e,es',h1,h2,h3,h4⟩:=h
   exact ⟨e,es',h1,h2,R.mono hc hs hst h3,ME.mono hc hs hst h4⟩
theorem ME.length {w:World} {st:Nat→Prop}: ∀ {l:List (Value×D)} {es:List MapEntry},ME w st l es→es.length=l.length
 | [],_,h=>by rw [h];rfl
 | _::_,_,h=>by
   obtain ⟨e,es',rfl,_,_,h4⟩:=h
   simp [ME.length h4]
theorem ME.push {w:World} {st:Nat→Prop} {k:Value} {d:D} {v:Value} {b:Nat} (hv:R w st (fun _=>none) d v): ∀ {l:List (Value×D)} {es:List MapEntry},ME w st l es→ME w st (l++[(k,d)]) (es++[⟨k,v,b⟩])
 | [],_,h=>by
   rw [show _=[] from h]
   exact ⟨_,[],rfl,rfl,hv,rfl⟩
 | _::_,_,h=>by
   obtain ⟨e,es',rfl,h2,h3,h4⟩:=h
   exact ⟨e,_,rfl,h2,h3,ME.push hv h4⟩
theorem ME.find {w:World} {st:Nat→Prop} {kk:KK} {k:Value} (hk:IsKey kk.desc k): ∀ {l:List (Value×D)} {es:List MapEntry} (i:Nat),ME w st l es→(∀ x∈es,IsKey kk.desc x.key)→
  (mFind k l=none∧Instr.findNow kk.desc k es i=some none∧(∀ x∈es,x.key≠k)∧(∀ d,mSet k d l=l++[(k,d)])∧mDel k l=l)∨
   ∃ j e d,mFind k l=some d∧Instr.findNow kk.desc k es i=some (some (i+j,e.val))∧es[j]? = some e∧e.key=k∧R w st (fun _=>none) d e.val∧(∀ d' v' b,R w st (fun _=>none) d' v'→ME w st (mSet k d' l) (es.set j ⟨k,v',b⟩))∧ME w st (mDel k l) (es.eraseIdx j)
 | [],_,i,h,hks=>by
   rw [show _=[] from h]
   exact .inl ⟨rfl,rfl,by simp,fun _=>rfl,rfl⟩
 | p::l,_,i,h,hks=>by
   obtain ⟨e,es',rfl,h2,h3,h4⟩:=h
   have he:=hks e (.head _)
   obtain ⟨r,hr,hiff⟩:=sameNow_of_keys hk he
   rw [h2] at hr hiff he
   cases r with
   | true=>
     have e1:k=p.1:=hiff.1 rfl
     have hb:keyB p.1 k=true:=(keyB_iff he hk).2 e1.symm
     refine .inr ⟨0,e,p.2,by simp [mFind,hb],by simp [Instr.findNow,h2,hr],rfl,by rw [h2,e1],h3,fun d' v' b hv=>?_,?_⟩
     ·simp only [mSet,hb,if_true]
      exact ⟨_,es',rfl,rfl,hv,h4⟩
     ·simp only [mDel,hb,if_true]
      exact h4
   | false=>
     have hne:k≠p.1:=fun q=>by have:=hiff.2 q;cases this
     have hb:keyB p.1 k=false:=by rw [Bool.eq_false_iff];exact fun q=>hne ((keyB_iff he hk).1 q).symm
     rcases ME.find hk (i+1) h4 (fun x hx=>hks x (.tail _ hx)) with ⟨f1,f2,f3,f4,f5⟩|⟨j,e',d,f1,f2,f3,f4,f5,f6,f7⟩
     ·refine .inl ⟨by simp [mFind,hb,f1],by simp [Instr.findNow,h2,hr,f2],fun x hx=>?_,fun d=>by simp [mSet,hb,f4],by simp [mDel,hb,f5]⟩
      cases hx with
      | head=>rw [h2];exact hne.symm
      | tail _ hx=>exact f3 x hx
     ·refine .inr ⟨j+1,e',d,by simp [mFind,hb,f1],by simp [Instr.findNow,h2,hr,f2];omega,by simpa using f3,f4,f5,fun d' v' b hv=>?_,?_⟩
      ·simp only [mSet,hb,Bool.false_eq_true,if_false,List.set_cons_succ]
       exact ⟨e,_,rfl,h2,h3,f6 d' v' b hv⟩
      ·simp only [mDel,hb,Bool.false_eq_true,if_false,List.eraseIdx_cons_succ]
       exact ⟨e,_,rfl,h2,h3,f7⟩
/-- A map with these entries, in this order. -/
def mapX (kk:KK) (l:List (Value×D)):Ext where
 nms:=[]
 φ w st _ _ g:= ∃ es clock,w.heap[g]? = some (.map es clock)∧Stamped es clock∧(∀ x∈es.toList,IsKey kk.desc x.key)∧ME w st l es.toList
 lt h:=by
  obtain ⟨_,_,h1,_⟩:=h
  exact (Array.getElem?_eq_some_iff.1 h1).1
 mono hc hs hst hb _ h:=by
  obtain ⟨es,cl,h1,h2,h3,h4⟩:=h
  exact ⟨es,cl,hb.trans h1,h2,h3,h4.mono hc hs hst⟩
 loc _ h:=h
theorem mapX_nms {kk:KK} {l:List (Value×D)}:(mapX kk l).nms=[]:=rfl
/-- The same, with the stamp of the entry of a key. -/
def mapS (kk:KK) (l:List (Value×D)) (k:Value) (born:Nat):Ext where
 nms:=[]
 φ w st _ _ g:= ∃ es clock,w.heap[g]? = some (.map es clock)∧Stamped es clock∧(∀ x∈es.toList,IsKey kk.desc x.key)∧ME w st l es.toList∧ ∃ e∈es.toList,e.key=k∧e.born=born
 lt h:=by
  obtain ⟨_,_,h1,_⟩:=h
  exact (Array.getElem?_eq_some_iff.1 h1).1
 mono hc hs hst hb _ h:=by
  obtain ⟨es,cl,h1,h2,h3,h4,h5⟩:=h
  exact ⟨es,cl,hb.trans h1,h2,h3,h4.mono hc hs hst,h5⟩
 loc _ h:=h
theorem mapS_nms {kk:KK} {l:List (Value×D)} {k:Value} {born:Nat}:(mapS kk l k born).nms=[]:=rfl
attribute [go_sem] mapX_nms mapS_nms

section
variable {w0:World} {p:Pm} {σ:St} {a:Act} {w:World} {ρ:Nm}
def setMap (w:World) (g:Nat) (es:Array MapEntry) (c:Nat):World:={ w with heap:=w.heap.setIfInBounds g (.map es c) }
theorem setMap_same {g:Nat} {es es':Array MapEntry} {c c':Nat} (h:w.heap[g]? = some (.map es c)):(setMap w g es' c').heap[g]? = some (.map es' c'):=(heap_set h).1
theorem setMap_other {g k:Nat} {es':Array MapEntry} {c':Nat} (h:k≠g):(setMap w g es' c').heap[k]? = w.heap[k]? :=by
 unfold setMap;simp [Ne.symm h]
theorem setMap_size {g:Nat} {es':Array MapEntry} {c':Nat}:(setMap w g es' c').heap.size=w.heap.size:=by simp [setMap]
/-- A map's block gets other entries. -/
theorem RelAt.updM (h:RelAt w0 p σ a w ρ) {o g:Nat} {x:Obj} {es es':Array MapEntry} {c c':Nat} (hlive:hget σ.heap o≠ .dead) (hg:ρ o=some (some g)) (hcur:w.heap[g]? = some (.map es c))
  (hxd:x≠ .dead) (hx: ∀ st:Nat→Prop,(∀ k,stab p σ.heap ρ w k→st k)→(∀ k off,stab p σ.heap ρ w k→(setMap w g es' c').cell? ⟨k,off,none⟩=w.cell? ⟨k,off,none⟩)→(∀ k n,Sh w k n→Sh (setMap w g es' c') k n)→RO (setMap w g es' c') st ρ o x):RelAt w0 p { σ with heap:=hset σ.heap o x } a (setMap w g es' c') ρ:=by
 have hhas_:hhas σ.heap o=true:=hhas_of_hget hlive
 have hget': ∀ o',o'≠o→hget (hset σ.heap o x) o'=hget σ.heap o':=fun o' e=>hget_hset_other e
 have hlive': ∀ o',hget (hset σ.heap o x) o'≠ .dead↔hget σ.heap o'≠ .dead:=by
  intro o'
  by_cases e:o'=o
  ·subst e;rw [hget_hset_same hhas_];exact ⟨fun _=>hlive,fun _=>hxd⟩
  ·rw [hget' o' e]
 have hb: ∀ k,k≠g→(setMap w g es' c').heap[k]? = w.heap[k]? :=fun k hk=>setMap_other hk
 have hs: ∀ k n,Sh w k n→Sh (setMap w g es' c') k n:=by
  intro k n hh
  refine Sh_of_block (hb k ?_) hh
  rintro rfl
  obtain ⟨cc,e2,h1,h2⟩:=hh
  rw [hcur] at h1
  simp at h1
 have hst: ∀ k,stab p σ.heap ρ w k→stab p (hset σ.heap o x) ρ (setMap w g es' c') k:=by
  intro k hk
  exact ⟨hk.1,by rw [setMap_size];exact hk.2.1,fun o' ho'=>hk.2.2 o' ((hlive' o').1 ho')⟩
 have hc: ∀ k off,stab p σ.heap ρ w k→(setMap w g es' c').cell? ⟨k,off,none⟩=w.cell? ⟨k,off,none⟩:=by
  intro k off hk
  refine World.cell?_of_block (w:=w) (a:=⟨k,off,none⟩) (hb k ?_)
  rintro rfl
  exact hk.2.2 o hlive (.inl hg)
 refine ⟨h.open_,h.defers,RL.mono hc hs hst h.slots,fun o'=>?_,fun o1 o2 g' h1 h2=>h.inj o1 o2 g' ((hlive' o1).1 h1) ((hlive' o2).1 h2),fun o1 g' h1=>h.fresh o1 g' ((hlive' o1).1 h1),fun o1 g' h1 e1=>by rw [setMap_size];exact h.hlt o1 g' ((hlive' o1).1 h1) e1,?_,h.pin⟩
 ·by_cases e':o'=o
  ·subst e'
   rw [hget_hset_same hhas_]
   exact hx _ hst hc hs
  ·show RO _ _ ρ o' (hget (hset σ.heap o x) o')
   rw [hget' o' e']
   by_cases hd:hget σ.heap o' = .dead
   ·rw [hd];simp [RO]
   ·refine RO.mono hc hs hst (fun k hk=>hb k ?_) (h.objs o')
    rintro rfl
    exact e' (h.inj o' o k hd hlive hk (.inl hg))
 ·refine h.below.trans (own':=fun k=>k=g) ⟨rfl,rfl,rfl,by rw [setMap_size];exact Nat.le_refl _,fun k hk hn=>hb k hn,hs⟩ ?_
  rintro k hk rfl
  rcases h.fresh o k hlive (.inl hg) with h3|h3
  ·omega
  ·exact h3
theorem RelAt.newMap (h:RelAt w0 p σ a w ρ) {d:Nat} {kk:KK} (hh:hfree σ.heap d=true):
  RelAt w0 p { σ.kills [d] with heap:=hset (σ.kills [d]).heap d (.ext (mapX kk [])) } a (w.alloc (.map #[] 0)) (updρ ρ d (some (some w.heap.size))):=by
 have hk:RelAt w0 p (σ.kills [d]) a w (updρ ρ d (some (some w.heap.size))):=h.kills (fun o' e=>updρ_sm (fun e'=>e (by simp [e']))) (fun o' h1=>updρ_other (fun e'=>absurd (hfree_iff.1 hh).2 (by omega)))
 refine hk.born (hget_kills_in (by simp)) (by rw [hhas_kills];exact (hfree_iff.1 hh).1) (fun g hg=>?_) (fun g hg=>by simp [updρ] at hg) (fun g hg _=>Below.heap_alloc w _ g hg) (fun g n hs=>Sh_of_block (Below.heap_alloc w _ g hs.lt) hs) (by simp) rfl rfl rfl (by simp)
  (fun st hst=>?_)
 ·rw [updρ_ow] at hg
  simp only [l_5] at hg
  subst hg
  refine ⟨fun hs=>by have:=hs.2.1;omega,fun o' ho' e'=>?_, .inl h.below.size⟩
  have:=hk.lt_ow ho' e'
  omega
 ·simp only [RO]
  exact ⟨w.heap.size,updρ_same _ _, #[],0,(heap_alloc w _).1,stamped_empty 0,by simp,rfl⟩
end

section
variable {P:Program} {ds:List (Option Nat)} {Q:Exit→St→Prop} {σ σ':St} {l:List Oper} {dst:Option Nat} {ty:TypeId} {pos:String} {af:Array Edge} {g:Option (Nat×Bool)}
theorem map_ti {P:Program} {t kt et:TypeId} {ti ki:TI} {kk:KK} (ht:tiGet P t=some ti) (hk:mapKE ti.kind=some (kt,et)) (hkt:tiGet P kt=some ki) (hkk:kkOf ki.kind=some kk):P.underlying t=some (.map kt et)∧P.underlying kt=some kk.desc:=by
 obtain ⟨i,d,h1,h2,h3,h4,h5,h6⟩:=tiGet_spec ht
 obtain ⟨j,d',g1,g2,g3,g4,g5,g6⟩:=tiGet_spec hkt
 rw [← h6] at hk
 rw [← g6] at hkk
 rw [mapKE_spec hk] at h2
 rw [kkOf_spec hkk] at g2
 exact ⟨h2,g2⟩
theorem TriD.makeMap {t kt et:TypeId} {ti ki:TI} {kk:KK} {d:Nat} (hg:aguardC ds g σ=some true) (ht:tiGet P t=some ti) (hk:mapKE ti.kind=some (kt,et)) (hkt:tiGet P kt=some ki) (hkk:kkOf ki.kind=some kk) (hh:hfree σ.heap d=true)
  (he:σ.bear d (.ext (mapX kk [])) (.mp d)=σ') (hn:TriD P ds Q l σ'):TriD P ds Q (⟨some d, .makeMap t none,ty,pos,af,g⟩::l) σ:=by
 intro all ha w0 p a w hr
 have hw:=aguard_wanted (all:=all) (o:=⟨some d, .makeMap t none,ty,pos,af,g⟩) (by rw [aguard_C ha];exact hg) hr
 obtain ⟨ρ,hr⟩:=hr
 have hrun:(execOp a.eval ⟨some d, .makeMap t none,ty,pos,af,g⟩).run P w = .ok (.value (.map (some w.heap.size))) (w.alloc (.map #[] 0)):=by
  simp [execOp,Instr.makeMap,Result.andThen]
 subst he
 refine wpList_of_step hw (.inl hrun) (hn all ha w0 p _ _ ⟨updρ ρ d (some (some w.heap.size)),?_⟩)
 exact (hr.newMap hh).put (some d) (by simp only [R];exact ⟨_,updρ_same _ _,rfl⟩)
theorem isMake {d:Nat} {t:TypeId} {r:Option Operand} (h:TriD P ds Q (⟨some d, .makeMap t r,ty,pos,af,g⟩::l) σ):TriD P ds Q (⟨some d, .makeMap t r,ty,pos,af,g⟩::l) σ:=h
/-- What a look-up gives. -/
def mGot:Bool→Value→Option D→D
 | true,_,some d=> .tup [d, .sc (.bool true)]
 | true,z,none=> .tup [ofC z, .sc (.bool false)]
 | false,_,some d=>d
 | false,z,none=>ofC z
theorem TriD.lookup {t kt et:TypeId} {ti ki ei:TI} {kk:KK} {o:Nat} {x k:Operand} {kv:Value} {m:List (Value×D)} {ok:Bool} {r:Option D} (hg:aguardC ds g σ=some true) (ht:tiGet P t=some ti) (hk:mapKE ti.kind=some (kt,et)) (hkt:tiGet P kt=some ki) (hkk:kkOf ki.kind=some kk) (het:tiGet P et=some ei)
  (hx:evl σ x = .mp o) (hm:hget σ.heap o = .ext (mapX kk m)) (hkey:evl σ k = .sc kv) (hok:kk.ok kv=true) (hf:mFind kv m=r) (he:σ.put dst (mGot ok ei.zero r)=σ') (hn:TriD P ds Q l σ'):TriD P ds Q (⟨dst, .lookup t x k ok,ty,pos,af,g⟩::l) σ:=by
 intro all ha w0 p a w hr
 have hw:=aguard_wanted (all:=all) (o:=⟨dst, .lookup t x k ok,ty,pos,af,g⟩) (by rw [aguard_C ha];exact hg) hr
 obtain ⟨ρ,hr⟩:=hr
 obtain ⟨hu,hku⟩:=map_ti ht hk hkt hkk
 have h1:=hr.evl x
 rw [hx] at h1
 simp only [R] at h1
 obtain ⟨gm,hρ,hxv⟩:=h1
 have h2:=hr.evl k
 rw [hkey] at h2
 simp only [R] at h2
 have ho:=hr.objs o
 rw [hm] at ho
 simp only [RO] at ho
 obtain ⟨g',hρ',es,cl,hb,hst,hks,hme⟩:=ho
 rw [hρ] at hρ'
 simp only [l_5] at hρ'
 subst hρ'
 have hkey':=KK.isKey hok
 have hz:=(run_ti het w).2.2.2.1
 rcases ME.find hkey' 0 hme hks with ⟨f1,f2,_⟩|⟨j,e,d,f1,f2,f3,f4,f5,_⟩
 ·have hrun:(execOp a.eval ⟨dst, .lookup t x k ok,ty,pos,af,g⟩).run P w = .ok (.value (if ok then .tuple #[ei.zero, .bool false] else ei.zero)) w:=by
   cases ok<;>simp [execOp,Instr.lookup,run_underlying hu,hxv,h2,Go.MapKept.run_getObj_map hb,run_checkKey hku hkey',run_findKey hku f2,hz,Result.andThen]
  refine wpList_of_step hw (.inl hrun) (hn all ha w0 p _ _ ⟨ρ,?_⟩)
  subst he
  refine hr.put dst ?_
  rw [← hf,f1]
  cases ok
  ·exact R_ofC _
  ·simp only [mGot,R]
   refine ⟨_,rfl,?_⟩
   simp only [RL]
   exact ⟨_,_,rfl,R_ofC _,_,_,rfl,by simp [R],rfl⟩
 ·have hrun:(execOp a.eval ⟨dst, .lookup t x k ok,ty,pos,af,g⟩).run P w = .ok (.value (if ok then .tuple #[e.val, .bool true] else e.val)) w:=by
   cases ok<;>simp [execOp,Instr.lookup,run_underlying hu,hxv,h2,Go.MapKept.run_getObj_map hb,run_checkKey hku hkey',run_findKey hku f2,Result.andThen]
  refine wpList_of_step hw (.inl hrun) (hn all ha w0 p _ _ ⟨ρ,?_⟩)
  subst he
  refine hr.put dst ?_
  rw [← hf,f1]
  cases ok
  ·exact f5.ofNone
  ·simp only [mGot,R]
   refine ⟨_,rfl,?_⟩
   simp only [RL]
   exact ⟨_,_,rfl,f5.ofNone,_,_,rfl,by simp [R],rfl⟩
theorem isLookup {t:TypeId} {x k:Operand} {ok:Bool} (h:TriD P ds Q (⟨dst, .lookup t x k ok,ty,pos,af,g⟩::l) σ):TriD P ds Q (⟨dst, .lookup t x k ok,ty,pos,af,g⟩::l) σ:=h
/-- The map's block, behind an update. -/
theorem map_upd {w0:World} {p:Pm} {a:Act} {w:World} {ρ:Nm} (hr:RelAt w0 p σ a w ρ) {o gm:Nat} {kk:KK} {m:List (Value×D)} {es:Array MapEntry} {cl:Nat} {kv v:Value} {d:D}
  (hm:hget σ.heap o≠ .dead) (hρ:ρ o=some (some gm)) (hb:w.heap[gm]? = some (.map es cl)) (hst:Stamped es cl) (hks: ∀ x∈es.toList,IsKey kk.desc x.key) (hme:ME w (stab p σ.heap ρ w) m es.toList) (hkey:IsKey kk.desc kv) (hd:R w (stab p σ.heap ρ w) (fun _=>none) d v):
  ∃ es' cl',RelAt w0 p { σ with heap:=hset σ.heap o (.ext (mapX kk (mSet kv d m))) } a (setMap w gm es' cl') ρ∧
    ((mFind kv m=none∧Instr.findNow kk.desc kv es.toList 0=some none∧es'=es.push ⟨kv,v,cl⟩∧cl'=cl+1∧RelAt w0 p { σ with heap:=hset σ.heap o (.ext (mapS kk (mSet kv d m) kv cl)) } a (setMap w gm es' cl') ρ)∨
      ∃ j e dd,mFind kv m=some dd∧Instr.findNow kk.desc kv es.toList 0=some (some (j,e.val))∧es[j]? = some e∧e.key=kv∧R w (stab p σ.heap ρ w) (fun _=>none) dd e.val∧es'=es.modify j (fun e=>{ e with key:=kv,val:=v })∧cl'=cl):=by
 rcases ME.find hkey 0 hme hks with ⟨f1,f2,f3,f4,_⟩|⟨j,e,dd,f1,f2,f3,f4,f5,f6,_⟩
 ·have hks': ∀ x∈(es.push ⟨kv,v,cl⟩).toList,IsKey kk.desc x.key:=by
   intro x hx
   simp only [Array.toList_push,List.mem_append,List.mem_singleton] at hx
   rcases hx with hx|rfl
   ·exact hks x hx
   ·exact hkey
  have hst':=stamped_push hst (val:=v) f3
  have hme': ∀ st:Nat→Prop,(∀ k,stab p σ.heap ρ w k→st k)→(∀ k off,stab p σ.heap ρ w k→(setMap w gm (es.push ⟨kv,v,cl⟩) (cl+1)).cell? ⟨k,off,none⟩=w.cell? ⟨k,off,none⟩)→(∀ k n,Sh w k n→Sh (setMap w gm (es.push ⟨kv,v,cl⟩) (cl+1)) k n)→ME (setMap w gm (es.push ⟨kv,v,cl⟩) (cl+1)) st (mSet kv d m) (es.push ⟨kv,v,cl⟩).toList:=by
   intro st h1 hc hs
   rw [f4,Array.toList_push]
   exact ME.push (R.mono hc hs h1 hd) (hme.mono hc hs h1)
  refine ⟨es.push ⟨kv,v,cl⟩,cl+1,?_, .inl ⟨f1,f2,rfl,rfl,?_⟩⟩
  ·refine hr.updM hm hρ hb (by simp) fun st h1 hc hs=>?_
   simp only [RO]
   exact ⟨gm,hρ,_,_,setMap_same hb,hst',hks',hme' st h1 hc hs⟩
  ·refine hr.updM hm hρ hb (by simp) fun st h1 hc hs=>?_
   simp only [RO]
   exact ⟨gm,hρ,_,_,setMap_same hb,hst',hks',hme' st h1 hc hs,⟨kv,v,cl⟩,by simp,rfl,rfl⟩
 ·have hj:es[j]? = some e:=by simpa using f3
  have hkj: ∀ e',es[j]? = some e'→({ e' with key:=kv,val:=v }:MapEntry).key=e'.key:=fun e' he'=>by rw [hj] at he';cases he';exact f4.symm
  refine ⟨es.modify j (fun e=>{ e with key:=kv,val:=v }),cl,?_, .inr ⟨j,e,dd,f1,by simpa using f2,hj,f4,f5,rfl,rfl⟩⟩
  refine hr.updM hm hρ hb (by simp) fun st h1 hc hs=>?_
  simp only [RO]
  refine ⟨gm,hρ,_,_,setMap_same hb,stamped_modify hst _ _ (fun _ _=>rfl) (fun e' _ he'=>hkj e' he'),isKey_modify hks _ _ hkj,?_⟩
  have hmod:(es.modify j (fun e=>{ e with key:=kv,val:=v })).toList=es.toList.set j ⟨kv,v,e.born⟩:=by
   rw [Array.toList_modify]
   exact Go.ChangeMaps.modify_eq_set _ _ _ _ f3
  rw [hmod]
  exact (f6 d v e.born hd).mono hc hs h1
theorem map_at {w0:World} {p:Pm} {a:Act} {w:World} {ρ:Nm} (hr:RelAt w0 p σ a w ρ) {x:Operand} {o:Nat} {e:Ext} (hx:evl σ x = .mp o) (hm:hget σ.heap o = .ext e): ∃ gm,a.eval x = .map (some gm)∧ρ o=some (some gm)∧e.φ w (stab p σ.heap ρ w) ρ (ρ.hid o) gm:=by
 have h1:=hr.evl x
 rw [hx] at h1
 simp only [R] at h1
 obtain ⟨gm,hρ,hxv⟩:=h1
 have ho:=hr.objs o
 rw [hm] at ho
 simp only [RO] at ho
 obtain ⟨g',hρ',h⟩:=ho
 rw [hρ] at hρ'
 simp only [l_5] at hρ'
 subst hρ'
 exact ⟨gm,hxv,hρ,h⟩
theorem TriD.mapUpdate {t kt et:TypeId} {ti ki:TI} {kk:KK} {o:Nat} {x k y:Operand} {kv:Value} {m:List (Value×D)} {d:D} (hg:aguardC ds g σ=some true) (ht:tiGet P t=some ti) (hk:mapKE ti.kind=some (kt,et)) (hkt:tiGet P kt=some ki) (hkk:kkOf ki.kind=some kk)
  (hx:evl σ x = .mp o) (hm:hget σ.heap o = .ext (mapX kk m)) (hkey:evl σ k = .sc kv) (hok:kk.ok kv=true) (hy:evl σ y=d) (hp:pureD d=true) (he:St.put { σ with heap:=hset σ.heap o (.ext (mapX kk (mSet kv d m))) } dst (.sc undef)=σ') (hn:TriD P ds Q l σ'):TriD P ds Q (⟨dst,.mapUpdate t x k y,ty,pos,af,g⟩::l) σ:=by
 intro all ha w0 p a w hr
 have hw:=aguard_wanted (all:=all) (o:=⟨dst, .mapUpdate t x k y,ty,pos,af,g⟩) (by rw [aguard_C ha];exact hg) hr
 obtain ⟨ρ,hr⟩:=hr
 obtain ⟨hu,hku⟩:=map_ti ht hk hkt hkk
 obtain ⟨gm,hxv,hρ,es,cl,hb,hst,hks,hme⟩:=map_at hr hx hm
 have h2:=hr.evl k
 rw [hkey] at h2
 simp only [R] at h2
 have h3:=hr.evl y
 rw [hy] at h3
 have hkey':=KK.isKey hok
 obtain ⟨es',cl',hrel,hcase⟩:=map_upd hr (by rw [hm];simp) hρ hb hst hks hme hkey' (pureD_spec hp h3)
 have hrun:(execOp a.eval ⟨dst, .mapUpdate t x k y,ty,pos,af,g⟩).run P w = .ok .skip (setMap w gm es' cl'):=by
  rcases hcase with ⟨_,f2,rfl,rfl,_⟩|⟨j,e,dd,_,f2,f3,f4,_,rfl,rfl⟩
  ·simp [execOp,Instr.mapUpdate,run_underlying hu,hxv,h2,Go.MapKept.run_getObj_map hb,run_checkKey hku hkey',run_findKey hku f2,run_setObj_map _ hb,Result.andThen,setMap]
  ·simp [execOp,Instr.mapUpdate,run_underlying hu,hxv,h2,Go.MapKept.run_getObj_map hb,run_checkKey hku hkey',run_findKey hku f2,f3,f4,run_keyThatStays hkey',run_setObj_map _ hb,Result.andThen,setMap]
 refine wpList_of_step hw (.inr ⟨rfl,hrun⟩) (hn all ha w0 p _ _ ⟨ρ,?_⟩)
 subst he
 exact hrel.put dst (by simp [R])
theorem isMapUpdate {t:TypeId} {x k y:Operand} (h:TriD P ds Q (⟨dst, .mapUpdate t x k y,ty,pos,af,g⟩::l) σ):TriD P ds Q (⟨dst, .mapUpdate t x k y,ty,pos,af,g⟩::l) σ:=h
theorem isLen {x:Operand} {t:TypeId} (h:TriD P ds Q (⟨dst, .call { callee:= .builtin .len,args:= #[x],argTypes:= #[t] },ty,pos,af,g⟩::l) σ):TriD P ds Q (⟨dst, .call { callee:= .builtin .len,args:= #[x],argTypes:= #[t] },ty,pos,af,g⟩::l) σ:=h
attribute [go_sem] kkOf mapKE mGot KK.ok
end
mutual
theorem leQ_self: ∀ d:D,leQ d d
 | .any=>trivial
 | .sc _=>rfl
 | .agg cs=>leQL_self cs
 | .sl _ _=>⟨rfl,rfl⟩
 | .tup cs=>leQL_self cs
 | .ro cs=>leQL_self cs
 | .ref _ _=>⟨rfl,rfl⟩
 | .elt _ _ _ _=>⟨rfl,rfl,rfl,rfl⟩
 | .slo _ _ _ _=>⟨rfl,rfl,rfl,rfl⟩
 | .fn _ cs=>⟨rfl,leQL_self cs⟩
 | .mp _=>rfl
theorem leQL_self: ∀ l:List D,leQL l l
 | []=>trivial
 | d::l=>⟨leQ_self d,leQL_self l⟩
end
end Go.Avm
