/- The abstract machine, parts ZJ to ZK. -/
import Derived.Test.YtmgodadmafcliaaZAvmR
import Derived.MapKept
import Derived.ChangeMaps3
/- The abstract machine, part ZJ: a row turned in place whose head is returned, and empty rows left as they are, out of contracts of the library's shelf. -/
namespace Go.Avm
set_option linter.unusedVariables false
set_option linter.unusedSimpArgs false
open Go.RowKit Go.Sort
section
variable {α:Type} {enc:α→Value} {P:Program} {f:FuncId}
variable [Inhabited α]
/-- A row of values, one cell each, that a function of the shelf turns in place, and of which it returns the head. -/
theorem head_calls (srt:List α→List α) (hd:List α→Nat) (hdl: ∀ l,hd l≤l.length) (hlen: ∀ l,(srt l).length=l.length) (h1: ∀ z,(enc z).oneCell'=true) (henter: ∀ xs w,(callFunc f xs).run P w = .ok (.enter f xs) w)
  (hc: ∀ (blk cap:Nat) (zs:List α) (w:World),Holds enc w blk 0 zs.toArray→blk<w.heap.size→zs.length<4611686018427387904→zs.length≤cap→Calls P f #[.slice (some ⟨blk,0,none⟩) zs.length cap] w fun e w'=>e = .returned (.slice (some ⟨blk,0,none⟩) (hd zs) cap)∧ ∃ n,w'=putRow enc (Sort.ahead w n) blk 0 (srt zs).toArray)
  {zs:List α} (hne:zs≠[]) (hsz:zs.length≤1000000):MCalls P f [.row 1 (zs.map fun z=>[.sc (enc z)])] [.slo 0 1 0 zs.length] (.slo 0 1 0 (hd zs)) [.row 1 ((srt zs).map fun z=>[.sc (enc z)])]:=by
 refine ⟨henter,fun w st ρ vs hst hin hargs=>?_⟩
 have hpos:0<zs.length:=List.length_pos_iff.2 hne
 simp only [RL,R] at hargs
 obtain ⟨v,vs',rfl,hv,rfl⟩:=hargs
 rcases hv with ⟨_,_,h0,_⟩|⟨g,cap,A,hρ,hsh,hle,hcap,rfl,hA⟩
 ·omega
 have hro:=hin.objs 0
 simp only [List.getD_cons_zero,RO,hρ] at hro
 obtain ⟨cur,e,cap',r1,r2,r3,r4,r5⟩:=hro
 have hA':=hA (by omega)
 simp only [Nat.zero_mul] at hA'
 subst hA'
 have hg:g<w.heap.size:=(Array.getElem?_eq_some_iff.1 r1).1
 have hH:Holds enc w g 0 zs.toArray:=by
  intro j hj
  have hj':j<zs.length:=by simpa using hj
  have hz:zs[j]? = some zs[j]:=List.getElem?_eq_getElem hj'
  refine ⟨?_,?_⟩
  ·rw [Nat.zero_add,enc_RR r5 hz]
   simp [hj']
  ·simp [World.frozen?,r1]
 refine Calls.mono (hc g _ zs w hH hg (by omega) (by omega)) ?_
 rintro ex w' ⟨rfl,n,hw⟩
 have hgr: ∀ u:World,grow u #[]=u:=fun u=>by simp [grow]
 rw [← hgr (putRow enc (Sort.ahead w n) g 0 (srt zs).toArray)] at hw
 generalize hos:(#[]:Array _)=os at hw
 subst hw
 have hcell: ∀ k,(grow (putRow enc (Sort.ahead w n) g 0 (srt zs).toArray) os).heap[k]? = if k<w.heap.size then (if g=k then some (.cells (putCells enc 0 (srt zs).toArray cur) e (0,0)) else w.heap[k]?) else (os[k-w.heap.size]?):=by
  intro k
  simp only [grow,Array.getElem?_append,size_putRow,Sort.ahead]
  split
  ·simp only [putRow,mapBlock,Array.getElem?_modify]
   split
   ·rename_i e1
    subst e1
    simp [r1,onCells]
   ·rfl
  ·rfl
 have hw':(grow (putRow enc (Sort.ahead w n) g 0 (srt zs).toArray) os).heap[g]? = some (.cells (putCells enc 0 (srt zs).toArray cur) e (0,0)):=by rw [hcell,if_pos hg,if_pos rfl]
 have hsize:w.heap.size≤(grow (putRow enc (Sort.ahead w n) g 0 (srt zs).toArray) os).heap.size:=by
  simp only [grow,Array.size_append,size_putRow,Sort.ahead];omega
 have hcs:(putCells enc 0 (srt zs).toArray cur).size=cur.size:=by simp [putCells]
 refine ⟨_,rfl,ρ,?_,fun _ _=>rfl,?_,fun j=>?_,fun j g' hj hg'=>?_,fun j j' g' hj hj' e1 e2=>?_,fun j g' hj hh=>?_⟩
 ·refine ⟨rfl,rfl,rfl,hsize,fun k hk hn=>?_,fun g' m hs=>?_⟩
  ·rw [hcell,if_pos hk,if_neg]
   rintro rfl
   exact hn ⟨0,by simp, .inl hρ⟩
  ·obtain ⟨cur2,e2,h3,h4⟩:=hs
   have hlt:g'<w.heap.size:=(Array.getElem?_eq_some_iff.1 h3).1
   by_cases hgg:g=g'
   ·subst hgg
    rw [r1] at h3
    cases h3
    exact ⟨_,e,hw',by rw [hcs];exact h4⟩
   ·exact ⟨cur2,e2,by rw [hcell,if_pos hlt,if_neg hgg];exact h3,h4⟩
 ·simp only [R]
  have:=hdl zs
  refine .inr ⟨g,cap,some ⟨g,0,none⟩,hρ,?_,by omega,hcap,rfl,fun _=>by simp⟩
  obtain ⟨cur2,e2,h3,h4⟩:=hsh
  rw [r1] at h3
  cases h3
  exact ⟨_,e,hw',by rw [hcs];exact h4⟩
 ·cases j with
  | succ j=>simp [RO]
  | zero=>
    simp only [List.getD_cons_zero,RO,hρ]
    have hcc:zs.length≤cur.size:=by rw [r2.size];simpa using r4
    refine ⟨_,e,cap',hw',⟨by rw [hcs];exact r2.size,fun v hv=>?_⟩,r3,by simpa [hlen] using r4,RR_enc h1 fun j z hj=>?_⟩
    ·obtain ⟨i,hi⟩:=List.getElem?_of_mem hv
     rw [Array.getElem?_toList,putCells_get,Option.map_eq_some_iff] at hi
     obtain ⟨x,hx,hxe⟩:=hi
     subst hxe
     split
     ·exact h1 _
     ·exact r2.one x (List.mem_of_getElem? (by rw [Array.getElem?_toList];exact hx))
    ·have hjl:j<(srt zs).length:=(List.getElem?_eq_some_iff.1 hj).1
     have hjc:j<cur.size:=by rw [hlen] at hjl;omega
     rw [Nat.zero_add,cell_of_row _ g j _ e (0,0) hw',putCells_get,Array.getElem?_eq_getElem hjc]
     simp only [Option.map_some,if_pos hjl,hj,Option.getD_some]
 ·cases j with
  | succ j=>simp at hj
  | zero=>exact .inr ⟨0,by simp,hg'⟩
 ·cases j with
  | succ j=>simp at hj
  | zero=>
    cases j' with
    | succ j=>simp at hj'
    | zero=>rfl
 ·cases j with
  | succ j=>simp at hj
  | zero=>exact Nat.lt_of_lt_of_le (hin.hlt 0 g' (by simp) hh) hsize
theorem Sh.refl_below {own:Nat→Prop} (w:World):BelowO own w w:=⟨rfl,rfl,rfl,Nat.le_refl _,fun _ _ _=>rfl,fun _ _ h=>h⟩
theorem none_calls (henter: ∀ xs w,(callFunc f xs).run P w = .ok (.enter f xs) w)
  (hc: ∀ (p:Option Addr) (cap:Nat) (w:World),Calls P f #[.slice p 0 cap] w fun e w'=>e = .returned (.tuple #[])∧w'=w):MCalls P f [.row 1 []] [.slo 0 1 0 0] (.tup []) [.row 1 []]:=by
 refine ⟨henter,fun w st ρ vs hst hin hargs=>?_⟩
 simp only [RL,R] at hargs
 obtain ⟨v,vs',rfl,hv,rfl⟩:=hargs
 obtain ⟨a,c,rfl⟩: ∃ a c,v = .slice a 0 c:=by
  rcases hv with ⟨_,_,_,a,rfl⟩|⟨g,cap,A,_,_,_,_,rfl,_⟩
  ·exact ⟨_,_,rfl⟩
  ·exact ⟨_,_,rfl⟩
 refine Calls.mono (hc a c w) ?_
 rintro ex w' ⟨rfl,rfl⟩
 refine ⟨_,rfl,ρ,Sh.refl_below w',fun _ _=>rfl,?_,fun j=>?_,fun j g' hj hg'=>?_,fun j j' g' hj hj' e1 e2=>?_,fun j g' hj hh=>?_⟩
 ·simp [R,RL]
 ·cases j with
  | succ j=>simp [RO]
  | zero=>
    have:=hin.objs 0
    simp only [List.getD_cons_zero,RO,RR] at this ⊢
    exact this
 ·cases j with
  | succ j=>simp at hj
  | zero=>exact .inr ⟨0,by simp,hg'⟩
 ·cases j with
  | succ j=>simp at hj
  | zero=>
    cases j' with
    | succ j=>simp at hj'
    | zero=>rfl
 ·cases j with
  | succ j=>simp at hj
  | zero=>exact hin.hlt 0 g' (by simp) hh
theorem none_head (henter: ∀ xs w,(callFunc f xs).run P w = .ok (.enter f xs) w)
  (hc: ∀ (p:Option Addr) (cap:Nat) (w:World),Calls P f #[.slice p 0 cap] w fun e w'=>e = .returned (.slice p 0 cap)∧w'=w):MCalls P f [.row 1 []] [.slo 0 1 0 0] (.slo 0 1 0 0) [.row 1 []]:=by
 refine ⟨henter,fun w st ρ vs hst hin hargs=>?_⟩
 simp only [RL,R] at hargs
 obtain ⟨v,vs',rfl,hv,rfl⟩:=hargs
 obtain ⟨a,c,rfl⟩: ∃ a c,v = .slice a 0 c:=by
  rcases hv with ⟨_,_,_,a,rfl⟩|⟨g,cap,A,_,_,_,_,rfl,_⟩
  ·exact ⟨_,_,rfl⟩
  ·exact ⟨_,_,rfl⟩
 refine Calls.mono (hc a c w) ?_
 rintro ex w' ⟨rfl,rfl⟩
 refine ⟨_,rfl,ρ,Sh.refl_below w',fun _ _=>rfl,?_,fun j=>?_,fun j g' hj hg'=>?_,fun j j' g' hj hj' e1 e2=>?_,fun j g' hj hh=>?_⟩
 ·simp only [R];exact hv
 ·cases j with
  | succ j=>simp [RO]
  | zero=>
    have:=hin.objs 0
    simp only [List.getD_cons_zero,RO,RR] at this ⊢
    exact this
 ·cases j with
  | succ j=>simp at hj
  | zero=>exact .inr ⟨0,by simp,hg'⟩
 ·cases j with
  | succ j=>simp at hj
  | zero=>
    cases j' with
    | succ j=>simp at hj'
    | zero=>rfl
 ·cases j with
  | succ j=>simp at hj
  | zero=>exact hin.hlt 0 g' (by simp) hh
end
theorem Imp.frzTo {σ σ' σ2:St} (o:Nat) {k:Nat} {rows:List (List D)} (hg:hget σ.heap o = .row k rows) (he:σ.frz o k rows=σ') (h:Imp σ' σ2):Imp σ σ2:=Imp.trans (he▸Imp.freeze σ o k rows hg) h
end Go.Avm
/- The abstract machine, part ZK: maps whose keys are integers or strings and whose elements are told by value. -/
namespace Go.Avm
set_option linter.unusedVariables false
set_option linter.unusedSimpArgs false
open Go.RowKit Go.MapKept

/-- The kinds of keys. -/
inductive KK where
 | int (k:IntKind)
 | str
def KK.desc:KK→TypeDesc
 | .int k=> .int k
 | .str=> .string
def kkOf:TK→Option KK
 | .int k=>some (.int k)
 | .string=>some .str
 | _=>none
def mapKE:TK→Option (TypeId×TypeId)
 | .map k e=>some (k,e)
 | _=>none
def KK.ok:KK→Value→Bool
 | .int k, .int k' _=>decide (k'=k)
 | .str, .string _=>true
 | _,_=>false
def keyB:Value→Value→Bool
 | .int _ a, .int _ b=>a==b
 | .string a, .string b=>a.toList==b.toList
 | _,_=>false
def mFind (k:Value):List (Value×D)→Option D
 | []=>none
 | p::l=>if keyB p.1 k=true then some p.2 else mFind k l
def mSet (k:Value) (v:D):List (Value×D)→List (Value×D)
 | []=>[(k,v)]
 | p::l=>if keyB p.1 k=true then (k,v)::l else p::mSet k v l
def mDel (k:Value):List (Value×D)→List (Value×D)
 | []=>[]
 | p::l=>if keyB p.1 k=true then l else p::mDel k l
/-- The entries, one after another. -/
def ME (w:World) (st:Nat→Prop):List (Value×D)→List MapEntry→Prop
 | [],es=>es=[]
 | p::l,es=> ∃ e es',es=e::es'∧e.key=p.1∧R w st (fun _=>none) p.2 e.val∧ME w st l es'
theorem ME.mono {w w':World} {st st':Nat→Prop} (hc: ∀ g off,st g→w'.cell? ⟨g,off,none⟩=w.cell? ⟨g,off,none⟩) (hs: ∀ g n,Sh w g n→Sh w' g n) (hst: ∀ g,st g→st' g): ∀ {l:List (Value×D)} {es:List MapEntry},ME w st l es→ME w' st' l es
 | [],_,h=>h
 | _::_,_,h=>by
   obtain ⟨e,es',h1,h2,h3,h4⟩:=h
   exact ⟨e,es',h1,h2,R.mono hc hs hst h3,ME.mono hc hs hst h4⟩
theorem ME.length {w:World} {st:Nat→Prop}: ∀ {l:List (Value×D)} {es:List MapEntry},ME w st l es→es.length=l.length
 | [],_,h=>by rw [h];rfl
 | _::_,_,h=>by
   obtain ⟨e,es',rfl,_,_,h4⟩:=h
   simp [ME.length h4]
/-- A map with these entries, in this order. -/
def mapX (kk:KK) (l:List (Value×D)):Ext where
 nms:=[]
 φ w st _ _ g:= ∃ es clock,w.heap[g]? = some (.map es clock)∧Stamped es clock∧(∀ x∈es.toList,IsKey kk.desc x.key)∧ME w st l es.toList
 lt h:=by
  obtain ⟨_,_,h1,_⟩:=h
  exact (Array.getElem?_eq_some_iff.1 h1).1
 mono hc hs hst hb _ h:=by
  obtain ⟨es,cl,h1,h2,h3,h4⟩:=h
  exact ⟨es,cl,hb.trans h1,h2,h3,h4.mono hc hs hst⟩
 loc _ h:=h
theorem mapX_nms {kk:KK} {l:List (Value×D)}:(mapX kk l).nms=[]:=rfl
/-- The same, with the stamp of the entry of a key. -/
def mapS (kk:KK) (l:List (Value×D)) (k:Value) (born:Nat):Ext where
 nms:=[]
 φ w st _ _ g:= ∃ es clock,w.heap[g]? = some (.map es clock)∧Stamped es clock∧(∀ x∈es.toList,IsKey kk.desc x.key)∧ME w st l es.toList∧ ∃ e∈es.toList,e.key=k∧e.born=born
 lt h:=by
  obtain ⟨_,_,h1,_⟩:=h
  exact (Array.getElem?_eq_some_iff.1 h1).1
 mono hc hs hst hb _ h:=by
  obtain ⟨es,cl,h1,h2,h3,h4,h5⟩:=h
  exact ⟨es,cl,hb.trans h1,h2,h3,h4.mono hc hs hst,h5⟩
 loc _ h:=h
theorem mapS_nms {kk:KK} {l:List (Value×D)} {k:Value} {born:Nat}:(mapS kk l k born).nms=[]:=rfl
attribute [go_sem] mapX_nms mapS_nms

section
variable {w0:World} {p:Pm} {σ:St} {a:Act} {w:World} {ρ:Nm}
def setMap (w:World) (g:Nat) (es:Array MapEntry) (c:Nat):World:={ w with heap:=w.heap.setIfInBounds g (.map es c) }
end

section
variable {P:Program} {ds:List (Option Nat)} {Q:Exit→St→Prop} {σ σ':St} {l:List Oper} {dst:Option Nat} {ty:TypeId} {pos:String} {af:Array Edge} {g:Option (Nat×Bool)}
/-- What a look-up gives. -/
def mGot:Bool→Value→Option D→D
 | true,_,some d=> .tup [d, .sc (.bool true)]
 | true,z,none=> .tup [ofC z, .sc (.bool false)]
 | false,_,some d=>d
 | false,z,none=>ofC z
attribute [go_sem] kkOf mapKE mGot KK.ok
end
mutual
theorem leQ_self: ∀ d:D,leQ d d
 | .any=>trivial
 | .sc _=>rfl
 | .agg cs=>leQL_self cs
 | .sl _ _=>⟨rfl,rfl⟩
 | .tup cs=>leQL_self cs
 | .ro cs=>leQL_self cs
 | .ref _ _=>⟨rfl,rfl⟩
 | .elt _ _ _ _=>⟨rfl,rfl,rfl,rfl⟩
 | .slo _ _ _ _=>⟨rfl,rfl,rfl,rfl⟩
 | .fn _ cs=>⟨rfl,leQL_self cs⟩
 | .mp _=>rfl
theorem leQL_self: ∀ l:List D,leQL l l
 | []=>trivial
 | d::l=>⟨leQ_self d,leQL_self l⟩
end
end Go.Avm
