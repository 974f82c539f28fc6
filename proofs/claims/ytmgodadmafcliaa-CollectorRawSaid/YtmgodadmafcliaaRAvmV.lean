/- The abstract machine, parts ZR to ZS. -/
import Derived.Test.YtmgodadmafcliaaRAvmU
/- The abstract machine, part ZR: the rules of a nest under two names (what is worked out ahead of its parts, and behind them). -/
namespace Go.Avm
set_option linter.unusedVariables false
set_option linter.unusedSimpArgs false
open Go.RowKit
theorem nsP:
  (∀ (k o:Nat) (ls:List (List (List D))),(nestO k ls).clr o=nestO k ls)∧
  (∀ (k:Nat) (f:List D→Option (List D)) (ls:List (List (List D))),renO f (nestO k ls)=some (nestO k ls))∧
  (∀ (k:Nat) (ids:List Nat) (ls:List (List (List D))),nmO ids (nestO k ls)=nestO k ls)∧
  (∀ (k n:Nat) (ls:List (List (List D))),ltO n (nestO k ls)=true)∧
  (∀ (k:Nat) (ls:List (List (List D))),nmsO (nestO k ls)=[])∧
  (∀ (o k j:Nat) (rows:List (List D)) (ls:List (List (List D))),(nestO k ls).frz o j rows=nestO k ls)∧
  (∀ (o d k:Nat) (ls:List (List (List D))),(nestO k ls).rn o d=nestO k ls)∧
  (∀ (k:Nat) (a b:List (List (List D))),leQO (nestO k a) (nestO k b)=nestQ k a b):=
 ⟨fun _ _ _=>nestO_clr,fun _ _ _=>nestO_ren,fun _ _ _=>nestO_nm,fun _ _ _=>nestO_lt,fun _ _=>nestO_nmsO,fun _ _ _ _ _=>nestO_frz,fun _ _ _ _=>nestO_rn,fun _ _ _=>rfl⟩
theorem nsM:
  (∀ (k:Nat) (a:List (List (List D))),nestQ k a a=True)∧
  (∀ (k:Nat) (cs:List NC),(nestX k cs).nms=nmsN cs)∧
  (∀ (o d n:Nat) (ls:List (List (List D))) (j:Nat),memN o (nmsN ((ls.map NC.own).set j (.nm d n)))=(decide (d=o)&&decide (j<ls.length)))∧
  (∀ (o d n:Nat) (ls:List (List (List D))),memN o (nmsN (ls.map NC.own++[.nm d n]))=decide (d=o))∧
  (∀ (ls:List (List (List D))) (j:Nat),nmsN ((ls.map NC.own).set j .hole)=[])∧
  (∀ (k:Nat) (ls:List (List (List D))) (r:List (List D)),Obj.ext (nestX k (ls.map .own++[.own r]))=nestO k (ls++[r]))∧
  (∀ (f:List D→Option (List D)) (k:Nat) (ls:List (List (List D))),Obj.clr.match_1 (fun _=>Option Obj) (nestO k ls) (fun cs=>Option.map Obj.box (f cs)) (fun e=>cond e.nms.isEmpty (some (.ext e)) none) (fun x=>some x)=some (nestO k ls))∧
  (∀ (k o:Nat) (ls:List (List (List D))),Obj.clr.match_1 (fun _=>Obj) (nestO k ls) (fun cs=> .box (clrL o cs)) (fun e=>cond (memN o e.nms) (.ext heldX) (.ext e)) (fun x=>x)=nestO k ls)∧
  (∀ (k n:Nat) (ls:List (List (List D))),Obj.clr.match_1 (fun _=>Bool) (nestO k ls) (fun cs=>ltL n cs) (fun e=>e.nms.isEmpty) (fun _=>true)=true)∧
  (∀ (k:Nat) (ids:List Nat) (ls:List (List (List D))),nmO.match_1 (fun _=>Obj) (nestO k ls) (fun cs=>Obj.box (nmL ids cs)) (fun _=>Obj.dead) (fun k rows=>Obj.row k rows) (fun e=>Obj.ext e)=nestO k ls)∧
  (∀ (o k j:Nat) (rows:List (List D)) (ls:List (List (List D))),addrCells.match_1 (fun _=>Obj) (nestO k ls) (fun cs=>Obj.box (frzL o j rows cs)) (fun x=>x)=nestO k ls)∧
  (∀ (o d k:Nat) (ls:List (List (List D))),Obj.rn.match_1 (fun _=>Obj) (nestO k ls) (fun cs=>Obj.box (rnL o d cs)) (fun e=>cond (memN o e.nms||memN d e.nms) (.ext heldX) (.ext e)) (fun x=>x)=nestO k ls)∧
  (∀ (k:Nat) (ls:List (List (List D))),nmsO.match_1 (fun _=>List Nat) (nestO k ls) (fun cs=>nmsL cs) (fun _=>[])=[]):=
 ⟨fun _ _=>nestQ_self,fun _ _=>rfl,fun _ _ _ _ _=>nmsN_set,fun _ _ _ _=>nmsN_snoc,fun _ _=>nmsN_hole,fun _ _ _=>nestO_snoc,fun _ _ _=>nestM_ren,fun _ _ _=>nestM_clr,fun _ _ _=>nestM_lt,fun _ _ _=>nestM_nm,fun _ _ _ _ _=>nestM_frz,fun _ _ _ _=>nestM_rn,fun _ _=>nestM_nms⟩
end Go.Avm
/- The abstract machine, part ZS: maps whose elements are pointers to boxes of their own. -/
namespace Go.Avm
set_option linter.unusedVariables false
set_option linter.unusedSimpArgs false
open Go.RowKit Go.MapKept
/-- An element of such a map: a pointer to a box that the map holds, or to a named box. -/
inductive BC where
 | own (cs:List D)
 | nm (o:Nat)
def nmsB:List (Value×BC)→List Nat
 | []=>[]
 | (_, .own _)::l=>nmsB l
 | (_, .nm o)::l=>o::nmsB l
theorem mem_nmsB {o:Nat} {k:Value}: ∀ {l:List (Value×BC)} {j:Nat},l[j]? = some (k, .nm o)→o∈nmsB l
 | [],j,h=>by simp at h
 | (k',c)::l,0,h=>by simp at h;obtain ⟨rfl,rfl⟩:=h;simp [nmsB]
 | (k',c)::l,j+1,h=>by
   have:=mem_nmsB (l:=l) (j:=j) (by simpa using h)
   cases c<;>simp [nmsB,this]
def BCok (w:World) (st:Nat→Prop) (ρ:Nat→Option (Option Nat)) (v:Value) (bo:Option Nat):BC→Prop
 | .own cs=> ∃ b cur e,bo=some b∧v = .pointer (some ⟨b,0,none⟩)∧w.heap[b]? = some (.cells cur e (0,0))∧RL w st (fun _=>none) cs cur.toList
 | .nm o=>bo=none∧R w st ρ (.ref o 0) v
theorem BCok.mono {w w':World} {st st':Nat→Prop} {ρ:Nat→Option (Option Nat)} {c:BC} {v:Value} {bo:Option Nat} (hc: ∀ g off,st g→w'.cell? ⟨g,off,none⟩=w.cell? ⟨g,off,none⟩) (hs: ∀ g n,Sh w g n→Sh w' g n) (hst: ∀ g,st g→st' g)
  (hb: ∀ b,bo=some b→w'.heap[b]? = w.heap[b]?) (h:BCok w st ρ v bo c):BCok w' st' ρ v bo c:=by
 cases c with
 | own cs=>
   obtain ⟨b,cur,e,h1,h2,h3,h4⟩:=h
   exact ⟨b,cur,e,h1,h2,(hb b h1).trans h3,RL.mono hc hs hst h4⟩
 | nm o=>exact ⟨h.1,R.mono hc hs hst h.2⟩
theorem BCok.ren {w:World} {st:Nat→Prop} {ρ ρ':Nat→Option (Option Nat)} {c:BC} {v:Value} {bo:Option Nat} (hn: ∀ o,c = .nm o→ρ' o=ρ o) (h:BCok w st ρ v bo c):BCok w st ρ' v bo c:=by
 cases c with
 | own cs=>exact h
 | nm o=>
   refine ⟨h.1,?_⟩
   have:=h.2
   simp only [R,hn o rfl] at this ⊢
   exact this
/-- The entries and the blocks that they hold. -/
def MB (w:World) (st:Nat→Prop) (ρ:Nat→Option (Option Nat)) (hd:Nat→Prop) (g:Nat) (l:List (Value×BC)) (es:List MapEntry) (bs:List (Option Nat)):Prop:=
 es.length=l.length∧bs.length=l.length∧(∀ (j b:Nat),bs[j]? = some (some b)→hd b∧b≠g)∧(∀ (i j b:Nat),bs[i]? = some (some b)→bs[j]? = some (some b)→i=j)∧
  ∀ (j:Nat) k c,l[j]? = some (k,c)→ ∃ e bo,es[j]? = some e∧bs[j]? = some bo∧e.key=k∧BCok w st ρ e.val bo c
def mapB (kk:KK) (l:List (Value×BC)):Ext where
 nms:=nmsB l
 φ w st ρ hd g:= ∃ es clock,w.heap[g]? = some (.map es clock)∧Stamped es clock∧(∀ x∈es.toList,IsKey kk.desc x.key)∧ ∃ bs,MB w st ρ hd g l es.toList bs
 lt h:=by
  obtain ⟨_,_,h1,_⟩:=h
  exact (Array.getElem?_eq_some_iff.1 h1).1
 mono hc hs hst hg hb h:=by
  obtain ⟨es,cl,h1,h2,h3,bs,m1,m2,m3,m4,m5⟩:=h
  refine ⟨es,cl,hg.trans h1,h2,h3,bs,m1,m2,m3,m4,fun j k c hj=>?_⟩
  obtain ⟨e,bo,e1,e2,e3,e4⟩:=m5 j k c hj
  exact ⟨e,bo,e1,e2,e3,e4.mono hc hs hst (fun b h=>hb b (m3 j b (by rw [e2,h])).1)⟩
 loc hl h:=by
  obtain ⟨es,cl,h1,h2,h3,bs,m1,m2,m3,m4,m5⟩:=h
  refine ⟨es,cl,h1,h2,h3,bs,m1,m2,m3,m4,fun j k c hj=>?_⟩
  obtain ⟨e,bo,e1,e2,e3,e4⟩:=m5 j k c hj
  exact ⟨e,bo,e1,e2,e3,e4.ren fun o h=>hl o (mem_nmsB (by rw [hj,h]))⟩
theorem mapB_nms {kk:KK} {l:List (Value×BC)}:(mapB kk l).nms=nmsB l:=rfl
section
variable {w:World} {st:Nat→Prop} {g:Nat} {ρ:Nat→Option (Option Nat)} {hd:Nat→Prop} {l:List (Value×BC)} {es:List MapEntry} {bs:List (Option Nat)}
/-- An element told otherwise. -/
theorem MB.set {hd':Nat→Prop} {st':Nat→Prop} {ρ':Nat→Option (Option Nat)} {j:Nat} {k:Value} {c c0:BC} {bo:Option Nat} (h:MB w st ρ hd g l es bs) (hj:l[j]? = some (k,c0))
  (hrest: ∀ i k c bi v,i≠j→l[i]? = some (k,c)→bs[i]? = some bi→BCok w st ρ v bi c→BCok w st' ρ' v bi c)
  (hhd: ∀ i b,i≠j→bs[i]? = some (some b)→hd' b) (hbo: ∀ b,bo=some b→hd' b∧b≠g∧ ∀ i,i≠j→bs[i]? ≠some (some b)) (hc: ∀ e bi,es[j]? = some e→bs[j]? = some bi→BCok w st ρ e.val bi c0→BCok w st' ρ' e.val bo c):MB w st' ρ' hd' g (l.set j (k,c)) es (bs.set j bo):=by
 obtain ⟨n0,n1,n2,n3,n4⟩:=h
 have hjl:=(List.getElem?_eq_some_iff.1 hj).1
 have hjb:j<bs.length:=by omega
 refine ⟨by simp [n0],by simp [n1],fun i b hi=>?_,fun i i' b hi hi'=>?_,fun i k' c' hi=>?_⟩
 ·by_cases e:i=j
  ·subst e
   rw [List.getElem?_set_self hjb] at hi
   have:=hbo b (by simpa using hi)
   exact ⟨this.1,this.2.1⟩
  ·rw [List.getElem?_set_ne (Ne.symm e)] at hi
   exact ⟨hhd i b e hi,(n2 i b hi).2⟩
 ·by_cases e:i=j<;>by_cases e':i'=j
  ·rw [e,e']
  ·subst e
   rw [List.getElem?_set_self hjb] at hi
   rw [List.getElem?_set_ne (Ne.symm e')] at hi'
   exact absurd hi' ((hbo b (by simpa using hi)).2.2 i' e')
  ·subst e'
   rw [List.getElem?_set_self hjb] at hi'
   rw [List.getElem?_set_ne (Ne.symm e)] at hi
   exact absurd hi ((hbo b (by simpa using hi')).2.2 i e)
  ·rw [List.getElem?_set_ne (Ne.symm e)] at hi
   rw [List.getElem?_set_ne (Ne.symm e')] at hi'
   exact n3 i i' b hi hi'
 ·by_cases e:i=j
  ·subst e
   rw [List.getElem?_set_self hjl] at hi
   simp only [l_5,Prod.mk.injEq] at hi
   obtain ⟨rfl,rfl⟩:=hi
   obtain ⟨e0,bi,x1,x2,x3,x4⟩:=n4 i _ _ hj
   exact ⟨e0,bo,x1,List.getElem?_set_self hjb,x3,hc e0 bi x1 x2 x4⟩
  ·rw [List.getElem?_set_ne (Ne.symm e)] at hi
   obtain ⟨e0,bi,x1,x2,x3,x4⟩:=n4 i k' c' hi
   exact ⟨e0,bi,x1,by rw [List.getElem?_set_ne (Ne.symm e)];exact x2,x3,hrest i k' c' bi e0.val e hi x2 x4⟩
end
/-- The box of an element gets a name. -/
theorem Imp.takeB (σ:St) (o j d:Nat) {kk:KK} {l:List (Value×BC)} {k:Value} {cs:List D} (ho:hget σ.heap o = .ext (mapB kk l)) (hj:l[j]? = some (k, .own cs)) (hd:hfree σ.heap d=true) (hne:o≠d) (hm:memN d (nmsB l)=false):
  Imp σ { σ.kill d with heap:=hset (hset (σ.kill d).heap o (.ext (mapB kk (l.set j (k, .nm d))))) d (.box cs) }:=by
 rintro w0 p a w ⟨ρ,h⟩
 obtain ⟨hd1,hd2⟩:=hfree_iff.1 hd
 have hro:=h.objs o
 rw [ho] at hro
 simp only [RO] at hro
 obtain ⟨g,hg,es,cl,c1,c2,c3,bs,hN⟩:=hro
 obtain ⟨e0,bo,hx1,hbo,hx3,bb,cur,ee,rfl,hv,hcur,hRL⟩:=hN.2.2.2.2 j _ _ hj
 let ρ1:Nm:=⟨fun y=>if y=d then some (some bb) else ρ y,fun y=>if y=d then fun _=>False else ρ.hid y⟩
 let ρ':Nm:=⟨fun y=>if y=d then some (some bb) else ρ y,fun y=>if y=d then fun _=>False else if y=o then fun b=>ρ.hid o b∧bb≠b else ρ.hid y⟩
 have hk:RelAt w0 p (σ.kill d) a w ρ1:=h.kill d (fun y e=>⟨by simp [ρ1,e],by simp [ρ1,e]⟩) (fun h1=>by omega)
 have hlo:hget σ.heap o≠ .dead:=by rw [ho];simp
 have hmo:hget (σ.kill d).heap o = .ext (mapB kk l):=by
  rw [hget_kill,if_neg hne,ho,Obj.clr,mapB_nms,hm];rfl
 have hho:hhas (σ.kill d).heap o=true:=hhas_of_hget (by rw [hmo];simp)
 have hhd:hhas (σ.kill d).heap d=true:=by rw [St.kill,hhas_hset,hhas_hclr];exact hd1
 have g1:hget (hset (hset (σ.kill d).heap o (.ext (mapB kk (l.set j (k, .nm d))))) d (.box cs)) d = .box cs:=hget_hset_same (by rw [hhas_hset];exact hhd)
 have g2:hget (hset (hset (σ.kill d).heap o (.ext (mapB kk (l.set j (k, .nm d))))) d (.box cs)) o = .ext (mapB kk (l.set j (k, .nm d))):=by rw [hget_hset_other hne,hget_hset_same hho]
 have r2:ρ1.hid o=ρ.hid o:=by simp [ρ1,hne]
 have q1: ∀ b,ow ρ' o b→ow ρ1 o b:=by
  intro b hb
  rcases hb with hb|hb
  ·exact .inl hb
  ·right;simp only [ρ',hne,if_false,if_true] at hb;rw [r2];exact hb.1
 have q2: ∀ b,ow ρ' d b→bb=b:=by
  intro b hb
  rcases hb with hb|hb
  ·simpa [ρ'] using hb
  ·simp [ρ'] at hb
 have q3:ρ.hid o bb∧bb≠g:=hN.2.2.1 j bb hbo
 have hturn:=hk.turn (ρ':=ρ') (w':=w) (heap':=hset (hset (σ.kill d).heap o (.ext (mapB kk (l.set j (k, .nm d))))) d (.box cs)) (fun y=>y=o∨y=d) (fun y=>rfl)
  (fun y hy=>by simp only [not_or] at hy;simp only [ρ',ρ1,hy.1,hy.2,if_false])
  (fun y hy=>by simp only [not_or] at hy;rw [hget_hset_other hy.2,hget_hset_other hy.1])
  (fun y b hy hl hb=>by
   refine .inr ⟨o, .inl rfl,by rw [hmo];simp,?_⟩
   rcases hy with rfl|rfl
   ·exact q1 b hb
   ·right;rw [r2, ← q2 b hb];exact q3.1)
  (fun y y' b hy hy' hl hl' hb hb'=>by
   have cross:ow ρ' o b→ow ρ' d b→False:=by
    intro u v
    have e1:=q2 b v
    rcases u with u|u
    ·have:ρ o=some (some b):=by simpa [ρ',hne] using u
     rw [hg] at this
     simp only [l_5] at this
     exact q3.2 (e1.trans this.symm)
    ·simp only [ρ',hne,if_false,if_true] at u
     exact u.2 e1
   rcases hy with rfl|rfl<;>rcases hy' with rfl|rfl
   ·rfl
   ·exact (cross hb hb').elim
   ·exact (cross hb' hb).elim
   ·rfl)
  (fun y b hy hl hb=>by
   rcases hy with rfl|rfl
   ·simp only [ρ',hne,if_false,if_true] at hb;exact h.hlt y b hlo hb.1
   ·simp [ρ'] at hb)
  (fun _ _ _=>rfl) (fun _ _ hs=>hs) (Nat.le_refl _) rfl rfl rfl
  (fun y hy st h1 h2=>by
   have hst: ∀ b,stab p σ.heap ρ w b→st b:=fun b hb=>h1 b ⟨hb.1,hb.2.1,fun y' hy'=>by
    rw [hget_kill] at hy'
    by_cases e:y'=d
    ·simp [e] at hy'
    ·rw [if_neg e,Obj.clr_dead] at hy'
     have:same ρ ρ1 y':=⟨by simp [ρ1,e],by simp [ρ1,e]⟩
     rw [this.ow];exact hb.2.2 y' hy'⟩
   rcases hy with rfl|rfl
   ·rw [g2]
    refine ⟨g,by simpa [ρ',hne] using hg,es,cl,c1,c2,c3,bs.set j none,?_⟩
    refine hN.set hj (fun i k' c bi v hi hci _ hc=>?_) (fun i b hi hbi=>?_) (fun b hb=>by cases hb) (fun e bi he hbi _=>?_)
    ·refine BCok.ren (ρ:=ρ) (fun o' e'=>?_) (BCok.mono (fun _ _ _=>rfl) (fun _ _ hs=>hs) hst (fun _ _=>rfl) hc)
     have hod:o'≠d:=fun e=>by
      have:=memN_iff.2 (mem_nmsB (by rw [hci,e']))
      rw [e,hm] at this;cases this
     show ρ'.nm o'=ρ.nm o'
     simp [ρ',hod]
    ·show ρ'.hid y b
     simp only [ρ',hne,if_false,if_true]
     refine ⟨(hN.2.2.1 i b hbi).1,fun e=>hi (hN.2.2.2.1 i j b hbi (by rw [hbo,e]))⟩
    ·rw [hx1] at he
     simp only [l_5] at he
     subst he
     refine ⟨rfl,?_⟩
     simp only [R]
     exact ⟨bb,by simp [ρ'],hv⟩
   ·rw [g1]
    refine ⟨bb,cur,ee,by simp [ρ'],hcur,?_⟩
    exact RL.ofNone (RL.mono (fun _ _ _=>rfl) (fun _ _ hs=>hs) hst hRL))
 exact ⟨ρ',hturn.1⟩
/-- A named box goes back into the element that names it. -/
theorem Imp.healB (σ:St) (o j d:Nat) {kk:KK} {l:List (Value×BC)} {k:Value} {cs:List D} (ho:hget σ.heap o = .ext (mapB kk l)) (hj:l[j]? = some (k, .nm d)) (hd:hget σ.heap d = .box cs) (hp:pureL cs=true) (hd3:d<1000) (hne:o≠d) (hm:memN d (nmsB (l.set j (k, .own cs)))=false):
  Imp σ (({ σ with heap:=hset (hset σ.heap d .dead) o (.ext (mapB kk (l.set j (k, .own cs)))) }:St).kill d):=by
 rintro w0 p a w ⟨ρ,h⟩
 have hro:=h.objs o
 rw [ho] at hro
 simp only [RO] at hro
 obtain ⟨g,hg,es,cl,c1,c2,c3,bs,hN⟩:=hro
 obtain ⟨e0,bo,hx1,hbo,hx3,rfl,hno⟩:=hN.2.2.2.2 j _ _ hj
 have hrd:=h.objs d
 rw [hd] at hrd
 simp only [RO] at hrd
 obtain ⟨bd,cur,ee,hbd,hcur,hRL⟩:=hrd
 simp only [R] at hno
 obtain ⟨bd',hbd',hv⟩:=hno
 have hbd2:ρ.nm d=some (some bd):=hbd
 rw [hbd2] at hbd'
 simp only [l_5] at hbd'
 subst hbd'
 have hlo:hget σ.heap o≠ .dead:=by rw [ho];simp
 have hld:hget σ.heap d≠ .dead:=by rw [hd];simp
 have hho:hhas σ.heap o=true:=hhas_of_hget hlo
 let ρ':Nm:=⟨ρ.nm,fun y=>if y=o then fun b=>ρ.hid o b∨bd=b else ρ.hid y⟩
 have g1:hget (hset (hset σ.heap d .dead) o (.ext (mapB kk (l.set j (k, .own cs))))) o = .ext (mapB kk (l.set j (k, .own cs))):=hget_hset_same (by rw [hhas_hset];exact hho)
 have g2:hget (hset (hset σ.heap d .dead) o (.ext (mapB kk (l.set j (k, .own cs))))) d = .dead:=by rw [hget_hset_other (Ne.symm hne),hget_hset_same (hhas_of_hget hld)]
 have q1: ∀ b,ow ρ' o b→ow ρ o b∨ow ρ d b:=by
  intro b hb
  rcases hb with hb|hb
  ·exact .inl (.inl hb)
  ·simp only [ρ',if_true] at hb
   rcases hb with hb|rfl
   ·exact .inl (.inr hb)
   ·exact .inr (.inl hbd)
 have hturn:=h.turn (ρ':=ρ') (w':=w) (heap':=hset (hset σ.heap d .dead) o (.ext (mapB kk (l.set j (k, .own cs))))) (fun y=>y=o∨y=d) (fun y=>rfl)
  (fun y hy=>by simp only [not_or] at hy;simp only [ρ',hy.1,if_false])
  (fun y hy=>by simp only [not_or] at hy;rw [hget_hset_other hy.1,hget_hset_other hy.2])
  (fun y b hy hl hb=>by
   rcases hy with rfl|rfl
   ·rcases q1 b hb with h1|h1
    ·exact .inr ⟨y, .inl rfl,hlo,h1⟩
    ·exact .inr ⟨d, .inr rfl,hld,h1⟩
   ·exact absurd g2 hl)
  (fun y y' b hy hy' hl hl' hb hb'=>by
   rcases hy with rfl|rfl<;>rcases hy' with rfl|rfl
   ·rfl
   ·exact absurd g2 hl'
   ·exact absurd g2 hl
   ·rfl)
  (fun y b hy hl hb=>by
   rcases hy with rfl|rfl
   ·simp only [ρ',if_true] at hb
    rcases hb with hb|rfl
    ·exact h.hlt y b hlo hb
    ·exact h.lt_ow hld (.inl hbd)
   ·exact absurd g2 hl)
  (fun _ _ _=>rfl) (fun _ _ hs=>hs) (Nat.le_refl _) rfl rfl rfl
  (fun y hy st hst _=>by
   rcases hy with rfl|rfl
   ·rw [g1]
    refine ⟨g,hg,es,cl,c1,c2,c3,bs.set j (some bd),?_⟩
    have eh:ρ'.hid y=fun b=>ρ.hid y b∨bd=b:=by simp [ρ']
    refine hN.set hj (fun i k' c bi v hi hci hbi hc=>BCok.mono (fun _ _ _=>rfl) (fun _ _ hs=>hs) hst (fun _ _=>rfl) hc) (fun i b hi hbi=>by rw [eh];exact .inl (hN.2.2.1 i b hbi).1) (fun b hb=>?_) (fun e bi he hbi _=>?_)
    ·simp only [l_5] at hb
     subst hb
     refine ⟨by rw [eh];exact .inr rfl,fun e'=>?_,fun i hi hbi=>?_⟩
     ·subst e'
      exact hne (h.inj y d bd hlo hld (.inl hg) (.inl hbd))
     ·exact hne (h.inj y d bd hlo hld (.inr (hN.2.2.1 i bd hbi).1) (.inl hbd))
    ·rw [hx1] at he
     simp only [l_5] at he
     subst he
     exact ⟨bd,cur,ee,rfl,hv,hcur,pureL_spec hp (RL.mono (fun _ _ _=>rfl) (fun _ _ hs=>hs) hst hRL)⟩
   ·rw [g2];simp [RO])
 exact ⟨ρ',hturn.1.kill d (fun _ _=>same.refl) (fun _=>rfl)⟩
end Go.Avm
