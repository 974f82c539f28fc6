/- The abstract machine, parts A to J. -/
import Derived.WalkKit
import Derived.ProofKit
set_option linter.unusedSimpArgs false
set_option linter.unusedVariables false
namespace Go.eB
theorem bW:type_of% @List.length_append:=@List.length_append
theorem bQ:type_of% @List.length_drop:=@List.length_drop
theorem dx:type_of% @List.length_replicate:=@List.length_replicate
theorem cw:type_of% @List.length_take:=@List.length_take
theorem dc:type_of% @beq_self_eq_true:=@beq_self_eq_true
theorem dD:type_of% @List.length_map:=@List.length_map
theorem aE:type_of% @if_neg:=@if_neg
theorem fS:type_of% @List.mem_of_getElem?:=@List.mem_of_getElem?
theorem jM:type_of% @List.getElem?_eq_some_iff:=@List.getElem?_eq_some_iff
theorem gC:type_of% @Option.some.injEq:=@Option.some.injEq
theorem j3:type_of% @Option.bind_eq_some_iff:=@Option.bind_eq_some_iff
theorem ek:type_of% @Nat.zero_le:=@Nat.zero_le
theorem j9:type_of% @List.drop_eq_nil_of_le:=@List.drop_eq_nil_of_le
theorem ku:type_of% @Option.map_eq_some_iff:=@Option.map_eq_some_iff
theorem bC:type_of% @if_pos:=@if_pos
theorem lu:type_of% @List.take_of_length_le:=@List.take_of_length_le
theorem jj:type_of% @Bool.and_eq_true:=@Bool.and_eq_true
theorem oe:type_of% @Array.getElem?_toList:=@Array.getElem?_toList
theorem uc:type_of% @List.eq_nil_of_length_eq_zero:=@List.eq_nil_of_length_eq_zero
theorem lR:type_of% @List.append_assoc:=@List.append_assoc
theorem rF:type_of% @List.getElem?_eq_getElem:=@List.getElem?_eq_getElem
theorem iU:type_of% @Nat.le_refl:=@Nat.le_refl
theorem lS:type_of% @List.mem_append:=@List.mem_append
theorem pT:type_of% @Bool.false_eq_true:=@Bool.false_eq_true
theorem lp:type_of% @List.mem_cons:=@List.mem_cons
theorem uf:type_of% @List.getElem?_set_self:=@List.getElem?_set_self
theorem pQ:type_of% @decide_eq_true_eq:=@decide_eq_true_eq
theorem kO:type_of% @Nat.zero_add:=@Nat.zero_add
theorem rG:type_of% @List.mem_singleton:=@List.mem_singleton
theorem zQ:type_of% @Array.getElem?_eq_some_iff:=@Array.getElem?_eq_some_iff
theorem ua:type_of% @List.getElem?_set_ne:=@List.getElem?_set_ne
theorem rH:type_of% @bne_self_eq_false:=@bne_self_eq_false
theorem Cl:type_of% @List.getElem?_append_left:=@List.getElem?_append_left
theorem EJ:type_of% @List.getElem?_append_right:=@List.getElem?_append_right
theorem jd:type_of% @if_false:=@if_false
theorem zR:type_of% @List.mem_of_mem_take:=@List.mem_of_mem_take
theorem EK:type_of% @List.getElem?_take_of_lt:=@List.getElem?_take_of_lt
theorem yX:type_of% @beq_eq_false_iff_ne:=@beq_eq_false_iff_ne
theorem wR:type_of% @List.getElem?_map:=@List.getElem?_map
theorem qq:type_of% @List.mem_map:=@List.mem_map
theorem vN:type_of% @List.map_append:=@List.map_append
theorem vP:type_of% @Bool.or_eq_true:=@Bool.or_eq_true
theorem qN:type_of% @List.map_set:=@List.map_set
theorem yN:type_of% @List.all_eq_true:=@List.all_eq_true
theorem zS:type_of% @List.size_toArray:=@List.size_toArray
theorem nX:type_of% @beq_iff_eq:=@beq_iff_eq
theorem jg:type_of% @if_true:=@if_true
theorem yM:type_of% @List.append_nil:=@List.append_nil
theorem JE:type_of% @Go.MapKept.run_getObj_map:=@Go.MapKept.run_getObj_map
theorem E8:type_of% @List.mem_of_mem_drop:=@List.mem_of_mem_drop
theorem GU:type_of% @List.getElem?_eq_none:=@List.getElem?_eq_none
theorem JR:type_of% @List.pairwise_iff_getElem:=@List.pairwise_iff_getElem
theorem wo:type_of% @Bool.false_or:=@Bool.false_or
theorem sN:type_of% @Nat.add_mul:=@Nat.add_mul
theorem Ic:type_of% @List.mem_cons_of_mem:=@List.mem_cons_of_mem
theorem JD:type_of% @List.mem_iff_getElem?:=@List.mem_iff_getElem?
theorem JF:type_of% @List.pairwise_append:=@List.pairwise_append
theorem JS:type_of% @List.take_append_drop:=@List.take_append_drop
theorem Ie:type_of% @Nat.lt_of_lt_of_le:=@Nat.lt_of_lt_of_le
theorem HY:type_of% @List.take_add_one:=@List.take_add_one
theorem JG:type_of% @List.getElem?_take:=@List.getElem?_take
theorem M7:type_of% @Int.eq_ofNat_of_zero_le:=@Int.eq_ofNat_of_zero_le
theorem Pf:type_of% @Array.getElem?_eq_getElem:=@Array.getElem?_eq_getElem
theorem CF:type_of% @Bool.true_and:=@Bool.true_and
theorem MF:type_of% @Bool.or_eq_false_iff:=@Bool.or_eq_false_iff
theorem Ig:type_of% @Array.toList_inj:=@Array.toList_inj
theorem Ih:type_of% @List.getElem_mem:=@List.getElem_mem
theorem GV:type_of% @List.length_set:=@List.length_set
theorem Cm:type_of% @Bool.true_or:=@Bool.true_or
theorem EL:type_of% @Bool.and_true:=@Bool.and_true
theorem Ph:type_of% @decide_eq_false_iff_not:=@decide_eq_false_iff_not
theorem Ii:type_of% @decide_eq_false:=@decide_eq_false
theorem GX:type_of% @decide_eq_true:=@decide_eq_true
theorem M8:type_of% @Nat.mul_le_mul_right:=@Nat.mul_le_mul_right
theorem Pj:type_of% @List.getElem?_toArray:=@List.getElem?_toArray
theorem Pk:type_of% @List.set_append_right:=@List.set_append_right
theorem MD:type_of% @List.ext_getElem?:=@List.ext_getElem?
theorem RQ:type_of% @Nat.eq_of_mul_eq_mul_right:=@Nat.eq_of_mul_eq_mul_right
theorem M9:type_of% @List.pairwise_cons:=@List.pairwise_cons
theorem RS:type_of% @List.mem_or_eq_of_mem_set:=@List.mem_or_eq_of_mem_set
theorem Sw:type_of% @List.take_append_of_le_length:=@List.take_append_of_le_length
theorem MG:type_of% @List.mem_flatMap:=@List.mem_flatMap
theorem Pd:type_of% @List.flatten_append:=@List.flatten_append
theorem Pe:type_of% @List.map_congr_left:=@List.map_congr_left
theorem Po:type_of% @List.getD_cons_zero:=@List.getD_cons_zero
theorem JT:type_of% @Bool.false_and:=@Bool.false_and
theorem sF:type_of% @Ne.symm:=@Ne.symm
theorem JH:type_of% @List.map_cons:=@List.map_cons
theorem H7:type_of% @List.map_map:=@List.map_map
theorem Na:type_of% @List.take_length:=@List.take_length
theorem Pp:type_of% @Bool.not_eq_true':=@Bool.not_eq_true'
theorem Vl:type_of% @Array.toList_eraseIdxIfInBounds:=@Array.toList_eraseIdxIfInBounds
theorem M4:type_of% @List.nodup_cons:=@List.nodup_cons
theorem JI:type_of% @Nat.sub_self:=@Nat.sub_self
theorem Qq:type_of% @List.getElem?_drop:=@List.getElem?_drop
theorem RT:type_of% @List.mem_iff_getElem:=@List.mem_iff_getElem
theorem Sy:type_of% @Nat.add_sub_cancel_left:=@Nat.add_sub_cancel_left
theorem JU:type_of% @Nat.le_trans:=@Nat.le_trans
theorem Pq:type_of% @List.cons.injEq:=@List.cons.injEq
theorem Sz:type_of% @Array.getElem?_eq_none:=@Array.getElem?_eq_none
theorem SA:type_of% @Go.ByteArray.toList_eq:=@Go.ByteArray.toList_eq
theorem Vm:type_of% @List.length_eraseIdx_of_lt:=@List.length_eraseIdx_of_lt
theorem Qr:type_of% @Nat.le_of_not_lt:=@Nat.le_of_not_lt
theorem Qs:type_of% @Array.toList_map:=@Array.toList_map
theorem Sv:type_of% @List.perm_append_comm:=@List.perm_append_comm
theorem MH:type_of% @Nat.zero_mul:=@Nat.zero_mul
theorem RU:type_of% @List.mem_cons_self:=@List.mem_cons_self
theorem Pr:type_of% @List.drop_zero:=@List.drop_zero
theorem JV:type_of% @Nat.mul_one:=@Nat.mul_one
theorem RW:type_of% @List.flatMap_cons:=@List.flatMap_cons
theorem Nb:type_of% @getElem!_pos:=@getElem!_pos
theorem SB:type_of% @List.flatMap_append:=@List.flatMap_append
theorem Vo:type_of% @List.pairwise_singleton:=@List.pairwise_singleton
theorem SC:type_of% @Nat.eq_zero_or_pos:=@Nat.eq_zero_or_pos
theorem vQ:type_of% @not_or:=@not_or
theorem Vk:type_of% @List.length_filter_le:=@List.length_filter_le
theorem Pt:type_of% @Nat.lt_or_ge:=@Nat.lt_or_ge
theorem RX:type_of% @List.take_left':=@List.take_left'
theorem Vp:type_of% @Array.getElem?_modify:=@Array.getElem?_modify
theorem Vq:type_of% @UInt8.lt_iff_toNat_lt:=@UInt8.lt_iff_toNat_lt
theorem Nc:type_of% @Int.le_refl:=@Int.le_refl
theorem SF:type_of% @Nat.lt_trichotomy:=@Nat.lt_trichotomy
theorem Qt:type_of% @List.map_take:=@List.map_take
theorem VO:type_of% @Array.toList_setIfInBounds:=@Array.toList_setIfInBounds
theorem VP:type_of% @List.getD_eq_getElem?_getD:=@List.getD_eq_getElem?_getD
theorem Vr:type_of% @Array.mem_toList_iff:=@Array.mem_toList_iff
theorem Vs:type_of% @List.getElem?_of_mem:=@List.getElem?_of_mem
theorem Vt:type_of% @Array.toList_append:=@Array.toList_append
theorem RY:type_of% @Prod.mk.injEq:=@Prod.mk.injEq
theorem SG:type_of% @Nat.min_eq_left:=@Nat.min_eq_left
theorem RZ:type_of% @List.map_drop:=@List.map_drop
theorem SI:type_of% @List.range_succ:=@List.range_succ
theorem Qu:type_of% @Nat.one_mul:=@Nat.one_mul
open Go.RowKit
inductive D where
 | any
 | sc (v:Value)
 | agg (cs:List D)
 | sl (k:Nat) (rows:List (List D))
 | cT (vs:List D)
 | ro (cs:List D)
 | ref (o off:Nat)
 | jN (o k i off:Nat)
 | cW (o k off len:Nat)
 | fn (f:FuncId) (caps:List D)
 | mp (o:Nat)
def Sh (w:World) (g n:Nat):Prop:= ∃ cur e,w.heap[g]? = some (.cells cur e (0,0))/\cur.size=n
mutual
def R (w:World) (st:Nat->Prop) (ρ:Nat->Option (Option Nat)):D->Value->Prop
 | .any,_=>True
 | .sc v,x=>x=v
 | .agg cs,x=> ∃ vs,x = .agg vs/\RL w st ρ cs vs.toList
 | .sl k rows,x=> ∃ a c,x = .slice a rows.length c/\rows.length<=c/\c<=maxLen/\(rows=[]\/∃ g off,a=some ⟨g,off,none⟩/\st g/\RR w st k g off rows)
 | .cT ds,x=> ∃ vs,x = .tuple vs/\RL w st ρ ds vs.toList
 | .ro cs,x=> ∃ g off,x = .pointer (some ⟨g,off,none⟩)/\st g/\RC w st g off cs
 | .ref o off,x=> ∃ g,ρ o=some (some g)/\x = .pointer (some ⟨g,off,none⟩)
 | .jN o k i off,x=> ∃ g,ρ o=some (some g)/\x = .pointer (some ⟨g,i*k+off,none⟩)
 | .cW o k off len,x=>(ρ o=some none/\off=0/\len=0/\∃ a,x = .slice a 0 0)\/
   (∃ g cap A,ρ o=some (some g)/\Sh w g (cap*k)/\off+len<=cap/\cap<=maxLen/\x = .slice A len (cap-off)/\(off<cap->A=some ⟨g,off*k,none⟩))
 | .fn f caps,x=> ∃ vs,x = .func (.func f) #[] vs/\RL w st ρ caps vs.toList
 | .mp o,x=> ∃ g,ρ o=some (some g)/\x = .map (some g)
def RL (w:World) (st:Nat->Prop) (ρ:Nat->Option (Option Nat)):List D->List Value->Prop
 | [],vs=>vs=[]
 | d::ds,vs=> ∃ v vs',vs=v::vs'/\R w st ρ d v/\RL w st ρ ds vs'
def RC (w:World) (st:Nat->Prop) (g off:Nat):List D->Prop
 | []=>True
 | c::cs=>(∃ v,w.cell? ⟨g,off,none⟩=some v/\v.oneCell'=true/\R w st (fun _=>none) c v)/\RC w st g (off+1) cs
def RR (w:World) (st:Nat->Prop) (k g off:Nat):List (List D)->Prop
 | []=>True
 | r::rs=>r.length=k/\RC w st g off r/\RR w st k g (off+k) rs
end
mutual
theorem R.mono {w w':World} {st st':Nat->Prop} (hc:∀ g off,st g->w'.cell? ⟨g,off,none⟩=w.cell? ⟨g,off,none⟩)
  (hs:∀ g n,Sh w g n->Sh w' g n) (hst:∀ g,st g->st' g) {ρ:Nat->Option (Option Nat)}:∀ {d:D} {v:Value},R w st ρ d v->R w' st' ρ d v
 | .any,_,_=>by simp[R]
 | .sc _,_,h=>by simpa[R] using h
 | .agg _,_,h=>by
   simp only[R] at h ⊢;obtain ⟨vs,h1,h2⟩:=h;exact ⟨vs,h1,RL.mono hc hs hst h2⟩
 | .sl _ _,_,h=>by
   simp only[R] at h ⊢;obtain ⟨a,c,h1,h2,h3,h4⟩:=h;refine ⟨a,c,h1,h2,h3,?_⟩;rcases h4 with h4|⟨g,off,h4,h5,h6⟩
   ·exact .inl h4
   ·exact .inr ⟨g,off,h4,hst _ h5,RR.mono hc hs hst (fun o=>hc g o h5) h6⟩
 | .cT _,_,h=>by
   simp only[R] at h ⊢;obtain ⟨vs,h1,h2⟩:=h;exact ⟨vs,h1,RL.mono hc hs hst h2⟩
 | .ro _,_,h=>by
   simp only[R] at h ⊢;obtain ⟨g,off,h1,h2,h3⟩:=h;exact ⟨g,off,h1,hst _ h2,RC.mono hc hs hst (fun o=>hc g o h2) h3⟩
 | .ref _ _,_,h=>by simpa[R] using h
 | .mp _,_,h=>by simpa[R] using h
 | .jN _ _ _ _,_,h=>by simpa[R] using h
 | .cW _ _ _ _,_,h=>by
   simp only[R] at h ⊢;rcases h with h|⟨g,cap,A,h1,h2,h3⟩
   ·exact .inl h
   ·exact .inr ⟨g,cap,A,h1,hs _ _ h2,h3⟩
 | .fn _ _,_,h=>by
   simp only[R] at h ⊢;obtain ⟨vs,h1,h2⟩:=h;exact ⟨vs,h1,RL.mono hc hs hst h2⟩
theorem RL.mono {w w':World} {st st':Nat->Prop} (hc:∀ g off,st g->w'.cell? ⟨g,off,none⟩=w.cell? ⟨g,off,none⟩)
  (hs:∀ g n,Sh w g n->Sh w' g n) (hst:∀ g,st g->st' g) {ρ:Nat->Option (Option Nat)}:∀ {ds:List D} {vs:List Value},RL w st ρ ds vs->RL w' st' ρ ds vs
 | [],_,h=>by simpa[RL] using h
 | _::_,_,h=>by
   simp only[RL] at h ⊢;obtain ⟨v,vs',h1,h2,h3⟩:=h;exact ⟨v,vs',h1,R.mono hc hs hst h2,RL.mono hc hs hst h3⟩
theorem RC.mono {w w':World} {st st':Nat->Prop} (hc:∀ g off,st g->w'.cell? ⟨g,off,none⟩=w.cell? ⟨g,off,none⟩)
  (hs:∀ g n,Sh w g n->Sh w' g n) (hst:∀ g,st g->st' g) {g:Nat} (hg:∀ off,w'.cell? ⟨g,off,none⟩=w.cell? ⟨g,off,none⟩):∀ {cs:List D} {off:Nat},RC w st g off cs->RC w' st' g off cs
 | [],_,_=>by simp[RC]
 | _::_,_,h=>by
   simp only[RC] at h ⊢;obtain ⟨⟨v,h1,h2,h3⟩,h4⟩:=h;exact ⟨⟨v,(hg _).trans h1,h2,R.mono hc hs hst h3⟩,RC.mono hc hs hst hg h4⟩
theorem RR.mono {w w':World} {st st':Nat->Prop} (hc:∀ g off,st g->w'.cell? ⟨g,off,none⟩=w.cell? ⟨g,off,none⟩)
  (hs:∀ g n,Sh w g n->Sh w' g n) (hst:∀ g,st g->st' g) {k g:Nat} (hg:∀ off,w'.cell? ⟨g,off,none⟩=w.cell? ⟨g,off,none⟩):∀ {rs:List (List D)} {off:Nat},RR w st k g off rs->RR w' st' k g off rs
 | [],_,_=>by simp[RR]
 | _::_,_,h=>by
   simp only[RR] at h ⊢;obtain ⟨h1,h2,h3⟩:=h;exact ⟨h1,RC.mono hc hs hst hg h2,RR.mono hc hs hst hg h3⟩
end
mutual
theorem R.lT {w:World} {st:Nat->Prop} {ρ:Nat->Option (Option Nat)}:∀ {d:D} {v:Value},R w st (fun _=>none) d v->R w st ρ d v
 | .any,_,_=>by simp[R]
 | .sc _,_,h=>by simpa[R] using h
 | .agg _,_,h=>by
   simp only[R] at h ⊢;obtain ⟨vs,h1,h2⟩:=h;exact ⟨vs,h1,RL.lT h2⟩
 | .sl _ _,_,h=>by simpa[R] using h
 | .cT _,_,h=>by
   simp only[R] at h ⊢;obtain ⟨vs,h1,h2⟩:=h;exact ⟨vs,h1,RL.lT h2⟩
 | .ro _,_,h=>by simpa[R] using h
 | .ref _ _,_,h=>by simp[R] at h
 | .mp _,_,h=>by simp[R] at h
 | .jN _ _ _ _,_,h=>by simp[R] at h
 | .cW _ _ _ _,_,h=>by simp[R] at h
 | .fn _ _,_,h=>by
   simp only[R] at h ⊢;obtain ⟨vs,h1,h2⟩:=h;exact ⟨vs,h1,RL.lT h2⟩
theorem RL.lT {w:World} {st:Nat->Prop} {ρ:Nat->Option (Option Nat)}:∀ {ds:List D} {vs:List Value},RL w st (fun _=>none) ds vs->RL w st ρ ds vs
 | [],_,h=>by simpa[RL] using h
 | _::_,_,h=>by
   simp only[RL] at h ⊢;obtain ⟨v,vs',h1,h2,h3⟩:=h;exact ⟨v,vs',h1,R.lT h2,RL.lT h3⟩
end
mutual
def kz (o:Nat):D->D
 | .ref o' off=>if o'=o then .any else .ref o' off
 | .mp o'=>if o'=o then .any else .mp o'
 | .jN o' k i off=>if o'=o then .any else .jN o' k i off
 | .cW o' k off len=>if o'=o then .any else .cW o' k off len
 | .agg cs=> .agg (og o cs)
 | .cT cs=> .cT (og o cs)
 | .fn f cs=> .fn f (og o cs)
 | .any=> .any
 | .sc v=> .sc v
 | .sl k rows=> .sl k rows
 | .ro cs=> .ro cs
def og (o:Nat):List D->List D
 | []=>[]
 | d::ds=>kz o d::og o ds
end
mutual
theorem R.kz {w:World} {st:Nat->Prop} {ρ ρ':Nat->Option (Option Nat)} {o:Nat} (h:∀ o',o'≠o->ρ' o'=ρ o'):∀ {d:D} {v:Value},R w st ρ d v->R w st ρ' (kz o d) v
 | .any,_,_=>by simp[eB.kz,R]
 | .sc _,_,hd=>by simpa[eB.kz,R] using hd
 | .agg _,_,hd=>by
   simp only[eB.kz,R] at hd ⊢;obtain ⟨vs,h1,h2⟩:=hd;exact ⟨vs,h1,RL.kz h h2⟩
 | .sl _ _,_,hd=>by simpa[eB.kz,R] using hd
 | .cT _,_,hd=>by
   simp only[eB.kz,R] at hd ⊢;obtain ⟨vs,h1,h2⟩:=hd;exact ⟨vs,h1,RL.kz h h2⟩
 | .ro _,_,hd=>by simpa[eB.kz,R] using hd
 | .ref o' _,_,hd=>by
   by_cases e:o'=o
   ·simp[eB.kz,e,R]
   ·simp only[eB.kz,e,R,jd] at hd ⊢;rw[h _ e];exact hd
 | .mp o',_,hd=>by
   by_cases e:o'=o
   ·simp[eB.kz,e,R]
   ·simp only[eB.kz,e,R,jd] at hd ⊢;rw[h _ e];exact hd
 | .jN o' _ _ _,_,hd=>by
   by_cases e:o'=o
   ·simp[eB.kz,e,R]
   ·simp only[eB.kz,e,R,jd] at hd ⊢;rw[h _ e];exact hd
 | .cW o' _ _ _,_,hd=>by
   by_cases e:o'=o
   ·simp[eB.kz,e,R]
   ·simp only[eB.kz,e,R,jd] at hd ⊢;rw[h _ e];exact hd
 | .fn _ _,_,hd=>by
   simp only[eB.kz,R] at hd ⊢;obtain ⟨vs,h1,h2⟩:=hd;exact ⟨vs,h1,RL.kz h h2⟩
theorem RL.kz {w:World} {st:Nat->Prop} {ρ ρ':Nat->Option (Option Nat)} {o:Nat} (h:∀ o',o'≠o->ρ' o'=ρ o'):∀ {ds:List D} {vs:List Value},RL w st ρ ds vs->RL w st ρ' (og o ds) vs
 | [],_,hd=>by simpa[og,RL] using hd
 | _::_,_,hd=>by
   simp only[og,RL] at hd ⊢;obtain ⟨v,vs',h1,h2,h3⟩:=hd;exact ⟨v,vs',h1,R.kz h h2,RL.kz h h3⟩
end
structure Nm where
 nm:Nat->Option (Option Nat)
 hid:Nat->Nat->Prop
instance:CoeFun Nm (fun _=>Nat->Option (Option Nat)):=⟨Nm.nm⟩
instance:Coe Nm (Nat->Option (Option Nat)):=⟨Nm.nm⟩
def YN:Nm:=⟨fun _=>none,fun _ _=>False⟩
def ow (ρ:Nm) (o g:Nat):Prop:=ρ o=some (some g)\/ρ.hid o g
structure Ext where
 qt:List Nat
 φ:World->(Nat->Prop)->(Nat->Option (Option Nat))->(Nat->Prop)->Nat->Prop
 lt:∀ {w st ρ hd g},φ w st ρ hd g->g<w.heap.size
 mono:∀ {w w':World} {st st':Nat->Prop} {ρ:Nat->Option (Option Nat)} {hd:Nat->Prop} {g:Nat},(∀ g off,st g->w'.cell? ⟨g,off,none⟩=w.cell? ⟨g,off,none⟩)->(∀ g n,Sh w g n->Sh w' g n)->(∀ g,st g->st' g)->w'.heap[g]? = w.heap[g]? ->(∀ b,hd b->w'.heap[b]? = w.heap[b]?)->φ w st ρ hd g->φ w' st' ρ hd g
 loc:∀ {w st ρ ρ' hd g},(∀ o,o∈qt->ρ' o=ρ o)->φ w st ρ hd g->φ w st ρ' hd g
def Pu:Ext where
 qt:=[]
 φ:=fun w _ _ _ g=>g<w.heap.size
 lt:=fun h=>h
 mono:=fun _ _ _ hb _ h=>by
  have h1:=Pf h;rw[<- hb] at h1;exact (zQ.1 h1).1
 loc:=fun _ h=>h
inductive Obj where
 | dead
 | row (k:Nat) (rows:List (List D))
 | box (cs:List D)
 | ext (e:Ext)
structure Pm where
 rd:Nat->Prop
 own:Nat->Prop
 kf:Nat->Option (Option Nat)
def iP (o:Nat):List Nat->Bool
 | []=>false
 | p::l=>if p=o then true else iP o l
theorem lU {o:Nat}:∀ {l:List Nat},iP o l=true↔o∈l
 | []=>by simp[iP]
 | p::l=>by
   by_cases e:p=o
   ·simp[iP,e]
   ·simp[iP,e,lU,sF e]
def Obj.kz (o:Nat):Obj->Obj
 | .box cs=> .box (og o cs)
 | .ext e=>cond (iP o e.qt) (.ext Pu) (.ext e)
 | x=>x
def az:List (Nat×Obj)->Nat->Obj
 | [],_=> .dead
 | (p,x)::h,o=>if p=o then x else az h o
def aG:List (Nat×Obj)->Nat->Obj->List (Nat×Obj)
 | [],_,_=>[]
 | (p,x)::h,o,y=>if p=o then (p,y)::h else (p,x)::aG h o y
def ec:List (Nat×Obj)->Nat->Bool
 | [],_=>false
 | (p,_)::h,o=>if p=o then true else ec h o
def hfree (h:List (Nat×Obj)) (o:Nat):Bool:=ec h o&&decide (o<1000)
theorem ep {h:List (Nat×Obj)} {o:Nat}:hfree h o=true↔ec h o=true/\o<1000:=by simp[hfree]
def rI (o:Nat):List (Nat×Obj)->List (Nat×Obj)
 | []=>[]
 | (p,x)::h=>(p,x.kz o)::rI o h
theorem aX:∀ {h:List (Nat×Obj)} {o:Nat} {y:Obj},ec h o=true->az (aG h o y) o=y
 | [],_,_,hh=>by simp[ec] at hh
 | (p,x)::h,o,y,hh=>by
   by_cases e:p=o
   ·simp[aG,az,e]
   ·simp only[ec,e,jd] at hh;simp[aG,az,e,aX hh]
theorem aM:∀ {h:List (Nat×Obj)} {o o':Nat} {y:Obj},o'≠o->az (aG h o y) o'=az h o'
 | [],_,_,_,_=>by simp[aG,az]
 | (p,x)::h,o,o',y,hne=>by
   by_cases e:p=o
   ·subst e;simp[aG,az,sF hne]
   ·by_cases e':p=o'
    ·subst e';simp[aG,az,e]
    ·simp[aG,az,e,e',aM hne]
theorem zT:∀ {h:List (Nat×Obj)} {o o':Nat},az (rI o h) o'=(az h o').kz o
 | [],_,_=>by simp[rI,az,Obj.kz]
 | (p,x)::h,o,o'=>by
   by_cases e:p=o'
   ·simp[rI,az,e]
   ·simp[rI,az,e,zT]
theorem kC:∀ {h:List (Nat×Obj)} {o o':Nat},ec (rI o h) o'=ec h o'
 | [],_,_=>by simp[rI,ec]
 | (p,x)::h,o,o'=>by simp[rI,ec,kC]
theorem cC:∀ {h:List (Nat×Obj)} {o:Nat},az h o≠ .dead->ec h o=true
 | [],_,hh=>by simp[az] at hh
 | (p,x)::h,o,hh=>by
   by_cases e:p=o
   ·simp[ec,e]
   ·simp only[az,e,jd] at hh;simp[ec,e,cC hh]
structure St where
 slots:List D
 heap:List (Nat×Obj)
def bO (p:Pm) (h:List (Nat×Obj)) (ρ:Nm) (w:World) (g:Nat):Prop:=p.rd g/\g<w.heap.size/\∀ o,az h o≠ .dead->¬ ow ρ o g
structure zU (cur:Array Value) (n:Nat):Prop where
 size:cur.size=n
 one:∀ v∈cur.toList,v.oneCell'=true
def RO (w:World) (st:Nat->Prop) (ρ:Nm) (o:Nat):Obj->Prop
 | .dead=>True
 | .row k rows=>match ρ o with
   | none=>False
   | some none=>rows=[]
   | some (some g)=> ∃ cur e cap,w.heap[g]? = some (.cells cur e (0,0))/\zU cur (cap*k)/\cap<=maxLen/\rows.length<=cap/\RR w st k g 0 rows
 | .box cs=> ∃ g cur e,ρ o=some (some g)/\w.heap[g]? = some (.cells cur e (0,0))/\RL w st ρ cs cur.toList
 | .ext e=> ∃ g,ρ o=some (some g)/\e.φ w st ρ (ρ.hid o) g
structure gL (own:Nat->Prop) (w0 w:World):Prop where
 os:w.os=w0.os
 tape:w.tape=w0.tape
 output:w.output=w0.output
 size:w0.heap.size<=w.heap.size
 block:∀ k,k<w0.heap.size->¬ own k->w.heap[k]? = w0.heap[k]?
 VQ:∀ g n,Sh w0 g n->Sh w g n
theorem gL.refl (own:Nat->Prop) (w:World):gL own w w:=⟨rfl,rfl,rfl,iU _,fun _ _ _=>rfl,fun _ _ h=>h⟩
theorem Sh.lt {w:World} {g n:Nat} (hs:Sh w g n):g<w.heap.size:=by
 obtain ⟨cur,e,h1,h2⟩:=hs;exact (zQ.1 h1).1
theorem gL.trans {own E9:Nat->Prop} {a b c:World} (h:gL own a b) (k:gL E9 b c) (ho:∀ g,g<a.heap.size->E9 g->own g):gL own a c:=
 ⟨k.os.trans h.os,k.tape.trans h.tape,k.output.trans h.output,JU h.size k.size,fun i hi hn=>(k.block i (Ie hi h.size) (fun e=>hn (ho i hi e))).trans (h.block i hi hn),fun g n hs=>k.VQ g n (h.VQ g n hs)⟩
theorem gL.JW {own:Nat->Prop} {w w':World} (h:Below w.heap.size w w'):gL own w w':=
 ⟨h.os,h.tape,h.output,h.size,fun k hk _=>h.block k hk,fun g n hs=>by
  obtain ⟨cur,e,h1,h2⟩:=hs
  exact ⟨cur,e,(h.block g (zQ.1 h1).1).trans h1,h2⟩⟩
structure aU (w0:World) (p:Pm) (σ:St) (a:Act) (w:World) (ρ:Nm):Prop where
 open_: ∀ g,(w0.heap.size≤g∨p.own g)→p.rd g
 defers:a.defers=[]
 slots:RL w (bO p σ.heap ρ w) ρ σ.slots a.tmps.toList
 objs:∀ o,RO w (bO p σ.heap ρ w) ρ o (az σ.heap o)
 inj:∀ o o' g,az σ.heap o≠ .dead->az σ.heap o'≠ .dead->ow ρ o g->ow ρ o' g->o=o'
 fresh:∀ o g,az σ.heap o≠ .dead->ow ρ o g->w0.heap.size<=g\/p.own g
 hlt:∀ o g,az σ.heap o≠ .dead->ρ.hid o g->g<w.heap.size
 below:gL p.own w0 w
 kf:∀ o,1000<=o->ρ o=p.kf o
def Rel (w0:World) (p:Pm) (σ:St) (a:Act) (w:World):Prop:= ∃ ρ,aU w0 p σ a w ρ
def ay (P:Program) (c:Code) (Q:Exit->St->Prop) (σ:St):Prop:=
 ∀ w0 p a w,Rel w0 p σ a w->c.wp P (fun e a' w'=> ∃ σ',Q e σ'/\Rel w0 p σ' a' w') a w
section
variable {P:Program} {Q:Exit->St->Prop} {σ:St}
theorem ay.mono {c:Code} {Q':Exit->St->Prop} (h:ay P c Q σ) (hq:∀ e σ',Q e σ'->Q' e σ'):ay P c Q' σ:=
 fun w0 p a w hr=>Code.wp_mono (fun _ _ _ ⟨σ',h1,h2⟩=>⟨σ',hq _ _ h1,h2⟩) (h w0 p a w hr)
def GY (P:Program) (y:Code) (Q:Exit->St->Prop):Exit->St->Prop
 | .normal,σ=>ay P y Q σ
 | e,σ=>Q e σ
theorem ay.seq {x y:Code} (h:ay P x (GY P y Q) σ):ay P (x.seq y) Q σ:=by
 intro w0 p a w hr;refine wp_seq (Code.wp_mono ?_ (h w0 p a w hr));rintro e a' w' ⟨σ',h1,h2⟩;cases e<;>first|exact h1 w0 p a' w' h2|exact ⟨σ',h1,h2⟩
def nC (id:Nat) (Q:Exit->St->Prop):Exit->St->Prop
 | .exit id',σ=>if id'=id then Q .normal σ else Q (.exit id') σ
 | e,σ=>Q e σ
theorem ay.block {id:Nat} {c:Code} (h:ay P c (nC id Q) σ):ay P (.block id c) Q σ:=by
 intro w0 p a w hr;refine wp_block (Code.wp_mono ?_ (h w0 p a w hr));rintro e a' w' ⟨σ',h1,h2⟩;cases e with
 | exit id'=>
   simp only[nC] at h1;simp only[Exit.inBlock]
   split<;>rename_i hid<;>simp only[hid,jg,jd] at h1<;>exact ⟨σ',h1,h2⟩
 | _=>exact ⟨σ',h1,h2⟩
theorem ay.skip (h:Q .normal σ):ay P .skip Q σ:=fun _ _ _ _ hr=>wp_skip ⟨σ,h,hr⟩
theorem ay.ret (h:Q .ret σ):ay P .ret Q σ:=fun _ _ _ _ hr=>wp_ret ⟨σ,h,hr⟩
theorem ay.exit {id:Nat} (h:Q (.exit id) σ):ay P (.exit id) Q σ:=fun _ _ _ _ hr=>wp_exit ⟨σ,h,hr⟩
theorem ay.loop {τ:Type} {c:Code} (f:τ->St) (I:τ->Prop) (μ:τ->Nat) (t0:τ) (h0:I t0) (hσ:∀ w0 p a w,Rel w0 p σ a w->Rel w0 p (f t0) a w)
  (h:∀ t,I t->ay P c (fun e σ'=>match e with
   | .normal=> ∃ t',I t'/\μ t'<μ t/\∀ w0 p a w,Rel w0 p σ' a w->Rel w0 p (f t') a w
   | e=>Q e σ') (f t)):ay P (.loop c) Q σ:=by
 intro w0 p a w hr
 have key:∀ n,∀ t,I t->μ t=n->∀ a w,Rel w0 p (f t) a w->(Code.loop c).wp P (fun e a' w'=> ∃ σ',Q e σ'/\Rel w0 p σ' a' w') a w:=by
  intro n t hI hn a w hr;refine wp_loop (fun a' w'=> ∃ t',I t'/\μ t'<=n/\Rel w0 p (f t') a' w') (fun a' w'=> @Classical.epsilon Nat ⟨0⟩ fun m=>(∃ t',I t'/\μ t'=m/\Rel w0 p (f t') a' w')/\∀ t',I t'->Rel w0 p (f t') a' w'->m<=μ t') ⟨t,hI,by omega,hr⟩ ?_
  rintro a1 w1 ⟨t1,Yc,MJ,vR⟩
    -- the least index that fits
  have hex:∃ m,(∃ t',I t'/\μ t'=m/\Rel w0 p (f t') a1 w1)/\∀ t',I t'->Rel w0 p (f t') a1 w1->m<=μ t':=by
   have:∀ m,∀ t',I t'->μ t'=m->Rel w0 p (f t') a1 w1->∃ m,(∃ t',I t'/\μ t'=m/\Rel w0 p (f t') a1 w1)/\∀ t',I t'->Rel w0 p (f t') a1 w1->m<=μ t':=by
    intro m
    induction m using Nat.strongRecOn with
    | _ m ih=>
      intro t' h1 h2 h3;by_cases hl:∃ t'',I t''/\Rel w0 p (f t'') a1 w1/\μ t''<m
      ·obtain ⟨t'',g1,g2,g3⟩:=hl;exact ih _ g3 t'' g1 rfl g2
      ·exact ⟨m,⟨t',h1,h2,h3⟩,fun t'' g1 g2=>Qr fun g3=>hl ⟨t'',g1,g2,g3⟩⟩
   exact this _ t1 Yc rfl vR
  have hsp:= @Classical.epsilon_spec Nat _ hex;obtain ⟨⟨t2,YO,hm2,MK⟩,hmin⟩:=hsp;refine Code.wp_mono ?_ (h t2 YO w0 p a1 w1 MK);rintro e a2 w2 ⟨σ2,hq,VR⟩;cases e with
  | normal=>
    obtain ⟨t3,VS,hlt,himp⟩:=hq;have Vu:=himp w0 p a2 w2 VR;have Yd:=hmin t1 Yc vR;refine ⟨⟨t3,VS,by omega,Vu⟩,?_⟩
    have VT:∃ m,(∃ t',I t'/\μ t'=m/\Rel w0 p (f t') a2 w2)/\∀ t',I t'->Rel w0 p (f t') a2 w2->m<=μ t':=by
     have:∀ m,∀ t',I t'->μ t'=m->Rel w0 p (f t') a2 w2->∃ m,(∃ t',I t'/\μ t'=m/\Rel w0 p (f t') a2 w2)/\∀ t',I t'->Rel w0 p (f t') a2 w2->m<=μ t':=by
      intro m
      induction m using Nat.strongRecOn with
      | _ m ih=>
        intro t' h1 h2 h3;by_cases hl:∃ t'',I t''/\Rel w0 p (f t'') a2 w2/\μ t''<m
        ·obtain ⟨t'',g1,g2,g3⟩:=hl;exact ih _ g3 t'' g1 rfl g2
        ·exact ⟨m,⟨t',h1,h2,h3⟩,fun t'' g1 g2=>Qr fun g3=>hl ⟨t'',g1,g2,g3⟩⟩
     exact this _ t3 VS rfl Vu
    have VU:= @Classical.epsilon_spec Nat _ VT;have hle:=VU.2 t3 VS Vu;rw[hm2] at hlt;exact Nat.lt_of_le_of_lt hle hlt
  | _=>exact ⟨σ2,hq,VR⟩
 exact key _ t0 h0 rfl a w (hσ w0 p a w hr)
end
def aQ (P:Program) {α:Type}:Sem α->Option α
 | .pure a=>some a
 | .program k=>aQ P (k P)
 | .mark _ k=>aQ P k
 | _=>none
theorem fA {P:Program} {α:Type} {a:α}:∀ {s:Sem α} (w:World),aQ P s=some a->s.run P w = .ok a w
 | .pure _,_,h=>by simp only[aQ,gC] at h;subst h;rfl
 | .program k,w,h=>by simp only[aQ] at h;exact fA (s:=k P) w h
 | .mark _ k,w,h=>by simp only[aQ] at h;exact fA (s:=k) w h
 | .load ..,_,h | .store ..,_,h | .new ..,_,h | .shape ..,_,h | .freeze ..,_,h | .frozen ..,_,h | .getObj ..,_,h | .setObj ..,_,h
 | .choose ..,_,h | .sys ..,_,h | .halt ..,_,h=>by simp[aQ] at h
theorem bk {P:Program} {α β:Type} (x:Sem α) (f:α->Sem β):aQ P (x >>= f)=(aQ P x).bind fun a=>aQ P (f a):=by
 show aQ P (x.bind f)=_
 induction x with
 | pure a=>rfl
 | program k ih=>exact ih P
 | mark m k ih=>exact ih
 | _=>rfl
inductive TK where
 | bool|int (k:IntKind)|string|slice (e:TypeId)|struct (fs:List (Nat×TypeId))|array (n:Nat) (e:TypeId)|ptr (e:TypeId)|map (k e:TypeId)|func|other
structure TI where
 size:Nat
 bytes:Nat
 zero:Value
 kind:TK
def nD:TypeDesc->TK
 | .bool=> .bool | .int k=> .int k | .string=> .string | .slice e=> .slice e | .struct fs=> .struct (fs.toList.map fun f=>(f.offset,f.type))
 | .array n e=> .array n e | .pointer e=> .ptr e | .map k e=> .map k e | .func .. => .func|_=> .other
def aA (P:Program) (t:TypeId):Option TI:=
 match P.info? t,P.underlying t with
 | some i,some d=>match i.zero with
   | some z=>some { size:=i.size,bytes:=i.bytes,zero:=z,kind:=nD d }
   | none=>none
 | _,_=>none
def TK.isAgg:TK->Bool
 | .struct _ | .array .. =>true
 | _=>false
theorem cr {P:Program} {t:TypeId} {ti:TI} (h:aA P t=some ti):
  ∃ i d,P.info? t=some i/\P.underlying t=some d/\i.size=ti.size/\i.bytes=ti.bytes/\i.zero=some ti.zero/\nD d=ti.kind:=by
 unfold aA at h
 split at h
 ·rename_i i d hi hd
  split at h
  ·rename_i z hz;simp only[gC] at h;subst h;exact ⟨i,d,hi,hd,rfl,rfl,hz,rfl⟩
  ·cases h
 ·cases h
theorem ej {P:Program} {t:TypeId} {ti:TI} (h:aA P t=some ti) (w:World):
  (∃ d,(underlying t).run P w = .ok d w/\nD d=ti.kind)/\(sizeOf t).run P w = .ok ti.size w/\(∃ i,(typeInfo t).run P w = .ok i w/\i.bytes=ti.bytes/\i.size=ti.size/\i.zero=some ti.zero)/\
   (zeroValue t).run P w = .ok ti.zero w/\(isAgg t).run P w = .ok ti.kind.isAgg w:=by
 obtain ⟨i,d,h1,h2,h3,h4,h5,h6⟩:=cr h;have hu:=run_underlying (P:=P) h2 w;refine ⟨⟨d,hu,h6⟩,?_,⟨i,?_,h4,h3,h5⟩,?_,?_⟩
 ·simp[sizeOf,typeInfo,h1,h3]
 ·simp[typeInfo,h1]
 ·simp[zeroValue,typeInfo,h1,h5]
 ·rw[<- h6];simp only[isAgg,Sem.run_bind,hu,Result.andThen_ok];cases d<;>rfl
mutual
def oh:D->Option Value
 | .sc v=>some v
 | .agg cs=>(nE cs).map fun l=> .agg l.toArray
 | _=>none
def nE:List D->Option (List Value)
 | []=>some []
 | d::ds=>(oh d).bind fun v=>(nE ds).map fun l=>v::l
end
mutual
theorem fW {w:World} {st:Nat->Prop} {ρ:Nat->Option (Option Nat)}:∀ {d:D} {v x:Value},oh d=some v->R w st ρ d x->x=v
 | .sc u,v,x,h,hr=>by
   simp only[oh,gC] at h;simp only[R] at hr;rw[hr,h]
 | .agg cs,v,x,h,hr=>by
   simp only[oh,ku] at h;obtain ⟨l,h1,h2⟩:=h;simp only[R] at hr;obtain ⟨vs,h3,h4⟩:=hr;have:=wU h1 h4;rw[h3, <- h2, <- this]
 | .any,_,_,h,_ | .sl ..,_,_,h,_ | .cT ..,_,_,h,_ | .ro ..,_,_,h,_ | .ref ..,_,_,h,_ | .mp ..,_,_,h,_ | .jN ..,_,_,h,_ | .cW ..,_,_,h,_ | .fn ..,_,_,h,_=>by simp[oh] at h
theorem wU {w:World} {st:Nat->Prop} {ρ:Nat->Option (Option Nat)}:∀ {ds:List D} {l vs:List Value},nE ds=some l->RL w st ρ ds vs->vs=l
 | [],l,vs,h,hr=>by
   simp only[nE,gC] at h;simp only[RL] at hr;rw[hr,h]
 | d::ds,l,vs,h,hr=>by
   simp only[nE,j3,ku] at h;obtain ⟨v,h1,l',h2,h3⟩:=h;simp only[RL] at hr;obtain ⟨v',vs',h4,h5,h6⟩:=hr;rw[h4, <- h3,fW h1 h5,wU h2 h6]
end
def R1:Value->D
 | .agg cs=> .agg (cs.toList.map .sc)
 | v=> .sc v
theorem pU {w:World} {st:Nat->Prop} {ρ:Nat->Option (Option Nat)}:∀ (l:List Value),RL w st ρ (l.map .sc) l
 | []=>by simp[RL]
 | v::l=>by simp only[JH,RL];exact ⟨v,l,rfl,by simp[R],pU l⟩
theorem JX {w:World} {st:Nat->Prop} {ρ:Nat->Option (Option Nat)} (v:Value):R w st ρ (R1 v) v:=by
 cases v<;>simp only[R1,R];rename_i cs;exact ⟨cs,rfl,pU _⟩
def bh (σ:St):Operand->D
 | .tmp t=>σ.slots.getD t .any
 | .const v=>R1 v
 | .func f=> .fn f []
 | .global _=> .any
theorem dF {w:World} {st:Nat->Prop} {ρ:Nat->Option (Option Nat)}:∀ {ds:List D} {vs:List Value},RL w st ρ ds vs->vs.length=ds.length
 | [],_,h=>by simp only[RL] at h;simp[h]
 | _::_,_,h=>by
   simp only[RL] at h;obtain ⟨v,vs',h1,_,h3⟩:=h;simp[h1,dF h3]
theorem pV {w:World} {st:Nat->Prop} {ρ:Nat->Option (Option Nat)}:∀ {ds:List D} {vs:List Value} {i:Nat} {d:D},RL w st ρ ds vs->ds[i]? = some d->∃ v,vs[i]? = some v/\R w st ρ d v
 | [],_,_,_,_,h=>by simp at h
 | d::ds,vs,i,x,hr,h=>by
   simp only[RL] at hr;obtain ⟨v,vs',h1,h2,h3⟩:=hr;subst h1;cases i with
   | zero=>simp only[List.getElem?_cons_zero,gC] at h;subst h;exact ⟨v,by simp,h2⟩
   | succ i=>simp only[List.getElem?_cons_succ] at h ⊢;exact pV h3 h
theorem Fa {w:World} {st:Nat->Prop} {ρ:Nat->Option (Option Nat)}:∀ {ds:List D} {vs:List Value} {i:Nat} {d:D} {v:Value},RL w st ρ ds vs->R w st ρ d v->RL w st ρ (ds.set i d) (vs.set i v)
 | [],_,_,_,_,h,_=>by simp only[RL] at h;simp[RL,h]
 | _::_,vs,i,x,u,hr,h=>by
   simp only[RL] at hr;obtain ⟨v,vs',h1,h2,h3⟩:=hr;subst h1;cases i with
   | zero=>simp only[List.set_cons_zero,RL];exact ⟨u,vs',rfl,h,h3⟩
   | succ i=>simp only[List.set_cons_succ,RL];exact ⟨v,_,rfl,h2,Fa h3 h⟩
theorem iG {w:World} {st:Nat->Prop} {ρ:Nat->Option (Option Nat)}:∀ {ds es:List D} {vs us:List Value},RL w st ρ ds vs->RL w st ρ es us->RL w st ρ (ds++es) (vs++us)
 | [],_,_,_,h,h'=>by simp only[RL] at h;subst h;simpa using h'
 | _::_,_,_,_,h,h'=>by
   simp only[RL] at h;obtain ⟨v,vs',h1,h2,h3⟩:=h;subst h1;simp only[List.cons_append,RL];exact ⟨v,_,rfl,h2,iG h3 h'⟩
theorem qu {w:World} {st:Nat->Prop} {ρ:Nat->Option (Option Nat)}:∀ {ds:List D} {vs:List Value} (n:Nat),RL w st ρ ds vs->RL w st ρ (ds.drop n) (vs.drop n)
 | [],_,n,h=>by simp only[RL] at h;simp[RL,h]
 | _::_,_,0,h=>by simpa using h
 | _::_,_,n+1,h=>by
   simp only[RL] at h;obtain ⟨v,vs',h1,h2,h3⟩:=h;subst h1;simpa using qu n h3
theorem mP {w:World} {st:Nat->Prop} {ρ:Nat->Option (Option Nat)}:∀ {ds:List D} {vs:List Value} (n:Nat),RL w st ρ ds vs->RL w st ρ (ds.take n) (vs.take n)
 | [],_,n,h=>by simp only[RL] at h;simp[RL,h]
 | _::_,_,0,h=>by simp[RL]
 | _::_,_,n+1,h=>by
   simp only[RL] at h;obtain ⟨v,vs',h1,h2,h3⟩:=h;subst h1;simp only[List.take_succ_cons,RL];exact ⟨v,_,rfl,h2,mP n h3⟩
theorem aU.bh {w0:World} {p:Pm} {σ:St} {a:Act} {w:World} {ρ:Nm} (h:aU w0 p σ a w ρ) (x:Operand):R w (bO p σ.heap ρ w) ρ (bh σ x) (a.eval x):=by
 cases x with
 | tmp t=>
   simp only[eB.bh,Act.eval];cases hd:σ.slots[t]? with
   | none=>simp[List.getD,hd,R]
   | some d=>
     obtain ⟨v,h1,h2⟩:=pV h.slots hd
     have hv:a.tmps.getD t undef=v:=by
      rw[oe] at h1;simp[Array.getD_eq_getD_getElem?,h1]
     simp only[List.getD,hd,Option.getD_some,hv];exact h2
 | const v=>exact JX v
 | global g=>simp[eB.bh,R]
 | func f=>simp only[eB.bh,R,Act.eval];exact ⟨#[],rfl,by simp[RL]⟩
def St.put (σ:St) (dst:Option Nat) (d:D):St:=
 match dst with
 | some t=>{ σ with slots:=σ.slots.set t d }
 | none=>σ
theorem aU.put {w0:World} {p:Pm} {σ:St} {a:Act} {w:World} {ρ:Nm} (h:aU w0 p σ a w ρ) (dst:Option Nat) {d:D} {v:Value} (hd:R w (bO p σ.heap ρ w) ρ d v):
  aU w0 p (σ.put dst d) (a.put dst v) w ρ:=by
 cases dst with
 | none=>exact h
 | some t=>
   refine ⟨h.open_,h.defers,?_,h.objs,h.inj,h.fresh,h.hlt,h.below,h.kf⟩;simp only[St.put,Act.put,VO];exact Fa h.slots hd
def Sound (P:Program) (σ:St) (op:Op) (d:D):Prop:=
 ∀ (w0:World) (p:Pm) (a:Act) (w:World) (ρ:Nm) (o:Oper),o.op=op->aU w0 p σ a w ρ->
   ∃ v,(execOp a.eval o).run P w = .ok (.value v) w/\R w (bO p σ.heap ρ w) ρ d v
section
variable {P:Program} {σ:St}
theorem Sound.move (x:Operand):Sound P σ (.move x) (bh σ x):=by
 intro w0 p a w ρ o ho h;exact ⟨a.eval x,by simp[execOp,ho],h.bh x⟩
theorem Sound.assign (x:Operand):Sound P σ (.assign x) (bh σ x):=by
 intro w0 p a w ρ o ho h;exact ⟨a.eval x,by simp[execOp,ho],h.bh x⟩
theorem Sound.pick (c x y:Operand) (b:Bool) (hc:bh σ c = .sc (.bool b)):Sound P σ (.pick c x y) (if b then bh σ x else bh σ y):=by
 intro w0 p a w ρ o ho h;have h1:=h.bh c;rw[hc] at h1;simp only[R] at h1;refine ⟨if b then a.eval x else a.eval y,by simp[execOp,ho,h1,asBool],?_⟩;cases b
 ·exact h.bh y
 ·exact h.bh x
theorem Sound.extract (x:Operand) (i:Nat) (ds:List D) (d:D) (hx:bh σ x = .cT ds) (hd:ds[i]? = some d):Sound P σ (.extract x i) d:=by
 intro w0 p a w ρ o ho h;have h1:=h.bh x;rw[hx] at h1;simp only[R] at h1;obtain ⟨vs,h2,h3⟩:=h1;obtain ⟨v,h4,h5⟩:=pV h3 hd;have h6:vs[i]? = some v:=by rw[<- oe];exact h4
 exact ⟨v,by simp[execOp,ho,h2,Instr.extract,h6],h5⟩
theorem Sound.binOp (op:BinOp) (t ty:TypeId) (x y:Operand) (u v z:Value) (hx:oh (bh σ x)=some u) (hy:oh (bh σ y)=some v)
  (hz:aQ P (do eqGuard op t x y u v;binOp op t u v)=some z):Sound P σ (.binOp op t x y ty) (.sc z):=by
 intro w0 p a w ρ o ho h;have h1:=fW hx (h.bh x);have h2:=fW hy (h.bh y);have h3:=fA w hz;refine ⟨z,?_,by simp[R]⟩;simp only[execOp,ho,h1,h2,Sem.run_bind,Sem.run_pure] at h3 ⊢;rw[h3];rfl
theorem Sound.unOp (op:UnOp) (t:TypeId) (x:Operand) (u z:Value) (hx:oh (bh σ x)=some u) (hz:aQ P (Op.unary op u)=some z):Sound P σ (.unOp op t x) (.sc z):=by
 intro w0 p a w ρ o ho h;have h1:=fW hx (h.bh x);have h3:=fA w hz;refine ⟨z,?_,by simp[R]⟩;simp only[execOp,ho,h1,Sem.run_bind,Sem.run_pure];rw[h3];rfl
theorem Sound.convert (s t:TypeId) (x:Operand) (u z:Value) (hx:oh (bh σ x)=some u) (hz:aQ P (Go.convert s t u)=some z):Sound P σ (.convert s t x) (.sc z):=by
 intro w0 p a w ρ o ho h;have h1:=fW hx (h.bh x);have h3:=fA w hz;refine ⟨z,?_,by simp[R]⟩;simp only[execOp,ho,h1,Sem.run_bind,Sem.run_pure];rw[h3];rfl
theorem Sound.index (t:TypeId) (x i:Operand) (u v z:Value) (hx:oh (bh σ x)=some u) (hy:oh (bh σ i)=some v) (hz:aQ P (Instr.index t u v)=some z):
  Sound P σ (.index t x i) (.sc z):=by
 intro w0 p a w ρ o ho h;have h1:=fW hx (h.bh x);have h2:=fW hy (h.bh i);have h3:=fA w hz;refine ⟨z,?_,by simp[R]⟩;simp only[execOp,ho,h1,h2,Sem.run_bind,Sem.run_pure];rw[h3];rfl
def TK.fields:TK->List (Nat×TypeId)
 | .struct fs=>fs
 | _=>[]
theorem qv {d:TypeDesc} {fs:List (Nat×TypeId)} (h:nD d = .struct fs):∃ F,d = .struct F/\F.toList.map (fun f=>(f.offset,f.type))=fs:=by
 cases d<;>simp[nD] at h;exact ⟨_,rfl,h⟩
theorem iY {d:TypeDesc} {e:TypeId} (h:nD d = .slice e):d = .slice e:=by
 cases d<;>simp[nD] at h;subst h;rfl
theorem wV {F:Array Field} {fs:List (Nat×TypeId)} {i off:Nat} {ft:TypeId} (h:F.toList.map (fun f=>(f.offset,f.type))=fs) (hi:fs[i]? = some (off,ft)):
  ∃ f,F[i]? = some f/\f.offset=off/\f.type=ft:=by
 subst h;rw[wR,ku] at hi;obtain ⟨f,h1,h2⟩:=hi;simp only[RY] at h2;exact ⟨f,by rw[<- oe];exact h1,h2.1,h2.2⟩
def ML (agg:Bool) (cs:List D):Option D:=if agg then some (.agg cs) else match cs with|[c]=>some c|_=>none
theorem Sound.field (t:TypeId) (x:Operand) (i:Nat) (ti fi:TI) (cs:List D) (off:Nat) (ft:TypeId) (d:D) (ht:aA P t=some ti) (hi:ti.kind.fields[i]? = some (off,ft)) (hf:aA P ft=some fi)
  (hx:bh σ x = .agg cs) (hl:off+fi.size<=cs.length) (hd:ML fi.kind.isAgg ((cs.drop off).take fi.size)=some d):Sound P σ (.field t x i) d:=by
 intro w0 p a w ρ o ho h;have h1:=h.bh x;rw[hx] at h1;simp only[R] at h1;obtain ⟨vs,h2,h3⟩:=h1;obtain ⟨⟨dt,hu,hk⟩,_⟩:=ej ht w;cases hkk:ti.kind with
 | struct fs=>
   rw[hkk] at hk hi;obtain ⟨F,rfl,hF⟩:=qv hk;obtain ⟨f,pH,mK,R2⟩:=wV hF hi;obtain ⟨_,hsz,_,_,EM⟩:=ej hf w;have hlen:=dF h3;have hpart:=mP fi.size (qu off h3);unfold ML at hd;by_cases hA:fi.kind.isAgg=true
   ·rw[bC hA] at hd;simp only[gC] at hd;subst hd;refine ⟨.agg (vs.extract off (off+fi.size)),?_,?_⟩
    ·simp[execOp,ho,Instr.field,hu,pH,h2,asAgg,part,R2,EM,hA,hsz,mK]
    ·simp only[R];refine ⟨_,rfl,?_⟩
     have e:(vs.extract off (off+fi.size)).toList=(vs.toList.drop off).take fi.size:=by
      rw[Array.toList_extract,List.extract_eq_take_drop];congr 1;omega
     rw[e];exact hpart
   ·rw[aE hA] at hd;have Ij:fi.kind.isAgg=false:=by simpa using hA
    match hcs:(cs.drop off).take fi.size,hd with
    | [c],hd=>
      simp only[gC] at hd;subst hd;rw[hcs] at hpart;simp only[RL] at hpart;obtain ⟨v,vs',e1,e2,e3⟩:=hpart
      have hv:vs[off]? = some v:=by
       have:((vs.toList.drop off).take fi.size)[0]? = some v:=by rw[e1];rfl
       have hpos:0<fi.size:=by
        rcases SC fi.size with h0|h0
        ·rw[h0] at hcs;simp at hcs
        ·exact h0
       rw[EK hpos,Qq] at this;rw[<- oe];simpa using this
      exact ⟨v,by simp[execOp,ho,Instr.field,hu,pH,h2,asAgg,part,R2,EM,Ij,mK,hv],e2⟩
 | _=>rw[hkk] at hi;simp[TK.fields] at hi
def fX (σ:St):D->Option (List D)
 | .ro cs=>some cs
 | .ref o off=>match az σ.heap o with
   | .box cs=>some (cs.drop off)
   | _=>none
 | .jN o k i off=>match az σ.heap o with
   | .row k' rows=>if k=k' then (rows[i]?).map (·.drop off) else none
   | _=>none
 | _=>none
theorem wq {w:World} {st:Nat->Prop} {ρ:Nat->Option (Option Nat)} {g:Nat}:∀ {cs:List D} {off:Nat},RC w st g off cs->
  ∃ vs,RL w st ρ cs vs/\∀ j v,vs[j]? = some v->w.cell? ⟨g,off+j,none⟩=some v
 | [],_,_=>⟨[],by simp[RL],by simp⟩
 | c::cs,off,h=>by
   simp only[RC] at h;obtain ⟨⟨v,h1,_,h2⟩,h3⟩:=h;obtain ⟨vs,h4,h5⟩:=wq (ρ:=ρ) h3;refine ⟨v::vs,by simp only[RL];exact ⟨v,vs,rfl,R.lT h2,h4⟩,?_⟩;intro j u hj;cases j with
   | zero=>simp only[List.getElem?_cons_zero,gC] at hj;subst hj;exact h1
   | succ j=>simp only[List.getElem?_cons_succ] at hj;have:=h5 j u hj;rw[show off+(j+1)=off+1+j by omega];exact this
theorem sO {w:World} {st:Nat->Prop} {g:Nat}:∀ {cs:List D} {off:Nat} (n:Nat),RC w st g off cs->RC w st g (off+n) (cs.drop n)
 | [],_,n,_=>by simp[RC]
 | c::cs,off,0,h=>by simpa using h
 | c::cs,off,n+1,h=>by
   simp only[RC] at h;have:=sO n h.2;rw[show off+(n+1)=off+1+n by omega];simpa using this
theorem ug {w:World} {st:Nat->Prop} {k g:Nat}:∀ {rows:List (List D)} {off i:Nat} {r:List D},RR w st k g off rows->rows[i]? = some r->r.length=k/\RC w st g (off+i*k) r
 | [],_,_,_,_,h=>by simp at h
 | x::rows,off,0,r,hr,h=>by
   simp only[RR] at hr;simp only[List.getElem?_cons_zero,gC] at h;subst h;simpa using ⟨hr.1,hr.2.1⟩
 | x::rows,off,i+1,r,hr,h=>by
   simp only[RR] at hr;simp only[List.getElem?_cons_succ] at h;have:=ug hr.2.2 h;rw[show off+(i+1)*k=off+k+i*k by rw[sN];omega];exact this
theorem sP {w:World} {st:Nat->Prop} {k g:Nat}:∀ {rows:List (List D)} {off:Nat} (n:Nat),RR w st k g off rows->RR w st k g (off+n*k) (rows.drop n)
 | [],_,n,_=>by simp[RR]
 | x::rows,off,0,h=>by simpa using h
 | x::rows,off,n+1,h=>by
   simp only[RR] at h;have:=sP n h.2.2;rw[show off+(n+1)*k=off+k+n*k by rw[sN];omega];simpa using this
theorem om {w:World} {st:Nat->Prop} {k g:Nat}:∀ {rows:List (List D)} {off:Nat} (n:Nat),RR w st k g off rows->RR w st k g off (rows.take n)
 | [],_,n,_=>by simp[RR]
 | x::rows,off,0,h=>by simp[RR]
 | x::rows,off,n+1,h=>by
   simp only[RR] at h;simp only[List.take_succ_cons,RR];exact ⟨h.1,h.2.1,om n h.2.2⟩
theorem zV {w0:World} {p:Pm} {a:Act} {w:World} {ρ:Nm} (h:aU w0 p σ a w ρ) {d:D} {x:Value} {cs:List D} (hd:fX σ d=some cs) (hr:R w (bO p σ.heap ρ w) ρ d x):
  ∃ g off vs,x = .pointer (some ⟨g,off,none⟩)/\RL w (bO p σ.heap ρ w) ρ cs vs/\∀ j v,vs[j]? = some v->w.cell? ⟨g,off+j,none⟩=some v:=by
 cases d with
 | ro cs'=>
   simp only[fX,gC] at hd;subst hd;simp only[R] at hr;obtain ⟨g,off,h1,_,h3⟩:=hr;obtain ⟨vs,h4,h5⟩:=wq (ρ:=ρ) h3;exact ⟨g,off,vs,h1,h4,h5⟩
 | ref o off=>
   simp only[fX] at hd
   split at hd
   ·rename_i cs' hg;simp only[gC] at hd;subst hd;have hb:=h.objs o;rw[hg] at hb;simp only[RO] at hb;obtain ⟨g,cur,e,h1,h2,h3⟩:=hb;simp only[R] at hr;obtain ⟨g',h4,h5⟩:=hr;rw[h1] at h4;simp only[gC] at h4;subst h4;refine ⟨g,off,cur.toList.drop off,h5,qu off h3,fun j v hj=>?_⟩;rw[cell_of_row w g (off+j) cur e (0,0) h2, <- oe];rw[Qq] at hj;exact hj
   ·cases hd
 | jN o k i off=>
   simp only[fX] at hd
   split at hd
   ·rename_i k' rows hg
    split at hd
    ·rename_i hk;subst hk;rw[ku] at hd;obtain ⟨r,h1,h2⟩:=hd;subst h2;have hb:=h.objs o;rw[hg] at hb;simp only[R] at hr;obtain ⟨g',h4,h5⟩:=hr;simp only[RO,h4] at hb;obtain ⟨cur,e,cap,h6,_,_,_,h7⟩:=hb;have h8:=ug h7 h1;obtain ⟨vs,h9,YP⟩:=wq (ρ:=ρ) (sO off h8.2);refine ⟨g',i*k+off,vs,h5,h9,fun j v hj=>?_⟩;have:=YP j v hj;simpa[Nat.add_assoc] using this
    ·cases hd
   ·cases hd
 | any|sc|agg|sl|cT|cW|fn|mp=>simp[fX] at hd
theorem Sound.load (t:TypeId) (x:Operand) (ti:TI) (cs:List D) (d:D) (ht:aA P t=some ti) (hx:fX σ (bh σ x)=some cs) (hl:ti.size<=cs.length)
  (hd:ML ti.kind.isAgg (cs.take ti.size)=some d):Sound P σ (.load t x) d:=by
 intro w0 p a w ρ o ho h;obtain ⟨g,off,vs,h1,h2,h3⟩:=zV h hx (h.bh x);obtain ⟨_,hsz,_,_,EM⟩:=ej ht w;have hlen:=dF h2;have lD:=mP ti.size h2;unfold ML at hd;by_cases hA:ti.kind.isAgg=true
 ·rw[bC hA] at hd;simp only[gC] at hd;subst hd;have hlt:(vs.take ti.size).length=ti.size:=by rw[cw];omega
  have hrun:=run_loadCells_list (P:=P) w ⟨g,off,none⟩ (vs.take ti.size) (fun j v hj=>by
   rw[Addr.add_lit];rw[JG] at hj
   split at hj
   ·exact h3 j v hj
   ·cases hj)
  rw[hlt] at hrun;refine ⟨.agg (vs.take ti.size).toArray,?_,?_⟩
  ·simp[execOp,ho,Instr.loadAt,h1,Instr.sureAddr,loadVar,EM,hA,hsz,hrun]
  ·simp only[R];exact ⟨_,rfl,by simpa using lD⟩
 ·rw[aE hA] at hd;have Ij:ti.kind.isAgg=false:=by simpa using hA
  match hcs:cs.take ti.size,hd with
  | [c],hd=>
    simp only[gC] at hd;subst hd;rw[hcs] at lD;simp only[RL] at lD;obtain ⟨v,vs',e1,e2,e3⟩:=lD
    have hpos:0<ti.size:=by
     rcases SC ti.size with h0|h0
     ·rw[h0] at hcs;simp at hcs
     ·exact h0
    have hv:vs[0]? = some v:=by
     have:(vs.take ti.size)[0]? = some v:=by rw[e1];rfl
     rwa [EK hpos] at this
    have hc:=h3 0 v hv;simp only[Nat.add_zero] at hc;exact ⟨v,by simp[execOp,ho,Instr.loadAt,h1,Instr.sureAddr,loadVar,EM,Ij,hc],e2⟩
def jO (n:Nat):D->Option D
 | .ro cs=>if n<=cs.length then some (.ro (cs.drop n)) else none
 | .ref o off=>some (.ref o (off+n))
 | .jN o k i off=>some (.jN o k i (off+n))
 | _=>none
theorem Sound.fieldAddr (t:TypeId) (x:Operand) (i:Nat) (ti fi:TI) (off:Nat) (ft:TypeId) (d:D) (ht:aA P t=some ti) (hi:ti.kind.fields[i]? = some (off,ft)) (hf:aA P ft=some fi)
  (hn:fi.size≠0) (hd:jO off (bh σ x)=some d):Sound P σ (.fieldAddr t x i) d:=by
 intro w0 p a w ρ o ho h;have h1:=h.bh x;obtain ⟨⟨dt,hu,hk⟩,_⟩:=ej ht w;cases hkk:ti.kind with
 | struct fs=>
   rw[hkk] at hk hi;obtain ⟨F,rfl,hF⟩:=qv hk;obtain ⟨f,pH,mK,R2⟩:=wV hF hi;obtain ⟨_,hsz,_,_,_⟩:=ej hf w
   have key:∀ g q,a.eval x = .pointer (some ⟨g,q,none⟩)->(execOp a.eval o).run P w = .ok (.value (.pointer (some ⟨g,q+off,none⟩))) w:=by
    intro g q hp;simp[execOp,ho,Instr.fieldAt,hu,pH,hp,Instr.sureAddr,fieldPlace,R2,hsz,hn,mK,Addr.add_lit]
   cases hx:bh σ x with
   | ro cs=>
     rw[hx] at hd h1;simp only[jO] at hd
     split at hd
     ·simp only[gC] at hd;subst hd;simp only[R] at h1 ⊢;obtain ⟨g,q,e1,e2,e3⟩:=h1;exact ⟨_,key g q e1,g,q+off,rfl,e2,sO off e3⟩
     ·cases hd
   | ref o' q=>
     rw[hx] at hd h1;simp only[jO,gC] at hd;subst hd;simp only[R] at h1 ⊢;obtain ⟨g,e1,e2⟩:=h1;exact ⟨_,key g q e2,g,e1,rfl⟩
   | jN o' k j q=>
     rw[hx] at hd h1;simp only[jO,gC] at hd;subst hd;simp only[R] at h1 ⊢;obtain ⟨g,e1,e2⟩:=h1;exact ⟨_,key g _ e2,g,e1,by rw[Nat.add_assoc]⟩
   | any|sc|agg|sl|cT|cW|fn|mp=>rw[hx] at hd;simp[jO] at hd
 | _=>rw[hkk] at hi;simp[TK.fields] at hi
def TK.elem? :TK->Option TypeId
 | .slice e=>some e
 | _=>none
def qw (k:Nat) (n:Int):D->Option D
 | .sl k' rows=>if k'=k/\0<=n then (rows[n.toNat]?).map .ro else none
 | .cW o k' off len=>if k'=k/\0<=n/\n<len then some (.jN o k (off+n.toNat) 0) else none
 | _=>none
theorem Sound.indexAddr (t:TypeId) (x i:Operand) (ti ei:TI) (e:TypeId) (kd:IntKind) (n:Int) (d:D) (ht:aA P t=some ti) (hk:ti.kind.elem? = some e) (he:aA P e=some ei)
  (hi:bh σ i = .sc (.int kd n)) (hd:qw ei.size n (bh σ x)=some d):Sound P σ (.indexAddr t x i) d:=by
 intro w0 p a w ρ o ho h;have h1:=h.bh x;have h2:=h.bh i;rw[hi] at h2;simp only[R] at h2;obtain ⟨⟨dt,hu,zW⟩,_⟩:=ej ht w;obtain ⟨_,hsz,_⟩:=ej he w;cases hkk:ti.kind with
 | slice e'=>
   rw[hkk] at hk zW;simp only[TK.elem?,gC] at hk;subst hk;obtain rfl:=iY zW
   have key:∀ g q len c,a.eval x = .slice (some ⟨g,q,none⟩) len c->0<=n->n<len->(execOp a.eval o).run P w = .ok (.value (.pointer (some ⟨g,q+n.toNat*ei.size,none⟩))) w:=by
    intro g q len c hp hn0 MJ;simp[execOp,ho,Instr.indexAt,hu,h2,asIntOf,hp,hn0,MJ,hsz,Addr.add_lit]
   cases hx:bh σ x with
   | sl k' rows=>
     rw[hx] at hd h1;simp only[qw] at hd
     split at hd
     ·rename_i hc;obtain ⟨rfl,hn0⟩:=hc;rw[ku] at hd;obtain ⟨r,vR,MK⟩:=hd;subst MK;simp only[R] at h1;obtain ⟨a',c,e1,e2,e3,e4⟩:=h1;have hlt:n.toNat<rows.length:=(jM.1 vR).1;rcases e4 with e4|⟨g,q,e5,e6,e7⟩
      ·subst e4;simp at hlt
      ·subst e5;have:=ug e7 vR;refine ⟨_,key g q rows.length c e1 hn0 (by omega),?_⟩;simp only[R];exact ⟨g,_,rfl,e6,this.2⟩
     ·cases hd
   | cW o' k' off len=>
     rw[hx] at hd h1;simp only[qw] at hd
     split at hd
     ·rename_i hc;obtain ⟨rfl,hn0,MJ⟩:=hc;simp only[gC] at hd;subst hd;simp only[R] at h1;rcases h1 with ⟨_,_,hl,_⟩|⟨g,cap,A,e1,e2,e3,_,e4,e5⟩
      ·omega
      ·rw[e5 (by omega)] at e4;refine ⟨_,key g _ len _ e4 hn0 MJ,?_⟩;simp only[R];exact ⟨g,e1,by simp only[sN,Nat.add_zero]⟩
     ·cases hd
   | any|sc|agg|ro|ref|jN|cT|fn|mp=>rw[hx] at hd;simp[qw] at hd
 | _=>rw[hkk] at hk;simp[TK.elem?] at hk
end
section
variable {P:Program} {σ:St}
def yO (σ:St) (dflt:Nat):Option Operand->Option Nat
 | none=>some dflt
 | some y=>match bh σ y with
   | .sc (.int _ n)=>if 0<=n then some n.toNat else none
   | _=>none
theorem lV {w0:World} {p:Pm} {a:Act} {w:World} {ρ:Nm} (h:aU w0 p σ a w ρ) {dflt l:Nat} {y:Option Operand} (hb:yO σ dflt y=some l):
  (y=none/\l=dflt)\/∃ y' k,y=some y'/\a.eval y' = .int k (l:Int):=by
 cases y with
 | none=>simp only[yO,gC] at hb;exact .inl ⟨rfl,hb.symm⟩
 | some y=>
   simp only[yO] at hb
   split at hb
   ·rename_i k n hy
    split at hb
    ·rename_i hn;simp only[gC] at hb;have h1:=h.bh y;rw[hy] at h1;simp only[R] at h1;exact .inr ⟨y,k,rfl,by rw[h1];congr;omega⟩
    ·cases hb
   ·cases hb
theorem nh {w0:World} {p:Pm} {a:Act} {w:World} {ρ:Nm} (h:aU w0 p σ a w ρ) {t:TypeId} {ti ei:TI} {e:TypeId} (ht:aA P t=some ti) (hk:ti.kind.elem? = some e) (he:aA P e=some ei)
  {A:Option Addr} {len cap l hh:Nat} {lo hi:Option Operand} (hlo:yO σ 0 lo=some l) (hhi:yO σ len hi=some hh) (h1:l<=hh) (h2:hh<=len) (h3:len<=cap):
  (Instr.sliceAt t (.slice A len cap) (lo.map a.eval) (hi.map a.eval) none).run P w = .ok (.slice (if cap=l then A else A.map (·.add (l*ei.size))) (hh-l) (cap-l)) w:=by
 obtain ⟨⟨dt,hu,zW⟩,_⟩:=ej ht w;obtain ⟨_,hsz,_⟩:=ej he w;cases hkk:ti.kind with
 | slice e'=>
   rw[hkk] at hk zW;simp only[TK.elem?,gC] at hk;subst hk;obtain rfl:=iY zW;rcases lV h hlo with ⟨rfl,rfl⟩|⟨y,k,rfl,hy⟩<;>rcases lV h hhi with ⟨rfl,rfl⟩|⟨y',k',rfl,hy'⟩
   ·simp[Instr.sliceAt,hu,Instr.slice,Instr.sliceBounds,hsz]
   ·have hb:=run_sliceBound (P:=P) w k' (hh:Int) cap .sliceAcap (by omega) (by omega);simp[Instr.sliceAt,hu,Instr.slice,Instr.sliceBounds,hsz,hy',hb]
   ·have hb:=run_sliceBound (P:=P) w k (l:Int) hh .sliceB (by omega) (by omega);simp[Instr.sliceAt,hu,Instr.slice,Instr.sliceBounds,hsz,hy,hb]
   ·have hb:=run_sliceBound (P:=P) w k (l:Int) hh .sliceB (by omega) (by omega);have hb':=run_sliceBound (P:=P) w k' (hh:Int) cap .sliceAcap (by omega) (by omega);simp[Instr.sliceAt,hu,Instr.slice,Instr.sliceBounds,hsz,hy,hb,hy',hb']
 | _=>rw[hkk] at hk;simp[TK.elem?] at hk
def Ik (k l hh:Nat):D->Option D
 | .sl k' rows=>if k'=k/\l<=hh/\hh<=rows.length then some (.sl k ((rows.take hh).drop l)) else none
 | .cW o k' off len=>if k'=k/\l<=hh/\hh<=len then some (.cW o k (off+l) (hh-l)) else none
 | _=>none
def lW:D->Option Nat
 | .sl _ rows=>some rows.length
 | .cW _ _ _ len=>some len
 | _=>none
theorem Sound.slice (t:TypeId) (x:Operand) (lo hi:Option Operand) (ti ei:TI) (e:TypeId) (len l hh:Nat) (d:D) (ht:aA P t=some ti) (hk:ti.kind.elem? = some e) (he:aA P e=some ei)
  (hlen:lW (bh σ x)=some len) (hlo:yO σ 0 lo=some l) (hhi:yO σ len hi=some hh) (hd:Ik ei.size l hh (bh σ x)=some d):Sound P σ (.slice t x lo hi none) d:=by
 intro w0 p a w ρ o ho h;have h1:=h.bh x;cases hx:bh σ x with
 | sl k' rows=>
   rw[hx] at hd h1 hlen;simp only[Ik] at hd;simp only[lW,gC] at hlen
   split at hd
   ·rename_i hc;obtain ⟨rfl,c1,c2⟩:=hc;simp only[gC] at hd;subst hd;simp only[R] at h1;obtain ⟨A,c,e1,e2,e3,e4⟩:=h1;have hr:=nh h ht hk he (A:=A) (cap:=c) hlo hhi c1 (by omega) (by omega);rw[hlen] at e1;refine ⟨.slice (if c=l then A else A.map (·.add (l*ei.size))) (hh-l) (c-l),by simp[execOp,ho,e1,hr],?_⟩;simp only[R];have Qw:((rows.take hh).drop l).length=hh-l:=by rw[bQ,cw];omega
    refine ⟨(if c=l then A else A.map (·.add (l*ei.size))),c-l,by rw[Qw],by rw[Qw];omega,by omega,?_⟩
    ·by_cases hz:hh=l
     ·left;apply uc;rw[bQ,cw];omega
     ·right;rcases e4 with e4|⟨g,off,e5,e6,e7⟩
      ·subst e4;simp only[List.length_nil] at c2;omega
      ·subst e5;refine ⟨g,off+l*ei.size,?_,e6,sP l (om hh e7)⟩;rw[aE (by omega)];simp[Addr.add_lit]
   ·cases hd
 | cW o' k' off len'=>
   rw[hx] at hd h1 hlen;simp only[Ik] at hd;simp only[lW,gC] at hlen;subst hlen
   split at hd
   ·rename_i hc;obtain ⟨rfl,c1,c2⟩:=hc;simp only[gC] at hd;subst hd;simp only[R] at h1;rcases h1 with ⟨e1,e2,e3,A,e4⟩|⟨g,cap,A,e1,e2,e3,e4,e5,e6⟩
    ·subst e3;have hr:=nh h ht hk he (A:=A) (cap:=0) hlo hhi c1 (by omega) (by omega);refine ⟨.slice (if 0=l then A else A.map (·.add (l*ei.size))) (hh-l) (0-l),by simp[execOp,ho,e4,hr],?_⟩;simp only[R];obtain rfl:l=0:=by omega
     obtain rfl:hh=0:=by omega
     exact .inl ⟨e1,by omega,rfl,A,by rw[bC rfl]⟩
    ·have hr:=nh h ht hk he (A:=A) (cap:=cap-off) hlo hhi c1 (by omega) (by omega);refine ⟨.slice (if cap-off=l then A else A.map (·.add (l*ei.size))) (hh-l) (cap-off-l),by simp[execOp,ho,e5,hr],?_⟩;simp only[R];refine .inr ⟨g,cap,(if cap-off=l then A else A.map (·.add (l*ei.size))),e1,e2,by omega,e4,by rw[Nat.sub_sub],?_⟩
     ·intro hlt;rw[aE (by omega),e6 (by omega)];simp[Addr.add_lit,sN]
   ·cases hd
 | any|sc|agg|ro|ref|jN|cT|fn|mp=>rw[hx] at hd;simp[Ik] at hd
theorem Sound.makeFunc (f:FuncId) (caps:Array Operand):Sound P σ (.makeFunc (.func f) #[] caps) (.fn f (caps.toList.map (bh σ))):=by
 intro w0 p a w ρ o ho h;refine ⟨_,by simp[execOp,ho,Instr.makeFunc];rfl,?_⟩;simp only[R];refine ⟨_,rfl,?_⟩;rw[Qs]
 have:∀ l:List Operand,RL w (bO p σ.heap ρ w) ρ (l.map (bh σ)) (l.map a.eval):=by
  intro l
  induction l with
  | nil=>simp[RL]
  | cons x l ih=>simp only[JH,RL];exact ⟨_,_,rfl,h.bh x,ih⟩
 exact this _
theorem Sound.len (x:Operand) (t:TypeId) (ti:TI) (e:TypeId) (n:Nat) (ht:aA P t=some ti) (hk:ti.kind.elem? = some e) (hn:lW (bh σ x)=some n):
  Sound P σ (.call { callee:= .builtin .len,args:= #[x],argTypes:= #[t] }) (.sc (.int .i64 n)):=by
 intro w0 p a w ρ o ho h;have h1:=h.bh x;obtain ⟨⟨dt,hu,zW⟩,_⟩:=ej ht w
 have u0:∃ A c,a.eval x = .slice A n c:=by
  cases hx:bh σ x with
  | sl k rows=>
    rw[hx] at h1 hn;simp only[lW,gC] at hn;simp only[R] at h1;obtain ⟨A,c,e1,_⟩:=h1;exact ⟨A,c,by rw[e1,hn]⟩
  | cW o k off len=>
    rw[hx] at h1 hn;simp only[lW,gC] at hn;subst hn;simp only[R] at h1;rcases h1 with ⟨_,_,e3,A,e4⟩|⟨g,cap,A,_,_,_,_,e5,_⟩
    ·exact ⟨A,0,by rw[e4,e3]⟩
    ·exact ⟨A,_,e5⟩
  | any|sc|agg|ro|ref|jN|cT|fn|mp=>rw[hx] at hn;simp[lW] at hn
 obtain ⟨A,c,hA⟩:=u0;cases hkk:ti.kind with
 | slice e'=>
   rw[hkk] at zW;obtain rfl:=iY zW;exact ⟨.int .i64 n,by simp[execOp,ho,resolve,invoke,builtin,Builtin.len_,hu,hA,goInt],by simp[R]⟩
 | _=>rw[hkk] at hk;simp[TK.elem?] at hk
def u6 (b:Builtin) (ts:Array TypeId) (args:Array Value):Option (Sem Value):=
 match b with
 | .len=>some (Builtin.len_ ts 0 args)
 | .min=>some (Builtin.min_ ts 0 args)
 | .max=>some (Builtin.max_ ts 0 args)
 | _=>none
theorem Sound.builtin (b:Builtin) (xs:Array Operand) (ts:Array TypeId) (vs:List Value) (s:Sem Value) (z:Value) (hx:nE (xs.toList.map (bh σ))=some vs) (hb:u6 b ts vs.toArray=some s)
  (hz:aQ P s=some z):Sound P σ (.call { callee:= .builtin b,args:=xs,argTypes:=ts }) (.sc z):=by
 intro w0 p a w ρ o ho h;have h3:=fA w hz
 have hv:xs.map a.eval=vs.toArray:=by
  have:∀ (l:List Operand) (us:List Value),nE (l.map (bh σ))=some us->l.map a.eval=us:=by
   intro l
   induction l with
   | nil=>intro us hu;simp only[List.map_nil,nE,gC] at hu;simp[hu]
   | cons y l ih=>
     intro us hu;simp only[JH,nE,j3,ku] at hu;obtain ⟨u,h1,us',h2,h4⟩:=hu;rw[<- h4,JH,ih _ h2,fW h1 (h.bh y)]
  have e:=this _ _ hx;apply Ig.1;simpa using e
 refine ⟨z,?_,by simp[R]⟩
 cases b<;>simp only[u6,gC,reduceCtorEq] at hb<;>subst hb <;>
  simp only[execOp,ho,resolve,invoke,Go.builtin,Sem.run_bind,Sem.run_pure,Result.andThen_ok,hv] at h3 ⊢<;>first
   | (rw[h3];rfl)
   | (have e:∀ t,Builtin.len_ ts t vs.toArray=Builtin.len_ ts 0 vs.toArray:=fun _=>rfl
      rw[e,h3];rfl)
   | (have e:∀ t,Builtin.min_ ts t vs.toArray=Builtin.min_ ts 0 vs.toArray:=fun _=>rfl
      rw[e,h3];rfl)
   | (have e:∀ t,Builtin.max_ ts t vs.toArray=Builtin.max_ ts 0 vs.toArray:=fun _=>rfl
      rw[e,h3];rfl)
end
def qP:D->Bool
 | .sc v=>v.oneCell'
 | .any | .agg _ | .cT _=>false
 | _=>true
theorem uh {w:World} {st:Nat->Prop} {ρ:Nat->Option (Option Nat)} {d:D} {v:Value} (h:qP d=true) (hr:R w st ρ d v):v.oneCell'=true/\v.cells = #[v]:=by
 cases d<;>simp only[qP,reduceCtorEq] at h
 case sc u=>simp only[R] at hr;subst hr;cases v<;>simp_all[Value.oneCell',Value.cells]
 case sl=>simp only[R] at hr;obtain ⟨a,c,rfl,_⟩:=hr;exact ⟨rfl,rfl⟩
 case ro=>simp only[R] at hr;obtain ⟨a,c,rfl,_⟩:=hr;exact ⟨rfl,rfl⟩
 case ref=>simp only[R] at hr;obtain ⟨a,_,rfl⟩:=hr;exact ⟨rfl,rfl⟩
 case mp=>simp only[R] at hr;obtain ⟨a,_,rfl⟩:=hr;exact ⟨rfl,rfl⟩
 case jN=>simp only[R] at hr;obtain ⟨a,_,rfl⟩:=hr;exact ⟨rfl,rfl⟩
 case cW=>
  simp only[R] at hr;rcases hr with ⟨_,_,_,A,rfl⟩|⟨g,cap,A,_,_,_,_,rfl,_⟩<;>exact ⟨rfl,rfl⟩
 case fn=>simp only[R] at hr;obtain ⟨vs,rfl,_⟩:=hr;exact ⟨rfl,rfl⟩
def cellsD:D->Option (List D)
 | .agg cs=>if cs.all qP then some cs else none
 | d=>if qP d then some [d] else none
theorem rJ {w:World} {st:Nat->Prop} {ρ:Nat->Option (Option Nat)}:∀ {ds:List D} {vs:List Value},ds.all qP=true->RL w st ρ ds vs->∀ v∈vs,v.oneCell'=true
 | [],_,_,h=>by simp only[RL] at h;simp[h]
 | d::ds,_,h1,h=>by
   simp only[RL] at h;obtain ⟨v,vs',rfl,h2,h3⟩:=h;simp only[List.all_cons,jj] at h1;intro u hu;cases lp.1 hu with
   | inl e=>subst e;exact (uh h1.1 h2).1
   | inr e=>exact rJ h1.2 h3 u e
theorem pW {w:World} {st:Nat->Prop} {ρ:Nat->Option (Option Nat)} {d:D} {v:Value} {cs:List D} (h:cellsD d=some cs) (hr:R w st ρ d v):
  RL w st ρ cs v.cells.toList/\∀ u∈v.cells.toList,u.oneCell'=true:=by
 have one:qP d=true->cs=[d]->RL w st ρ cs v.cells.toList/\∀ u∈v.cells.toList,u.oneCell'=true:=by
  rintro h1 rfl;obtain ⟨h2,h3⟩:=uh h1 hr;rw[h3];exact ⟨by simp only[RL];exact ⟨v,[],rfl,hr,rfl⟩,by simpa using h2⟩
 cases d
 case agg cs'=>
  simp only[cellsD] at h
  split at h
  ·rename_i h1;simp only[gC] at h;subst h;simp only[R] at hr;obtain ⟨vs,rfl,h2⟩:=hr;exact ⟨h2,rJ h1 h2⟩
  ·cases h
 all_goals
  simp only[cellsD] at h
  split at h
  ·rename_i h1;simp only[gC] at h;exact one h1 h.symm
  ·cases h
mutual
def wW:D->Bool
 | .sc _ | .sl _ _ | .ro _=>true
 | .agg cs | .cT cs | .fn _ cs=>jA cs
 | _=>false
def jA:List D->Bool
 | []=>true
 | d::ds=>wW d&&jA ds
end
mutual
theorem rK {w:World} {st:Nat->Prop} {ρ ρ':Nat->Option (Option Nat)}:∀ {d:D} {v:Value},wW d=true->R w st ρ d v->R w st ρ' d v
 | .sc _,_,_,hr | .sl _ _,_,_,hr | .ro _,_,_,hr=>by simpa[R] using hr
 | .agg _,_,h,hr | .cT _,_,h,hr | .fn _ _,_,h,hr=>by
   simp only[wW] at h;simp only[R] at hr ⊢;obtain ⟨vs,h1,h2⟩:=hr;exact ⟨vs,h1,jv h h2⟩
 | .any,_,h,_ | .mp ..,_,h,_ | .ref ..,_,h,_ | .jN ..,_,h,_ | .cW ..,_,h,_=>by simp[wW] at h
theorem jv {w:World} {st:Nat->Prop} {ρ ρ':Nat->Option (Option Nat)}:∀ {ds:List D} {vs:List Value},jA ds=true->RL w st ρ ds vs->RL w st ρ' ds vs
 | [],_,_,hr=>by simpa[RL] using hr
 | d::ds,_,h,hr=>by
   simp only[jA,jj] at h;simp only[RL] at hr ⊢;obtain ⟨v,vs',h1,h2,h3⟩:=hr;exact ⟨v,vs',h1,rK h.1 h2,jv h.2 h3⟩
end
theorem RO.mono {w w':World} {st st':Nat->Prop} {ρ:Nm} {o:Nat} {x:Obj} (hc:∀ g off,st g->w'.cell? ⟨g,off,none⟩=w.cell? ⟨g,off,none⟩)
  (hs:∀ g n,Sh w g n->Sh w' g n) (hst:∀ g,st g->st' g) (hb:∀ g,ow ρ o g->w'.heap[g]? = w.heap[g]?) (h:RO w st ρ o x):RO w' st' ρ o x:=by
 cases x with
 | dead=>simp[RO]
 | row k rows=>
   simp only[RO] at h ⊢
   split at h
   ·exact h
   ·exact h
   ·rename_i g hg;obtain ⟨cur,e,cap,h1,h2,h3,h4,h5⟩:=h;have Pv:=hb g (.inl hg);exact ⟨cur,e,cap,Pv.trans h1,h2,h3,h4,RR.mono hc hs hst (fun off=>World.cell?_of_block (w:=w) (a:=⟨g,off,none⟩) Pv) h5⟩
 | box cs=>
   simp only[RO] at h ⊢;obtain ⟨g,cur,e,h1,h2,h3⟩:=h;exact ⟨g,cur,e,h1,(hb g (.inl h1)).trans h2,RL.mono hc hs hst h3⟩
 | ext e=>
   simp only[RO] at h ⊢;obtain ⟨g,h1,h2⟩:=h;exact ⟨g,h1,e.mono hc hs hst (hb g (.inl h1)) (fun b hh=>hb b (.inr hh)) h2⟩
theorem RO.lt {w:World} {st:Nat->Prop} {ρ:Nm} {o g:Nat} {x:Obj} (h:RO w st ρ o x) (hx:x≠ .dead) (hg:ρ o=some (some g)):g<w.heap.size:=by
 cases x with
 | dead=>exact absurd rfl hx
 | row k rows=>
   simp only[RO,hg] at h;obtain ⟨cur,e,cap,h1,_⟩:=h;exact (zQ.1 h1).1
 | box cs=>
   simp only[RO] at h;obtain ⟨g',cur,e,h1,h2,h3⟩:=h;rw[hg] at h1;simp only[gC] at h1;subst h1;exact (zQ.1 h2).1
 | ext e=>
   simp only[RO] at h;obtain ⟨g',h1,h2⟩:=h;rw[hg] at h1;simp only[gC] at h1;subst h1;exact e.lt h2
section
variable {w0:World} {p:Pm} {σ:St} {a:Act} {w:World} {ρ:Nm}
theorem ct {w w':World} {g n:Nat} (h:w'.heap[g]? = w.heap[g]?) (hs:Sh w g n):Sh w' g n:=by
 obtain ⟨cur,e,h1,h2⟩:=hs;exact ⟨cur,e,h.trans h1,h2⟩
theorem aU.mQ (h:aU w0 p σ a w ρ) {o g:Nat} (hd:az σ.heap o≠ .dead) (hg:ow ρ o g):g<w.heap.size:=hg.elim (fun e=>(h.objs o).lt hd e) (fun e=>h.hlt o g hd e)
theorem aU.below_ (h:aU w0 p σ a w ρ) {w':World} (hb:Below w.heap.size w w'):aU w0 p σ a w' ρ:=by
 have hc:∀ g off,bO p σ.heap ρ w g->w'.cell? ⟨g,off,none⟩=w.cell? ⟨g,off,none⟩:=fun g off hg=>hb.cell (p:=⟨g,off,none⟩) hg.2.1;have hs:∀ g n,Sh w g n->Sh w' g n:=fun g n hh=>ct (hb.block g hh.lt) hh;have hst:∀ g,bO p σ.heap ρ w g->bO p σ.heap ρ w' g:=fun g hg=>⟨hg.1,Ie hg.2.1 hb.size,hg.2.2⟩
 refine ⟨h.open_,h.defers,RL.mono hc hs hst h.slots,fun o=>?_,h.inj,h.fresh,fun o g h1 h2=>Ie (h.hlt o g h1 h2) hb.size,h.below.trans (gL.JW (own:=p.own) hb) (fun _ _ e=>e),h.kf⟩;by_cases hd:az σ.heap o = .dead
 ·rw[hd];simp[RO]
 ·exact RO.mono hc hs hst (fun g hg=>hb.block g (h.mQ hd hg)) (h.objs o)
theorem aU.drew (h:aU w0 p σ a w ρ):aU w0 p σ a w.drew ρ:=h.below_ (Below.refl _ _).drew
def St.kill (σ:St) (o:Nat):St:={ slots:=og o σ.slots,heap:=aG (rI o σ.heap) o .dead }
theorem fI (o o':Nat):az (σ.kill o).heap o'=if o'=o then .dead else (az σ.heap o').kz o:=by
 unfold St.kill;by_cases e:o'=o
 ·subst e;rw[bC rfl];by_cases hh:ec σ.heap o'=true
  ·exact aX (by rw[kC];exact hh)
  ·have:∀ (h:List (Nat×Obj)) (y:Obj),ec h o'=false->az (aG h o' y) o' = .dead:=by
    intro h
    induction h with
    | nil=>intro y _;simp[aG,az]
    | cons q h ih=>
      intro y hn;obtain ⟨q,x⟩:=q;by_cases e:q=o'
      ·simp[ec,e] at hn
      ·simp only[ec,e,jd] at hn;simp[aG,az,e,ih y hn]
   exact this _ _ (by rw[kC];simpa using hh)
 ·rw[aE e,aM e,zT]
theorem Obj.jP {x:Obj} {o:Nat}:x.kz o≠ .dead↔x≠ .dead:=by
 cases x with
 | ext e=>cases h:iP o e.qt<;>simp[Obj.kz,h]
 | _=>simp[Obj.kz]
def same (ρ ρ':Nm) (o:Nat):Prop:=ρ' o=ρ o/\ρ'.hid o=ρ.hid o
theorem same.ow {ρ ρ':Nm} {o g:Nat} (h:same ρ ρ' o):ow ρ' o g↔ow ρ o g:=by unfold eB.ow;rw[h.1,h.2]
theorem same.refl {ρ:Nm} {o:Nat}:same ρ ρ o:=⟨rfl,rfl⟩
theorem RO.kz {st:Nat->Prop} {ρ':Nm} {o o':Nat} {x:Obj} (h:∀ o',o'≠o->same ρ ρ' o') (hne:o'≠o) (hx:RO w st ρ o' x):RO w st ρ' o' (x.kz o):=by
 have h1:=(h o' hne).1;have h2:=(h o' hne).2;cases x with
 | dead=>simp[RO,Obj.kz]
 | row k rows=>simp only[RO,Obj.kz,h1] at hx ⊢;exact hx
 | box cs=>
   simp only[RO,Obj.kz,h1] at hx ⊢;obtain ⟨g,cur,e,h1,h2,h3⟩:=hx;exact ⟨g,cur,e,h1,h2,RL.kz (fun o' e=>(h o' e).1) h3⟩
 | ext e=>
   simp only[RO,Obj.kz] at hx ⊢;obtain ⟨g,g1,g2⟩:=hx;cases hm:iP o e.qt with
   | true=>exact ⟨g,by rw[h1];exact g1,e.lt g2⟩
   | false=>exact ⟨g,by rw[h1];exact g1,by rw[h2];exact e.loc (fun x hx=>(h x (fun e'=>by subst e';rw[lU.2 hx] at hm;cases hm)).1) g2⟩
theorem aU.kill (h:aU w0 p σ a w ρ) (o:Nat) {ρ':Nm} (hρ:∀ o',o'≠o->same ρ ρ' o') (hp:1000<=o->ρ' o=ρ o):aU w0 p (σ.kill o) a w ρ':=by
 have hst:∀ g,bO p σ.heap ρ w g->bO p (σ.kill o).heap ρ' w g:=by
  intro g hg;refine ⟨hg.1,hg.2.1,fun o' ho'=>?_⟩;rw[fI] at ho';by_cases e:o'=o
  ·simp[e] at ho'
  ·rw[aE e,Obj.jP] at ho';rw[(hρ o' e).ow];exact hg.2.2 o' ho'
 have live:∀ o',az (σ.kill o).heap o'≠ .dead->o'≠o/\az σ.heap o'≠ .dead:=by
  intro o' ho';rw[fI] at ho';by_cases e:o'=o
  ·simp[e] at ho'
  ·rw[aE e,Obj.jP] at ho';exact ⟨e,ho'⟩
 refine ⟨h.open_,h.defers,RL.mono (fun _ _ _=>rfl) (fun _ _ hh=>hh) hst (RL.kz (fun o' e=>(hρ o' e).1) h.slots),fun o'=>?_,fun o1 o2 g h1 h2 e1 e2=>?_,fun o1 g h1 e1=>?_,fun o1 g h1 e1=>?_,h.below,?_⟩
 ·rw[fI];by_cases e:o'=o
  ·simp[e,RO]
  ·rw[aE e];exact RO.mono (fun _ _ _=>rfl) (fun _ _ hh=>hh) hst (fun _ _=>rfl) (RO.kz hρ e (h.objs o'))
 ·obtain ⟨n1,l1⟩:=live o1 h1;obtain ⟨n2,l2⟩:=live o2 h2;rw[(hρ o1 n1).ow] at e1;rw[(hρ o2 n2).ow] at e2;exact h.inj o1 o2 g l1 l2 e1 e2
 ·obtain ⟨n1,l1⟩:=live o1 h1;rw[(hρ o1 n1).ow] at e1;exact h.fresh o1 g l1 e1
 ·obtain ⟨n1,l1⟩:=live o1 h1;rw[(hρ o1 n1).2] at e1;exact h.hlt o1 g l1 e1
 ·intro o1 h1;by_cases e:o1=o
  ·subst e;rw[hp h1];exact h.kf _ h1
  ·rw[(hρ o1 e).1];exact h.kf _ h1
theorem aU.SJ (h:aU w0 p σ a w ρ) {heap':List (Nat×Obj)} {w':World} (N:Nat->Prop)
  (hold:∀ o,¬ N o->az heap' o=az σ.heap o) (Pw:∀ o,N o->az σ.heap o = .dead)
  (hnew:∀ o g,N o->az heap' o≠ .dead->ow ρ o g->¬ bO p σ.heap ρ w g/\(∀ o',az σ.heap o'≠ .dead->¬ ow ρ o' g)/\(w0.heap.size<=g\/p.own g))
  (hinj:∀ o o' g,N o->N o'->az heap' o≠ .dead->az heap' o'≠ .dead->ow ρ o g->ow ρ o' g->o=o')
  (SK:∀ o g,N o->az heap' o≠ .dead->ρ.hid o g->g<w'.heap.size)
  (hw:∀ g,g<w.heap.size->(∀ o,N o->az heap' o≠ .dead->¬ ow ρ o g)->w'.heap[g]? = w.heap[g]?) (hs:∀ g n,Sh w g n->Sh w' g n) (hsz:w.heap.size<=w'.heap.size) (hos:w'.os=w.os) (Nd:w'.tape=w.tape) (hout:w'.output=w.output)
  (hx:∀ o,N o->∀ st:Nat->Prop,(∀ g,bO p σ.heap ρ w g->st g)->(∀ g,w.heap.size<=g->g<w'.heap.size->(∀ o,N o->az heap' o≠ .dead->¬ ow ρ o g)->st g)->RO w' st ρ o (az heap' o)):
  aU w0 p { σ with heap:=heap' } a w' ρ:=by
 have qX:∀ g,bO p σ.heap ρ w g->∀ o,N o->az heap' o≠ .dead->¬ ow ρ o g:=fun g hg o ho hl e=>(hnew o g ho hl e).1 hg;have hc:∀ g off,bO p σ.heap ρ w g->w'.cell? ⟨g,off,none⟩=w.cell? ⟨g,off,none⟩:=fun g off hg=>World.cell?_of_block (w:=w) (a:=⟨g,off,none⟩) (hw g hg.2.1 (qX g hg))
 have hst:∀ g,bO p σ.heap ρ w g->bO p heap' ρ w' g:=by
  intro g hg;refine ⟨hg.1,Ie hg.2.1 hsz,fun o' ho'=>?_⟩;by_cases e:N o'
  ·exact qX g hg o' e ho'
  ·rw[hold o' e] at ho';exact hg.2.2 o' ho'
 have Il:∀ g,w.heap.size<=g->g<w'.heap.size->(∀ o,N o->az heap' o≠ .dead->¬ ow ρ o g)->bO p heap' ρ w' g:=by
  intro g uj hg2 VW;refine ⟨h.open_ g (.inl (JU h.below.size uj)),hg2,fun o' ho'=>?_⟩;by_cases e:N o'
  ·exact VW o' e ho'
  ·rw[hold o' e] at ho';intro e';have:=h.mQ ho' e';omega
 refine ⟨h.open_,h.defers,RL.mono hc hs hst h.slots,fun o'=>?_,fun o1 o2 g h1 h2 e1 e2=>?_,fun o1 g h1 e1=>?_,fun o1 g h1 e1=>?_,?_,h.kf⟩
 ·by_cases e:N o'
  ·exact hx o' e _ hst Il
  ·show RO w' _ ρ o' (az heap' o');rw[hold o' e];by_cases hd:az σ.heap o' = .dead
   ·rw[hd];simp[RO]
   ·refine RO.mono hc hs hst (fun g hg=>hw g (h.mQ hd hg) (fun o ho hl e'=>?_)) (h.objs o');exact (hnew o g ho hl e').2.1 o' hd hg
 ·change az heap' o1≠ .dead at h1;change az heap' o2≠ .dead at h2;by_cases n1:N o1<;>by_cases n2:N o2
  ·exact hinj o1 o2 g n1 n2 h1 h2 e1 e2
  ·rw[hold o2 n2] at h2;exact absurd e2 ((hnew o1 g n1 h1 e1).2.1 o2 h2)
  ·rw[hold o1 n1] at h1;exact absurd e1 ((hnew o2 g n2 h2 e2).2.1 o1 h1)
  ·rw[hold o1 n1] at h1;rw[hold o2 n2] at h2;exact h.inj o1 o2 g h1 h2 e1 e2
 ·change az heap' o1≠ .dead at h1;by_cases n1:N o1
  ·exact (hnew o1 g n1 h1 e1).2.2
  ·rw[hold o1 n1] at h1;exact h.fresh o1 g h1 e1
 ·change az heap' o1≠ .dead at h1;by_cases n1:N o1
  ·exact SK o1 g n1 h1 e1
  ·rw[hold o1 n1] at h1;exact Ie (h.hlt o1 g h1 e1) hsz
 ·refine h.below.trans (E9:=fun k=> ∃ o,N o/\az heap' o≠ .dead/\ow ρ o k) ⟨hos,Nd,hout,hsz,fun k hk hn=>hw k hk (fun o ho hl e=>hn ⟨o,ho,hl,e⟩),hs⟩ ?_;rintro g hg ⟨o,ho,hl,e⟩;rcases (hnew o g ho hl e).2.2 with h3|h3
  ·omega
  ·exact h3
theorem aU.born (h:aU w0 p σ a w ρ) {o:Nat} {x:Obj} {w':World} (Pw:az σ.heap o = .dead) (qY:ec σ.heap o=true)
  (hnew:∀ g,ow ρ o g->¬ bO p σ.heap ρ w g/\(∀ o',az σ.heap o'≠ .dead->¬ ow ρ o' g)/\(w0.heap.size<=g\/p.own g)) (SK:∀ g,ρ.hid o g->g<w'.heap.size)
  (hw:∀ g,g<w.heap.size->¬ ow ρ o g->w'.heap[g]? = w.heap[g]?) (hs:∀ g n,Sh w g n->Sh w' g n) (hsz:w.heap.size<=w'.heap.size) (hos:w'.os=w.os) (Nd:w'.tape=w.tape) (hout:w'.output=w.output)
  (JY:x≠ .dead) (hx:∀ st:Nat->Prop,(∀ g,bO p σ.heap ρ w g->st g)->RO w' st ρ o x):aU w0 p { σ with heap:=aG σ.heap o x } a w' ρ:=by
 have hsame:az (aG σ.heap o x) o=x:=aX qY
 refine h.SJ (· = o) (fun o' e=>aM e) (fun o' e=>by rw[e];exact Pw) (fun o' g e _ hg=>hnew g (by rw[<- e];exact hg)) (fun o1 o2 g e1 e2 _ _ _ _=>e1.trans e2.symm) (fun o' g e _ hg=>SK g (by rw[<- e];exact hg))
  (fun g hg hh=>hw g hg (hh o rfl (by rw[hsame];exact JY))) hs hsz hos Nd hout (fun o' e st h1 _=>?_)
 obtain rfl:=e;rw[hsame];exact hx st h1
theorem aU.Vv (h:aU w0 p σ a w ρ) {o g:Nat} {x:Obj} {cur cur':Array Value} {e:TypeId} (eL:az σ.heap o≠ .dead) (hg:ρ o=some (some g)) (nF:w.heap[g]? = some (.cells cur e (0,0))) (hsz:cur'.size=cur.size)
  (JY:x≠ .dead) (hx:∀ st:Nat->Prop,(∀ g,bO p σ.heap ρ w g->st g)->RO (w.setRow g cur') st ρ o x):aU w0 p { σ with heap:=aG σ.heap o x } a (w.setRow g cur') ρ:=by
 have qY:ec σ.heap o=true:=cC eL;have kT:∀ o',o'≠o->az (aG σ.heap o x) o'=az σ.heap o':=fun o' e=>aM e
 have iZ:∀ o',az (aG σ.heap o x) o'≠ .dead↔az σ.heap o'≠ .dead:=by
  intro o';by_cases e:o'=o
  ·subst e;rw[aX qY];exact ⟨fun _=>eL,fun _=>JY⟩
  ·rw[kT o' e]
 have hb:∀ k,k≠g->(w.setRow g cur').heap[k]? = w.heap[k]? :=fun k hk=>setRow_other w g k cur' hk
 have hs:∀ k n,Sh w k n->Sh (w.setRow g cur') k n:=by
  intro k n hh;by_cases e':k=g
  ·subst e';obtain ⟨c,e2,h1,h2⟩:=hh;rw[nF] at h1;simp only[gC,Obj.cells.injEq] at h1;exact ⟨cur',e,setRow_heap w k cur cur' e (0,0) nF,by rw[hsz,h1.1,h2]⟩
  ·exact ct (hb k e') hh
 have hst:∀ k,bO p σ.heap ρ w k->bO p (aG σ.heap o x) ρ (w.setRow g cur') k:=by
  intro k hk;exact ⟨hk.1,by rw[setRow_size];exact hk.2.1,fun o' ho'=>hk.2.2 o' ((iZ o').1 ho')⟩
 have hc:∀ k off,bO p σ.heap ρ w k->(w.setRow g cur').cell? ⟨k,off,none⟩=w.cell? ⟨k,off,none⟩:=by
  intro k off hk;refine World.cell?_of_block (w:=w) (a:=⟨k,off,none⟩) (hb k ?_);rintro rfl;exact hk.2.2 o eL (.inl hg)
 refine ⟨h.open_,h.defers,RL.mono hc hs hst h.slots,fun o'=>?_,fun o1 o2 g' h1 h2=>h.inj o1 o2 g' ((iZ o1).1 h1) ((iZ o2).1 h2),fun o1 g' h1=>h.fresh o1 g' ((iZ o1).1 h1),fun o1 g' h1 e1=>by rw[setRow_size];exact h.hlt o1 g' ((iZ o1).1 h1) e1,?_,h.kf⟩
 ·by_cases e':o'=o
  ·subst e';rw[aX qY];exact hx _ hst
  ·show RO _ _ ρ o' (az (aG σ.heap o x) o');rw[kT o' e'];by_cases hd:az σ.heap o' = .dead
   ·rw[hd];simp[RO]
   ·refine RO.mono hc hs hst (fun k hk=>hb k ?_) (h.objs o');rintro rfl;exact e' (h.inj o' o k hd eL hk (.inl hg))
 ·refine h.below.trans (E9:=fun k=>k=g) ⟨rfl,rfl,rfl,by rw[setRow_size];exact iU _,fun k hk hn=>hb k hn,hs⟩ ?_;rintro k hk rfl;rcases h.fresh o k eL (.inl hg) with h3|h3
  ·omega
  ·exact h3
end
def cP (P:Program) (σ:St) (o:Oper) (σ':St):Prop:=
 ∀ w0 p a w,Rel w0 p σ a w->∃ v w',((execOp a.eval o).run P w = .ok (.value v) w'\/(v=undef/\(execOp a.eval o).run P w = .ok .skip w'))/\Rel w0 p σ' (a.put o.dst v) w'
def dH (P:Program) (all:Array Oper) (Q:Exit->St->Prop) (rest:List Oper) (σ:St):Prop:=
 ∀ w0 p a w,Rel w0 p σ a w->wpList P all (fun e a' w'=> ∃ σ',Q e σ'/\Rel w0 p σ' a' w') rest a w
section
variable {P:Program} {all:Array Oper} {Q:Exit->St->Prop} {σ σ':St} {o:Oper} {rest:List Oper}
theorem Sound.steps {d:D} (h:Sound P σ o.op d):cP P σ o (σ.put o.dst d):=by
 rintro w0 p a w ⟨ρ,hr⟩;obtain ⟨v,h1,h2⟩:=h w0 p a w ρ o rfl hr;exact ⟨v,w, .inl h1,ρ,hr.put o.dst h2⟩
theorem dH.nil (h:Q .normal σ):dH P all Q [] σ:=fun _ _ _ _ hr=>wpList_nil ⟨σ,h,hr⟩
theorem bp {Q':Exit->Act->World->Prop} {a:Act} {w w':World} {v:Value} (hw:Region.wanted o (yielded all a.tmps)=true)
  (h:(execOp a.eval o).run P w = .ok (.value v) w'\/(v=undef/\(execOp a.eval o).run P w = .ok .skip w')) (hn:wpList P all Q' rest (a.put o.dst v) w'):wpList P all Q' (o::rest) a w:=by
 unfold wpList;rw[bC hw];left;unfold Oper.wp;rcases h with h|⟨hv,h⟩
 ·rw[h];exact hn
 ·rw[h];subst hv;exact hn
theorem dH.step (hg:o.guard=none) (h:cP P σ o σ') (hn:dH P all Q rest σ'):dH P all Q (o::rest) σ:=by
 intro w0 p a w hr;obtain ⟨v,w',h1,h2⟩:=h w0 p a w hr;exact bp (by simp[Region.wanted,hg]) h1 (hn w0 p _ _ h2)
theorem Fb {w0:World} {p:Pm} {a:Act} {w:World} (hr:Rel w0 p σ a w) {j t:Nat} {b:Bool} (hj:(all[j]?).bind (·.dst)=some t) (hb:σ.slots.getD t .any = .sc (.bool b)):
  yielded all a.tmps j=some b:=by
 obtain ⟨ρ,hr⟩:=hr;cases hd:σ.slots[t]? with
 | none=>simp[List.getD,hd] at hb
 | some d=>
   simp only[List.getD,hd,Option.getD_some] at hb;subst hb;obtain ⟨v,h1,h2⟩:=pV hr.slots hd;simp only[R] at h2;subst h2;rw[oe] at h1;unfold yielded;rw[hj];simp[h1]
theorem ay.region {id:Nat} {l:List Oper} (h:dH P l.toArray Q l σ):ay P (.region id l.toArray false) Q σ:=
 fun w0 p a w hr=>wp_region_lit (h w0 p a w hr)
theorem ay.cond {c:Operand} {x y:Code} {b:Bool} (hc:bh σ c = .sc (.bool b)) (ht:b=true->ay P x Q σ) (hf:b=false->ay P y Q σ):ay P (.cond c x y) Q σ:=by
 rintro w0 p a w ⟨ρ,hr⟩;have h1:=hr.bh c;rw[hc] at h1;simp only[R] at h1;exact wp_cond_split h1 (fun e=>ht e w0 p a w ⟨ρ,hr⟩) (fun e=>hf e w0 p a w ⟨ρ,hr⟩)
end
mutual
inductive nY:D->D->Prop
 | refl (d:D):nY d d
 | any (d:D):nY d .any
 | nil (k:Nat):nY (.sc (.slice none 0 0)) (.sl k [])
 | slnil (k k':Nat):nY (.sl k []) (.sl k' [])
 | agg {ds es:List D}:j4 ds es->nY (.agg ds) (.agg es)
 | cT {ds es:List D}:j4 ds es->nY (.cT ds) (.cT es)
 | fn {f:FuncId} {ds es:List D}:j4 ds es->nY (.fn f ds) (.fn f es)
 | sl {k:Nat} {rs ss:List (List D)}:zX rs ss->nY (.sl k rs) (.sl k ss)
 | ro {ds es:List D}:j4 ds es->nY (.ro ds) (.ro es)
inductive j4:List D->List D->Prop
 | nil:j4 [] []
 | cons {d e:D} {ds es:List D}:nY d e->j4 ds es->j4 (d::ds) (e::es)
inductive zX:List (List D)->List (List D)->Prop
 | nil:zX [] []
 | cons {r s:List D} {rs ss:List (List D)}:j4 r s->zX rs ss->zX (r::rs) (s::ss)
end
theorem j4.refl:∀ ds:List D,j4 ds ds
 | []=> .nil
 | d::ds=> .cons (.refl d) (j4.refl ds)
theorem zX.refl:∀ rs:List (List D),zX rs rs
 | []=> .nil
 | r::rs=> .cons (j4.refl r) (zX.refl rs)
theorem zX.append {a b c d:List (List D)}:∀ {a b:List (List D)},zX a b->zX c d->zX (a++c) (b++d)
 | _,_, .nil,h=>h
 | _,_, .cons h1 h2,h=> .cons h1 (zX.append (a:=a) (b:=b) h2 h)
theorem j4.length:∀ {ds es:List D},j4 ds es->es.length=ds.length
 | _,_, .nil=>rfl
 | _,_, .cons _ h=>by simp[j4.length h]
theorem zX.length:∀ {ds es:List (List D)},zX ds es->es.length=ds.length
 | _,_, .nil=>rfl
 | _,_, .cons _ h=>by simp[zX.length h]
section
variable {w:World} {st:Nat->Prop}
mutual
theorem R.le {ρ:Nat->Option (Option Nat)}:∀ {d e:D} {v:Value},nY d e->R w st ρ d v->R w st ρ e v
 | _,_,_, .refl _,h=>h
 | _,_,_, .any _,_=>by simp[R]
 | _,_,_, .nil k,h=>by
   simp only[R] at h ⊢;exact ⟨none,0,h,by simp,ek _, .inl (by simp)⟩
 | _,_,_, .slnil k k',h=>by
   simp only[R] at h ⊢;obtain ⟨a,c,h1,h2,h3,_⟩:=h;exact ⟨a,c,h1,h2,h3, .inl (by simp)⟩
 | _,_,_, .agg hl,h=>by
   simp only[R] at h ⊢;obtain ⟨vs,h1,h2⟩:=h;exact ⟨vs,h1,RL.le hl h2⟩
 | _,_,_, .cT hl,h=>by
   simp only[R] at h ⊢;obtain ⟨vs,h1,h2⟩:=h;exact ⟨vs,h1,RL.le hl h2⟩
 | _,_,_, .fn hl,h=>by
   simp only[R] at h ⊢;obtain ⟨vs,h1,h2⟩:=h;exact ⟨vs,h1,RL.le hl h2⟩
 | _,_,_, .sl hl,h=>by
   simp only[R] at h ⊢;obtain ⟨a,c,h1,h2,h3,h4⟩:=h;have e:=zX.length hl;refine ⟨a,c,by rw[e];exact h1,by rw[e];exact h2,h3,?_⟩;rcases h4 with h4|⟨g,off,h4,h5,h6⟩
   ·left;exact uc (by rw[e,h4];rfl)
   ·exact .inr ⟨g,off,h4,h5,RR.le hl h6⟩
 | _,_,_, .ro hl,h=>by
   simp only[R] at h ⊢;obtain ⟨g,off,h1,h2,h3⟩:=h;exact ⟨g,off,h1,h2,RC.le hl h3⟩
theorem RL.le {ρ:Nat->Option (Option Nat)}:∀ {ds es:List D} {vs:List Value},j4 ds es->RL w st ρ ds vs->RL w st ρ es vs
 | _,_,_, .nil,h=>h
 | _,_,_, .cons h1 h2,h=>by
   simp only[RL] at h ⊢;obtain ⟨v,vs',e,h3,h4⟩:=h;exact ⟨v,vs',e,R.le h1 h3,RL.le h2 h4⟩
theorem RC.le {g:Nat}:∀ {ds es:List D} {off:Nat},j4 ds es->RC w st g off ds->RC w st g off es
 | _,_,_, .nil,h=>h
 | _,_,_, .cons h1 h2,h=>by
   simp only[RC] at h ⊢;obtain ⟨⟨v,e1,e2,e3⟩,h4⟩:=h;exact ⟨⟨v,e1,e2,R.le h1 e3⟩,RC.le h2 h4⟩
theorem RR.le {k g:Nat}:∀ {rs ss:List (List D)} {off:Nat},zX rs ss->RR w st k g off rs->RR w st k g off ss
 | _,_,_, .nil,h=>h
 | _,_,_, .cons h1 h2,h=>by
   simp only[RR] at h ⊢;obtain ⟨e,h3,h4⟩:=h;exact ⟨by rw[j4.length h1];exact e,RC.le h1 h3,RR.le h2 h4⟩
end
inductive CG:Obj->Obj->Prop
 | refl (x:Obj):CG x x
 | dead (x:Obj):CG x .dead
 | row {k:Nat} {rs ss:List (List D)}:zX rs ss->CG (.row k rs) (.row k ss)
 | box {ds es:List D}:j4 ds es->CG (.box ds) (.box es)
theorem RO.le {ρ:Nm} {o:Nat} {x y:Obj} (h:CG x y) (hr:RO w st ρ o x):RO w st ρ o y:=by
 cases h with
 | refl=>exact hr
 | dead=>simp[RO]
 | row hl=>
   simp only[RO] at hr ⊢
   split at hr
   ·exact hr
   ·exact uc (by rw[zX.length hl,hr];rfl)
   ·obtain ⟨cur,e,cap,r1,r2,r3,r4,r5⟩:=hr;exact ⟨cur,e,cap,r1,r2,r3,by rw[zX.length hl];exact r4,RR.le hl r5⟩
 | box hl=>
   simp only[RO] at hr ⊢;obtain ⟨g,cur,e,r1,r2,r3⟩:=hr;exact ⟨g,cur,e,r1,r2,RL.le hl r3⟩
theorem CG.live {x y:Obj} (h:CG x y) (hy:y≠ .dead):x≠ .dead:=by
 cases h with
 | refl=>exact hy
 | dead=>exact absurd rfl hy
 | row=>simp
 | box=>simp
end
inductive j5:List Obj->List Obj->Prop
 | nil:j5 [] []
 | cons {x y:Obj} {xs ys:List Obj}:CG x y->j5 xs ys->j5 (x::xs) (y::ys)
theorem j5.refl:∀ xs:List Obj,j5 xs xs
 | []=> .nil
 | x::xs=> .cons (.refl x) (j5.refl xs)
theorem j5.get:∀ {xs ys:List Obj},j5 xs ys->∀ j,CG (xs.getD j .dead) (ys.getD j .dead)
 | _,_, .nil,j=> .refl _
 | _,_, .cons h1 h2,j=>by
   cases j with
   | zero=>simpa using h1
   | succ j=>simpa using j5.get h2 j
theorem j5.length:∀ {xs ys:List Obj},j5 xs ys->ys.length=xs.length
 | _,_, .nil=>rfl
 | _,_, .cons _ h=>by simp[j5.length h]
def mL (ins:List Obj) (ρ:Nm) (g:Nat):Prop:= ∃ j,ins.getD j .dead≠ .dead/\ow ρ j g
structure zY (w:World) (st:Nat->Prop) (ρ:Nm) (ins:List Obj):Prop where
 objs:∀ j,RO w st ρ j (ins.getD j .dead)
 inj:∀ j j' g,ins.getD j .dead≠ .dead->ins.getD j' .dead≠ .dead->ow ρ j g->ow ρ j' g->j=j'
 out:∀ j g,ins.getD j .dead≠ .dead->ow ρ j g->¬ st g
 hlt:∀ j g,ins.getD j .dead≠ .dead->ρ.hid j g->g<w.heap.size
def JZ (w w':World) (st own:Nat->Prop) (ρ:Nm) (outs:List Obj) (g:Nat):Prop:=
 (st g\/own g\/(w.heap.size<=g/\g<w'.heap.size))/\∀ j,outs.getD j .dead≠ .dead->¬ ow ρ j g
structure Bv (w w':World) (st:Nat->Prop) (ρ ρ':Nm) (ins:List Obj) (ret:D) (outs:List Obj) (v:Value):Prop where
 below:gL (mL ins ρ) w w'
 keep:∀ j,j<ins.length->ρ' j=ρ j
 ret:R w' (JZ w w' st (mL ins ρ) ρ' outs) ρ' ret v
 objs:∀ j,RO w' (JZ w w' st (mL ins ρ) ρ' outs) ρ' j (outs.getD j .dead)
 fresh:∀ j g,outs.getD j .dead≠ .dead->ow ρ' j g->w.heap.size<=g\/mL ins ρ g
 inj:∀ j j' g,outs.getD j .dead≠ .dead->outs.getD j' .dead≠ .dead->ow ρ' j g->ow ρ' j' g->j=j'
 hlt:∀ j g,outs.getD j .dead≠ .dead->ρ'.hid j g->g<w'.heap.size
structure aF (P:Program) (f:FuncId) (ins:List Obj) (args:List D) (ret:D) (outs:List Obj):Prop where
 call:∀ as w,(callFunc f as).run P w = .ok (.enter f as) w
 run:∀ (w:World) (st:Nat->Prop) (ρ:Nm) (vs:List Value),(∀ g,st g->g<w.heap.size)->zY w st ρ ins->RL w st ρ args vs->
  Calls P f vs.toArray w fun e w'=> ∃ v,e = .returned v/\∃ ρ',Bv w w' st ρ ρ' ins ret outs v
structure wX (P:Program) (f:FuncId) (ins:List Obj) (args:List D) {τ:Type} (I:τ->Prop) (ret:τ->D) (outs:τ->List Obj):Prop where
 call:∀ as w,(callFunc f as).run P w = .ok (.enter f as) w
 run:∀ (w:World) (st:Nat->Prop) (ρ:Nm) (vs:List Value),(∀ g,st g->g<w.heap.size)->zY w st ρ ins->RL w st ρ args vs->
  Calls P f vs.toArray w fun e w'=> ∃ t,I t/\∃ v,e = .returned v/\∃ ρ',Bv w w' st ρ ρ' ins (ret t) (outs t) v
abbrev ak (P:Program) (f:FuncId) (args:List D) (ret:D) (objs:List Obj):Prop:=aF P f [] args ret objs
mutual
def CH (ids:List Nat):D->D
 | .ref o off=> .ref (ids.getD o 0) off
 | .mp o=> .mp (ids.getD o 0)
 | .jN o k i off=> .jN (ids.getD o 0) k i off
 | .cW o k off len=> .cW (ids.getD o 0) k off len
 | .agg cs=> .agg (Fc ids cs)
 | .cT cs=> .cT (Fc ids cs)
 | .fn f cs=> .fn f (Fc ids cs)
 | .any=> .any
 | .sc v=> .sc v
 | .sl k rows=> .sl k rows
 | .ro cs=> .ro cs
def Fc (ids:List Nat):List D->List D
 | []=>[]
 | d::ds=>CH ids d::Fc ids ds
end
mutual
def vS (n:Nat):D->Bool
 | .ref o _ | .jN o _ _ _ | .cW o _ _ _ | .mp o=>decide (o<n)
 | .agg cs | .cT cs | .fn _ cs=>J0 n cs
 | _=>true
def J0 (n:Nat):List D->Bool
 | []=>true
 | d::ds=>vS n d&&J0 n ds
end
mutual
theorem R.nm {w:World} {st:Nat->Prop} {ρ ρ':Nat->Option (Option Nat)} {ids:List Nat} {n:Nat} (h:∀ j,j<n->ρ' (ids.getD j 0)=ρ j):∀ {d:D} {v:Value},vS n d=true->R w st ρ d v->R w st ρ' (CH ids d) v
 | .any,_,_,_=>by simp[CH,R]
 | .sc _,_,_,hr=>by simpa[CH,R] using hr
 | .sl _ _,_,_,hr=>by simpa[CH,R] using hr
 | .ro _,_,_,hr=>by simpa[CH,R] using hr
 | .agg _,_,hl,hr | .cT _,_,hl,hr | .fn _ _,_,hl,hr=>by
   simp only[vS] at hl;simp only[CH,R] at hr ⊢;obtain ⟨vs,h1,h2⟩:=hr;exact ⟨vs,h1,RL.nm h hl h2⟩
 | .ref ..,_,hl,hr | .mp ..,_,hl,hr | .jN ..,_,hl,hr | .cW ..,_,hl,hr=>by
   simp only[vS,pQ] at hl;simp only[CH,R] at hr ⊢;rw[h _ hl];exact hr
theorem RL.nm {w:World} {st:Nat->Prop} {ρ ρ':Nat->Option (Option Nat)} {ids:List Nat} {n:Nat} (h:∀ j,j<n->ρ' (ids.getD j 0)=ρ j):∀ {ds:List D} {vs:List Value},J0 n ds=true->RL w st ρ ds vs->RL w st ρ' (Fc ids ds) vs
 | [],_,_,hr=>by simpa[Fc,RL] using hr
 | _::_,_,hl,hr=>by
   simp only[J0,jj] at hl;simp only[Fc,RL] at hr ⊢;obtain ⟨v,vs',h1,h2,h3⟩:=hr;exact ⟨v,vs',h1,R.nm h hl.1 h2,RL.nm h hl.2 h3⟩
end
def St.bF (σ:St):List Nat->St
 | []=>σ
 | o::os=>(σ.kill o).bF os
section
variable {w0:World} {p:Pm} {σ:St} {a:Act} {w:World} {ρ:Nm}
theorem Nm.all {ρ ρ':Nm} (h:∀ o,same ρ ρ' o):ρ'=ρ:=by
 obtain ⟨a,b⟩:=ρ;obtain ⟨c,d⟩:=ρ';have h1:c=a:=funext fun o=>(h o).1;have h2:d=b:=funext fun o=>(h o).2;rw[h1,h2]
theorem aU.bF {ids:List Nat}:∀ {σ:St} {ρ ρ':Nm},aU w0 p σ a w ρ->(∀ o,o∉ids->same ρ ρ' o)->(∀ o,1000<=o->ρ' o=ρ o)->aU w0 p (σ.bF ids) a w ρ':=by
 induction ids with
 | nil=>intro σ ρ ρ' h hρ _;have:ρ'=ρ:=Nm.all fun o=>hρ o (by simp);rw[this];exact h
 | cons o os ih=>
   intro σ ρ ρ' h hρ hp;refine ih (ρ:=⟨fun x=>if x=o then ρ' x else ρ x,fun x=>if x=o then ρ'.hid x else ρ.hid x⟩) (h.kill o (fun o' e=>⟨by simp[e],by simp[e]⟩) (fun h1=>by simp[hp o h1])) (fun o' e=>?_) (fun o' h1=>?_)
   ·by_cases e':o'=o
    ·exact ⟨by simp[e'],by simp[e']⟩
    ·have:=hρ o' (by simp[e',e]);exact ⟨by simp[e',this.1],by simp[e',this.2]⟩
   ·by_cases e':o'=o
    ·simp[e']
    ·simp only[e',jd];exact hp o' h1
theorem rL {ids:List Nat} {o:Nat}:∀ {σ:St},az σ.heap o = .dead->az (σ.bF ids).heap o = .dead:=by
 induction ids with
 | nil=>intro σ h;exact h
 | cons x os ih=>
   intro σ h;refine ih ?_;rw[fI]
   split
   ·rfl
   ·rw[h];rfl
theorem gM {ids:List Nat} {o:Nat}:∀ {σ:St},o∈ids->az (σ.bF ids).heap o = .dead:=by
 induction ids with
 | nil=>intro σ h;cases h
 | cons x os ih=>
   intro σ h;by_cases e:o=x
   ·subst e;exact rL (σ:=σ.kill o) (by rw[fI];simp)
   ·exact ih (by simpa[e] using h)
theorem fY {h:List (Nat×Obj)} {o o':Nat} {y:Obj}:ec (aG h o y) o'=ec h o':=by
 induction h with
 | nil=>simp[aG]
 | cons q h ih=>
   obtain ⟨q,x⟩:=q;by_cases e:q=o
   ·simp[aG,ec,e]
   ·simp[aG,ec,e,ih]
theorem jw {ids:List Nat} {o:Nat}:∀ {σ:St},ec (σ.bF ids).heap o=ec σ.heap o:=by
 induction ids with
 | nil=>intro σ;rfl
 | cons x os ih=>intro σ;rw[St.bF,ih,St.kill,fY,kC]
theorem vT {ids:List Nat} {o:Nat}:∀ {σ:St},o∉ids->az σ.heap o≠ .dead->az (σ.bF ids).heap o≠ .dead:=by
 induction ids with
 | nil=>intro σ _ h;exact h
 | cons x os ih=>
   intro σ hn h;simp only[lp,vQ] at hn;refine ih (σ:=σ.kill x) hn.2 ?_;rw[fI,aE hn.1,Obj.jP];exact h
def CJ (ids:List Nat):Obj->Obj
 | .box cs=> .box (Fc ids cs)
 | .dead=> .dead
 | .row k rows=> .row k rows
 | .ext e=> .ext e
def wu (n:Nat):Obj->Bool
 | .box cs=>J0 n cs
 | .ext e=>e.qt.isEmpty
 | _=>true
theorem RO.nm {st:Nat->Prop} {ρ':Nm} {ids:List Nat} {n j:Nat} {x:Obj} (hρ:∀ j,j<n->ρ' (ids.getD j 0)=ρ j/\ρ'.hid (ids.getD j 0)=ρ.hid j) (hj:j<n) (hl:wu n x=true) (h:RO w st ρ j x):RO w st ρ' (ids.getD j 0) (CJ ids x):=by
 have e1:=(hρ j hj).1;have e2:=(hρ j hj).2;cases x with
 | dead=>simp[CJ,RO]
 | row k rows=>simp only[RO,CJ,e1] at h ⊢;exact h
 | box cs=>
   simp only[RO,CJ,e1] at h ⊢;obtain ⟨g,cur,e,h1,h2,h3⟩:=h;exact ⟨g,cur,e,h1,h2,RL.nm (fun j hj=>(hρ j hj).1) (by simpa[wu] using hl) h3⟩
 | ext e=>
   simp only[RO,CJ,e1,e2] at h ⊢;obtain ⟨g,h1,h2⟩:=h;have hn:e.qt=[]:=List.isEmpty_iff.1 (by simpa[wu] using hl);exact ⟨g,h1,e.loc (fun o ho=>by rw[hn] at ho;cases ho) h2⟩
theorem RO.same {st:Nat->Prop} {ρ':Nm} {o:Nat} {x:Obj} (hn:∀ o,ρ' o=ρ o) (hh:ρ'.hid o=ρ.hid o) (h:RO w st ρ o x):RO w st ρ' o x:=by
 have e:ρ'.nm=ρ.nm:=funext hn;cases x with
 | dead=>simp[RO]
 | row k rows=>simp only[RO,e] at h ⊢;exact h
 | box cs=>simp only[RO,e] at h ⊢;exact h
 | ext e'=>simp only[RO,e,hh] at h ⊢;exact h
def oW (h:List (Nat×Obj)):List Nat->List Obj->List (Nat×Obj)
 | o::os,x::xs=>oW (aG h o x) os xs
 | _,_=>h
theorem pX {ids:List Nat} {o:Nat}:∀ {h:List (Nat×Obj)} {xs:List Obj},o∉ids->az (oW h ids xs) o=az h o:=by
 induction ids with
 | nil=>intro h xs _;cases xs<;>rfl
 | cons x os ih=>
   intro h xs ho;cases xs with
   | nil=>rfl
   | cons y ys=>
     simp only[lp,vQ] at ho;rw[oW,ih ho.2,aM ho.1]
theorem yY {ids:List Nat}:∀ {h:List (Nat×Obj)} {xs:List Obj} {j:Nat} {x:Obj},ids.Nodup->(∀ o∈ids,ec h o=true)->j<ids.length->xs[j]? = some x->
  az (oW h ids xs) (ids.getD j 0)=x:=by
 induction ids with
 | nil=>intro h xs j x _ _ hj;simp at hj
 | cons x os ih=>
   intro h xs j y hn hh hj hx;cases xs with
   | nil=>simp at hx
   | cons z ys=>
     simp only[M4] at hn;cases j with
     | zero=>
       simp only[List.getElem?_cons_zero,gC] at hx;subst hx;simp only[Po,oW];rw[pX hn.1,aX (hh x (by simp))]
     | succ j=>
       simp only[List.getElem?_cons_succ] at hx;simp only[List.length_cons] at hj;simp only[List.getD_cons_succ,oW];exact ih hn.2 (fun o ho=>by rw[fY];exact hh o (by simp[ho])) (by omega) hx
def St.sQ (σ:St) (dst:Option Nat) (ins new:List Nat) (ret:D) (outs:List Obj):St:=
 St.put { σ.bF new with heap:=oW (σ.bF new).heap (ins++new) (outs.map (CJ (ins++new))) } dst (CH (ins++new) ret)
def Flat (ret:D) (objs:List Obj):Prop:=
 (∀ w st st' ρ v,R w st ρ ret v->R w st' ρ ret v)/\(∀ x,x∈objs->∀ w st st' ρ j,RO w st ρ j x->RO w st' ρ j x)
theorem nG {ids:List Nat} {o:Nat} (h:o∈ids):ids.idxOf o<ids.length/\ids.getD (ids.idxOf o) 0=o:=by
 have hlt:=List.idxOf_lt_length_of_mem h;refine ⟨hlt,?_⟩;simp[List.getD,rF hlt]
theorem kU {ids:List Nat} (hn:ids.Nodup) {j:Nat} (hj:j<ids.length):ids.idxOf (ids.getD j 0)=j:=by
 simp only[List.getD,rF hj,Option.getD_some];exact hn.idxOf_getElem j hj
theorem aU.turn (h:aU w0 p σ a w ρ) {ρ':Nm} {heap':List (Nat×Obj)} {w':World} (N:Nat->Prop) (hnm:∀ o,ρ' o=ρ o) (J1:∀ o,¬ N o->ρ'.hid o=ρ.hid o)
  (hold:∀ o,¬ N o->az heap' o=az σ.heap o)
  (hnew:∀ o g,N o->az heap' o≠ .dead->ow ρ' o g->w.heap.size<=g\/∃ o',N o'/\az σ.heap o'≠ .dead/\ow ρ o' g)
  (hinj:∀ o o' g,N o->N o'->az heap' o≠ .dead->az heap' o'≠ .dead->ow ρ' o g->ow ρ' o' g->o=o')
  (SK:∀ o g,N o->az heap' o≠ .dead->ρ'.hid o g->g<w'.heap.size)
  (hw:∀ g,g<w.heap.size->(∀ o,N o->az σ.heap o≠ .dead->¬ ow ρ o g)->w'.heap[g]? = w.heap[g]?) (hs:∀ g n,Sh w g n->Sh w' g n) (hsz:w.heap.size<=w'.heap.size) (hos:w'.os=w.os) (Nd:w'.tape=w.tape) (hout:w'.output=w.output)
  (hx:∀ o,N o->∀ st:Nat->Prop,(∀ g,bO p σ.heap ρ w g->st g)->(∀ g,((w.heap.size<=g/\g<w'.heap.size)\/∃ o',N o'/\az σ.heap o'≠ .dead/\ow ρ o' g)->(∀ o,N o->az heap' o≠ .dead->¬ ow ρ' o g)->st g)->RO w' st ρ' o (az heap' o)):
  aU w0 p { σ with heap:=heap' } a w' ρ'/\(∀ g,bO p σ.heap ρ w g->bO p heap' ρ' w' g)/\
   (∀ g,((w.heap.size<=g/\g<w'.heap.size)\/∃ o',N o'/\az σ.heap o'≠ .dead/\ow ρ o' g)->(∀ o,N o->az heap' o≠ .dead->¬ ow ρ' o g)->bO p heap' ρ' w' g):=by
 have en:ρ'.nm=ρ.nm:=funext hnm;have R3:∀ o g,¬ N o->(ow ρ' o g↔ow ρ o g):=fun o g hn=>same.ow ⟨hnm o,J1 o hn⟩
 have qX:∀ g,bO p σ.heap ρ w g->∀ o,N o->az heap' o≠ .dead->¬ ow ρ' o g:=by
  intro g hg o ho hl e;rcases hnew o g ho hl e with h1|⟨o',h1,h2,h3⟩
  ·have:=hg.2.1;omega
  ·exact hg.2.2 o' h2 h3
 have hc:∀ g off,bO p σ.heap ρ w g->w'.cell? ⟨g,off,none⟩=w.cell? ⟨g,off,none⟩:=fun g off hg=>World.cell?_of_block (w:=w) (a:=⟨g,off,none⟩) (hw g hg.2.1 (fun o _ hl=>hg.2.2 o hl))
 have hst:∀ g,bO p σ.heap ρ w g->bO p heap' ρ' w' g:=by
  intro g hg;refine ⟨hg.1,Ie hg.2.1 hsz,fun o' ho'=>?_⟩;by_cases e:N o'
  ·exact qX g hg o' e ho'
  ·rw[hold o' e] at ho';rw[R3 o' g e];exact hg.2.2 o' ho'
 have Il:∀ g,((w.heap.size<=g/\g<w'.heap.size)\/∃ o',N o'/\az σ.heap o'≠ .dead/\ow ρ o' g)->(∀ o,N o->az heap' o≠ .dead->¬ ow ρ' o g)->bO p heap' ρ' w' g:=by
  intro g uj VW;refine ⟨?_,?_,fun o' ho'=>?_⟩
  ·rcases uj with uj|⟨o',h1,h2,h3⟩
   ·exact h.open_ g (.inl (JU h.below.size uj.1))
   ·exact h.open_ g (h.fresh o' g h2 h3)
  ·rcases uj with uj|⟨o',h1,h2,h3⟩
   ·exact uj.2
   ·exact Ie (h.mQ h2 h3) hsz
  ·by_cases e:N o'
   ·exact VW o' e ho'
   ·rw[hold o' e] at ho';rw[R3 o' g e];intro e';have hlt:=h.mQ ho' e';rcases uj with uj|⟨o2,h1,h2,h3⟩
    ·omega
    ·exact e (h.inj o' o2 g ho' h2 e' h3▸h1)
 refine ⟨⟨h.open_,h.defers,by rw[en];exact RL.mono hc hs hst h.slots,fun o'=>?_,fun o1 o2 g h1 h2 e1 e2=>?_,fun o1 g h1 e1=>?_,fun o1 g h1 e1=>?_,?_,fun o ho=>by rw[hnm];exact h.kf o ho⟩,hst,Il⟩
 ·by_cases e:N o'
  ·exact hx o' e _ hst Il
  ·show RO w' _ ρ' o' (az heap' o');rw[hold o' e];by_cases hd:az σ.heap o' = .dead
   ·rw[hd];simp[RO]
   ·refine RO.same hnm (J1 o' e) (RO.mono hc hs hst (fun g hg=>hw g (h.mQ hd hg) (fun o ho hl e'=>?_)) (h.objs o'));exact e (h.inj o' o g hd hl hg e'▸ho)
 ·change az heap' o1≠ .dead at h1;change az heap' o2≠ .dead at h2
  have u7:∀ o1 o2,N o1->¬ N o2->az heap' o1≠ .dead->az heap' o2≠ .dead->ow ρ' o1 g->ow ρ' o2 g->False:=by
   intro o1 o2 n1 n2 h1 h2 e1 e2;rw[hold o2 n2] at h2;rw[R3 o2 g n2] at e2;rcases hnew o1 g n1 h1 e1 with h3|⟨o3,h3,h4,h5⟩
   ·have:=h.mQ h2 e2;omega
   ·exact n2 (h.inj o3 o2 g h4 h2 h5 e2▸h3)
  by_cases n1:N o1<;>by_cases n2:N o2
  ·exact hinj o1 o2 g n1 n2 h1 h2 e1 e2
  ·exact (u7 o1 o2 n1 n2 h1 h2 e1 e2).elim
  ·exact (u7 o2 o1 n2 n1 h2 h1 e2 e1).elim
  ·rw[hold o1 n1] at h1;rw[hold o2 n2] at h2;exact h.inj o1 o2 g h1 h2 ((R3 o1 g n1).1 e1) ((R3 o2 g n2).1 e2)
 ·change az heap' o1≠ .dead at h1;by_cases n1:N o1
  ·rcases hnew o1 g n1 h1 e1 with h3|⟨o3,h3,h4,h5⟩
   ·exact .inl (JU h.below.size h3)
   ·exact h.fresh o3 g h4 h5
  ·rw[hold o1 n1] at h1;exact h.fresh o1 g h1 ((R3 o1 g n1).1 e1)
 ·change az heap' o1≠ .dead at h1;by_cases n1:N o1
  ·exact SK o1 g n1 h1 e1
  ·rw[hold o1 n1] at h1;rw[J1 o1 n1] at e1;exact Ie (h.hlt o1 g h1 e1) hsz
 ·refine h.below.trans (E9:=fun k=> ∃ o,N o/\az σ.heap o≠ .dead/\ow ρ o k) ⟨hos,Nd,hout,hsz,fun k hk hn=>hw k hk (fun o ho hl e=>hn ⟨o,ho,hl,e⟩),hs⟩ ?_;rintro g hg ⟨o,ho,hl,e⟩;rcases h.fresh o g hl e with h3|h3
  ·omega
  ·exact h3
def ni (ρ:Nm) (ids:List Nat):Nm:=⟨fun j=>if j<ids.length then ρ (ids.getD j 0) else none,fun j=>if j<ids.length then ρ.hid (ids.getD j 0) else fun _=>False⟩
theorem Bw {ids:List Nat} {outs:List Obj} {j:Nat} (hj:j<outs.length):(outs.map (CJ ids))[j]? = some (CJ ids (outs.getD j .dead)):=by
 simp[List.getD,rF hj]
theorem aU.call (h:aU w0 p σ a w ρ) {w':World} {v:Value} {dst:Option Nat} {ins new:List Nat} {xs:List Obj} {ret:D} {outs:List Obj} {st:Nat->Prop} {ρc:Nm}
  (pP:xs.length=ins.length) (JY:∀ j,j<ins.length->xs.getD j .dead≠ .dead->az σ.heap (ins.getD j 0)≠ .dead)
  (ho:Bv w w' st (ni ρ ins) ρc xs ret outs v) (hn:(ins++new).Nodup) (hlen:(ins++new).length=outs.length) (hh:∀ o∈ins++new,ec σ.heap o=true) (hnew:∀ o∈new,o<1000) (hlt:vS outs.length ret=true) (hlo:outs.all (wu outs.length)=true)
  (hst:(∀ g,st g->bO p σ.heap ρ w g)\/Flat ret outs):Rel w0 p (σ.sQ dst ins new ret outs) (a.put dst v) w':=by
 let ρk:Nm:=⟨fun o=>if o∈new then ρc ((ins++new).idxOf o) else ρ o,fun o=>if o∈new then fun _=>False else ρ.hid o⟩
 let ρ':Nm:=⟨fun o=>if o∈new then ρc ((ins++new).idxOf o) else ρ o,fun o=>if o∈ins++new then ρc.hid ((ins++new).idxOf o) else ρ.hid o⟩
 have GZ:∀ o,o∈ins->o∉new:=fun o h1 h2=>(List.nodup_append.1 hn).2.2 o h1 o h2 rfl
 have hin:∀ j,j<outs.length->ρ' ((ins++new).getD j 0)=ρc j/\ρ'.hid ((ins++new).getD j 0)=ρc.hid j:=by
  intro j hj;rw[<- hlen] at hj;have YQ:(ins++new).getD j 0∈ins++new:=by simp only[List.getD,rF hj,Option.getD_some];exact Ih hj
  refine ⟨?_,by simp only[ρ',YQ,jg,kU hn hj]⟩;by_cases hji:j<ins.length
  ·have hg:(ins++new).getD j 0=ins.getD j 0:=by simp[List.getD,Cl hji]
   have hm:ins.getD j 0∈ins:=by simp only[List.getD,rF hji,Option.getD_some];exact Ih hji
   rw[hg];simp only[ρ',GZ _ hm,jd];rw[ho.keep j (by omega)];simp only[ni,hji,jg]
  ·have hm:(ins++new).getD j 0∈new:=by
    have hj':j-ins.length<new.length:=by rw[bW] at hj;omega
    simp only[List.getD,EJ (Qr hji),rF hj',Option.getD_some];exact Ih hj'
   simp only[ρ',hm,jg,kU hn hj]
 have hk:aU w0 p (σ.bF new) a w ρk:=h.bF (fun o e=>⟨by simp[ρk,e],by simp[ρk,e]⟩) (fun o h1=>by have h2:o∉new:=fun e=>absurd (hnew o e) (by omega);simp[ρk,h2])
 have J2:∀ o,az (σ.bF new).heap o≠ .dead->o∉new/\az σ.heap o≠ .dead:=by
  intro o hl;exact ⟨fun e=>hl (gM e),fun e=>hl (rL e)⟩
 have Nf:∀ o,o∉new->az σ.heap o≠ .dead->az (σ.bF new).heap o≠ .dead:=by
  intro o hno hl;exact vT hno hl
 have Fe:∀ o,o∈ins++new->∃ j,j<outs.length/\o=(ins++new).getD j 0/\az (oW (σ.bF new).heap (ins++new) (outs.map (CJ (ins++new)))) o=CJ (ins++new) (outs.getD j .dead):=by
  intro o hm;obtain ⟨hl,he⟩:=nG hm;refine ⟨(ins++new).idxOf o,by omega,he.symm,?_⟩;have:=yY (h:=(σ.bF new).heap) (xs:=outs.map (CJ (ins++new))) hn (fun o ho=>by rw[jw];exact hh o ho) hl (Bw (by omega))
  rwa [he] at this
 have Bx:∀ j,wu outs.length (outs.getD j .dead)=true:=by
  intro j;by_cases hj:j<outs.length
  ·have:=yN.1 hlo (outs.getD j .dead) (by simp only[List.getD,rF hj,Option.getD_some];exact Ih hj);simpa using this
  ·simp[List.getD,GU (Qr hj),wu]
 have J3:∀ j,j<outs.length->∀ {g},ow ρ' ((ins++new).getD j 0) g↔ow ρc j g:=fun j hj g=>by unfold ow;rw[(hin j hj).1,(hin j hj).2]
  -- the blocks of the objects handed in
 have hown:∀ g,mL xs (ni ρ ins) g->∃ o',o'∈ins++new/\az (σ.bF new).heap o'≠ .dead/\ow ρk o' g:=by
  rintro g ⟨j,h1,h2⟩
  have hj:j<ins.length:=by
   by_cases hj:j<ins.length
   ·exact hj
   ·exfalso;apply h1;simp[List.getD,GU (show xs.length<=j by omega)]
  have hm:ins.getD j 0∈ins:=by simp only[List.getD,rF hj,Option.getD_some];exact Ih hj
  refine ⟨ins.getD j 0,lS.2 (.inl hm),Nf _ (GZ _ hm) (JY j hj h1),?_⟩;rcases h2 with h2|h2
  ·left;simp only[ρk,GZ _ hm,jd];simpa[ni,hj] using h2
  ·right;simp only[ρk,GZ _ hm,jd];simpa[ni,hj] using h2
 have kW:=hk.turn (w':=w') (heap':=oW (σ.bF new).heap (ins++new) (outs.map (CJ (ins++new)))) (ρ':=ρ') (· ∈ins++new) (fun o=>rfl) (fun o e=>by have e2:o∉new:=fun h=>e (lS.2 (.inr h));simp only[ρ',ρk,e,e2,jd]) (fun o e=>pX e)
  (fun o g hm hl hg=>by
   obtain ⟨j,hj,he,hx⟩:=Fe o hm;rw[hx] at hl;have hg:=(J3 j hj).1 (he▸hg);rcases ho.fresh j g (fun e=>hl (by rw[e];rfl)) hg with h1|h1
   ·exact .inl h1
   ·exact .inr (hown g h1))
  (fun o1 o2 g m1 m2 l1 l2 e1 e2=>by
   obtain ⟨j1,YR,Ye,hx1⟩:=Fe o1 m1;obtain ⟨j2,hj2,MN,hx2⟩:=Fe o2 m2;rw[hx1] at l1;rw[hx2] at l2;have e1:=(J3 j1 YR).1 (Ye▸e1);have e2:=(J3 j2 hj2).1 (MN▸e2)
   rw[Ye,MN,ho.inj j1 j2 g (fun e=>l1 (by rw[e];rfl)) (fun e=>l2 (by rw[e];rfl)) e1 e2])
  (fun o g hm hl hg=>by
   obtain ⟨j,hj,he,hx⟩:=Fe o hm;rw[hx] at hl;rw[he,(hin j hj).2] at hg
   exact ho.hlt j g (fun e=>hl (by rw[e];rfl)) hg)
  (fun g hg hnot=>ho.below.block g hg (fun zZ=>by
   obtain ⟨o',h1,h2,h3⟩:=hown g zZ
   exact hnot o' h1 h2 h3))
  ho.below.VQ ho.below.size ho.below.os ho.below.tape ho.below.output
  (fun o hm Vw h1 h2=>by
   obtain ⟨j,hj,he,hx⟩:=Fe o hm;rw[hx,he];refine RO.nm hin hj (Bx j) ?_;have hro:=ho.objs j;rcases hst with hst|hst
   ·refine RO.mono (fun _ _ _=>rfl) (fun _ _ hh=>hh) (fun g hg=>?_) (fun _ _=>rfl) hro
    have hnc:∀ o,o∈ins++new->az (oW (σ.bF new).heap (ins++new) (outs.map (CJ (ins++new)))) o≠ .dead->¬ ow ρ' o g:=by
     intro o2 m2 l2 e2;obtain ⟨j2,hj2,MN,hx2⟩:=Fe o2 m2;rw[hx2] at l2;have e2:=(J3 j2 hj2).1 (MN▸e2);exact hg.2 j2 (fun e=>l2 (by rw[e];rfl)) e2
    rcases hg.1 with uj|uj|uj
    ·have hs:=hst g uj;refine h1 g ⟨hs.1,hs.2.1,fun o' ho' e=>?_⟩;obtain ⟨n1,l1⟩:=J2 o' ho'
     have e:ow ρ o' g:=by
      rcases e with e|e
      ·left;simpa[ρk,n1] using e
      ·right;simpa[ρk,n1] using e
     exact hs.2.2 o' l1 e
    ·exact h2 g (.inr (hown g uj)) hnc
    ·exact h2 g (.inl uj) hnc
   ·by_cases hjl:j<outs.length
    ·exact hst.2 _ (by simp only[List.getD,rF hjl,Option.getD_some];exact Ih hjl) _ _ _ _ _ hro
    ·omega)
 obtain ⟨i4,Qy,J4⟩:=kW;refine ⟨ρ',?_⟩;refine aU.put i4 dst ?_;refine R.nm (fun j hj=>(hin j hj).1) hlt ?_;rcases hst with hst|hst
 ·refine R.mono (fun _ _ _=>rfl) (fun _ _ hh=>hh) (fun g hg=>?_) ho.ret
  have hnc:∀ o,o∈ins++new->az (oW (σ.bF new).heap (ins++new) (outs.map (CJ (ins++new)))) o≠ .dead->¬ ow ρ' o g:=by
   intro o2 m2 l2 e2;obtain ⟨j2,hj2,MN,hx2⟩:=Fe o2 m2;rw[hx2] at l2;have e2:=(J3 j2 hj2).1 (MN▸e2);exact hg.2 j2 (fun e=>l2 (by rw[e];rfl)) e2
  rcases hg.1 with uj|uj|uj
  ·have hs:=hst g uj;refine Qy g ⟨hs.1,hs.2.1,fun o' ho' e=>?_⟩;obtain ⟨n1,l1⟩:=J2 o' ho'
   have e:ow ρ o' g:=by
    rcases e with e|e
    ·left;simpa[ρk,n1] using e
    ·right;simpa[ρk,n1] using e
   exact hs.2.2 o' l1 e
  ·exact J4 g (.inr (hown g uj)) hnc
  ·exact J4 g (.inl uj) hnc
 ·exact hst.1 _ _ _ _ _ ho.ret
end
def gB (want:Bool):D->Option Bool
 | .sc (.bool b)=>some (b==want)
 | .sc (.tuple _)=>some false
 | _=>none
theorem Ng (want b:Bool):gB want (.sc (.bool b))=some (b==want):=rfl
theorem J5 (want:Bool):gB want (.sc undef)=some false:=rfl
def ij (all:Array Oper) (σ:St) (o:Oper):Option Bool:=
 match o.guard with
 | none=>some true
 | some (j,want)=>((all[j]?).bind (·.dst)).bind fun t=>gB want (σ.slots.getD t .any)
theorem Ff {σ:St} {all:Array Oper} {w0:World} {p:Pm} {a:Act} {w:World} (hr:Rel w0 p σ a w) {j t:Nat} {vs:Array Value} (hj:(all[j]?).bind (·.dst)=some t) (hb:σ.slots.getD t .any = .sc (.tuple vs)):
  yielded all a.tmps j=none:=by
 obtain ⟨ρ,hr⟩:=hr;cases hd:σ.slots[t]? with
 | none=>simp[List.getD,hd] at hb
 | some d=>
   simp only[List.getD,hd,Option.getD_some] at hb;subst hb;obtain ⟨v,h1,h2⟩:=pV hr.slots hd;simp only[R] at h2;subst h2;rw[oe] at h1;unfold yielded;rw[hj];simp[h1]
theorem aT {all:Array Oper} {σ:St} {o:Oper} {w0:World} {p:Pm} {a:Act} {w:World} {g:Bool} (hg:ij all σ o=some g) (hr:Rel w0 p σ a w):Region.wanted o (yielded all a.tmps)=g:=by
 unfold ij at hg
 split at hg
 ·rename_i hgd;simp only[gC] at hg;simp[Region.wanted,hgd,hg]
 ·rename_i j want hgd;simp only[j3] at hg;obtain ⟨t,⟨oj,Nh,ht⟩,hg⟩:=hg;have hj:(all[j]?).bind (·.dst)=some t:=by rw[Nh];exact ht
  unfold gB at hg
  split at hg
  ·rename_i b hb;simp only[gC] at hg;have hy:=Fb hr hj hb;simp only[Region.wanted,hgd,hy];rw[<- hg];cases b<;>cases want<;>rfl
  ·rename_i vs hb;simp only[gC] at hg;have hy:=Ff hr hj hb;simp only[Region.wanted,hgd,hy];rw[<- hg];cases want<;>rfl
  ·cases hg
def fZ {α β:Type} (f:α->Option β):List α->Option (List β)
 | []=>some []
 | x::xs=>(f x).bind fun y=>(fZ f xs).map fun ys=>y::ys
def ef (σ:St) (ids:List Nat):Nat->D->Option D
 | 0,_=>none
 | n+1,d=>match d with
   | .sc v=>some (.sc v)
   | .sl k rows=>some (.sl k rows)
   | .ro cs=>some (.ro cs)
   | .agg cs=>(fZ (ef σ ids n) cs).map .agg
   | .cT cs=>(fZ (ef σ ids n) cs).map .cT
   | .fn f cs=>(fZ (ef σ ids n) cs).map (.fn f)
   | .ref o off=>if o∈ids then some (.ref (ids.idxOf o) off) else match az σ.heap o with
     | .box cs=>if (cs.drop off).all qP then (fZ (ef σ ids n) (cs.drop off)).bind fun l=>if jA l then some (.ro l) else none else none
     | _=>none
   | .jN o k i off=>if o∈ids then some (.jN (ids.idxOf o) k i off) else match az σ.heap o with
     | .row k' rows=>if k=k' then (rows[i]?).map (fun r=> .ro (r.drop off)) else none
     | _=>none
   | .cW o k off len=>if o∈ids then some (.cW (ids.idxOf o) k off len) else match az σ.heap o with
     | .row k' rows=>if k=k'/\off+len<=rows.length then some (.sl k ((rows.drop off).take len)) else none
     | _=>none
   | .any=>none
   | .mp o=>if o∈ids then some (.mp (ids.idxOf o)) else none
section
variable {w0:World} {p:Pm} {σ:St} {a:Act} {w:World} {ρ:Nm}
def J6 (p:Pm) (σ:St) (ρ:Nm) (ids:List Nat) (w:World) (g:Nat):Prop:=p.rd g/\g<w.heap.size/\∀ o,o∈ids->az σ.heap o≠ .dead->¬ ow ρ o g
theorem iq {ids:List Nat} {n:Nat} (ih:∀ d d' v,ef σ ids n d=some d'->R w (bO p σ.heap ρ w) ρ d v->R w (J6 p σ ρ ids w) (ni ρ ids) d' v):∀ {ds ds':List D} {vs:List Value},fZ (ef σ ids n) ds=some ds'->
  RL w (bO p σ.heap ρ w) ρ ds vs->RL w (J6 p σ ρ ids w) (ni ρ ids) ds' vs
 | [],_,_,h,hr=>by
   simp only[fZ,gC] at h;subst h;simpa[RL] using hr
 | d::ds,_,_,h,hr=>by
   simp only[fZ,j3,ku] at h;obtain ⟨d',h1,ds',h2,rfl⟩:=h;simp only[RL] at hr ⊢;obtain ⟨v,vs',h3,h4,h5⟩:=hr;exact ⟨v,vs',h3,ih d d' v h1 h4,iq ih h2 h5⟩
theorem kD {st:Nat->Prop} {g:Nat}:∀ {cs:List D} {vs:List Value} {off:Nat},RL w st (fun _=>none) cs vs->(∀ v∈vs,v.oneCell'=true)->(∀ j v,vs[j]? = some v->w.cell? ⟨g,off+j,none⟩=some v)->RC w st g off cs
 | [],_,_,_,_,_=>by simp[RC]
 | c::cs,_,off,h,h1,h2=>by
   simp only[RL] at h;obtain ⟨v,vs',rfl,h3,h4⟩:=h;simp only[RC];refine ⟨⟨v,by simpa using h2 0 v (by simp),h1 v (by simp),h3⟩,kD h4 (fun u hu=>h1 u (by simp[hu])) (fun j u hj=>?_)⟩;have:=h2 (j+1) u (by simpa using hj)
   rwa [show off+1+j=off+(j+1) by omega]
theorem uk {ids:List Nat} (g:Nat) (h:bO p σ.heap ρ w g):J6 p σ ρ ids w g:=⟨h.1,h.2.1,fun o _ hl=>h.2.2 o hl⟩
theorem nH {ids:List Nat} {o:Nat} (h:o∈ids):ni ρ ids (ids.idxOf o)=ρ o:=by
 obtain ⟨h1,h2⟩:=nG h;simp only[ni,h1,jg,h2]
theorem qx (h:aU w0 p σ a w ρ) {ids:List Nat}:∀ n d d' v,ef σ ids n d=some d'->R w (bO p σ.heap ρ w) ρ d v->R w (J6 p σ ρ ids w) (ni ρ ids) d' v:=by
 intro n
 induction n with
 | zero=>intro d d' v hd;simp[ef] at hd
 | succ n ih=>
   intro d d' v hd hr;have live:∀ o g,o∉ids->az σ.heap o≠ .dead->ρ o=some (some g)->J6 p σ ρ ids w g:=fun o g hn h1 h2=>⟨h.open_ g (h.fresh o g h1 (.inl h2)),(h.objs o).lt h1 h2,fun o' ho' hl' e=>hn (h.inj o' o g hl' h1 e (.inl h2)▸ho')⟩
   cases d with
   | any=>simp[ef] at hd
   | mp o=>
     simp only[ef] at hd
     split at hd
     ·rename_i hm;simp only[gC] at hd;subst hd;simp only[R] at hr ⊢;rw[nH hm];exact hr
     ·cases hd
   | sc u=>simp only[ef,gC] at hd;subst hd;simpa[R] using hr
   | sl k rows=>
     simp only[ef,gC] at hd;subst hd;have:=R.mono (ρ:=ρ) (st':=J6 p σ ρ ids w) (fun _ _ _=>rfl) (fun _ _ hh=>hh) uk hr;simpa[R] using this
   | ro cs=>
     simp only[ef,gC] at hd;subst hd;have:=R.mono (ρ:=ρ) (st':=J6 p σ ρ ids w) (fun _ _ _=>rfl) (fun _ _ hh=>hh) uk hr;simpa[R] using this
   | agg cs=>
     simp only[ef,ku] at hd;obtain ⟨cs',h1,rfl⟩:=hd;simp only[R] at hr ⊢;obtain ⟨vs,h2,h3⟩:=hr;exact ⟨vs,h2,iq ih h1 h3⟩
   | cT cs=>
     simp only[ef,ku] at hd;obtain ⟨cs',h1,rfl⟩:=hd;simp only[R] at hr ⊢;obtain ⟨vs,h2,h3⟩:=hr;exact ⟨vs,h2,iq ih h1 h3⟩
   | fn f cs=>
     simp only[ef,ku] at hd;obtain ⟨cs',h1,rfl⟩:=hd;simp only[R] at hr ⊢;obtain ⟨vs,h2,h3⟩:=hr;exact ⟨vs,h2,iq ih h1 h3⟩
   | ref o off=>
     simp only[ef] at hd
     split at hd
     ·rename_i hm;simp only[gC] at hd;subst hd;simp only[R] at hr ⊢;rw[nH hm];exact hr
     rename_i hni
     split at hd
     ·rename_i cs hg
      split at hd
      ·rename_i hone;simp only[j3] at hd;obtain ⟨cs',h1,hd⟩:=hd
       split at hd
       case isFalse=>cases hd
       rename_i JJ;simp only[gC] at hd;subst hd;have hb:=h.objs o;rw[hg] at hb;simp only[RO] at hb;obtain ⟨g,cur,e,h2,h3,h4⟩:=hb;simp only[R] at hr ⊢;obtain ⟨g',h5,h6⟩:=hr;rw[h2] at h5;simp only[gC] at h5;subst h5;have h7:=qu off h4;refine ⟨g,off,h6,live o g hni (by rw[hg];simp) h2,kD (jv JJ (iq ih h1 h7)) (rJ hone h7) (fun j u hj=>?_)⟩;rw[cell_of_row w g (off+j) cur e (0,0) h3, <- oe];rw[Qq] at hj;exact hj
      ·cases hd
     ·cases hd
   | jN o k i off=>
     simp only[ef] at hd
     split at hd
     ·rename_i hm;simp only[gC] at hd;subst hd;simp only[R] at hr ⊢;rw[nH hm];exact hr
     rename_i hni
     split at hd
     ·rename_i k' rows hg
      split at hd
      ·rename_i hk;subst hk;rw[ku] at hd;obtain ⟨r,h1,rfl⟩:=hd;have hb:=h.objs o;rw[hg] at hb;simp only[R] at hr ⊢;obtain ⟨g,h2,h3⟩:=hr;simp only[RO,h2] at hb;obtain ⟨cur,e,cap,_,_,_,_,h7⟩:=hb;have h8:=sO off (ug h7 h1).2;refine ⟨g,i*k+off,h3,live o g hni (by rw[hg];simp) h2,?_⟩;rw[kO] at h8;exact RC.mono (fun _ _ _=>rfl) (fun _ _ hh=>hh) uk (fun _=>rfl) h8
      ·cases hd
     ·cases hd
   | cW o k off len=>
     simp only[ef] at hd
     split at hd
     ·rename_i hm;simp only[gC] at hd;subst hd;simp only[R] at hr ⊢;rw[nH hm];exact hr
     rename_i hni
     split at hd
     ·rename_i k' rows hg
      split at hd
      ·rename_i hk;obtain ⟨rfl,hle⟩:=hk;simp only[gC] at hd;subst hd;have hb:=h.objs o;rw[hg] at hb;have hl:((rows.drop off).take len).length=len:=by rw[cw,bQ];omega
       simp only[R] at hr ⊢;rcases hr with ⟨e1,rfl,rfl,A,e4⟩|⟨g,cap,A,e1,e2,e3,e4,e5,e6⟩
       ·exact ⟨A,0,by rw[hl];exact e4,by rw[hl];omega,by unfold maxLen;omega, .inl (by simp)⟩
       ·refine ⟨A,cap-off,by rw[hl];exact e5,by rw[hl];omega,by omega,?_⟩;by_cases hz:len=0
        ·left;simp[hz]
        ·right;simp only[RO,e1] at hb;obtain ⟨cur,e,cap',_,_,_,_,h7⟩:=hb;refine ⟨g,off*k,e6 (by omega),live o g hni (by rw[hg];simp) e1,?_⟩;have:=om len (sP off h7);rw[kO] at this;exact RR.mono (fun _ _ _=>rfl) (fun _ _ hh=>hh) uk (fun _=>rfl) this
      ·cases hd
     ·cases hd
end
section
variable {P:Program} {all:Array Oper} {Q:Exit->St->Prop} {σ σ':St} {o:Oper} {rest:List Oper}
theorem mR {w0:World} {p:Pm} {a:Act} {w:World} {ρ:Nm} (h:aU w0 p σ a w ρ):∀ l:List Operand,RL w (bO p σ.heap ρ w) ρ (l.map (bh σ)) (l.map a.eval)
 | []=>by simp[RL]
 | x::l=>by simp only[JH,RL];exact ⟨_,_,rfl,h.bh x,mR h l⟩
theorem pY {f:FuncId} {as:Array Value} {a:Act} {w:World} {Q':Exit->Act->World->Prop} {R':Value->World->Prop} (hw:Region.wanted o (yielded all a.tmps)=true)
  (h:(execOp a.eval o).run P w = .ok (.enter f as) w) (hc:Calls P f as w fun e w'=> ∃ v,e = .returned v/\R' v w') (hn:∀ v w',R' v w'->wpList P all Q' rest (a.put o.dst v) w'):wpList P all Q' (o::rest) a w:=by
 unfold wpList;rw[bC hw];left;unfold Oper.wp;rw[h,Oper.upon_enter];refine hc.mono ?_;rintro e w' ⟨v,rfl,hr⟩;exact hn v w' hr
theorem wY {a:Act} {w:World} {f:FuncId} {x:Operand} {xs:Array Operand} {ts:Array TypeId} {vs:Array Value} (ho:o.op = .call { callee:= .value x,args:=xs,argTypes:=ts }) (hx:a.eval x = .func (.func f) #[] vs)
  (hc:∀ as w,(callFunc f as).run P w = .ok (.enter f as) w):(execOp a.eval o).run P w = .ok (.enter f (xs.map a.eval++vs)) w:=by
 simp[execOp,ho,resolve,hx,Deferred.ofValue,invoke,hc]
end
mutual
def um (ids:List Nat):D->Option D
 | .ref o off=>if o∈ids then some (.ref (ids.idxOf o) off) else none
 | .mp o=>if o∈ids then some (.mp (ids.idxOf o)) else none
 | .jN o k i off=>if o∈ids then some (.jN (ids.idxOf o) k i off) else none
 | .cW o k off len=>if o∈ids then some (.cW (ids.idxOf o) k off len) else none
 | .agg cs=>(iu ids cs).map .agg
 | .cT cs=>(iu ids cs).map .cT
 | .fn f cs=>(iu ids cs).map (.fn f)
 | .any=>some .any
 | .sc v=>some (.sc v)
 | .sl k rows=>some (.sl k rows)
 | .ro cs=>some (.ro cs)
def iu (ids:List Nat):List D->Option (List D)
 | []=>some []
 | d::ds=>(um ids d).bind fun x=>(iu ids ds).map fun xs=>x::xs
end
mutual
theorem R.vU {w:World} {st:Nat->Prop} {ρ ρ':Nat->Option (Option Nat)} {ids:List Nat} (h:∀ o,o∈ids->ρ' (ids.idxOf o)=ρ o):∀ {d d':D} {v:Value},um ids d=some d'->R w st ρ d v->R w st ρ' d' v
 | .any,_,_,hd,_=>by simp only[um,gC] at hd;subst hd;simp[R]
 | .sc _,_,_,hd,hr | .sl _ _,_,_,hd,hr | .ro _,_,_,hd,hr=>by simp only[um,gC] at hd;subst hd;simpa[R] using hr
 | .agg _,_,_,hd,hr | .cT _,_,_,hd,hr | .fn _ _,_,_,hd,hr=>by
   simp only[um,ku] at hd;obtain ⟨cs',h1,rfl⟩:=hd;simp only[R] at hr ⊢;obtain ⟨vs,h2,h3⟩:=hr;exact ⟨vs,h2,RL.vU h h1 h3⟩
 | .ref o _,_,_,hd,hr | .mp o,_,_,hd,hr | .jN o _ _ _,_,_,hd,hr | .cW o _ _ _,_,_,hd,hr=>by
   simp only[um] at hd
   split at hd
   ·rename_i hm;simp only[gC] at hd;subst hd;simp only[R] at hr ⊢;rw[h o hm];exact hr
   ·cases hd
theorem RL.vU {w:World} {st:Nat->Prop} {ρ ρ':Nat->Option (Option Nat)} {ids:List Nat} (h:∀ o,o∈ids->ρ' (ids.idxOf o)=ρ o):∀ {ds ds':List D} {vs:List Value},iu ids ds=some ds'->RL w st ρ ds vs->RL w st ρ' ds' vs
 | [],_,_,hd,hr=>by simp only[iu,gC] at hd;subst hd;simpa[RL] using hr
 | d::ds,_,_,hd,hr=>by
   simp only[iu,j3,ku] at hd;obtain ⟨d',h1,ds',h2,rfl⟩:=hd;simp only[RL] at hr ⊢;obtain ⟨v,vs',h3,h4,h5⟩:=hr;exact ⟨v,vs',h3,R.vU h h1 h4,RL.vU h h2 h5⟩
end
section
variable {P:Program} {all:Array Oper} {Q:Exit->St->Prop} {σ σ':St} {o:Oper} {rest:List Oper}
def pI (f:List D->Option (List D)):Obj->Option Obj
 | .box cs=>(f cs).map .box
 | .ext e=>cond e.qt.isEmpty (some (.ext e)) none
 | x=>some x
def jQ (σ:St) (f:List D->Option (List D)):List Nat->Option (List Obj)
 | []=>some []
 | o::os=>(pI f (az σ.heap o)).bind fun x=>(jQ σ f os).map fun xs=>x::xs
theorem kE {f:List D->Option (List D)}:∀ {ids:List Nat} {xs:List Obj},jQ σ f ids=some xs->xs.length=ids.length/\∀ j,j<ids.length->pI f (az σ.heap (ids.getD j 0))=some (xs.getD j .dead)
 | [],xs,h=>by simp only[jQ,gC] at h;subst h;simp
 | o::os,xs,h=>by
   simp only[jQ,j3,ku] at h;obtain ⟨x,h1,ys,h2,rfl⟩:=h;obtain ⟨h3,h4⟩:=kE h2;refine ⟨by simp[h3],fun j hj=>?_⟩;cases j with
   | zero=>simpa using h1
   | succ j=>simpa using h4 j (by simpa using hj)
theorem wZ {f:List D->Option (List D)} {e:Ext} {y:Obj} (h:pI f (.ext e)=some y):e.qt=[]/\y = .ext e:=by
 rw[pI] at h;cases hn:e.qt.isEmpty with
 | true=>rw[hn] at h;exact ⟨List.isEmpty_iff.1 hn,by simpa using h.symm⟩
 | false=>rw[hn] at h;cases h
theorem je {f:List D->Option (List D)} {x y:Obj} (h:pI f x=some y):y≠ .dead↔x≠ .dead:=by
 cases x with
 | ext e=>rw[(wZ h).2]
 | dead=>simp[pI] at h;subst h;simp
 | row k rows=>simp[pI] at h;subst h;simp
 | box cs=>simp[pI] at h;obtain ⟨l,_,rfl⟩:=h;simp
theorem Qz {ρ:Nm} {ids:List Nat} {j g:Nat} (hj:j<ids.length):ow (ni ρ ids) j g↔ow ρ (ids.getD j 0) g:=by simp only[ow,ni,hj,jg]
theorem sR {w0:World} {p:Pm} {a:Act} {w:World} {ρ:Nm} {ids:List Nat} {xs:List Obj} {f:List D->Option (List D)} {st:Nat->Prop} (hr:aU w0 p σ a w ρ) (hn:ids.Nodup) (hx:jQ σ f ids=some xs)
  (hmono:∀ g,bO p σ.heap ρ w g->st g) (hout:∀ o g,o∈ids->az σ.heap o≠ .dead->ow ρ o g->¬ st g)
  (hf:∀ cs cs' vs,f cs=some cs'->RL w (bO p σ.heap ρ w) ρ cs vs->RL w st (ni ρ ids) cs' vs):zY w st (ni ρ ids) xs:=by
 obtain ⟨hl,hg⟩:=kE hx
 have hlt:∀ j,xs.getD j .dead≠ .dead->j<ids.length:=by
  intro j h;by_cases hj:j<ids.length
  ·exact hj
  ·exfalso;apply h;simp[List.getD,GU (show xs.length<=j by omega)]
 have hmem:∀ j,j<ids.length->ids.getD j 0∈ids:=by
  intro j hj;simp only[List.getD,rF hj,Option.getD_some];exact Ih hj
 refine ⟨fun j=>?_,fun j j' g h1 h2 e1 e2=>?_,fun j g h1 e1=>?_,fun j g h1 e1=>?_⟩
 ·by_cases hd:xs.getD j .dead = .dead
  ·rw[hd];simp[RO]
  ·have hj:=hlt j hd;have h1:=hg j hj;have h2:=hr.objs (ids.getD j 0);have hρ:ni ρ ids j=ρ (ids.getD j 0):=by simp only[ni,hj,jg]
   cases hx:az σ.heap (ids.getD j 0) with
   | dead=>rw[hx] at h1;simp only[pI,gC] at h1;exact absurd h1.symm hd
   | row k rows=>
     rw[hx] at h1 h2;simp only[pI,gC] at h1;rw[<- h1];simp only[RO,hρ] at h2 ⊢
     split at h2
     ·exact h2
     ·exact h2
     ·obtain ⟨cur,e,cap,r1,r2,r3,r4,r5⟩:=h2;exact ⟨cur,e,cap,r1,r2,r3,r4,RR.mono (fun _ _ _=>rfl) (fun _ _ hh=>hh) hmono (fun _=>rfl) r5⟩
   | box cs=>
     rw[hx] at h1 h2;simp only[pI,ku] at h1;obtain ⟨l,h3,h4⟩:=h1;rw[<- h4];simp only[RO,hρ] at h2 ⊢;obtain ⟨g,cur,e,r1,r2,r3⟩:=h2;exact ⟨g,cur,e,r1,r2,hf _ _ _ h3 r3⟩
   | ext e=>
     rw[hx] at h1 h2;obtain ⟨hn0,h1⟩:=wZ h1;rw[h1];have J1:(ni ρ ids).hid j=ρ.hid (ids.getD j 0):=by simp only[ni,hj,jg]
     simp only[RO,hρ,J1] at h2 ⊢;obtain ⟨g,r1,r2⟩:=h2;exact ⟨g,r1,e.loc (fun o ho=>by rw[hn0] at ho;cases ho) (e.mono (fun _ _ _=>rfl) (fun _ _ hh=>hh) hmono rfl (fun _ _=>rfl) r2)⟩
 ·have j1:=hlt j h1;have j2:=hlt j' h2;rw[Qz j1] at e1;rw[Qz j2] at e2;have:=hr.inj _ _ g ((je (hg j j1)).1 h1) ((je (hg j' j2)).1 h2) e1 e2;rw[<- kU hn j1, <- kU hn j2,this]
 ·have j1:=hlt j h1;rw[Qz j1] at e1;exact hout _ g (hmem j j1) ((je (hg j j1)).1 h1) e1
 ·have j1:=hlt j h1;simp only[ni,j1,jg] at e1;exact hr.hlt _ g ((je (hg j j1)).1 h1) e1
def oq (σ:St) (ins:List Nat) (ds args:List D) (xs:List Obj) (ret:D) (outs:List Obj):Prop:=
 (∃ ds' ys,iu ins ds=some ds'/\j4 ds' args/\jQ σ (iu ins) ins=some ys/\j5 ys xs)\/(∃ ds' ys,fZ (ef σ ins 4) ds=some ds'/\j4 ds' args/\jQ σ (fZ (ef σ ins 4)) ins=some ys/\j5 ys xs/\Flat ret outs)
theorem zY.le {w:World} {st:Nat->Prop} {ρ:Nm} {ys xs:List Obj} (h:zY w st ρ ys) (hl:j5 ys xs):zY w st ρ xs:=
 ⟨fun j=>RO.le (hl.get j) (h.objs j),fun j j' g h1 h2=>h.inj j j' g ((hl.get j).live h1) ((hl.get j').live h2),fun j g h1=>h.out j g ((hl.get j).live h1),fun j g h1=>h.hlt j g ((hl.get j).live h1)⟩
theorem Rel.call {w0:World} {p:Pm} {a:Act} {w:World} {ρ:Nm} (hr:aU w0 p σ a w ρ) {f:FuncId} {ds args:List D} {vs:List Value} {xs:List Obj} {ret:D} {outs:List Obj} {ins new:List Nat} {dst:Option Nat}
  (hc:aF P f xs args ret outs) (hargs:oq σ ins ds args xs ret outs) (hvs:RL w (bO p σ.heap ρ w) ρ ds vs)
  (hn:(ins++new).Nodup) (hlen:(ins++new).length=outs.length) (hh:(ins++new).all (ec σ.heap)=true) (hnew:new.all (fun o=>decide (o<1000))=true) (hlt:vS outs.length ret=true) (hlo:outs.all (wu outs.length)=true):
  Calls P f vs.toArray w fun e w'=> ∃ v,e = .returned v/\Rel w0 p (σ.sQ dst ins new ret outs) (a.put dst v) w':=by
 have MO:∀ o∈ins++new,ec σ.heap o=true:=fun o ho=>by simpa using yN.1 hh o ho
 have CL:∀ o∈new,o<1000:=fun o ho=>by have:=yN.1 hnew o ho;simpa using this
 have hni:ins.Nodup:=(List.nodup_append.1 hn).1;rcases hargs with ⟨ds',ys,h1,hle,h2,Bx⟩|⟨ds',ys,h1,hle,h2,Bx,h3⟩
 ·have pP:=kE h2;have hρ:∀ o,o∈ins->ni ρ ins (ins.idxOf o)=ρ o:=fun o ho=>nH ho;have hok:=sR (st:=bO p σ.heap ρ w) hr hni h2 (fun g hg=>hg) (fun o g _ hl e hs=>hs.2.2 o hl e) (fun cs cs' vs hcs hvs=>RL.vU hρ hcs hvs);refine (hc.run w (bO p σ.heap ρ w) _ vs (fun g hg=>hg.2.1) (hok.le Bx) (RL.le hle (RL.vU hρ h1 hvs))).mono ?_;rintro e w' ⟨v,rfl,ρ',ho⟩;exact ⟨v,rfl,hr.call (by rw[j5.length Bx];exact pP.1) (fun j hj hd=>(je (pP.2 j hj)).1 ((Bx.get j).live hd)) ho hn hlen MO CL hlt hlo (.inl fun g hg=>hg)⟩
 ·have pP:=kE h2;have hok:=sR (st:=J6 p σ ρ ins w) hr hni h2 uk (fun o g ho hl e hs=>hs.2.2 o ho hl e) (fun cs cs' vs hcs hvs=>iq (qx hr 4) hcs hvs);refine (hc.run w (J6 p σ ρ ins w) _ vs (fun g hg=>hg.2.1) (hok.le Bx) (RL.le hle (iq (qx hr 4) h1 hvs))).mono ?_;rintro e w' ⟨v,rfl,ρ',ho⟩;exact ⟨v,rfl,hr.call (by rw[j5.length Bx];exact pP.1) (fun j hj hd=>(je (pP.2 j hj)).1 ((Bx.get j).live hd)) ho hn hlen MO CL hlt hlo (.inr h3)⟩
theorem dH.SL {f:FuncId} {x:Operand} {xs:Array Operand} {ts:Array TypeId} {caps args:List D} {objs:List Obj} {ret:D} {outs:List Obj} (ins new:List Nat)
  (hw:∀ w0 p a w,Rel w0 p σ a w->Region.wanted o (yielded all a.tmps)=true)
  (ho:o.op = .call { callee:= .value x,args:=xs,argTypes:=ts }) (hx:bh σ x = .fn f caps) (hc:aF P f objs args ret outs)
  (hargs:oq σ ins (xs.toList.map (bh σ)++caps) args objs ret outs)
  (hn:(ins++new).Nodup) (hlen:(ins++new).length=outs.length) (hh:(ins++new).all (ec σ.heap)=true) (hnew:new.all (fun o=>decide (o<1000))=true) (hlt:vS outs.length ret=true) (hlo:outs.all (wu outs.length)=true)
  (hnext:dH P all Q rest (σ.sQ o.dst ins new ret outs)):dH P all Q (o::rest) σ:=by
 rintro w0 p a w ⟨ρ,hr⟩;have hx':=hr.bh x;rw[hx] at hx';simp only[R] at hx';obtain ⟨vs,hf,CM⟩:=hx';have hrun:=wY (P:=P) (w:=w) ho hf hc.call;have hall:=iG (mR hr xs.toList) CM
 have has:(xs.map a.eval++vs)=(xs.toList.map a.eval++vs.toList).toArray:=by
  apply Ig.1;simp
 rw[has] at hrun;exact pY (hw w0 p a w ⟨ρ,hr⟩) hrun (Rel.call (dst:=o.dst) hr hc hargs hall hn hlen hh hnew hlt hlo) (fun v w' hv=>hnext w0 p _ _ hv)
theorem dH.call {f:FuncId} {x:Operand} {xs:Array Operand} {ts:Array TypeId} {caps args:List D} {objs:List Obj} {ret:D} {outs:List Obj} (ins new:List Nat)
  (hg:ij all σ o=some true)
  (ho:o.op = .call { callee:= .value x,args:=xs,argTypes:=ts }) (hx:bh σ x = .fn f caps) (hc:aF P f objs args ret outs)
  (hargs:oq σ ins (xs.toList.map (bh σ)++caps) args objs ret outs)
  (hn:(ins++new).Nodup) (hlen:(ins++new).length=outs.length) (hh:(ins++new).all (ec σ.heap)=true) (hnew:new.all (fun o=>decide (o<1000))=true) (hlt:vS outs.length ret=true) (hlo:outs.all (wu outs.length)=true)
  (hnext:dH P all Q rest (σ.sQ o.dst ins new ret outs)):dH P all Q (o::rest) σ:=
 dH.SL ins new (fun w0 p a w hr=>aT hg hr) ho hx hc hargs hn hlen hh hnew hlt hlo hnext
end
def CN (keys:List Nat):List (Nat×Obj):=keys.map fun k=>(k, .dead)
theorem Fg (keys:List Nat) (o:Nat):az (CN keys) o = .dead:=by
 induction keys with
 | nil=>rfl
 | cons k ks ih=>simp only[CN,JH,az];split<;>first|rfl|exact ih
def oY (ids:List Nat) (ins:List Obj) (keys:List Nat):List (Nat×Obj):=List.zip ids (ins.map (CJ ids))++CN keys
theorem w4 {keys:List Nat} {f:Obj->Obj}:∀ {ids:List Nat} {ins:List Obj} (o:Nat),ids.length=ins.length->f .dead = .dead->az (List.zip ids (ins.map f)++CN keys) o=if o∈ids then f (ins.getD (ids.idxOf o) .dead) else .dead
 | [],[],o,_,_=>by simp[Fg]
 | i::ids,x::ins,o,hl,hf=>by
   simp only[JH,List.zip_cons_cons,List.cons_append,az,lp];by_cases e:i=o
   ·subst e;simp
   ·rw[aE e,w4 o (by simpa using hl) hf];by_cases hm:o∈ids
    ·have e2:(i==o)=false:=by simpa using e
     simp[hm,List.idxOf_cons,sF e,e2]
    ·simp[hm,sF e]
def Bz (P:Program) (σ:St):ResultVar->Option D
 | .tmp t=>some (σ.slots.getD t .any)
 | .cell a t=>(aA P t).bind fun ti=>(fX σ (σ.slots.getD a .any)).bind fun cs=>if ti.size<=cs.length then ML ti.kind.isAgg (cs.take ti.size) else none
def iw (P:Program) (σ:St):List ResultVar->Option D
 | [r]=>Bz P σ r
 | rs=>(fZ (Bz P σ) rs).map .cT
def lX (ids:List Nat) (h:List (Nat×Obj)):List Nat->Option (List Obj)
 | []=>some []
 | o::os=>(pI (iu ids) (az h o)).bind fun x=>(lX ids h os).map fun xs=>x::xs
def aC (P:Program) (fn:Func) (ins:List Nat) (ret:D) (outs:List Obj) (e:Exit) (σ0:St):Prop:= ∃ σ:St,(∀ w0 p a w,Rel w0 p σ0 a w->Rel w0 p σ a w)/\
 (e = .normal\/e = .ret)/\∃ new d,(ins++new).Nodup/\iw P σ fn.results.toList=some d/\(∃ d',um (ins++new) d=some d'/\nY d' ret)/\∃ xs,lX (ins++new) σ.heap (ins++new)=some xs/\j5 xs outs
theorem u9 {ids:List Nat} {h:List (Nat×Obj)}:∀ {l:List Nat} {outs:List Obj},lX ids h l=some outs->l.length=outs.length/\∀ j,j<outs.length->pI (iu ids) (az h (l.getD j 0))=some (outs.getD j .dead)
 | [],outs,hh=>by simp only[lX,gC] at hh;subst hh;simp
 | o::os,outs,hh=>by
   simp only[lX,j3,ku] at hh;obtain ⟨x,h1,xs,h2,rfl⟩:=hh;obtain ⟨h3,h4⟩:=u9 h2;refine ⟨by simp[h3],fun j hj=>?_⟩;cases j with
   | zero=>simpa using h1
   | succ j=>simpa using h4 j (by simpa using hj)
def z6 (tmps:Array Value):ResultVar->Sem Value
 | .tmp t=>pure (tmps.getD t undef)
 | .cell a t=>do loadVar t (<- asAddr (tmps.getD a undef))
theorem Fh (fn:Func) (tmps:Array Value):results fn tmps=(do let vs <- fn.results.mapM (z6 tmps);pure (if h:vs.size=1 then vs[0] else .tuple vs)):=by
 unfold results
 congr 1
theorem J7 {P:Program} {w0:World} {p:Pm} {σ:St} {a:Act} {w:World} {ρ:Nm} (h:aU w0 p σ a w ρ) {r:ResultVar} {d:D} (hd:Bz P σ r=some d):
  ∃ v,(z6 a.tmps r).run P w = .ok v w/\R w (bO p σ.heap ρ w) ρ d v:=by
 have slot:∀ t,R w (bO p σ.heap ρ w) ρ (σ.slots.getD t .any) (a.tmps.getD t undef):=fun t=>h.bh (.tmp t);cases r with
 | tmp t=>
   simp only[Bz,gC] at hd;subst hd;exact ⟨_,by simp[z6],slot t⟩
 | cell b t=>
   simp only[Bz,j3] at hd;obtain ⟨ti,ht,cs,hx,hd⟩:=hd
   split at hd
   case isFalse=>cases hd
   rename_i hl;obtain ⟨g,off,vs,h1,h2,h3⟩:=zV h hx (slot b);obtain ⟨_,hsz,_,_,EM⟩:=ej ht w;have hlen:=dF h2;have lD:=mP ti.size h2;unfold ML at hd;by_cases hA:ti.kind.isAgg=true
   ·rw[bC hA] at hd;simp only[gC] at hd;subst hd;have hlt:(vs.take ti.size).length=ti.size:=by rw[cw];omega
    have hrun:=run_loadCells_list (P:=P) w ⟨g,off,none⟩ (vs.take ti.size) (fun j v hj=>by
     rw[Addr.add_lit];rw[JG] at hj
     split at hj
     ·exact h3 j v hj
     ·cases hj)
    rw[hlt] at hrun;refine ⟨.agg (vs.take ti.size).toArray,?_,?_⟩
    ·simp[z6,h1,asAddr,loadVar,EM,hA,hsz,hrun]
    ·simp only[R];exact ⟨_,rfl,by simpa using lD⟩
   ·rw[aE hA] at hd;have Ij:ti.kind.isAgg=false:=by simpa using hA
    match hcs:cs.take ti.size,hd with
    | [c],hd=>
      simp only[gC] at hd;subst hd;rw[hcs] at lD;simp only[RL] at lD;obtain ⟨v,vs',e1,e2,e3⟩:=lD
      have hpos:0<ti.size:=by
       rcases SC ti.size with h0|h0
       ·rw[h0] at hcs;simp at hcs
       ·exact h0
      have hv:vs[0]? = some v:=by
       have:(vs.take ti.size)[0]? = some v:=by rw[e1];rfl
       rwa [EK hpos] at this
      have hc:=h3 0 v hv;simp only[Nat.add_zero] at hc;exact ⟨v,by simp[z6,h1,asAddr,loadVar,EM,Ij,hc],e2⟩
theorem nI {P:Program} {w0:World} {p:Pm} {σ:St} {a:Act} {w:World} {ρ:Nm} (h:aU w0 p σ a w ρ):∀ {rs:List ResultVar} {ds:List D},
  fZ (Bz P σ) rs=some ds->∃ vs:List Value,(rs.mapM (z6 a.tmps):Sem (List Value)).run P w = .ok vs w/\RL w (bO p σ.heap ρ w) ρ ds vs
 | [],ds,hd=>by
   simp only[fZ,gC] at hd;subst hd;exact ⟨[],by simp,by simp[RL]⟩
 | r::rs,ds,hd=>by
   simp only[fZ,j3,ku] at hd;obtain ⟨d,h1,ds',h2,rfl⟩:=hd;obtain ⟨v,h3,h4⟩:=J7 h h1;obtain ⟨vs,h5,h6⟩:=nI h h2;refine ⟨v::vs,by simp only[List.mapM_cons,h3,Sem.run_bind,Sem.run_pure,Result.andThen_ok,h5],?_⟩;simp only[RL];exact ⟨_,_,rfl,h4,h6⟩
theorem J8 {P:Program} {fn:Func} {w0:World} {p:Pm} {σ:St} {a:Act} {w:World} {ρ:Nm} (h:aU w0 p σ a w ρ) {d:D} (hd:iw P σ fn.results.toList=some d):
  ∃ v,(results fn a.tmps).run P w = .ok v w/\R w (bO p σ.heap ρ w) ρ d v:=by
 have hm:∀ ds,fZ (Bz P σ) fn.results.toList=some ds->∃ vs:List Value,RL w (bO p σ.heap ρ w) ρ ds vs/\(results fn a.tmps).run P w = .ok (if h:vs.toArray.size=1 then vs.toArray[0] else .tuple vs.toArray) w:=by
  intro ds hds;obtain ⟨vs,h1,h2⟩:=nI (P:=P) h hds;refine ⟨vs,h2,?_⟩;rw[Fh, <- Array.toArray_toList (xs:=fn.results),List.mapM_toArray];simp only[Sem.run_bind,Sem.run_map,h1,Result.andThen_ok,Sem.run_pure]
 match YS:fn.results.toList,hd,hm with
 | [r],hd,hm=>
   simp only[iw] at hd;obtain ⟨vs,h1,h2⟩:=hm [d] (by simp[fZ,hd]);simp only[RL] at h1;obtain ⟨v,vs',rfl,h3,rfl⟩:=h1;exact ⟨v,by simpa using h2,h3⟩
 | [],hd,hm=>
   simp only[iw,fZ,Option.map_some,gC] at hd;obtain ⟨vs,h1,h2⟩:=hm [] rfl;simp only[RL] at h1;subst h1;exact ⟨.tuple #[],by simpa using h2,by rw[<- hd];simp only[R];exact ⟨#[],rfl,by simp[RL]⟩⟩
 | r1::r2::rs,hd,hm=>
   simp only[iw,ku] at hd;obtain ⟨ds,h1,rfl⟩:=hd;obtain ⟨vs,h2,h3⟩:=hm ds h1;have hl:=dF h2
   have Qw:∀ (l:List ResultVar) (xs:List D),fZ (Bz P σ) l=some xs->xs.length=l.length:=by
    intro l
    induction l with
    | nil=>intro xs hx;simp only[fZ,gC] at hx;simp[<- hx]
    | cons y l ih=>
      intro xs hx;simp only[fZ,j3,ku] at hx;obtain ⟨_,_,ys,h5,rfl⟩:=hx;simp[ih _ h5]
   have:=Qw _ _ h1;rw[dif_neg (by simp only[zS];simp only[List.length_cons] at this;omega)] at h3;exact ⟨_,h3,by simp only[R];exact ⟨vs.toArray,rfl,by simpa using h2⟩⟩
theorem RO.vU {w:World} {st:Nat->Prop} {ρ ρ':Nm} {ids:List Nat} {o j:Nat} {x y:Obj} (h:∀ o,o∈ids->ρ' (ids.idxOf o)=ρ o) (hj:ρ' j=ρ o) (YT:ρ'.hid j=ρ.hid o) (hx:pI (iu ids) x=some y) (hr:RO w st ρ o x):RO w st ρ' j y:=by
 cases x with
 | dead=>simp only[pI,gC] at hx;subst hx;simp[RO]
 | row k rows=>simp only[pI,gC] at hx;subst hx;simp only[RO,hj] at hr ⊢;exact hr
 | box cs=>
   simp only[pI,ku] at hx;obtain ⟨l,h1,rfl⟩:=hx;simp only[RO,hj] at hr ⊢;obtain ⟨g,cur,e,r1,r2,r3⟩:=hr;exact ⟨g,cur,e,r1,r2,RL.vU h h1 r3⟩
 | ext e=>
   obtain ⟨hn0,rfl⟩:=wZ hx;simp only[RO,hj,YT] at hr ⊢;obtain ⟨g,r1,r2⟩:=hr;exact ⟨g,r1,e.loc (fun o ho=>by rw[hn0] at ho;cases ho) r2⟩
theorem wX.dP {P:Program} {f:FuncId} {fn:Func} {c:Code} {ins:List Obj} {args:List D} {τ:Type} {I:τ->Prop} {ret:τ->D} {outs:τ->List Obj} (ids keys:List Nat) (hf:P.funcs[f]? = some fn) (hb:fn.body=some c)
  (CO:∀ as w,(callFunc f as).run P w = .ok (.enter f as) w) (rM:ids.length=ins.length) (hge:ids.all (fun o=>decide (1000<=o))=true) (qX:ids.Nodup) (hla:J0 ins.length args=true) (vM:ins.all (wu ins.length)=true)
  (h:ay P c (fun e σ=> ∃ t,I t/\aC P fn ids (ret t) (outs t) e σ) { slots:=Fc ids args++List.replicate (fn.ntmps-args.length) (.sc undef),heap:=oY ids ins keys }):wX P f ins args I ret outs:=by
 refine ⟨CO,fun w st ρ0 vs hst hin hvs=>calls_of_wp hf hb ?_⟩;have hlen:=dF hvs
 let ρ1:Nm:=⟨fun o=>if o∈ids then ρ0 (ids.idxOf o) else none,fun o=>if o∈ids then ρ0.hid (ids.idxOf o) else fun _=>False⟩
 have Ni:∀ {o g},o∈ids->(ow ρ1 o g↔ow ρ0 (ids.idxOf o) g):=fun hm=>by simp only[ow,ρ1,hm,jg]
 have Io:∀ j,j<ins.length->ρ1 (ids.getD j 0)=ρ0 j/\ρ1.hid (ids.getD j 0)=ρ0.hid j:=by
  intro j hj;have hj':j<ids.length:=by omega
  have hm:ids.getD j 0∈ids:=by simp only[List.getD,rF hj',Option.getD_some];exact Ih hj'
  exact ⟨by simp only[ρ1,hm,jg,kU qX hj'],by simp only[ρ1,hm,jg,kU qX hj']⟩
 have Yf:∀ o,az (oY ids ins keys) o=if o∈ids then CJ ids (ins.getD (ids.idxOf o) .dead) else .dead:=fun o=>w4 o rM rfl
 have eL:∀ o,az (oY ids ins keys) o≠ .dead->o∈ids/\ins.getD (ids.idxOf o) .dead≠ .dead:=by
  intro o ho;rw[Yf] at ho;by_cases hm:o∈ids
  ·rw[bC hm] at ho;exact ⟨hm,fun e=>ho (by rw[e];rfl)⟩
  ·rw[aE hm] at ho;exact absurd rfl ho
 have G0:∀ g,st g->bO ⟨fun g=>g<w.heap.size->st g\/mL ins ρ0 g,mL ins ρ0,ρ1⟩ (oY ids ins keys) ρ1 w g:=by
  intro g hg;refine ⟨fun _=> .inl hg,hst g hg,fun o ho e=>?_⟩;obtain ⟨hm,hd⟩:=eL o ho;rw[Ni hm] at e;exact hin.out _ g hd e hg
 have i4:Rel w ⟨fun g=>g<w.heap.size->st g\/mL ins ρ0 g,mL ins ρ0,ρ1⟩ { slots:=Fc ids args++List.replicate (fn.ntmps-args.length) (.sc undef),heap:=oY ids ins keys } { tmps:=vs.toArray++Array.replicate (fn.ntmps-vs.toArray.size) undef,defers:=[] } w:=by
  refine ⟨ρ1,⟨fun g hg=>?_,rfl,?_,fun o=>?_,fun o o' g ho ho' e e'=>?_,fun o g ho e=>?_,fun o g ho e=>?_,gL.refl _ _,fun _ _=>rfl⟩⟩
  ·rcases hg with hg|hg
   ·intro hlt;omega
   ·exact fun _=> .inr hg
  ·have e:(vs.toArray++Array.replicate (fn.ntmps-vs.toArray.size) undef).toList=vs++List.replicate (fn.ntmps-args.length) undef:=by simp[hlen]
   rw[e];refine iG (RL.mono (fun _ _ _=>rfl) (fun _ _ hh=>hh) G0 (RL.nm (fun j hj=>(Io j hj).1) hla hvs)) ?_
   ·have:=pU (w:=w) (st:=bO ⟨fun g=>g<w.heap.size->st g\/mL ins ρ0 g,mL ins ρ0,ρ1⟩ (oY ids ins keys) ρ1 w) (ρ:=ρ1) (List.replicate (fn.ntmps-args.length) undef);simpa using this
  ·show RO _ _ _ o (az (oY ids ins keys) o);rw[Yf];by_cases hm:o∈ids
   ·rw[bC hm];obtain ⟨h1,h2⟩:=nG hm
    have VX:wu ins.length (ins.getD (ids.idxOf o) .dead)=true:=by
     have hj:ids.idxOf o<ins.length:=by omega
     have:=yN.1 vM (ins.getD (ids.idxOf o) .dead) (by simp only[List.getD,rF hj,Option.getD_some];exact Ih hj);simpa using this
    have h3:=RO.nm (n:=ins.length) Io (show ids.idxOf o<ins.length by omega) VX (hin.objs (ids.idxOf o));rw[h2] at h3;exact RO.mono (fun _ _ _=>rfl) (fun _ _ hh=>hh) G0 (fun _ _=>rfl) h3
   ·rw[aE hm];simp[RO]
  ·obtain ⟨hm,hd⟩:=eL o ho;obtain ⟨hm',hd'⟩:=eL o' ho';rw[Ni hm] at e;rw[Ni hm'] at e';have:=hin.inj _ _ g hd hd' e e';rw[<- (nG hm).2, <- (nG hm').2,this]
  ·obtain ⟨hm,hd⟩:=eL o ho;rw[Ni hm] at e;exact .inr ⟨_,hd,e⟩
  ·obtain ⟨hm,hd⟩:=eL o ho;simp only[ρ1,hm,jg] at e;exact hin.hlt _ g hd e
 refine Code.wp_mono ?_ (h w _ _ w i4);rintro e a' w' ⟨σ1,⟨t,YU,σ',himp,he,new,d,hn,hd,⟨d',VY,VZ⟩,xs,SM,J9⟩,vR⟩;have hr':=himp _ _ _ _ vR;obtain ⟨ρ,hr⟩:=hr'
 have hkeep:∀ j,j<ins.length->ρ (ids.getD j 0)=ρ0 j:=by
  intro j hj;have hj':j<ids.length:=by omega
  have hm:ids.getD j 0∈ids:=by simp only[List.getD,rF hj',Option.getD_some];exact Ih hj'
  have h1:1000<=ids.getD j 0:=by have:=yN.1 hge _ hm;simpa using this
  rw[hr.kf _ h1];exact (Io j hj).1
 obtain ⟨v,hv,YV⟩:=J8 (P:=P) hr hd;obtain ⟨hl,hg⟩:=u9 SM;have hlx:=j5.length J9;have Ip:∀ o,o∈ids++new->ρ ((ids++new).getD ((ids++new).idxOf o) 0)=ρ o:=fun o ho=>by rw[(nG ho).2]
 have hlv:∀ j,(outs t).getD j .dead≠ .dead->j<(outs t).length/\az σ'.heap ((ids++new).getD j 0)≠ .dead:=by
  intro j h
  have hj:j<(outs t).length:=by
   by_cases hj:j<(outs t).length
   ·exact hj
   ·exfalso;apply h;simp[List.getD,GU (Qr hj)]
  exact ⟨hj,(je (hg j (by omega))).1 ((J9.get j).live h)⟩
 have hmono:∀ g,bO ⟨fun g=>g<w.heap.size->st g\/mL ins ρ0 g,mL ins ρ0,ρ1⟩ σ'.heap ρ w' g->JZ w w' st (mL ins ρ0) ⟨fun j=>ρ ((ids++new).getD j 0),fun j=>ρ.hid ((ids++new).getD j 0)⟩ (outs t) g:=by
  intro g hs;refine ⟨?_,fun j hj e=>hs.2.2 _ (hlv j hj).2 e⟩;by_cases hlt:g<w.heap.size
  ·rcases hs.1 hlt with h1|h1
   ·exact .inl h1
   ·exact .inr (.inl h1)
  ·exact .inr (.inr ⟨by omega,hs.2.1⟩)
 have hout:∃ t,I t/\∃ v',Ending.returned v = .returned v'/\∃ ρ',Bv w w' st ρ0 ρ' ins (ret t) (outs t) v':=by
  refine ⟨t,YU,v,rfl,⟨fun j=>ρ ((ids++new).getD j 0),fun j=>ρ.hid ((ids++new).getD j 0)⟩,hr.below,fun j hj=>?_,?_,fun j=>?_,fun j g hj e=>?_,fun j j' g hj hj' e e'=>?_,fun j g hj e=>hr.hlt _ g (hlv j hj).2 e⟩
  ·have:(ids++new).getD j 0=ids.getD j 0:=by simp[List.getD,Cl (show j<ids.length by omega)]
   show ρ ((ids++new).getD j 0)=ρ0 j;rw[this];exact hkeep j hj
  ·exact R.mono (fun _ _ _=>rfl) (fun _ _ hh=>hh) hmono (R.le VZ (R.vU Ip VY YV))
  ·by_cases hj:j<(outs t).length
   ·exact RO.mono (fun _ _ _=>rfl) (fun _ _ hh=>hh) hmono (fun _ _=>rfl) (RO.le (J9.get j) (RO.vU (o:=(ids++new).getD j 0) Ip rfl rfl (hg j (by omega)) (hr.objs _)))
   ·simp[List.getD,GU (Qr hj),RO]
  ·exact hr.fresh _ g (hlv j hj).2 e
  ·have heq:=hr.inj _ _ g (hlv j hj).2 (hlv j' hj').2 e e';have e1:=kU hn (j:=j) (by have:=(hlv j hj).1;omega);have e2:=kU hn (j:=j') (by have:=(hlv j' hj').1;omega);rw[<- e1, <- e2,heq]
 rcases he with rfl|rfl
 ·exact ⟨hr.defers,v,hv,hout⟩
 ·exact ⟨hr.defers,v,hv,hout⟩
theorem aF.dP {P:Program} {f:FuncId} {fn:Func} {c:Code} {ins:List Obj} {args:List D} {ret:D} {outs:List Obj} (ids keys:List Nat) (hf:P.funcs[f]? = some fn) (hb:fn.body=some c)
  (CO:∀ as w,(callFunc f as).run P w = .ok (.enter f as) w) (rM:ids.length=ins.length) (hge:ids.all (fun o=>decide (1000<=o))=true) (qX:ids.Nodup) (hla:J0 ins.length args=true) (vM:ins.all (wu ins.length)=true)
  (h:ay P c (aC P fn ids ret outs) { slots:=Fc ids args++List.replicate (fn.ntmps-args.length) (.sc undef),heap:=oY ids ins keys }):aF P f ins args ret outs:=by
 have hx:=wX.dP (I:=fun _:Unit=>True) (ret:=fun _=>ret) (outs:=fun _=>outs) ids keys hf hb CO rM hge qX hla vM (ay.mono h fun e σ hq=>⟨(),trivial,hq⟩);refine ⟨hx.call,fun w st ρ vs h1 h2 h3=>(hx.run w st ρ vs h1 h2 h3).mono ?_⟩;rintro e w' ⟨_,_,v,rfl,ho⟩;exact ⟨v,rfl,ho⟩
section
variable {w:World} {st:Nat->Prop}
theorem qy {k g:Nat}:∀ {rows:List (List D)} {off:Nat},RR w st k g off rows->
  ∃ vs:List Value,vs.length=rows.length*k/\RL w st (fun _=>none) rows.flatten vs/\(∀ v∈vs,v.oneCell'=true)/\(∀ r∈rows,r.length=k)/\∀ j v,vs[j]? = some v->w.cell? ⟨g,off+j,none⟩=some v
 | [],_,_=>⟨[],by simp,by simp[RL],by simp,by simp,by simp⟩
 | r::rs,off,h=>by
   simp only[RR] at h;obtain ⟨h1,h2,h3⟩:=h;obtain ⟨us,u1,u2,u3,u4,u5⟩:=qy h3
   have rc:∀ {cs:List D} {off:Nat},RC w st g off cs->∃ vs:List Value,RL w st (fun _=>none) cs vs/\(∀ v∈vs,v.oneCell'=true)/\∀ j v,vs[j]? = some v->w.cell? ⟨g,off+j,none⟩=some v:=by
    intro cs
    induction cs with
    | nil=>intro off _;exact ⟨[],by simp[RL],by simp,by simp⟩
    | cons c cs ih=>
      intro off h;simp only[RC] at h;obtain ⟨⟨v,e1,e2,e3⟩,e4⟩:=h;obtain ⟨vs,f1,f2,f3⟩:=ih e4;refine ⟨v::vs,by simp only[RL];exact ⟨v,vs,rfl,e3,f1⟩,by simpa using ⟨e2,f2⟩,fun j u hj=>?_⟩;cases j with
      | zero=>simp only[List.getElem?_cons_zero,gC] at hj;subst hj;exact e1
      | succ j=>simp only[List.getElem?_cons_succ] at hj;have:=f3 j u hj;rw[show off+(j+1)=off+1+j by omega];exact this
   obtain ⟨vs,v1,v2,v3⟩:=rc h2;have hl:=dF v1;refine ⟨vs++us,?_,?_,?_,?_,?_⟩
   ·rw[bW,hl,h1,u1,List.length_cons,sN];omega
   ·rw[List.flatten_cons];exact iG v1 u2
   ·intro v hv;cases lS.1 hv with
    | inl e=>exact v2 v e
    | inr e=>exact u3 v e
   ·intro r' hr';cases lp.1 hr' with
    | inl e=>rw[e];exact h1
    | inr e=>exact u4 r' e
   ·intro j v hj;by_cases hlt:j<vs.length
    ·rw[Cl hlt] at hj;exact v3 j v hj
    ·rw[EJ (by omega)] at hj;have:=u5 _ v hj;rw[hl,h1] at this;rw[show off+j=off+k+(j-k) by omega];exact this
theorem CP {ρ:Nat->Option (Option Nat)}:∀ {ds es:List D} {vs:List Value},RL w st ρ (ds++es) vs->∃ us xs,vs=us++xs/\RL w st ρ ds us/\RL w st ρ es xs
 | [],es,vs,h=>⟨[],vs,rfl,by simp[RL],by simpa using h⟩
 | d::ds,es,vs,h=>by
   simp only[List.cons_append,RL] at h;obtain ⟨v,vs',rfl,h1,h2⟩:=h;obtain ⟨us,xs,rfl,h3,h4⟩:=CP h2;exact ⟨v::us,xs,rfl,by simp only[RL];exact ⟨v,us,rfl,h1,h3⟩,h4⟩
theorem lY {k g:Nat}:∀ {rows:List (List D)} {off:Nat} {vs:List Value},(∀ r∈rows,r.length=k)->RL w st (fun _=>none) rows.flatten vs->(∀ v∈vs,v.oneCell'=true)->
  (∀ j v,vs[j]? = some v->w.cell? ⟨g,off+j,none⟩=some v)->RR w st k g off rows
 | [],_,_,_,_,_,_=>by simp[RR]
 | r::rs,off,vs,h1,h2,h3,h4=>by
   rw[List.flatten_cons] at h2;obtain ⟨us,xs,rfl,h5,h6⟩:=CP h2;have hl:=dF h5;have hk:=h1 r (by simp);simp only[RR];refine ⟨hk,kD h5 (fun v hv=>h3 v (by simp[hv])) (fun j v hj=>h4 j v ?_),lY (fun r' hr'=>h1 r' (by simp[hr'])) h6 (fun v hv=>h3 v (by simp[hv])) (fun j v hj=>?_)⟩
   ·have hlt:j<us.length:=(jM.1 hj).1;rw[Cl hlt];exact hj
   ·have:=h4 (us.length+j) v (by rw[EJ (by omega),Sy];exact hj);rw[hl,hk] at this
    rwa [show off+k+j=off+(k+j) by omega]
end
section
variable {w0:World} {p:Pm} {σ:St} {a:Act} {w:World} {ρ:Nm}
def fJ (ρ:Nm) (o:Nat) (z:Option (Option Nat)):Nm:=⟨fun x=>if x=o then z else ρ x,fun x=>if x=o then fun _=>False else ρ.hid x⟩
theorem bK (o:Nat) (z:Option (Option Nat)):fJ ρ o z o=z:=by simp[fJ]
theorem eU {o o':Nat} {z:Option (Option Nat)} (h:o'≠o):fJ ρ o z o'=ρ o':=by simp[fJ,h]
theorem gd {o o':Nat} {z:Option (Option Nat)} (h:o'≠o):same ρ (fJ ρ o z) o':=⟨by simp[fJ,h],by simp[fJ,h]⟩
theorem jR {o g:Nat} {z:Option (Option Nat)}:ow (fJ ρ o z) o g↔z=some (some g):=by simp[ow,fJ]
theorem aU.jS (h:aU w0 p σ a w ρ) {ids:List Nat} {o:Nat} {x:Obj} {cur:Array Value} {e:TypeId} (ho:o∈ids) (hh:hfree σ.heap o=true) (JY:x≠ .dead)
  (hx:∀ st:Nat->Prop,(∀ g,bO p σ.heap ρ w g->st g)->RO (w.alloc (.cells cur e)) st (fJ ρ o (some (some w.heap.size))) o x):
  aU w0 p { σ.bF ids with heap:=aG (σ.bF ids).heap o x } a (w.alloc (.cells cur e)) (fJ ρ o (some (some w.heap.size))):=by
 have hk:aU w0 p (σ.bF ids) a w (fJ ρ o (some (some w.heap.size))):=h.bF (fun o' e=>gd (fun e'=>e (e'▸ho))) (fun o' h1=>eU (fun e'=>absurd (ep.1 hh).2 (by omega)))
 refine hk.born (gM ho) (by rw[jw];exact (ep.1 hh).1) (fun g hg=>?_) (fun g hg=>by simp[fJ] at hg) (fun g hg _=>Below.heap_alloc w _ g hg) (fun g n hs=>ct (Below.heap_alloc w _ g hs.lt) hs) (by simp) rfl rfl rfl JY
  (fun st hst=>hx st fun g hg=>hst g ⟨hg.1,hg.2.1,fun o' ho'=>?_⟩)
 ·rw[jR] at hg;simp only[gC] at hg;subst hg;refine ⟨fun hs=>by have:=hs.2.1;omega,fun o' ho' e'=>?_, .inl h.below.size⟩;have:=hk.mQ ho' e';omega
 ·by_cases e':o'=o
  ·subst e';exact absurd (gM ho) ho'
  ·rw[(gd e').ow];exact hg.2.2 o' (fun hd=>ho' (rL hd))
theorem aU.BA (h:aU w0 p σ a w ρ) {ids:List Nat} {o k:Nat} (ho:o∈ids) (hh:hfree σ.heap o=true):
  aU w0 p { σ.bF ids with heap:=aG (σ.bF ids).heap o (.row k []) } a w (fJ ρ o (some none)):=by
 have hk:aU w0 p (σ.bF ids) a w (fJ ρ o (some none)):=h.bF (fun o' e=>gd (fun e'=>e (e'▸ho))) (fun o' h1=>eU (fun e'=>absurd (ep.1 hh).2 (by omega)));refine hk.born (gM ho) (by rw[jw];exact (ep.1 hh).1) (fun g hg=>?_) (fun g hg=>by simp[fJ] at hg) (fun g hg _=>rfl) (fun g n hs=>hs) (iU _) rfl rfl rfl (by simp) (fun st hst=>?_)
 ·rw[jR] at hg;simp at hg
 ·simp[RO,bK]
theorem aU.Ka (h:aU w0 p σ a w ρ) {o d k:Nat} {rows eu:List (List D)} {w':World} (hrow:az σ.heap o = .row k rows) (hh:hfree σ.heap d=true)
  (hw:∀ b,b<w.heap.size->ρ o≠some (some b)->w'.heap[b]? = w.heap[b]?) (hs:∀ g n,Sh w g n->Sh w' g n) (hsz:w.heap.size<=w'.heap.size) (hos:w'.os=w.os) (Nd:w'.tape=w.tape) (hout:w'.output=w.output)
  (hx:∀ st:Nat->Prop,(∀ g,bO p σ.heap ρ w g->st g)->RO w' st (fJ ρ d (ρ o)) d (.row k eu)):
  aU w0 p { σ.bF [o,d] with heap:=aG (σ.bF [o,d]).heap d (.row k eu) } a w' (fJ ρ d (ρ o)):=by
 have eL:az σ.heap o≠ .dead:=by rw[hrow];simp
 have uj:∀ o',az (aG (σ.bF [o,d]).heap d (.row k eu)) o'=if o'=d then .row k eu else if o'=o then .dead else ((az σ.heap o').kz o).kz d:=by
  intro o';by_cases e:o'=d
  ·rw[bC e,e,aX (by rw[jw];exact (ep.1 hh).1)]
  ·rw[aE e,aM e];simp only[St.bF,fI,aE e]
   split
   ·rfl
   ·rfl
 have live:∀ o',az (aG (σ.bF [o,d]).heap d (.row k eu)) o'≠ .dead->o'=d\/(o'≠d/\o'≠o/\az σ.heap o'≠ .dead):=by
  intro o' ho';rw[uj] at ho';by_cases e:o'=d
  ·exact .inl e
  ·rw[aE e] at ho';by_cases e2:o'=o
   ·rw[bC e2] at ho';exact absurd rfl ho'
   ·rw[aE e2,Obj.jP,Obj.jP] at ho';exact .inr ⟨e,e2,ho'⟩
 have hst:∀ g,bO p σ.heap ρ w g->bO p (aG (σ.bF [o,d]).heap d (.row k eu)) (fJ ρ d (ρ o)) w' g:=by
  intro g hg;refine ⟨hg.1,Ie hg.2.1 hsz,fun o' ho'=>?_⟩;rcases live o' ho' with e|⟨e1,e2,e3⟩
  ·rw[e,jR];exact fun e=>hg.2.2 o eL (.inl e)
  ·rw[(gd e1).ow];exact hg.2.2 o' e3
 have hc:∀ g off,bO p σ.heap ρ w g->w'.cell? ⟨g,off,none⟩=w.cell? ⟨g,off,none⟩:=fun g off hg=>World.cell?_of_block (w:=w) (a:=⟨g,off,none⟩) (hw g hg.2.1 (fun e=>hg.2.2 o eL (.inl e)));refine ⟨h.open_,h.defers,?_,fun o'=>?_,fun o1 o2 g h1 h2 e1 e2=>?_,fun o1 g h1 e1=>?_,fun o1 g h1 e1=>?_,?_,fun o1 h1=>?_⟩
 ·have h1:=RL.kz (o:=o) (ρ':=ρ) (fun _ _=>rfl) h.slots;have h2:=RL.kz (o:=d) (ρ':=fJ ρ d (ρ o)) (fun o' e=>eU e) h1;exact RL.mono hc hs hst h2
 ·show RO w' _ _ o' (az (aG (σ.bF [o,d]).heap d (.row k eu)) o');rw[uj];by_cases e:o'=d
  ·rw[bC e,e];exact hx _ hst
  ·rw[aE e];by_cases e2:o'=o
   ·rw[bC e2];simp[RO]
   ·rw[aE e2];have h1:=RO.kz (o:=o) (ρ':=ρ) (fun _ _=>same.refl) e2 (h.objs o');have h2:=RO.kz (o:=d) (ρ':=fJ ρ d (ρ o)) (fun o' e=>gd e) e h1;by_cases hd:az σ.heap o' = .dead
    ·rw[hd];simp[Obj.kz,RO]
    ·refine RO.mono hc hs hst (fun g hg=>?_) h2;rw[(gd e).ow] at hg;exact hw g (h.mQ hd hg) (fun e'=>e2 (h.inj o' o g hd eL hg (.inl e')))
 ·rcases live o1 h1 with n1|⟨n1,m1,l1⟩<;>rcases live o2 h2 with n2|⟨n2,m2,l2⟩
  ·rw[n1,n2]
  ·rw[n1,jR] at e1;rw[(gd n2).ow] at e2;exact absurd (h.inj o o2 g eL l2 (.inl e1) e2).symm m2
  ·rw[n2,jR] at e2;rw[(gd n1).ow] at e1;exact absurd (h.inj o o1 g eL l1 (.inl e2) e1).symm m1
  ·rw[(gd n1).ow] at e1;rw[(gd n2).ow] at e2;exact h.inj o1 o2 g l1 l2 e1 e2
 ·rcases live o1 h1 with n1|⟨n1,m1,l1⟩
  ·rw[n1,jR] at e1;exact h.fresh o g eL (.inl e1)
  ·rw[(gd n1).ow] at e1;exact h.fresh o1 g l1 e1
 ·rcases live o1 h1 with n1|⟨n1,m1,l1⟩
  ·rw[n1] at e1;simp[fJ] at e1
  ·rw[(gd n1).2] at e1;exact Ie (h.hlt o1 g l1 e1) hsz
 ·refine h.below.trans (E9:=fun b=>ρ o=some (some b)) ⟨hos,Nd,hout,hsz,fun b hb hn=>hw b hb hn,hs⟩ (fun b hb e=>?_);rcases h.fresh o b eL (.inl e) with h3|h3
  ·omega
  ·exact h3
 ·rw[eU (by have:=(ep.1 hh).2;omega)];exact h.kf o1 h1
end
section
variable {w:World}
theorem iy {P:Program} (size n:Nat) (X:Option Addr) (c:Nat) (news:List Value) (hl:news.length=n*size) (hX:n=0\/∃ b,X=some b/\∀ j v,news[j]? = some v->w.cell? (b.add j)=some v):
  (Builtin.firstCells size n (.slice X n c)).run P w = .ok news.toArray w:=by
 rcases hX with rfl|⟨b,rfl,hc⟩
 ·have hn:news=[]:=uc (by simpa using hl);subst hn;cases X<;>simp[Builtin.firstCells,loadCells,loadCellsFrom]
 ·exact run_firstCells_some w size n b n c news hl hc
theorem iH {z:Array Value} {n:Nat} (hz:∀ v∈z.toList,v.oneCell'=true):∀ v∈(Builtin.zeroCells z n).toList,v.oneCell'=true:=by
 intro v hv;simp only[Builtin.zeroCells,Qs,qq,Vr,Array.mem_range] at hv;obtain ⟨i,hi,rfl⟩:=hv;have hpos:0<z.size:=Nat.pos_of_ne_zero fun h=>by simp[h] at hi
 have hlt:i%z.size<z.size:=Nat.mod_lt _ hpos;rw[Nb z _ hlt];exact hz _ (Vr.2 (Array.getElem_mem hlt))
theorem gR {P:Program} (t ty e:TypeId) (i:TypeInfo) (z:Value) (ht:P.underlying t=some (.slice e)) (hi:P.info? e=some i) (hz:i.zero=some z)
  (A:Option Addr) (sLen sCap:Nat) (olds:List Value) (hlo:olds.length=sLen*i.size) (hle:sLen<=sCap) (hA:sLen=0\/∃ b,A=some b/\∀ j v,olds[j]? = some v->w.cell? (b.add j)=some v)
  (X:Option Addr) (n c:Nat) (news:List Value) (hl:news.length=n*i.size) (hX:n=0\/∃ b,X=some b/\∀ j v,news[j]? = some v->w.cell? (b.add j)=some v) (h1:∀ u∈news,u.oneCell'=true)
  (hroom:0<n->sLen+n<=sCap->∃ g q cur e',A=some ⟨g,q,none⟩/\w.heap[g]? = some (.cells cur e' (0,0))/\q+sLen*i.size+news.length<=cur.size)
  (h63:sLen+n<=maxLen) (hbytes:(sLen+n)*i.bytes<=140737488355328) (qZ:∀ v∈z.cells.toList,v.oneCell'=true) (Nj:∀ v∈olds,v.oneCell'=true):
  (n=0/\(Builtin.append_ #[t,t] ty #[.slice A sLen sCap, .slice X n c]).run P w = .ok (.slice A sLen sCap) w)\/
  (0<n/\sLen+n<=sCap/\∃ g q cur e',A=some ⟨g,q,none⟩/\w.heap[g]? = some (.cells cur e' (0,0))/\q+sLen*i.size+news.length<=cur.size/\
   (Builtin.append_ #[t,t] ty #[.slice A sLen sCap, .slice X n c]).run P w = .ok (.slice A (sLen+n) sCap) (w.setRow g (cur.toList.take (q+sLen*i.size)++news++cur.toList.drop (q+sLen*i.size+news.length)).toArray))\/
  (0<n/\sCap<sLen+n/\∃ cap cur,sLen+n<=cap/\cap<=maxLen/\(z.cells.size=i.size->zU cur (cap*i.size))/\cur.toList.take ((sLen+n)*i.size)=olds++news/\
   (Builtin.append_ #[t,t] ty #[.slice A sLen sCap, .slice X n c]).run P w = .ok (.slice (some ⟨w.heap.size,0,none⟩) (sLen+n) cap) (w.drew.alloc (.cells cur e))):=by
 rcases SC n with hn0|hn0
 ·left;refine ⟨hn0,?_⟩;subst hn0;have hf:=iy (P:=P) (w:=w) i.size 0 X c news hl (.inl rfl);have R4:news=[]:=uc (by simpa using hl);subst R4;cases A<;>simp[Builtin.append_,run_underlying ht,sizeOf,typeInfo,hi,Builtin.lenOf,hf,hle,storeCells]
 ·right;by_cases hr:sLen+n<=sCap
  ·left;obtain ⟨g,q,cur,e',rfl,hg,hfit⟩:=hroom hn0 hr;refine ⟨hn0,hr,g,q,cur,e',rfl,hg,hfit,?_⟩;have hf:=iy (P:=P) (w:=w) i.size n X c news hl hX;have hst:=run_storeCells_at P g (q+sLen*i.size) e' news 0 cur w hg (by simpa using hfit) h1;simp only[Nat.add_zero] at hst;simp[Builtin.append_,run_underlying ht,sizeOf,typeInfo,hi,Builtin.lenOf,hr,hf,Addr.add_lit,hst]
  ·right;refine ⟨hn0,by omega,?_⟩;obtain ⟨b,rfl,Yg⟩:∃ b,X=some b/\∀ j v,news[j]? = some v->w.cell? (b.add j)=some v:=hX.resolve_left (by omega);have h63':((sLen+n:Nat):Int)<=9223372036854775807:=by unfold maxLen at h63;omega
   have hge:=grownCap_ge w (sLen+n) sCap e;have Fi:=grownCap_le_maxLen w (sLen+n) sCap e h63;refine ⟨grownCap w (sLen+n) sCap e,olds.toArray++news.toArray++Builtin.zeroCells z.cells (grownCap w (sLen+n) sCap e-(sLen+n)),hge,Fi,fun hzs=>⟨?_,?_⟩,?_,?_⟩
   ·simp only[Array.size_append,zS,size_zeroCells,hzs,hlo,hl, <- sN]
    congr 1
    omega
   ·intro v hv;simp only[Vt,lS] at hv;rcases hv with (hv|hv)|hv
    ·exact Nj v hv
    ·exact h1 v hv
    ·exact iH qZ v hv
   ·simp only[Vt,lR];have hlen:(olds++news).length=(sLen+n)*i.size:=by rw[bW,hlo,hl,sN]
    rw[<- lR, <- hlen];exact List.take_left
   ·have hfit:=growslice_fits (need:=sLen+n) (old:=sCap) (by omega) hbytes;rcases A with _|b'
    ·have hs0:sLen=0:=by
      rcases hA with h|⟨b,h,_⟩
      ·exact h
      ·cases h
     subst hs0;have ho:olds=[]:=uc (by simpa using hlo);subst ho;have Kb:=hfit;simp only[kO] at Kb h63' hr ⊢;have hn':¬ n<=sCap:=by omega
     have SN:¬ (9223372036854775807<(n:Int)):=by omega
     have QA:¬ (281474976710656<Builtin.nextslicecap n sCap*i.bytes):=by omega
     have hf:=run_firstCells_some (P:=P) w.drew i.size n b n c news hl (by simpa using Yg);simp[Builtin.append_,run_underlying ht,sizeOf,typeInfo,zeroValue,hi,hz,Builtin.lenOf,hn',SN,QA,Question.forced,run_firstCells_none,hf,newRow,grownCap]
    ·have holds:∀ j v,olds[j]? = some v->w.cell? (b'.add j)=some v:=by
      intro j v hj;rcases hA with h|⟨b,h,hc⟩
      ·subst h;have ho:olds=[]:=uc (by simpa using hlo);subst ho;simp at hj
      ·simp only[gC] at h;subst h;exact hc j v hj
     exact run_append_grow w t ty e i z ht hi hz b' sLen sCap olds hlo holds b n c news hl Yg (by omega) h63' hfit
end
def Fj (σ:St) (k:Nat):D->Option (Option Nat×List (List D))
 | .sc (.slice none 0 0)=>some (none,[])
 | .cW o k' 0 len=>match az σ.heap o with
   | .row k'' rows=>if k'=k/\k''=k/\len=rows.length then some (some o,rows) else none
   | _=>none
 | _=>none
def iJ (σ:St) (k:Nat):D->Option (List (List D))
 | .sc (.slice none 0 0)=>some []
 | .sl k' rows=>if k'=k then some rows else none
 | .cW o k' off len=>match az σ.heap o with
   | .row k'' rows=>if k'=k/\k''=k/\off+len<=rows.length then some ((rows.drop off).take len) else none
   | _=>none
 | _=>none
section
variable {P:Program} {w0:World} {p:Pm} {σ:St} {a:Act} {w:World} {ρ:Nm}
theorem ot (h:aU w0 p σ a w ρ) {k:Nat} {d:D} {v:Value} {xs:List (List D)} (hx:iJ σ k d=some xs) (hr:R w (bO p σ.heap ρ w) ρ d v):
  ∃ X c,v = .slice X xs.length c/\∃ news:List Value,news.length=xs.length*k/\RL w (bO p σ.heap ρ w) (fun _=>none) xs.flatten news/\(∀ u∈news,u.oneCell'=true)/\(∀ r∈xs,r.length=k)/\
    (xs.length=0\/∃ b,X=some b/\∀ j u,news[j]? = some u->w.cell? (b.add j)=some u):=by
 have fin:∀ {g off:Nat} {rows:List (List D)},RR w (bO p σ.heap ρ w) k g off rows->∃ news:List Value,news.length=rows.length*k/\RL w (bO p σ.heap ρ w) (fun _=>none) rows.flatten news/\(∀ u∈news,u.oneCell'=true)/\(∀ r∈rows,r.length=k)/\
   ∀ j u,news[j]? = some u->w.cell? ((⟨g,off,none⟩:Addr).add j)=some u:=by
  intro g off rows EN;obtain ⟨vs,h1,h2,h3,h4,h5⟩:=qy EN;exact ⟨vs,h1,h2,h3,h4,fun j u hj=>by rw[Addr.add_lit];exact h5 j u hj⟩
 have nil:∃ news:List Value,news.length=([]:List (List D)).length*k/\RL w (bO p σ.heap ρ w) (fun _=>none) ([]:List (List D)).flatten news/\(∀ u∈news,u.oneCell'=true)/\(∀ r∈([]:List (List D)),r.length=k):=
  ⟨[],by simp,by simp[RL],by simp,by simp⟩
 cases d with
 | sc u=>
   simp only[iJ] at hx
   split at hx
   ·rename_i heq;simp only[gC] at hx;subst hx;simp only[R] at hr;simp only[D.sc.injEq] at heq;subst heq;obtain ⟨news,n1,n2,n3,n4⟩:=nil;exact ⟨none,0,hr,news,n1,n2,n3,n4, .inl rfl⟩
   all_goals first|cases hx|(rename_i heq;simp at heq)
 | sl k' rows=>
   simp only[iJ] at hx
   split at hx
   ·rename_i hk;subst hk;simp only[gC] at hx;subst hx;simp only[R] at hr;obtain ⟨A,c,e1,e2,e3,e4⟩:=hr;rcases e4 with rfl|⟨g,off,rfl,e5,e6⟩
    ·obtain ⟨news,n1,n2,n3,n4⟩:=nil;exact ⟨A,c,e1,news,n1,n2,n3,n4, .inl rfl⟩
    ·obtain ⟨news,n1,n2,n3,n4,n5⟩:=fin e6;exact ⟨_,c,e1,news,n1,n2,n3,n4, .inr ⟨_,rfl,n5⟩⟩
   ·cases hx
 | cW o k' off len=>
   simp only[iJ] at hx
   split at hx
   ·rename_i k'' rows hg
    split at hx
    ·rename_i hk;obtain ⟨rfl,rfl,hle⟩:=hk;simp only[gC] at hx;subst hx;have hb:=h.objs o;rw[hg] at hb;have hl:((rows.drop off).take len).length=len:=by rw[cw,bQ];omega
     simp only[R] at hr;rcases hr with ⟨e1,rfl,rfl,A,e4⟩|⟨g,cap,A,e1,e2,e3,e4,e5,e6⟩
     ·obtain ⟨news,n1,n2,n3,n4⟩:=nil;exact ⟨A,0,by rw[hl];exact e4,news,by simpa using n1,by simpa using n2,n3,by simp, .inl hl⟩
     ·by_cases hz:len=0
      ·subst hz;obtain ⟨news,n1,n2,n3,n4⟩:=nil;exact ⟨A,cap-off,by rw[hl];exact e5,news,by simpa using n1,by simpa using n2,n3,by simp, .inl hl⟩
      ·simp only[RO,e1] at hb;obtain ⟨cur,e,cap',_,_,_,_,h7⟩:=hb;have h8:=om len (sP off h7);rw[kO] at h8;obtain ⟨news,n1,n2,n3,n4,n5⟩:=fin h8;exact ⟨A,cap-off,by rw[hl];exact e5,news,n1,n2,n3,n4, .inr ⟨_,e6 (by omega),n5⟩⟩
    ·cases hx
   ·cases hx
 | any|agg|ro|ref|jN|cT|fn|mp=>simp[iJ] at hx
def uo (src:Option Nat) (d:Nat):List Nat:=match src with|some o=>[o,d]|none=>[d]
def St.CQ (σ:St) (src:Option Nat) (d k:Nat) (rows:List (List D)):St:=
 St.put { σ.bF (uo src d) with heap:=aG (σ.bF (uo src d)).heap d (.row k rows) } (some d) (.cW d k 0 rows.length)
theorem cP.append {o:Oper} {s x:Operand} {t:TypeId} {d:Nat} {ti ei:TI} {e:TypeId} {src:Option Nat} {rows xs:List (List D)} (ho:o.op = .call { callee:= .builtin .append,args:= #[s,x],argTypes:= #[t,t] })
  (nJ:o.dst=some d) (ht:aA P t=some ti) (hk:ti.kind.elem? = some e) (he:aA P e=some ei) (hzs:ei.zero.cells.size=ei.size) (qZ:ei.zero.cells.toList.all (·.oneCell')=true) (hb0:0<ei.bytes) (hh:hfree σ.heap d=true)
  (hs:Fj σ ei.size (bh σ s)=some (src,rows)) (hx:iJ σ ei.size (bh σ x)=some xs) (hb:(rows.length+xs.length)*ei.bytes<=140737488355328):
  cP P σ o (σ.CQ src d ei.size (rows++xs)):=by
 rintro w0 p a w ⟨ρ,h⟩;obtain ⟨i,dt,hi,hu,z1,z2,z3,z4⟩:=cr ht;obtain ⟨ie,de,Fk,R5,y1,y2,y3,y4⟩:=cr he
 have QB:P.underlying t=some (.slice e):=by
  cases hkk:ti.kind with
  | slice e'=>
    rw[hkk] at hk z4;simp only[TK.elem?,gC] at hk;subst hk;rw[iY z4] at hu;exact hu
  | _=>rw[hkk] at hk;simp[TK.elem?] at hk
 obtain ⟨X,c,mM,news,n1,n2,n3,n4,n5⟩:=ot h hx (h.bh x)
 have h63:rows.length+xs.length<=maxLen:=by
  have:(rows.length+xs.length)*1<=(rows.length+xs.length)*ei.bytes:=Nat.mul_le_mul_left _ hb0;unfold maxLen;omega
 have kg:∀ A sLen sCap v w',a.eval s = .slice A sLen sCap->(Builtin.append_ #[t,t] o.type #[.slice A sLen sCap, .slice X xs.length c]).run P w = .ok v w'->(execOp a.eval o).run P w = .ok (.value v) w':=by
  intro A sLen sCap v w' h1 h2;simp[execOp,ho,resolve,invoke,builtin,h1,mM,h2]
 have hs':=h.bh s
  -- the two kinds of targets
 have main:∀ (A:Option Addr) (sCap:Nat) (olds:List Value),a.eval s = .slice A rows.length sCap->rows.length<=sCap->sCap<=maxLen->olds.length=rows.length*ei.size->RL w (bO p σ.heap ρ w) (fun _=>none) rows.flatten olds->
   (∀ u∈olds,u.oneCell'=true)->(∀ r∈rows,r.length=ei.size)->(rows.length=0\/∃ b,A=some b/\∀ j v,olds[j]? = some v->w.cell? (b.add j)=some v)->
   (0<xs.length->rows.length+xs.length<=sCap->∃ g q cur e',A=some ⟨g,q,none⟩/\w.heap[g]? = some (.cells cur e' (0,0))/\q+rows.length*ei.size+news.length<=cur.size)->
   (∀ ids,d∈ids->(ids=uo src d)->
    (xs.length=0->∃ ρ',aU w0 p { σ.bF ids with heap:=aG (σ.bF ids).heap d (.row ei.size (rows++xs)) } a w ρ'/\R w (bO p (aG (σ.bF ids).heap d (.row ei.size (rows++xs))) ρ' w) ρ' (.cW d ei.size 0 (rows++xs).length) (.slice A rows.length sCap))/\
    (∀ g q cur e',0<xs.length->rows.length+xs.length<=sCap->A=some ⟨g,q,none⟩->w.heap[g]? = some (.cells cur e' (0,0))->q+rows.length*ei.size+news.length<=cur.size->
     ∃ ρ',aU w0 p { σ.bF ids with heap:=aG (σ.bF ids).heap d (.row ei.size (rows++xs)) } a (w.setRow g (cur.toList.take (q+rows.length*ei.size)++news++cur.toList.drop (q+rows.length*ei.size+news.length)).toArray) ρ'/\
       R (w.setRow g (cur.toList.take (q+rows.length*ei.size)++news++cur.toList.drop (q+rows.length*ei.size+news.length)).toArray) (bO p (aG (σ.bF ids).heap d (.row ei.size (rows++xs))) ρ' (w.setRow g (cur.toList.take (q+rows.length*ei.size)++news++cur.toList.drop (q+rows.length*ei.size+news.length)).toArray)) ρ'
         (.cW d ei.size 0 (rows++xs).length) (.slice A (rows.length+xs.length) sCap)))->
   ∃ v w',((execOp a.eval o).run P w = .ok (.value v) w'\/(v=undef/\(execOp a.eval o).run P w = .ok .skip w'))/\Rel w0 p (σ.CQ src d ei.size (rows++xs)) (a.put o.dst v) w':=by
  intro A sCap olds e1 e2 e3 e4 e5 e6 e7 e8 e9 YW;have hall:=gR (P:=P) (w:=w) t o.type e ie ei.zero QB Fk y3 A rows.length sCap olds (by rw[y1];exact e4) e2 e8 X xs.length c news (by rw[y1];exact n1) n5 n3 (by rw[y1];exact e9) h63 (by rw[y2];exact hb) (fun v hv=>yN.1 qZ v hv) e6;obtain ⟨ids,rM,hd⟩:∃ ids,(ids=uo src d)/\d∈ids:=⟨_,rfl,by cases src<;>simp[uo]⟩
  have QC:∀ _:Value,σ.CQ src d ei.size (rows++xs)=St.put { σ.bF ids with heap:=aG (σ.bF ids).heap d (.row ei.size (rows++xs)) } o.dst (.cW d ei.size 0 (rows++xs).length):=by
   intro _;rw[nJ,rM];rfl
  obtain ⟨f1,f2⟩:=YW ids hd rM;rcases hall with ⟨g1,g2⟩|⟨g1,g2,g,q,cur,e',g3,g4,g5,g6⟩|⟨g1,g2,cap,cur,g3,g4,g5,g6,g7⟩
  ·obtain ⟨ρ',r1,r2⟩:=f1 g1;exact ⟨_,_, .inl (kg A rows.length sCap _ _ e1 g2),by rw[QC undef];exact ⟨ρ',r1.put o.dst r2⟩⟩
  ·rw[y1] at g5 g6;obtain ⟨ρ',r1,r2⟩:=f2 g q cur e' g1 g2 g3 g4 g5;exact ⟨_,_, .inl (kg A rows.length sCap _ _ e1 g6),by rw[QC undef];exact ⟨ρ',r1.put o.dst r2⟩⟩
  ·rw[y1] at g5 g6;have hcs:=g5 hzs;refine ⟨_,_, .inl (kg A rows.length sCap _ _ e1 g7),?_⟩;rw[QC undef]
   have w5:∀ st:Nat->Prop,(∀ g,bO p σ.heap ρ w.drew g->st g)->RR (w.drew.alloc (.cells cur e)) st ei.size w.heap.size 0 (rows++xs):=by
    intro st hst;have yZ:∀ g,bO p σ.heap ρ w g->st g:=fun g hg=>hst g hg;have hc:∀ g off,bO p σ.heap ρ w g->(w.drew.alloc (.cells cur e)).cell? ⟨g,off,none⟩=w.cell? ⟨g,off,none⟩:=fun g off hg=>World.cell?_alloc_lt w.drew _ ⟨g,off,none⟩ hg.2.1;have hsh:∀ g n,Sh w g n->Sh (w.drew.alloc (.cells cur e)) g n:=fun g n hs=>ct (Below.heap_alloc w.drew _ g hs.lt) hs;refine lY (vs:=olds++news) (fun r hr=>?_) ?_ (fun v hv=>?_) (fun j v hj=>?_)
    ·cases lS.1 hr with
     | inl h=>exact e7 r h
     | inr h=>exact n4 r h
    ·rw[Pd];exact iG (RL.mono hc hsh yZ e5) (RL.mono hc hsh yZ n2)
    ·cases lS.1 hv with
     | inl h=>exact e6 v h
     | inr h=>exact n3 v h
    ·rw[kO,World.cell?_alloc_at (w:=w.drew) cur e w.heap.size j rfl];rw[<- g6,JG] at hj
     split at hj
     ·simpa using hj
     ·cases hj
   have hnb:=h.drew.jS (ids:=ids) (o:=d) (x:= .row ei.size (rows++xs)) (cur:=cur) (e:=e) hd hh (by simp) (fun st hst=>by
    simp only[RO,bK]
    exact ⟨cur,e,cap,heap_alloc_new w.drew _,hcs,g4,by rw[bW];exact g3,w5 st hst⟩)
   refine ⟨_,hnb.put o.dst ?_⟩;simp only[R,bK];refine .inr ⟨w.heap.size,cap,_,rfl,⟨cur,e,heap_alloc_new w.drew _,hcs.size⟩,by rw[bW];omega,g4,by rw[bW];rfl,fun _=>by simp⟩
 have fT:∀ (ids:List Nat),d∈ids->rows=[]->xs.length=0->∀ (A:Option Addr) (n:Nat),n=0->∃ ρ',aU w0 p { σ.bF ids with heap:=aG (σ.bF ids).heap d (.row ei.size (rows++xs)) } a w ρ'/\
   R w (bO p (aG (σ.bF ids).heap d (.row ei.size (rows++xs))) ρ' w) ρ' (.cW d ei.size 0 (rows++xs).length) (.slice A n 0):=by
  intro ids hd hr hx0 A n hn;have hxs:xs=[]:=uc hx0;rw[hr,hxs,hn];refine ⟨_,h.BA hd hh,?_⟩;simp only[R,bK];exact .inl ⟨trivial,trivial,rfl,A,rfl⟩
 cases Nk:bh σ s with
 | sc u=>
   rw[Nk] at hs hs';simp only[Fj] at hs
   split at hs
   ·rename_i heq;simp only[D.sc.injEq] at heq;subst heq;simp only[gC,RY] at hs;obtain ⟨rfl,rfl⟩:=hs;simp only[R] at hs';refine main none 0 [] hs' (iU _) (ek _) (by simp) (by simp[RL]) (by simp) (by simp) (.inl rfl) (fun h1 h2=>by simp only[List.length_nil] at h2;omega) (fun ids hd rM=>⟨fun hx0=>fT ids hd rfl hx0 none 0 rfl,?_⟩);intro g q cur e' _ _ hA;cases hA
   all_goals first|cases hs|(rename_i heq;simp at heq)
 | cW o' k' off len=>
   rw[Nk] at hs hs';cases off with
   | succ n=>simp[Fj] at hs
   | zero=>
     simp only[Fj] at hs
     split at hs
     ·rename_i k'' eu hg
      split at hs
      ·rename_i hc;obtain ⟨rfl,rfl,rfl⟩:=hc;simp only[gC,RY] at hs;obtain ⟨rfl,rfl⟩:=hs;have hro:=h.objs o';rw[hg] at hro;simp only[R] at hs';rcases hs' with ⟨e1,_,e3,A,e4⟩|⟨g,cap,A,e1,e2,e3,e4,e5,e6⟩
       ·have Vx:eu=[]:=uc e3;subst Vx;refine main A 0 [] e4 (iU _) (ek _) (by simp) (by simp[RL]) (by simp) (by simp) (.inl rfl) (fun h1 h2=>by simp only[List.length_nil] at h2;omega) (fun ids hd rM=>⟨fun hx0=>fT ids hd rfl hx0 A 0 rfl,?_⟩);intro g q cur e' h1 h2;simp only[List.length_nil] at h2;omega
       ·simp only[RO,e1] at hro;obtain ⟨cur,e',cap',r1,r2,r3,r4,r5⟩:=hro
        have hcap:cur.size=cap*ei.size:=by
         obtain ⟨uq,V0,s1,s2⟩:=e2;rw[r1] at s1;simp only[gC,Obj.cells.injEq] at s1;rw[s1.1];exact s2
        obtain ⟨olds,o1,o2,o3,o4,o5⟩:=qy r5;simp only[kO,Nat.sub_zero,MH] at e3 e5 e6 o5
        have hfit:∀ n,eu.length+n<=cap->eu.length*ei.size+n*ei.size<=cur.size:=by
         intro n hn;rw[hcap, <- sN];exact M8 _ hn
        refine main A cap olds e5 e3 e4 o1 o2 o3 o4 ?_ ?_ ?_
        ·by_cases hz:eu.length=0
         ·exact .inl hz
         ·exact .inr ⟨_,e6 (by omega),fun j v hj=>by rw[Addr.add_lit,kO];exact o5 j v hj⟩
        ·intro h1 h2;exact ⟨g,0,cur,e',e6 (by omega),r1,by rw[n1,kO];exact hfit _ h2⟩
        ·intro ids hd rM;subst rM
         have Kc:∀ {w':World} {ρ':Nm} {st:Nat->Prop} {n:Nat},(∀ g n,Sh w g n->Sh w' g n)->ρ' d=some (some g)->n=(eu++xs).length->eu.length+xs.length<=cap->R w' st ρ' (.cW d ei.size 0 (eu++xs).length) (.slice A n cap):=by
          intro w' ρ' st n hsh hρ hn hle;simp only[R];refine .inr ⟨g,cap,A,hρ,hsh _ _ e2,by rw[bW];omega,e4,by rw[hn];rfl,fun hlt=>by rw[MH];exact e6 hlt⟩
         refine ⟨fun hx0=>?_,fun g' q cur' e'' h1 h2 hA nF Kb=>?_⟩
         ·have hxs:xs=[]:=uc hx0
          have hm:=h.Ka (d:=d) (eu:=eu++xs) (w':=w) hg hh (fun _ _ _=>rfl) (fun _ _ hs=>hs) (iU _) rfl rfl rfl (fun st hst=>by
           simp only[RO,bK,e1];rw[hxs,yM]
           exact ⟨cur,e',cap',r1,r2,r3,r4,RR.mono (fun _ _ _=>rfl) (fun _ _ hs=>hs) hst (fun _=>rfl) r5⟩)
          exact ⟨_,hm,Kc (fun _ _ hs=>hs) (by rw[bK,e1]) (by rw[hxs];simp) (by omega)⟩
         ·rw[e6 (by omega)] at hA;simp only[gC,Addr.mk.injEq] at hA;obtain ⟨rfl,rfl,_⟩:=hA;rw[r1] at nF;simp only[gC,Obj.cells.injEq] at nF;obtain ⟨rfl,rfl,_⟩:=nF;simp only[kO] at Kb ⊢
          have hlen:(cur.toList.take (eu.length*ei.size)++news++cur.toList.drop (eu.length*ei.size+news.length)).toArray.size=cur.size:=by
           simp only[zS,bW,cw,bQ,Array.length_toList];omega
          have hsh:∀ b n,Sh w b n->Sh (w.setRow g (cur.toList.take (eu.length*ei.size)++news++cur.toList.drop (eu.length*ei.size+news.length)).toArray) b n:=by
           intro b n hh;by_cases e':b=g
           ·subst e';obtain ⟨c2,V0,s1,s2⟩:=hh;rw[r1] at s1;simp only[gC,Obj.cells.injEq] at s1;exact ⟨_,_,setRow_heap w b cur _ _ (0,0) r1,by rw[hlen,s1.1,s2]⟩
           ·exact ct (setRow_other w g b _ e') hh
          have hm:=h.Ka (d:=d) (eu:=eu++xs) (w':=w.setRow g (cur.toList.take (eu.length*ei.size)++news++cur.toList.drop (eu.length*ei.size+news.length)).toArray) hg hh
           (fun b _ hb=>setRow_other w g b _ (fun e'=>hb (by rw[e1,e']))) hsh (by rw[setRow_size];exact iU _) rfl rfl rfl (fun st hst=>by
           simp only[RO,bK,e1]
           have hc:∀ b off,bO p σ.heap ρ w b->(w.setRow g (cur.toList.take (eu.length*ei.size)++news++cur.toList.drop (eu.length*ei.size+news.length)).toArray).cell? ⟨b,off,none⟩=w.cell? ⟨b,off,none⟩:=by
            intro b off hb;refine World.cell?_of_block (w:=w) (a:=⟨b,off,none⟩) (setRow_other w g b _ ?_);rintro rfl;exact hb.2.2 o' (by rw[hg];simp) (.inl e1)
           refine ⟨_,_,cap,setRow_heap w g cur _ _ (0,0) r1,⟨by rw[hlen];exact hcap,fun v hv=>?_⟩,e4,by rw[bW];omega,?_⟩
           ·simp only[lS] at hv;rcases hv with (hv|hv)|hv
            ·exact r2.one v (zR hv)
            ·exact n3 v hv
            ·exact r2.one v (E8 hv)
           refine lY (vs:=olds++news) (fun r hr=>?_) ?_ (fun v hv=>?_) (fun j v hj=>?_)
           ·cases lS.1 hr with
            | inl h=>exact o4 r h
            | inr h=>exact n4 r h
           ·rw[Pd];exact iG (RL.mono hc hsh hst o2) (RL.mono hc hsh hst n2)
           ·cases lS.1 hv with
            | inl h=>exact o3 v h
            | inr h=>exact n3 v h
           ·rw[kO,cell_of_row _ g j _ _ (0,0) (setRow_heap w g cur _ _ (0,0) r1)]
            have lD:cur.toList.take (eu.length*ei.size)=olds:=by
             apply MD;intro i;by_cases hi:i<eu.length*ei.size
             ·rw[EK hi];have:olds[i]? = some (olds[i]'(by omega)):=rF (by omega);have h5:=o5 i _ this;rw[cell_of_row w g i cur _ (0,0) r1, <- oe] at h5;rw[h5,this]
             ·rw[GU (by rw[cw];omega),GU (by rw[o1];omega)]
            rw[lD,Pj,Cl (by
             rw[bW];have:=(jM.1 hj).1
             simpa using this)]
            exact hj)
          exact ⟨_,hm,Kc hsh (by rw[bK,e1]) (by rw[bW]) h2⟩
      ·cases hs
     ·cases hs
 | any|agg|sl|cT|ro|ref|jN|fn|mp=>rw[Nk] at hs;simp[Fj] at hs
end
def splice {α:Type} (cs:List α) (off:Nat) (vs:List α):List α:=cs.take off++vs++cs.drop (off+vs.length)
theorem fU {α:Type} {cs vs:List α} {off:Nat} (h:off+vs.length<=cs.length):(splice cs off vs).length=cs.length:=by
 unfold splice;simp only[bW,cw,bQ];omega
theorem kF {α:Type} {cs vs:List α} {off j:Nat} (h:off+vs.length<=cs.length):(splice cs off vs)[j]? = if off<=j/\j<off+vs.length then vs[j-off]? else cs[j]? :=by
 unfold splice;have hl:(cs.take off).length=off:=by rw[cw];omega
 by_cases h1:j<off
 ·rw[aE (by omega),lR,Cl (by omega),EK h1]
 ·by_cases h2:j<off+vs.length
  ·rw[bC (by omega),Cl (by rw[bW];omega),EJ (by omega),hl]
  ·rw[aE (by omega),EJ (by rw[bW];omega),bW,hl,Qq]
   congr 1;omega
theorem qz {w:World} {st:Nat->Prop} {ρ:Nat->Option (Option Nat)} {ds es:List D} {vs us:List Value} {off:Nat} (h:RL w st ρ ds vs) (h':RL w st ρ es us):RL w st ρ (splice ds off es) (splice vs off us):=by
 unfold splice;rw[dF h'];exact iG (iG (mP off h) h') (qu _ h)
section
variable {w w':World} {st st':Nat->Prop}
theorem RC.Ke (hc:∀ g off,st g->w'.cell? ⟨g,off,none⟩=w.cell? ⟨g,off,none⟩) (hs:∀ g n,Sh w g n->Sh w' g n) (hst:∀ g,st g->st' g) {g:Nat}:∀ {cs:List D} {off:Nat},
  (∀ j,j<cs.length->w'.cell? ⟨g,off+j,none⟩=w.cell? ⟨g,off+j,none⟩)->RC w st g off cs->RC w' st' g off cs
 | [],_,_,_=>by simp[RC]
 | c::cs,off,h,hr=>by
   simp only[RC] at hr ⊢;obtain ⟨⟨v,h1,h2,h3⟩,h4⟩:=hr;refine ⟨⟨v,?_,h2,R.mono hc hs hst h3⟩,RC.Ke hc hs hst (fun j hj=>?_) h4⟩
   ·have:=h 0 (by simp);simp only[Nat.add_zero] at this;exact this.trans h1
   ·have:=h (j+1) (by simp only[List.length_cons];omega)
    rwa [show off+(j+1)=off+1+j by omega] at this
theorem Kf (hc:∀ g off,st g->w'.cell? ⟨g,off,none⟩=w.cell? ⟨g,off,none⟩) (hs:∀ g n,Sh w g n->Sh w' g n) (hst:∀ g,st g->st' g) {k g:Nat} {r':List D} (hr':r'.length=k):
  ∀ {rows:List (List D)} {off i:Nat},i<rows.length->RR w st k g off rows->(∀ j,¬ (off+i*k<=j/\j<off+i*k+k)->w'.cell? ⟨g,j,none⟩=w.cell? ⟨g,j,none⟩)->RC w' st' g (off+i*k) r'->
    RR w' st' k g off (rows.set i r')
 | [],_,_,hi,_,_,_=>by simp at hi
 | r::rs,off,0,_,EN,hout,hin=>by
   simp only[RR] at EN;simp only[List.set_cons_zero,RR]
   have all:∀ {rows:List (List D)} {off':Nat},off+k<=off'->RR w st k g off' rows->RR w' st' k g off' rows:=by
    intro rows
    induction rows with
    | nil=>intro _ _ _;simp[RR]
    | cons x xs ih=>
      intro off' hle hx;simp only[RR] at hx ⊢;exact ⟨hx.1,RC.Ke hc hs hst (fun j _=>hout _ (by omega)) hx.2.1,ih (by omega) hx.2.2⟩
   exact ⟨hr',by simpa using hin,all (iU _) EN.2.2⟩
 | r::rs,off,i+1,hi,EN,hout,hin=>by
   simp only[RR] at EN;simp only[List.set_cons_succ,RR];have e:off+(i+1)*k=off+k+i*k:=by rw[sN];omega
   rw[e] at hin hout;refine ⟨EN.1,RC.Ke hc hs hst (fun j hj=>hout _ (by rw[EN.1] at hj;omega)) EN.2.1,Kf hc hs hst hr' (by simpa using hi) EN.2.2 (fun j hj=>hout j hj) hin⟩
end
section
variable {P:Program} {σ:St}
theorem cP.box {o:Oper} {t:TypeId} {x:Operand} {d:Nat} {cs:List D} (ho:o.op = .box t x) (nJ:o.dst=some d) (hh:hfree σ.heap d=true) (hx:cellsD (bh σ x)=some cs):
  cP P σ o (St.put { σ.bF [d] with heap:=aG (σ.bF [d]).heap d (.box (og d cs)) } (some d) (.ref d 0)):=by
 rintro w0 p a w ⟨ρ,h⟩;obtain ⟨h1,h2⟩:=pW hx (h.bh x);refine ⟨.pointer (some ⟨w.heap.size,0,none⟩),w.alloc (.cells (a.eval x).cells t), .inl ?_,?_⟩
 ·simp[execOp,ho,Instr.box,newVar,newRow]
 ·rw[nJ]
  have hnb:=h.jS (ids:=[d]) (o:=d) (x:= .box (og d cs)) (cur:=(a.eval x).cells) (e:=t) (by simp) hh (by simp) (fun st hst=>by
   simp only[RO,bK];refine ⟨w.heap.size,_,t,rfl,heap_alloc_new w _,?_⟩
   exact RL.mono (fun g off hg=>World.cell?_alloc_lt w _ ⟨g,off,none⟩ hg.2.1) (fun g n hs=>ct (Below.heap_alloc w _ g hs.lt) hs) hst (RL.kz (fun o' e=>eU e) h1))
  exact ⟨_,hnb.put (some d) (by simp only[R,bK];exact ⟨w.heap.size,rfl,rfl⟩)⟩
theorem cP.alloc {o:Oper} {t:TypeId} {d:Nat} {ti:TI} (ho:o.op = .alloc t) (nJ:o.dst=some d) (hh:hfree σ.heap d=true) (ht:aA P t=some ti):
  cP P σ o (St.put { σ.bF [d] with heap:=aG (σ.bF [d]).heap d (.box (ti.zero.cells.toList.map .sc)) } (some d) (.ref d 0)):=by
 rintro w0 p a w ⟨ρ,h⟩;obtain ⟨_,_,_,hz,_⟩:=ej ht w;refine ⟨.pointer (some ⟨w.heap.size,0,none⟩),w.alloc (.cells ti.zero.cells t), .inl ?_,?_⟩
 ·simp[execOp,ho,Instr.alloc,newVar,newRow,hz]
 ·rw[nJ]
  have hnb:=h.jS (ids:=[d]) (o:=d) (x:= .box (ti.zero.cells.toList.map .sc)) (cur:=ti.zero.cells) (e:=t) (by simp) hh (by simp) (fun st hst=>by
   simp only[RO,bK]
   exact ⟨w.heap.size,_,t,rfl,heap_alloc_new w _,pU _⟩)
  exact ⟨_,hnb.put (some d) (by simp only[R,bK];exact ⟨w.heap.size,rfl,rfl⟩)⟩
def ur (σ:St) (vs:List D):D->Option (Nat×Obj)
 | .ref o off=>match az σ.heap o with
   | .box cs=>if off+vs.length<=cs.length then some (o, .box (splice cs off vs)) else none
   | _=>none
 | .jN o k i off=>match az σ.heap o with
   | .row k' rows=>if k'=k then (rows[i]?).bind fun r=>if off+vs.length<=r.length/\jA vs=true then some (o, .row k (rows.set i (splice r off vs))) else none else none
   | _=>none
 | _=>none
theorem ou {w:World} {t:TypeId} {ti:TI} (ht:aA P t=some ti) {g off:Nat} {cur:Array Value} {e:TypeId} {v:Value} (hg:w.heap[g]? = some (.cells cur e (0,0))) (hsz:v.cells.size=ti.size)
  (hfit:off+v.cells.toList.length<=cur.size) (h1:∀ u∈v.cells.toList,u.oneCell'=true):
  (storeVar t ⟨g,off,none⟩ v).run P w = .ok () (w.setRow g (splice cur.toList off v.cells.toList).toArray):=by
 obtain ⟨_,hs,_⟩:=ej ht w;have hst:=run_storeCells_at P g off e v.cells.toList 0 cur w hg (by simpa using hfit) h1;simp only[Nat.add_zero] at hst;simp[storeVar,hs,hsz,hst,splice]
theorem cP.store {o:Oper} {t:TypeId} {ax vx:Operand} {ti:TI} {vs:List D} {oo:Nat} {x:Obj} (ho:o.op = .store t ax vx) (ht:aA P t=some ti) (hv:cellsD (bh σ vx)=some vs) (hl:vs.length=ti.size)
  (hs:ur σ vs (bh σ ax)=some (oo,x)):cP P σ o (St.put { σ with heap:=aG σ.heap oo x } o.dst (.sc undef)):=by
 rintro w0 p a w ⟨ρ,h⟩;obtain ⟨h1,h2⟩:=pW hv (h.bh vx);have hlen:=dF h1;have hsz:(a.eval vx).cells.size=ti.size:=by rw[<- hl, <- hlen,Array.length_toList]
 have ha:=h.bh ax;cases had:bh σ ax with
 | ref o' off=>
   rw[had] at hs ha;simp only[ur] at hs
   split at hs
   ·rename_i cs hg
    split at hs
    ·rename_i hfit;simp only[gC,RY] at hs;obtain ⟨rfl,rfl⟩:=hs;have hro:=h.objs o';rw[hg] at hro;simp only[RO] at hro;obtain ⟨g,cur,e,r1,r2,r3⟩:=hro;simp only[R] at ha;obtain ⟨g',a1,a2⟩:=ha;rw[r1] at a1;simp only[gC] at a1;subst a1;have w6:=dF r3;have BD:cur.toList.length=cur.size:=Array.length_toList;have YX:cs.length=cur.size:=by rw[<- w6,BD]
     have hrun:=ou ht (w:=w) (g:=g) (off:=off) (v:=a.eval vx) r2 hsz (by rw[hlen];omega) h2;refine ⟨undef,_, .inr ⟨rfl,by simp[execOp,ho,Instr.storeAt,a2,Instr.sureAddr,hrun];rfl⟩,?_⟩
     have hu:=h.Vv (o:=o') (g:=g) (x:= .box (splice cs off vs)) (cur:=cur) (cur':=(splice cur.toList off (a.eval vx).cells.toList).toArray) (e:=e) (by rw[hg];simp) r1 r2
      (by rw[zS,fU (by rw[hlen,BD];omega),BD]) (by simp) (fun st hst=>by
       simp only[RO];refine ⟨g,_,e,r1,setRow_heap w g cur _ e (0,0) r2,?_⟩
       have hc:∀ k q,bO p σ.heap ρ w k->(w.setRow g (splice cur.toList off (a.eval vx).cells.toList).toArray).cell? ⟨k,q,none⟩=w.cell? ⟨k,q,none⟩:=by
        intro k q hk;refine World.cell?_of_block (w:=w) (a:=⟨k,q,none⟩) (setRow_other w g k _ ?_);rintro rfl;exact hk.2.2 o' (by rw[hg];simp) (.inl r1)
       have hsh:∀ k n,Sh w k n->Sh (w.setRow g (splice cur.toList off (a.eval vx).cells.toList).toArray) k n:=by
        intro k n hh;by_cases e':k=g
        ·subst e';obtain ⟨c,e2,s1,s2⟩:=hh;rw[r2] at s1;simp only[gC,Obj.cells.injEq] at s1;exact ⟨_,e,setRow_heap w k cur _ e (0,0) r2,by rw[zS,fU (by rw[hlen,BD];omega),BD,s1.1,s2]⟩
        ·exact ct (setRow_other w g k _ e') hh
       have:=qz (off:=off) r3 h1
       simpa using RL.mono hc hsh hst this)
     exact ⟨ρ,hu.put o.dst (by simp[R])⟩
    ·cases hs
   ·cases hs
 | jN o' k i off=>
   rw[had] at hs ha;simp only[ur] at hs
   split at hs
   ·rename_i k' rows hg
    split at hs
    ·rename_i hk;subst hk;simp only[j3] at hs;obtain ⟨r,hr,hs⟩:=hs
     split at hs
     ·rename_i hfit;obtain ⟨hfit,hpure⟩:=hfit;simp only[gC,RY] at hs;obtain ⟨rfl,rfl⟩:=hs;have hro:=h.objs o';rw[hg] at hro;simp only[R] at ha;obtain ⟨g,r1,a2⟩:=ha;simp only[RO,r1] at hro;obtain ⟨cur,e,cap,r2,r3,r4,r5,r6⟩:=hro;obtain ⟨hrl,hrc⟩:=ug r6 hr;have hi:i<rows.length:=(jM.1 hr).1
      have YY:i*k'+k'<=cur.size:=by
       have:(i+1)*k'<=cap*k':=M8 _ (by omega);rw[sN,Qu] at this;have:=r3.size;omega
      rw[kO] at hrc;have BD:cur.toList.length=cur.size:=Array.length_toList;have G1:i*k'+off+(a.eval vx).cells.toList.length<=cur.toList.length:=by rw[hlen,BD];omega
      have hrun:=ou ht (w:=w) (g:=g) (off:=i*k'+off) (v:=a.eval vx) r2 hsz (by rw[BD] at G1;exact G1) h2;refine ⟨undef,_, .inr ⟨rfl,by simp[execOp,ho,Instr.storeAt,a2,Instr.sureAddr,hrun];rfl⟩,?_⟩
      have hsize:(splice cur.toList (i*k'+off) (a.eval vx).cells.toList).toArray.size=cur.size:=by
       rw[zS,fU G1,BD]
      have hu:=h.Vv (o:=o') (g:=g) (x:= .row k' (rows.set i (splice r off vs))) (cur:=cur) (cur':=(splice cur.toList (i*k'+off) (a.eval vx).cells.toList).toArray) (e:=e) (by rw[hg];simp) r1 r2 hsize (by simp) (fun st hst=>by
        have hc:∀ b q,bO p σ.heap ρ w b->(w.setRow g (splice cur.toList (i*k'+off) (a.eval vx).cells.toList).toArray).cell? ⟨b,q,none⟩=w.cell? ⟨b,q,none⟩:=by
         intro b q hb;refine World.cell?_of_block (w:=w) (a:=⟨b,q,none⟩) (setRow_other w g b _ ?_);rintro rfl;exact hb.2.2 o' (by rw[hg];simp) (.inl r1)
        have hsh:∀ b n,Sh w b n->Sh (w.setRow g (splice cur.toList (i*k'+off) (a.eval vx).cells.toList).toArray) b n:=by
         intro b n hh;by_cases e':b=g
         ·subst e';obtain ⟨c,e2,s1,s2⟩:=hh;rw[r2] at s1;simp only[gC,Obj.cells.injEq] at s1;exact ⟨_,e,setRow_heap w b cur _ e (0,0) r2,by rw[hsize,s1.1,s2]⟩
         ·exact ct (setRow_other w g b _ e') hh
        have hcell:∀ q,(w.setRow g (splice cur.toList (i*k'+off) (a.eval vx).cells.toList).toArray).cell? ⟨g,q,none⟩=if i*k'+off<=q/\q<i*k'+off+(a.eval vx).cells.toList.length then (a.eval vx).cells.toList[q-(i*k'+off)]? else w.cell? ⟨g,q,none⟩:=by
         intro q;rw[cell_of_row _ g q _ _ (0,0) (setRow_heap w g cur _ e (0,0) r2),cell_of_row w g q cur e (0,0) r2,Pj,kF G1, <- oe (xs:=cur)]
        simp only[RO,r1];refine ⟨_,e,cap,setRow_heap w g cur _ e (0,0) r2,⟨by rw[hsize];exact r3.size,fun v hv=>?_⟩,r4,by rw[GV];exact r5,?_⟩
        ·simp only[splice,lS] at hv;rcases hv with (hv|hv)|hv
         ·exact r3.one v (zR hv)
         ·exact h2 v hv
         ·exact r3.one v (E8 hv)
        refine Kf hc hsh hst (by rw[fU hfit,hrl]) hi r6 (fun j hj=>?_) ?_
        ·rw[hcell,aE (by omega)]
        ·rw[kO]
                -- the row itself
         have rc:∀ {cs:List D} {q:Nat},RC w (bO p σ.heap ρ w) g q cs->∃ us:List Value,RL w (bO p σ.heap ρ w) (fun _=>none) cs us/\(∀ v∈us,v.oneCell'=true)/\∀ j v,us[j]? = some v->w.cell? ⟨g,q+j,none⟩=some v:=by
          intro cs
          induction cs with
          | nil=>intro q _;exact ⟨[],by simp[RL],by simp,by simp⟩
          | cons c cs ih=>
            intro q hq;simp only[RC] at hq;obtain ⟨⟨v,e1,e2,e3⟩,e4⟩:=hq;obtain ⟨us,f1,f2,f3⟩:=ih e4;refine ⟨v::us,by simp only[RL];exact ⟨v,us,rfl,e3,f1⟩,by simpa using ⟨e2,f2⟩,fun j u hj=>?_⟩;cases j with
            | zero=>simp only[List.getElem?_cons_zero,gC] at hj;subst hj;exact e1
            | succ j=>simp only[List.getElem?_cons_succ] at hj;have:=f3 j u hj;rw[show q+(j+1)=q+1+j by omega];exact this
         obtain ⟨us,u1,u2,u3⟩:=rc hrc;have hul:=dF u1;have Bq:=jv (ρ':=fun _=>none) hpure h1;have SQ:off+(a.eval vx).cells.toList.length<=us.length:=by rw[hlen];omega
         refine kD (vs:=splice us off (a.eval vx).cells.toList) (RL.mono hc hsh hst (qz u1 Bq)) (fun v hv=>?_) (fun j v hj=>?_)
         ·unfold splice at hv;rcases lS.1 hv with hv|hv
          ·rcases lS.1 hv with hv|hv
           ·exact u2 v (zR hv)
           ·exact h2 v hv
          ·exact u2 v (E8 hv)
         ·rw[kF SQ] at hj;rw[hcell]
          split at hj
          ·rename_i hin;rw[bC (by omega)];rw[show i*k'+j-(i*k'+off)=j-off by omega];exact hj
          ·rename_i hin;rw[aE (by omega)]
           exact u3 j v hj)
      exact ⟨ρ,hu.put o.dst (by simp[R])⟩
     ·cases hs
    ·cases hs
   ·cases hs
 | any|sc|agg|sl|cT|ro|cW|fn|mp=>rw[had] at hs;simp[ur] at hs
def nK (place:Nat->Option (Nat×Nat)) (cells:List D):List (Nat×D)->Option (List D)
 | []=>some cells
 | (i,d)::rest=>match place i,cellsD d with
   | some (off,size),some cs=>if cs.length=size/\off+cs.length<=cells.length then nK place (splice cells off cs) rest else none
   | _,_=>none
theorem z7:∀ (vs:List Value) (off k:Nat) (cells:Array Value),off+k+vs.length<=cells.size->
  ((vs.zipIdx k).foldl (fun cs (x:Value×Nat)=>cs.setIfInBounds (off+x.2) x.1) cells).toList=splice cells.toList (off+k) vs
 | [],off,k,cells,_=>by simp[splice]
 | v::vs,off,k,cells,h=>by
   simp only[List.length_cons] at h;simp only[List.zipIdx_cons,List.foldl_cons];rw[z7 vs off (k+1) _ (by rw[Array.size_setIfInBounds];omega)];apply MD;intro j;have BD:cells.toList.length=cells.size:=Array.length_toList;have YZ:(cells.setIfInBounds (off+k) v).toList.length=cells.size:=by simp
   have hl:off+(k+1)+vs.length<=(cells.setIfInBounds (off+k) v).toList.length:=by omega
   have hl':off+k+(v::vs).length<=cells.toList.length:=by rw[List.length_cons];omega
   rw[kF hl,kF hl',VO,List.length_cons];by_cases e:j=off+k
   ·subst e;rw[aE (by omega),bC (by omega),JI];rw[uf (by omega)];simp
   ·rw[ua (by omega)];by_cases h1:off+(k+1)<=j/\j<off+(k+1)+vs.length
    ·rw[bC h1,bC (by omega),show j-(off+k)=(j-(off+(k+1)))+1 by omega];simp
    ·rw[aE h1,aE (by omega)]
theorem nL {w:World} {st:Nat->Prop} {ρ:Nat->Option (Option Nat)} {place:Nat->Option (Nat×Nat)}:∀ {parts:List (Nat×D)} {ov:List (Nat×Value)} {cells cells':List D} {vs:List Value},
  RL w st ρ cells vs->parts.map (·.1)=ov.map (·.1)->RL w st ρ (parts.map (·.2)) (ov.map (·.2))->nK place cells parts=some cells'->∃ vs',Instr.fill place vs.toArray ov=some vs'.toArray/\RL w st ρ cells' vs'
 | [],[],cells,cells',vs,h,_,_,hf=>by
   simp only[nK,gC] at hf;subst hf;exact ⟨vs,by simp[Instr.fill],h⟩
 | [],_::_,_,_,_,_,h,_,_=>by simp at h
 | _::_,[],_,_,_,_,h,_,_=>by simp at h
 | (i,d)::parts,(i',v)::ov,cells,cells',vs,h,h1,h2,hf=>by
   simp only[JH,Pq] at h1;obtain ⟨rfl,h1⟩:=h1;simp only[JH,RL] at h2;obtain ⟨v',Y0,e,h3,h4⟩:=h2;simp only[Pq] at e;obtain ⟨rfl,rfl⟩:=e;simp only[nK] at hf
   split at hf
   ·rename_i off size cs hp hc
    split at hf
    ·rename_i SR;obtain ⟨rfl,hle⟩:=SR;obtain ⟨h5,_⟩:=pW hc h3;have hl:=dF h5;have Qw:=dF h;obtain ⟨vs',h6,h7⟩:=nL (qz (off:=off) h h5) h1 h4 hf;refine ⟨vs',?_,h7⟩;have hsz:v.cells.size=cs.length:=by rw[<- hl,Array.length_toList]
     have SS:=z7 v.cells.toList off 0 vs.toArray (by rw[zS,hl,Qw];omega)
     have hz:(v.cells.zipIdx.foldl (fun cs (x:Value×Nat)=>cs.setIfInBounds (off+x.2) x.1) vs.toArray)=(splice vs off v.cells.toList).toArray:=by
      apply Ig.1;rw[<- Array.foldl_toList,Array.toList_zipIdx];simpa using SS
     have hnot:¬ (v.cells.size≠cs.length\/vs.toArray.size<off+v.cells.size):=by
      rw[hsz,zS,Qw];omega
     simp only[Instr.fill,hp];rw[aE (by simp only[vP,pQ,gt_iff_lt];exact hnot)];refine Eq.trans ?_ h6;exact congrArg (fun c=>Instr.fill place c ov) hz
    ·cases hf
   ·cases hf
end
section
variable {P:Program} {σ:St}
theorem sS {w0:World} {p:Pm} {a:Act} {w:World} {ρ:Nm} (h:aU w0 p σ a w ρ) (parts:List (Nat×Operand)):
  RL w (bO p σ.heap ρ w) ρ ((parts.map fun x=>(x.1,bh σ x.2)).map (·.2)) ((parts.map fun x=>(x.1,a.eval x.2)).map (·.2)):=by
 induction parts with
 | nil=>simp[RL]
 | cons x xs ih=>simp only[JH,RL];exact ⟨_,_,rfl,h.bh x.2,ih⟩
def placesOf (P:Program) (fs:List (Nat×TypeId)):Option (List (Nat×Nat)):=fZ (fun f=>(aA P f.2).map fun ti=>(f.1,ti.size)) fs
theorem run_places {w:World}:∀ {F:List Field} {ps:List (Nat×Nat)},placesOf P (F.map fun f=>(f.offset,f.type))=some ps->
  (F.mapM (fun f=>do pure (f.offset, <- sizeOf f.type)):Sem (List (Nat×Nat))).run P w = .ok ps w
 | [],ps,h=>by
   simp only[placesOf,List.map_nil,fZ,gC] at h;subst h;simp
 | f::F,ps,h=>by
   simp only[placesOf,JH,fZ,j3,ku] at h;obtain ⟨x,⟨ti,h1,rfl⟩,ps',h2,rfl⟩:=h;have ih:=run_places (F:=F) (w:=w) (ps:=ps') (by simpa[placesOf] using h2);obtain ⟨_,hs,_⟩:=ej h1 w;simp only[List.mapM_cons,Sem.run_bind,hs,ih,Result.andThen_ok,Sem.run_pure]
theorem Sound.build {t:TypeId} {parts:Array (Nat×Operand)} {ti:TI} {fs:List (Nat×TypeId)} {ps:List (Nat×Nat)} {cells:List D} (ht:aA P t=some ti) (hk:ti.kind = .struct fs) (hp:placesOf P fs=some ps)
  (hf:nK (ps[·]?) (ti.zero.cells.toList.map .sc) (parts.toList.map fun x=>(x.1,bh σ x.2))=some cells):Sound P σ (.build t parts) (.agg cells):=by
 intro w0 p a w ρ o ho h;obtain ⟨⟨dt,hu,zW⟩,_,_,hz,_⟩:=ej ht w;rw[hk] at zW;obtain ⟨F,rfl,hF⟩:=qv zW
 have pS:(F.mapM (fun f=>do pure (f.offset, <- sizeOf f.type)):Sem (Array (Nat×Nat))).run P w = .ok ps.toArray w:=by
  rw[<- Array.toArray_toList (xs:=F),List.mapM_toArray];simp only[Sem.run_map,run_places (F:=F.toList) (w:=w) (by rw[hF];exact hp),Result.andThen_ok]
 obtain ⟨vs',h1,h2⟩:=nL (w:=w) (st:=bO p σ.heap ρ w) (ρ:=ρ) (ov:=parts.toList.map fun x=>(x.1,a.eval x.2)) (pU ti.zero.cells.toList) (by simp[H7,Function.comp_def]) (sS h parts.toList) hf;refine ⟨.agg vs'.toArray,?_,by simp only[R];exact ⟨_,rfl,by simpa using h2⟩⟩;have pJ:Instr.fill (fun i:Nat=>ps[i]?) ti.zero.cells (parts.toList.map fun x=>(x.1,a.eval x.2))=some vs'.toArray:=by simpa using h1
 simp only[execOp,ho,Instr.build,Sem.run_bind,hz,Result.andThen_ok,hu,pS,Sem.run_pure];simp[pJ]
def chunks (k:Nat):Nat->List D->List (List D)
 | 0,_=>[]
 | n+1,cs=>cs.take k::chunks k n (cs.drop k)
theorem kP {k:Nat}:∀ {n:Nat} {cs:List D},(chunks k n cs).length=n
 | 0,_=>rfl
 | n+1,cs=>by simp[chunks,kP]
theorem uu {w:World} {st:Nat->Prop} {k g:Nat}:∀ {n off:Nat} {cs:List D} {vs:List Value},cs.length=n*k->RL w st (fun _=>none) cs vs->(∀ v∈vs,v.oneCell'=true)->
  (∀ j v,vs[j]? = some v->w.cell? ⟨g,off+j,none⟩=some v)->RR w st k g off (chunks k n cs)
 | 0,_,_,_,_,_,_,_=>by simp[chunks,RR]
 | n+1,off,cs,vs,hl,h,h1,h2=>by
   rw[sN,Qu] at hl;simp only[chunks,RR];have hvl:=dF h;refine ⟨by rw[cw];omega,kD (mP k h) (fun v hv=>h1 v (zR hv)) (fun j v hj=>?_),uu (by rw[bQ];omega) (qu k h) (fun v hv=>h1 v (E8 hv)) (fun j v hj=>?_)⟩
   ·rw[JG] at hj
    split at hj
    ·exact h2 j v hj
    ·cases hj
   ·rw[Qq] at hj;have:=h2 (k+j) v hj
    rwa [show off+k+j=off+(k+j) by omega]
theorem eV {t e:TypeId} {ti:TI} (ht:aA P t=some ti) (hk:ti.kind.elem? = some e):P.underlying t=some (.slice e):=by
 obtain ⟨i,dt,hi,hu,z1,z2,z3,z4⟩:=cr ht;cases hkk:ti.kind with
 | slice e'=>
   rw[hkk] at hk z4;simp only[TK.elem?,gC] at hk;subst hk;rw[iY z4] at hu;exact hu
 | _=>rw[hkk] at hk;simp[TK.elem?] at hk
def jB (z:Value) (n:Nat):List D:=(List.range n).map fun i=> .sc (z.cells[i%z.cells.size]!)
theorem cP.buildSlice {o:Oper} {t:TypeId} {n d:Nat} {parts:Array (Nat×Operand)} {ti ei:TI} {e:TypeId} {cells:List D} (ho:o.op = .buildSlice t n parts) (nJ:o.dst=some d) (hh:hfree σ.heap d=true) (ht:aA P t=some ti) (hk:ti.kind.elem? = some e)
  (he:aA P e=some ei) (hn:n<=16777216) (hle:n*ei.size<=16777216) (hf:nK (fun i=>some (i*ei.size,ei.size)) (jB ei.zero (n*ei.size)) (parts.toList.map fun x=>(x.1,bh σ x.2))=some cells)
  (hlen:cells.length=n*ei.size) (hone:cells.all qP=true) (hpure:jA cells=true):
  cP P σ o (St.put { σ.bF [d] with heap:=aG (σ.bF [d]).heap d (.row ei.size (chunks ei.size n cells)) } (some d) (.cW d ei.size 0 n)):=by
 rintro w0 p a w ⟨ρ,h⟩;have hu:=run_underlying (P:=P) (eV ht hk) w;obtain ⟨_,hs,_,hz,_⟩:=ej he w
 have Nl:RL w (bO p σ.heap ρ w) ρ (jB ei.zero (n*ei.size)) ((List.range (n*ei.size)).map fun i=>ei.zero.cells[i%ei.zero.cells.size]!):=by
  have:jB ei.zero (n*ei.size)=((List.range (n*ei.size)).map fun i=>ei.zero.cells[i%ei.zero.cells.size]!).map .sc:=by simp[jB,H7,Function.comp_def]
  rw[this];exact pU _
 obtain ⟨vs',h1,h2⟩:=nL (ov:=parts.toList.map fun x=>(x.1,a.eval x.2)) Nl (by simp[H7,Function.comp_def]) (sS h parts.toList) hf;have h3:=jv (ρ':=fun _=>none) hpure h2;have h4:=rJ hone h2;have hvl:=dF h2;refine ⟨.slice (some ⟨w.heap.size,0,none⟩) n n,w.alloc (.cells vs'.toArray e), .inl ?_,?_⟩
 ·have hle':¬ (n*ei.size>2^24):=by omega
  have va:∀ z:Array Value,(n*ei.size=0\/z=ei.zero.cells)->Instr.fill (fun i=>some (i*ei.size,ei.size)) ((Array.range (n*ei.size)).map (z[· % z.size]!)) (parts.map fun x=>(x.1,a.eval x.2)).toList=some vs'.toArray:=by
   intro z yP
   have ez:(Array.range (n*ei.size)).map (z[· % z.size]!)=((List.range (n*ei.size)).map fun i=>ei.zero.cells[i%ei.zero.cells.size]!).toArray:=by
    rcases yP with h0|rfl
    ·rw[h0];simp
    ·apply Ig.1;simp
   rw[ez,Qs];exact h1
  by_cases h0:n*ei.size=0
  ·have Kg:=va #[] (.inl h0);simp only[execOp,ho,Instr.buildSlice,Sem.run_bind,hu,Result.andThen_ok,hs,Sem.run_pure];rw[aE hle'];simp only[Sem.run_bind,Sem.run_pure,Result.andThen_ok,bC h0];simp only[Kg,Sem.run_bind,Sem.run_pure,newRow,run_newObj,Result.andThen_ok];rfl
  ·have Kg:=va ei.zero.cells (.inr rfl);simp only[execOp,ho,Instr.buildSlice,Sem.run_bind,hu,Result.andThen_ok,hs,Sem.run_pure];rw[aE hle'];simp only[Sem.run_bind,Sem.run_pure,Result.andThen_ok,aE h0,hz];simp only[Kg,Sem.run_bind,Sem.run_pure,newRow,run_newObj,Result.andThen_ok];rfl
 ·rw[nJ]
  have EN:∀ st:Nat->Prop,(∀ g,bO p σ.heap ρ w g->st g)->RR (w.alloc (.cells vs'.toArray e)) st ei.size w.heap.size 0 (chunks ei.size n cells):=by
   intro st hst;refine uu hlen (RL.mono (fun g off hg=>World.cell?_alloc_lt w _ ⟨g,off,none⟩ hg.2.1) (fun g n hs=>ct (Below.heap_alloc w _ g hs.lt) hs) hst h3) h4 (fun j v hj=>?_);rw[kO,World.cell?_alloc_new];simpa using hj
  have yQ:n<=maxLen:=by unfold maxLen;omega
  have hnb:=h.jS (ids:=[d]) (o:=d) (x:= .row ei.size (chunks ei.size n cells)) (cur:=vs'.toArray) (e:=e) (by simp) hh (by simp) (fun st hst=>by
   simp only[RO,bK]
   exact ⟨_,e,n,heap_alloc_new w _,⟨by rw[zS,hvl,hlen],fun v hv=>h4 v (by simpa using hv)⟩,yQ,by rw[kP];exact iU _,EN st hst⟩)
  refine ⟨_,hnb.put (some d) ?_⟩;simp only[R,bK];exact .inr ⟨w.heap.size,n,_,rfl,⟨_,e,heap_alloc_new w _,by rw[zS,hvl,hlen]⟩,by omega,yQ,rfl,fun _=>by simp⟩
theorem G2 {w:World} {st:Nat->Prop} {k g:Nat} {z:List Value} (hz:z.length=k) (hone:∀ v∈z,v.oneCell'=true):∀ {n off:Nat},(∀ j,j<n*k->w.cell? ⟨g,off+j,none⟩=z[j%k]?)->RR w st k g off (List.replicate n (z.map .sc))
 | 0,_,_=>by simp[RR]
 | n+1,off,h=>by
   rw[List.replicate_succ];simp only[RR];refine ⟨by simpa using hz,kD (pU z) hone (fun j v hj=>?_),G2 hz hone (fun j hj=>?_)⟩
   ·have hlt:j<z.length:=(jM.1 hj).1;rw[h j (by rw[sN];omega),Nat.mod_eq_of_lt (by omega),hj]
   ·have:=h (k+j) (by rw[sN];omega);rw[Nat.add_mod_left] at this
    rwa [show off+k+j=off+(k+j) by omega]
theorem y6 {z:Array Value} {n:Nat} (hz:∀ v∈z.toList,v.oneCell'=true):∀ v∈(madeCells z n).toList,v.oneCell'=true:=by
 intro v hv;simp only[madeCells,Qs,qq,Vr,Array.mem_range] at hv;obtain ⟨i,hi,rfl⟩:=hv;by_cases hpos:0<z.size
 ·have hlt:i%z.size<z.size:=Nat.mod_lt _ hpos;rw[Nb z _ hlt];exact hz _ (Vr.2 (Array.getElem_mem hlt))
 ·have:z.size=0:=by omega
  have Nl:z = #[]:=Array.eq_empty_of_size_eq_zero this;subst Nl;rfl
theorem cP.makeSlice {o:Oper} {t:TypeId} {lx cx:Operand} {d l c:Nat} {kl kc:IntKind} {ti ei:TI} {e:TypeId} (ho:o.op = .makeSlice t lx cx) (nJ:o.dst=some d) (hh:hfree σ.heap d=true) (ht:aA P t=some ti) (hk:ti.kind.elem? = some e)
  (he:aA P e=some ei) (hl:bh σ lx = .sc (.int kl (l:Int))) (hc:bh σ cx = .sc (.int kc (c:Int))) (hlc:l<=c) (hb:ei.bytes*c<=281474976710656) (h63:c<=9223372036854775807)
  (hzs:ei.zero.cells.size=ei.size) (h0:0<ei.size) (hone:ei.zero.cells.toList.all (·.oneCell')=true):
  cP P σ o (St.put { σ.bF [d] with heap:=aG (σ.bF [d]).heap d (.row ei.size (List.replicate c (ei.zero.cells.toList.map .sc))) } (some d) (.cW d ei.size 0 l)):=by
 rintro w0 p a w ⟨ρ,h⟩;obtain ⟨ie,de,Fk,R5,y1,y2,y3,y4⟩:=cr he;have hl':=h.bh lx;have Nn:=h.bh cx;rw[hl] at hl';rw[hc] at Nn;simp only[R] at hl' Nn
 have hb':(ie.bytes:Int)*(c:Int)<=281474976710656:=by
  rw[y2];have h:((ei.bytes*c:Nat):Int)<=281474976710656:=by omega
  rwa [Int.natCast_mul] at h
 have hrun:=run_make (P:=P) w t e ie ei.zero (eV ht hk) Fk y3 kl kc (l:Int) (c:Int) (by omega) (by omega) hb' (by omega);rw[Int.toNat_natCast,Int.toNat_natCast,y1] at hrun;refine ⟨.slice (some ⟨w.heap.size,0,none⟩) l c,w.alloc (.cells (madeCells ei.zero.cells (c*ei.size)) e), .inl (by simp only[execOp,ho,hl',Nn,Sem.run_bind,hrun,Result.andThen_ok,Sem.run_pure]),?_⟩;rw[nJ];have Fi:c<=maxLen:=by unfold maxLen;omega
 have EN:∀ st:Nat->Prop,RR (w.alloc (.cells (madeCells ei.zero.cells (c*ei.size)) e)) st ei.size w.heap.size 0 (List.replicate c (ei.zero.cells.toList.map .sc)):=by
  intro st;refine G2 (by rw[Array.length_toList];exact hzs) (fun v hv=>yN.1 hone v hv) (fun j hj=>?_);rw[kO,World.cell?_alloc_new,oe];have hmod:j%ei.size<ei.zero.cells.size:=by rw[hzs];exact Nat.mod_lt _ h0
  simp only[madeCells,hzs,Array.getElem?_map,Array.getElem?_range,hj,jg,Option.map_some,Pf hmod];rw[Nb ei.zero.cells (j%ei.size) hmod]
 have hsz:(madeCells ei.zero.cells (c*ei.size)).size=c*ei.size:=size_madeCells _ _
 have hnb:=h.jS (ids:=[d]) (o:=d) (x:= .row ei.size (List.replicate c (ei.zero.cells.toList.map .sc))) (cur:=madeCells ei.zero.cells (c*ei.size)) (e:=e) (by simp) hh (by simp) (fun st hst=>by
  simp only[RO,bK]
  exact ⟨_,e,c,heap_alloc_new w _,⟨hsz,y6 (fun v hv=>yN.1 hone v hv)⟩,Fi,by simp,EN st⟩)
 refine ⟨_,hnb.put (some d) ?_⟩;simp only[R,bK];exact .inr ⟨w.heap.size,c,_,rfl,⟨_,e,heap_alloc_new w _,hsz⟩,by omega,Fi,rfl,fun _=>by simp⟩
end
def cZ (σ σ':St):Prop:= ∀ w0 p a w,Rel w0 p σ a w->Rel w0 p σ' a w
theorem cZ.refl (σ:St):cZ σ σ:=fun _ _ _ _ h=>h
theorem cZ.trans {σ σ' SU:St} (h:cZ σ σ') (h':cZ σ' SU):cZ σ SU:=fun _ _ _ _ hr=>h' _ _ _ _ (h _ _ _ _ hr)
theorem ay.imp {P:Program} {Q:Exit->St->Prop} {σ σ':St} {c:Code} (h:cZ σ σ') (hn:ay P c Q σ'):ay P c Q σ:=fun w0 p a w hr=>hn w0 p a w (h w0 p a w hr)
theorem dH.imp {P:Program} {all:Array Oper} {Q:Exit->St->Prop} {σ σ':St} {l:List Oper} (h:cZ σ σ') (hn:dH P all Q l σ'):dH P all Q l σ:=fun w0 p a w hr=>hn w0 p a w (h w0 p a w hr)
def ve:List Bool->List D->List D
 | [],ds=>ds
 | _,[]=>[]
 | b::bs,d::ds=>(if b then d else .any)::ve bs ds
theorem G3 {w:World} {st:Nat->Prop} {ρ:Nat->Option (Option Nat)}:∀ {bs:List Bool} {ds:List D} {vs:List Value},RL w st ρ ds vs->RL w st ρ (ve bs ds) vs
 | [],_,_,h=>by simpa[ve] using h
 | _::_,[],_,h=>by simpa[ve] using h
 | b::bs,d::ds,_,h=>by
   simp only[RL] at h;obtain ⟨v,vs',rfl,h1,h2⟩:=h;simp only[ve,RL];refine ⟨v,vs',rfl,?_,G3 h2⟩;cases b
   ·simp[R]
   ·exact h1
theorem cZ.mask (σ:St) (bs:List Bool):cZ σ { σ with slots:=ve bs σ.slots }:=by
 rintro w0 p a w ⟨ρ,h⟩;exact ⟨ρ,h.open_,h.defers,G3 h.slots,h.objs,h.inj,h.fresh,h.hlt,h.below,h.kf⟩
theorem cZ.fT (σ:St) (t d k:Nat) (ht:σ.slots[t]? = some (.sc (.slice none 0 0))) (hh:hfree σ.heap d=true):cZ σ (St.put { σ.bF [d] with heap:=aG (σ.bF [d]).heap d (.row k []) } (some t) (.cW d k 0 0)):=by
 rintro w0 p a w ⟨ρ,h⟩;obtain ⟨v,h1,h2⟩:=pV h.slots ht;simp only[R] at h2;subst h2;have hv:=h.BA (ids:=[d]) (o:=d) (k:=k) (by simp) hh;have hput:=hv.put (some t) (d:= .cW d k 0 0) (v:= .slice none 0 0) (by simp only[R,bK];exact .inl ⟨trivial,trivial,trivial,none,rfl⟩)
 have:a.put (some t) (.slice none 0 0)=a:=by
  simp only[Act.put]
  congr 1
  rw[oe] at h1;apply Ig.1;rw[VO];apply MD;intro j;by_cases e:j=t
  ·subst e;rw[<- oe] at h1;rw[uf (jM.1 h1).1,h1]
  ·rw[ua (sF e)]
 rw[this] at hput;exact ⟨_,hput⟩
theorem cZ.kill (σ:St) (o:Nat):cZ σ (σ.kill o):=by
 rintro w0 p a w ⟨ρ,h⟩;exact ⟨ρ,h.kill o (fun _ _=>same.refl) (fun _=>rfl)⟩
mutual
def j6 (o k:Nat) (rows:List (List D)):D->D
 | .ref o' off=>if o'=o then .any else .ref o' off
 | .mp o'=>if o'=o then .any else .mp o'
 | .jN o' k' i off=>if o'=o then .any else .jN o' k' i off
 | .cW o' k' off len=>if o'=o then (if k'=k/\off+len<=rows.length then .sl k ((rows.drop off).take len) else .any) else .cW o' k' off len
 | .agg cs=> .agg (nj o k rows cs)
 | .cT cs=> .cT (nj o k rows cs)
 | .fn f cs=> .fn f (nj o k rows cs)
 | .any=> .any
 | .sc v=> .sc v
 | .sl k rows=> .sl k rows
 | .ro cs=> .ro cs
def nj (o k:Nat) (rows:List (List D)):List D->List D
 | []=>[]
 | d::ds=>j6 o k rows d::nj o k rows ds
end
def Obj.gu (o k:Nat) (rows:List (List D)):Obj->Obj
 | .box cs=> .box (nj o k rows cs)
 | x=>x
def y7 (o k:Nat) (rows:List (List D)):List (Nat×Obj)->List (Nat×Obj)
 | []=>[]
 | (q,x)::h=>(q,x.gu o k rows)::y7 o k rows h
def St.gu (σ:St) (o k:Nat) (rows:List (List D)):St:={ slots:=nj o k rows σ.slots,heap:=aG (y7 o k rows σ.heap) o .dead }
theorem z8 {o k:Nat} {rows:List (List D)}:∀ {h:List (Nat×Obj)} {o':Nat},az (y7 o k rows h) o'=(az h o').gu o k rows
 | [],_=>by simp[y7,az,Obj.gu]
 | (q,x)::h,o'=>by
   by_cases e:q=o'
   ·simp[y7,az,e]
   ·simp[y7,az,e,z8]
theorem Aa {o k:Nat} {rows:List (List D)}:∀ {h:List (Nat×Obj)} {o':Nat},ec (y7 o k rows h) o'=ec h o'
 | [],_=>by simp[y7,ec]
 | (q,x)::h,o'=>by simp[y7,ec,Aa]
section
variable {w:World} {st:Nat->Prop} {ρ:Nat->Option (Option Nat)} {o k:Nat} {rows:List (List D)}
mutual
theorem R.gu (hv:ρ o=some none->rows=[]) (hr:∀ g,ρ o=some (some g)->st g/\RR w st k g 0 rows):∀ {d:D} {v:Value},R w st ρ d v->R w st ρ (j6 o k rows d) v
 | .any,_,_=>by simp[j6,R]
 | .sc _,_,hd=>by simpa[j6,R] using hd
 | .sl _ _,_,hd=>by simpa[j6,R] using hd
 | .ro _,_,hd=>by simpa[j6,R] using hd
 | .agg _,_,hd | .cT _,_,hd | .fn _ _,_,hd=>by
   simp only[j6,R] at hd ⊢;obtain ⟨vs,h1,h2⟩:=hd;exact ⟨vs,h1,RL.gu hv hr h2⟩
 | .ref o' _,_,hd=>by
   by_cases e:o'=o
   ·simp[j6,e,R]
   ·simp only[j6,aE e];exact hd
 | .mp o',_,hd=>by
   by_cases e:o'=o
   ·simp[j6,e,R]
   ·simp only[j6,aE e];exact hd
 | .jN o' _ _ _,_,hd=>by
   by_cases e:o'=o
   ·simp[j6,e,R]
   ·simp only[j6,aE e];exact hd
 | .cW o' k' off len,v,hd=>by
   by_cases e:o'=o
   ·subst e;simp only[j6,jg]
    split
    ·rename_i hc;obtain ⟨rfl,hle⟩:=hc;have hl:((rows.drop off).take len).length=len:=by rw[cw,bQ];omega
     simp only[R] at hd ⊢;rcases hd with ⟨e1,rfl,rfl,A,e4⟩|⟨g,cap,A,e1,e2,e3,e4,e5,e6⟩
     ·exact ⟨A,0,by rw[hl];exact e4,by rw[hl];omega,by unfold maxLen;omega, .inl (by simp)⟩
     ·refine ⟨A,cap-off,by rw[hl];exact e5,by rw[hl];omega,by omega,?_⟩;by_cases hz:len=0
      ·left;simp[hz]
      ·right;have:=om len (sP off (hr g e1).2);rw[kO] at this;exact ⟨g,off*k',e6 (by omega),(hr g e1).1,this⟩
    ·simp[R]
   ·simp only[j6,aE e];exact hd
theorem RL.gu (hv:ρ o=some none->rows=[]) (hr:∀ g,ρ o=some (some g)->st g/\RR w st k g 0 rows):∀ {ds:List D} {vs:List Value},RL w st ρ ds vs->RL w st ρ (nj o k rows ds) vs
 | [],_,hd=>by simpa[nj,RL] using hd
 | _::_,_,hd=>by
   simp only[nj,RL] at hd ⊢;obtain ⟨v,vs',h1,h2,h3⟩:=hd;exact ⟨v,vs',h1,R.gu hv hr h2,RL.gu hv hr h3⟩
end
end
theorem cZ.freeze (σ:St) (o k:Nat) (rows:List (List D)) (hg:az σ.heap o = .row k rows):cZ σ (σ.gu o k rows):=by
 rintro w0 p a w ⟨ρ,h⟩;have hh:ec σ.heap o=true:=cC (by rw[hg];simp)
 have kT:∀ o',az (σ.gu o k rows).heap o'=if o'=o then .dead else (az σ.heap o').gu o k rows:=by
  intro o';unfold St.gu;by_cases e:o'=o
  ·subst e;rw[bC rfl];exact aX (by rw[Aa];exact hh)
  ·rw[aE e,aM e,z8]
 have Px:∀ x:Obj,x.gu o k rows≠ .dead↔x≠ .dead:=by intro x;cases x<;>simp[Obj.gu]
 have live:∀ o',az (σ.gu o k rows).heap o'≠ .dead->o'≠o/\az σ.heap o'≠ .dead:=by
  intro o' ho';rw[kT] at ho';by_cases e:o'=o
  ·simp[e] at ho'
  ·rw[aE e,Px] at ho';exact ⟨e,ho'⟩
 have hst:∀ g,bO p σ.heap ρ w g->bO p (σ.gu o k rows).heap ρ w g:=fun g hs=>⟨hs.1,hs.2.1,fun o' ho'=>hs.2.2 o' (live o' ho').2⟩
 have hro:=h.objs o;rw[hg] at hro
 have hv:ρ o=some none->rows=[]:=by
  intro e;simp only[RO,e] at hro;exact hro
 have hr:∀ g,ρ o=some (some g)->bO p (σ.gu o k rows).heap ρ w g/\RR w (bO p (σ.gu o k rows).heap ρ w) k g 0 rows:=by
  intro g e;have hlt:=(h.objs o).lt (by rw[hg];simp) e;simp only[RO,e] at hro;obtain ⟨cur,e',cap,r1,r2,r3,r4,r5⟩:=hro;refine ⟨⟨h.open_ g (h.fresh o g (by rw[hg];simp) (.inl e)),hlt,fun o' ho' e2=>?_⟩,RR.mono (fun _ _ _=>rfl) (fun _ _ hs=>hs) hst (fun _=>rfl) r5⟩;obtain ⟨n1,l1⟩:=live o' ho';exact n1 (h.inj o' o g l1 (by rw[hg];simp) e2 (.inl e))
 refine ⟨ρ,h.open_,h.defers,RL.gu hv hr (RL.mono (fun _ _ _=>rfl) (fun _ _ hs=>hs) hst h.slots),fun o'=>?_,fun o1 o2 g h1 h2=>h.inj o1 o2 g (live o1 h1).2 (live o2 h2).2,fun o1 g h1=>h.fresh o1 g (live o1 h1).2,fun o1 g h1=>h.hlt o1 g (live o1 h1).2,h.below,h.kf⟩;rw[kT];by_cases e:o'=o
 ·simp[e,RO]
 ·rw[aE e];have h1:=RO.mono (fun _ _ _=>rfl) (fun _ _ hs=>hs) hst (fun _ _=>rfl) (h.objs o');cases hx:az σ.heap o' with
  | dead=>simp[RO,Obj.gu]
  | row k' eu=>rw[hx] at h1;exact h1
  | box cs=>
    rw[hx] at h1;simp only[RO,Obj.gu] at h1 ⊢;obtain ⟨g,cur,e',r1,r2,r3⟩:=h1;exact ⟨g,cur,e',r1,r2,RL.gu hv hr r3⟩
  | ext e'=>rw[hx] at h1;exact h1
theorem l_1 {α β : Type _} (a : α) (l : List α) (b : β) (m : List β) : (a :: l).zip (b :: m) = (a, b) :: l.zip m := rfl
theorem l_2 {α β : Type _} (m : List β) : ([] : List α).zip m = [] := rfl
theorem fk {α β : Type _} (f : α → β) (a : α) (l : List α) : (a :: l).map f = f a :: l.map f := rfl
theorem eN {α β : Type _} (f : α → β) : ([] : List α).map f = [] := rfl
theorem fD {α : Type _} (a b : α) : (some a = some b) = (a = b) := gC a b
theorem dJ {α : Type _} (a : α) (l : List α) : (a :: l)[0]? = some a := rfl
theorem eg {α : Type _} (a : α) (l : List α) (i : Nat) : (a :: l)[i + 1]? = l[i]? := rfl
end Go.eB
