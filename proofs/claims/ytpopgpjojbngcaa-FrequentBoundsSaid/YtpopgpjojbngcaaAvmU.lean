/- The abstract machine, part U: one operation at a time; a test that parts. -/
import Derived.Test.YtpopgpjojbngcaaAvmT
namespace Go.Avm
set_option linter.unusedVariables false
set_option linter.unusedSimpArgs false
open Go.RowKit

theorem isRet {P : Program} {fn : Func} {ids : List Nat} {ret : D} {outs : List Obj} {e : Exit} {σ : St} (h : RetOK P fn ids ret outs e σ) : RetOK P fn ids ret outs e σ := h
theorem isNext {τ : Type} {I : τ → Prop} {μ : τ → Nat} {t : τ} {s : List D} {h : List (Nat × Obj)} {s' : τ → List D} {h' : τ → List (Nat × Obj)} (t' : τ) (hs : LeL s (s' t')) (hh : LeH h (h' t')) (hI : I t') (hm : μ t' < μ t) :
    ∃ t', I t' ∧ μ t' < μ t ∧ LeL (St.mk s h).slots (s' t') ∧ LeH (St.mk s h).heap (h' t') := ⟨t', hI, hm, hs, hh⟩
mutual
/-- The names in a value, each once. -/
def nmsD : D → List Nat
  | .ref o _ | .elt o _ _ _ | .slo o _ _ _ => [o]
  | .agg cs | .tup cs | .fn _ cs => nmsL cs
  | _ => []
def nmsL : List D → List Nat
  | [] => []
  | d :: ds => let l := nmsL ds; nmsD d ++ l
end
def dedupN (seen : List Nat) : List Nat → List Nat
  | [] => []
  | o :: os => if o ∈ seen then dedupN seen os else o :: dedupN (o :: seen) os
theorem RetOK.auto {P : Program} {fn : Func} {ins new : List Nat} {ret d d' : D} {xs outs : List Obj} {e : Exit} {σ : St} (he : e = .normal ∨ e = .ret) (hd : retD P σ fn.results.toList = some d) (hn : dedupN ins (nmsD d) = new) (hnd : (ins ++ new).Nodup)
    (hr : renD (ins ++ new) d = some d') (hl : LeD d' ret) (ho : outsOf (ins ++ new) σ.heap (ins ++ new) = some xs) (_ : (ins ++ new).length = outs.length) (hlo : LeOs xs outs) : RetOK P fn ins ret outs e σ :=
  ⟨σ, fun _ _ _ _ h => h, he, new, d, hnd, hd, ⟨d', hr, hl⟩, xs, ho, hlo⟩
theorem RetOK.imp {P : Program} {fn : Func} {ids : List Nat} {ret : D} {outs : List Obj} {e : Exit} {σ σ' : St} (hi : Imp σ σ') (h : RetOK P fn ids ret outs e σ') : RetOK P fn ids ret outs e σ := by
  obtain ⟨σ2, h1, h2⟩ := h
  exact ⟨σ2, fun w0 p a w hr => h1 w0 p a w (hi w0 p a w hr), h2⟩
theorem RetOK.virt {P : Program} {fn : Func} {ids : List Nat} {ret : D} {outs : List Obj} {e : Exit} {σ σ' : St} (t d k : Nat) (ht : σ.slots[t]? = some (.sc (.slice none 0 0))) (hh : hfree σ.heap d = true) (he : St.put { σ.kills [d] with heap := hset (σ.kills [d]).heap d (.row k []) } (some t) (.slo d k 0 0) = σ')
    (h : RetOK P fn ids ret outs e σ') : RetOK P fn ids ret outs e σ := RetOK.imp (by subst he; exact Imp.virt σ t d k ht hh) h
theorem RetOK.frz {P : Program} {fn : Func} {ids : List Nat} {ret : D} {outs : List Obj} {e : Exit} {σ σ' : St} (o : Nat) {k : Nat} {rows : List (List D)} (hg : hget σ.heap o = .row k rows) (he : σ.frz o k rows = σ') (h : RetOK P fn ids ret outs e σ') : RetOK P fn ids ret outs e σ :=
  RetOK.imp (by subst he; exact Imp.freeze σ o k rows hg) h
theorem isCond {P : Program} {Q : Exit → St → Prop} {σ : St} {c : Operand} {x y : Code} (h : Tri P (.cond c x y) Q σ) : Tri P (.cond c x y) Q σ := h
/-! A region's operations, the region itself out of sight: ds are the slots that they fill. -/
def aguardC (ds : List (Option Nat)) (g : Option (Nat × Bool)) (σ : St) : Option Bool :=
  match g with
  | none => some true
  | some (j, want) => ((ds[j]?).bind id).bind fun t => gB want (σ.slots.getD t .any)
def bstepC (P : Program) (ds : List (Option Nat)) (dst : Option Nat) (op : Op) (g : Option (Nat × Bool)) (σ : St) : Option St :=
  (aguardC ds g σ).bind fun b => if b then (if isEff op then aeff P σ ⟨dst, op, 0, "", #[], none⟩ else (aval P σ op).map (σ.put dst)) else some (σ.put dst (.sc undef))
def astepC (P : Program) (ds : List (Option Nat)) (dst : Option Nat) (op : Op) (g : Option (Nat × Bool)) (σ : St) : Option St :=
  (aguardC ds g σ).bind fun b => if b then (aval P σ op).map (σ.put dst) else some (σ.put dst (.sc undef))
theorem aguard_C {all : Array Oper} {ds : List (Option Nat)} (h : all.toList.map (·.dst) = ds) (o : Oper) (σ : St) : aguard all σ o = aguardC ds o.guard σ := by
  unfold aguard aguardC
  cases hg : o.guard with
  | none => rfl
  | some x =>
    obtain ⟨j, want⟩ := x
    simp only
    have : (all[j]?).bind (·.dst) = (ds[j]?).bind id := by
      rw [← h, List.getElem?_map, Array.getElem?_toList]
      cases all[j]? <;> rfl
    rw [this]
theorem bstep_C {P : Program} {all : Array Oper} {ds : List (Option Nat)} (h : all.toList.map (·.dst) = ds) {dst : Option Nat} {op : Op} {ty : TypeId} {pos : String} {af : Array Edge} {g : Option (Nat × Bool)} (σ : St) :
    bstep P all ⟨dst, op, ty, pos, af, g⟩ σ = bstepC P ds dst op g σ := by
  have he : aeff P σ ⟨dst, op, ty, pos, af, g⟩ = aeff P σ ⟨dst, op, 0, "", #[], none⟩ := rfl
  simp only [bstep, bstepC, aguard_C h, he]
def TriD (P : Program) (ds : List (Option Nat)) (Q : Exit → St → Prop) (l : List Oper) (σ : St) : Prop := ∀ all : Array Oper, all.toList.map (·.dst) = ds → TriL P all Q l σ
def ListD (P : Program) (ds : List (Option Nat)) (Q : St → Prop) (l : List Oper) (σ : St) : Prop := ∀ all : Array Oper, all.toList.map (·.dst) = ds → ListV P all Q l σ
section
variable {P : Program} {ds : List (Option Nat)} {Q : Exit → St → Prop} {Qv : St → Prop} {σ σ' : St} {l : List Oper} {dst : Option Nat} {op : Op} {ty : TypeId} {pos : String} {af : Array Edge} {g : Option (Nat × Bool)}
theorem Tri.regionD {id : Nat} (hd : l.map (·.dst) = ds) (h : TriD P ds Q l σ) : Tri P (.region id l.toArray false) Q σ := Tri.region (h _ (by simpa using hd))
theorem Tri.drawnD {id : Nat} (hm : P.follows .mixedOrders = true) (hB : Region.lexB .any l.toArray = true) (hd : l.map (·.dst) = ds) (h : ListD P ds (Q .normal) l σ) : Tri P (.region id l.toArray true) Q σ := Tri.drawnV hm hB (h _ (by simpa using hd))
theorem TriD.nil (h : Q .normal σ) : TriD P ds Q [] σ := fun _ _ => TriL.nil h
theorem ListD.nil (h : Qv σ) : ListD P ds Qv [] σ := fun _ _ => h
theorem isTriD {o : Oper} (h : TriD P ds Q (o :: l) σ) : TriD P ds Q (o :: l) σ := h
theorem isListD {o : Oper} (h : ListD P ds Qv (o :: l) σ) : ListD P ds Qv (o :: l) σ := h
theorem TriD.step (h : bstepC P ds dst op g σ = some σ') (hn : TriD P ds Q l σ') : TriD P ds Q (⟨dst, op, ty, pos, af, g⟩ :: l) σ :=
  fun all ha => TriL.bstep (by rw [bstep_C ha]; exact h) (hn all ha)
theorem ListD.step (h : astepC P ds dst op g σ = some σ') (hn : ListD P ds Qv l σ') : ListD P ds Qv (⟨dst, op, ty, pos, af, g⟩ :: l) σ :=
  fun all ha => ListV.run (l1 := [_]) (by
    simp only [arun, astep, aguard_C ha]
    simp only [astepC] at h
    rw [h]; rfl) (hn all ha)
theorem TriD.call {f : FuncId} {x : Operand} {xs : Array Operand} {ts : Array TypeId} {caps args : List D} {objs : List Obj} {ret : D} {outs : List Obj} (ins new : List Nat)
    (hg : aguardC ds g σ = some true) (hx : evl σ x = .fn f caps) (hc : MCalls P f objs args ret outs)
    (hargs : ArgsOK σ ins (xs.toList.map (evl σ) ++ caps) args objs ret outs)
    (hn : (ins ++ new).Nodup) (hlen : (ins ++ new).length = outs.length) (hh : (ins ++ new).all (hhas σ.heap) = true) (hnew : new.all (fun o => decide (o < 1000)) = true) (hlt : ltD outs.length ret = true) (hlo : outs.all (ltO outs.length) = true)
    (he : σ.imp_ dst ins new ret outs = σ') (hnext : TriD P ds Q l σ') : TriD P ds Q (⟨dst, .call { callee := .value x, args := xs, argTypes := ts }, ty, pos, af, g⟩ :: l) σ :=
  fun all ha => TriL.call ins new (by rw [aguard_C ha]; exact hg) rfl hx hc hargs hn hlen hh hnew hlt hlo (by subst he; exact hnext all ha)
theorem ListD.call {f : FuncId} {x : Operand} {xs : Array Operand} {ts : Array TypeId} {caps args : List D} {ret : D}
    (hg : aguardC ds g σ = some true) (hx : evl σ x = .fn f caps) (hc : ACalls P f args ret []) (hargs : ArgsOK σ [] (xs.toList.map (evl σ) ++ caps) args [] ret []) (hlt : ltD 0 ret = true)
    (he : σ.put dst (nmD [] ret) = σ') (hn : ListD P ds Qv l σ') : ListD P ds Qv (⟨dst, .call { callee := .value x, args := xs, argTypes := ts }, ty, pos, af, g⟩ :: l) σ :=
  fun all ha => ListV.call (by rw [aguard_C ha]; exact hg) rfl hx hc hargs hlt (by subst he; exact hn all ha)
/-- A call whose arguments are plain data and the objects ins. -/
theorem TriD.callE {f : FuncId} {x : Operand} {xs : Array Operand} {ts : Array TypeId} {caps args : List D} {objs : List Obj} {ret : D} {outs : List Obj} (ins new : List Nat)
    (hg : aguardC ds g σ = some true) (hx : evl σ x = .fn f caps) (hc : MCalls P f objs args ret outs)
    (hargs : renL ins (xs.toList.map (evl σ) ++ caps) = some args) (hobjs : renOs σ (renL ins) ins = some objs)
    (hn : (ins ++ new).Nodup) (hlen : (ins ++ new).length = outs.length) (hh : (ins ++ new).all (hhas σ.heap) = true) (hnew : new.all (fun o => decide (o < 1000)) = true) (hlt : ltD outs.length ret = true) (hlo : outs.all (ltO outs.length) = true)
    (he : σ.imp_ dst ins new ret outs = σ') (hnext : TriD P ds Q l σ') : TriD P ds Q (⟨dst, .call { callee := .value x, args := xs, argTypes := ts }, ty, pos, af, g⟩ :: l) σ :=
  TriD.call ins new hg hx hc (.inl ⟨_, _, hargs, LeL.refl _, hobjs, LeOs.refl _⟩) hn hlen hh hnew hlt hlo he hnext
/-- A call whose arguments say more than is asked. -/
theorem TriD.callW {f : FuncId} {x : Operand} {xs : Array Operand} {ts : Array TypeId} {caps args args' : List D} {objs objs' : List Obj} {ret : D} {outs : List Obj} (ins new : List Nat)
    (hg : aguardC ds g σ = some true) (hx : evl σ x = .fn f caps) (hc : MCalls P f objs args ret outs)
    (hargs : renL ins (xs.toList.map (evl σ) ++ caps) = some args') (hle : LeL args' args) (hobjs : renOs σ (renL ins) ins = some objs') (hleo : LeOs objs' objs)
    (hn : (ins ++ new).Nodup) (hlen : (ins ++ new).length = outs.length) (hh : (ins ++ new).all (hhas σ.heap) = true) (hnew : new.all (fun o => decide (o < 1000)) = true) (hlt : ltD outs.length ret = true) (hlo : outs.all (ltO outs.length) = true)
    (he : σ.imp_ dst ins new ret outs = σ') (hnext : TriD P ds Q l σ') : TriD P ds Q (⟨dst, .call { callee := .value x, args := xs, argTypes := ts }, ty, pos, af, g⟩ :: l) σ :=
  TriD.call ins new hg hx hc (.inl ⟨_, _, hargs, hle, hobjs, hleo⟩) hn hlen hh hnew hlt hlo he hnext
/-- A call whose arguments are read off by value. -/
theorem TriD.callS {f : FuncId} {x : Operand} {xs : Array Operand} {ts : Array TypeId} {caps args args' : List D} {objs objs' : List Obj} {ret : D} {outs : List Obj} (ins new : List Nat)
    (hg : aguardC ds g σ = some true) (hx : evl σ x = .fn f caps) (hc : MCalls P f objs args ret outs)
    (hargs : mapO (snapD σ ins 4) (xs.toList.map (evl σ) ++ caps) = some args') (hle : LeL args' args) (hobjs : renOs σ (mapO (snapD σ ins 4)) ins = some objs') (hleo : LeOs objs' objs) (hflat : Flat ret outs)
    (hn : (ins ++ new).Nodup) (hlen : (ins ++ new).length = outs.length) (hh : (ins ++ new).all (hhas σ.heap) = true) (hnew : new.all (fun o => decide (o < 1000)) = true) (hlt : ltD outs.length ret = true) (hlo : outs.all (ltO outs.length) = true)
    (he : σ.imp_ dst ins new ret outs = σ') (hnext : TriD P ds Q l σ') : TriD P ds Q (⟨dst, .call { callee := .value x, args := xs, argTypes := ts }, ty, pos, af, g⟩ :: l) σ :=
  TriD.call ins new hg hx hc (.inr ⟨_, _, hargs, hle, hobjs, hleo, hflat⟩) hn hlen hh hnew hlt hlo he hnext
/-- A new row gets the name of the slot that the call fills. -/
theorem TriD.callE1 {d : Nat} {f : FuncId} {x : Operand} {xs : Array Operand} {ts : Array TypeId} {caps args : List D} {ret : D} {o1 : Obj}
    (hg : aguardC ds g σ = some true) (hx : evl σ x = .fn f caps) (hc : ACalls P f args ret [o1])
    (hargs : renL [] (xs.toList.map (evl σ) ++ caps) = some args)
    (hh : hhas σ.heap d = true) (hnew : d < 1000) (hlt : ltD 1 ret = true) (hlo : ltO 1 o1 = true)
    (he : σ.imp_ (some d) [] [d] ret [o1] = σ') (hnext : TriD P ds Q l σ') : TriD P ds Q (⟨some d, .call { callee := .value x, args := xs, argTypes := ts }, ty, pos, af, g⟩ :: l) σ :=
  TriD.callE [] [d] hg hx hc hargs rfl (by simp) rfl (by simpa using hh) (by simpa using hnew) hlt (by simpa using hlo) he hnext
theorem TriD.callS1 {d : Nat} {f : FuncId} {x : Operand} {xs : Array Operand} {ts : Array TypeId} {caps args : List D} {ret : D} {o1 : Obj}
    (hg : aguardC ds g σ = some true) (hx : evl σ x = .fn f caps) (hc : ACalls P f args ret [o1])
    (hargs : mapO (snapD σ [] 4) (xs.toList.map (evl σ) ++ caps) = some args) (hflat : Flat ret [o1])
    (hh : hhas σ.heap d = true) (hnew : d < 1000) (hlt : ltD 1 ret = true) (hlo : ltO 1 o1 = true)
    (he : σ.imp_ (some d) [] [d] ret [o1] = σ') (hnext : TriD P ds Q l σ') : TriD P ds Q (⟨some d, .call { callee := .value x, args := xs, argTypes := ts }, ty, pos, af, g⟩ :: l) σ :=
  TriD.callS [] [d] hg hx hc hargs (LeL.refl _) rfl (LeOs.refl _) hflat (by simp) rfl (by simpa using hh) (by simpa using hnew) hlt (by simpa using hlo) he hnext
theorem ListD.callE {f : FuncId} {x : Operand} {xs : Array Operand} {ts : Array TypeId} {caps args : List D} {ret : D}
    (hg : aguardC ds g σ = some true) (hx : evl σ x = .fn f caps) (hc : ACalls P f args ret []) (hargs : renL [] (xs.toList.map (evl σ) ++ caps) = some args) (hlt : ltD 0 ret = true)
    (he : σ.put dst (nmD [] ret) = σ') (hn : ListD P ds Qv l σ') : ListD P ds Qv (⟨dst, .call { callee := .value x, args := xs, argTypes := ts }, ty, pos, af, g⟩ :: l) σ :=
  ListD.call hg hx hc (.inl ⟨_, _, hargs, LeL.refl _, rfl, LeOs.refl _⟩) hlt he hn
theorem ListD.callS {f : FuncId} {x : Operand} {xs : Array Operand} {ts : Array TypeId} {caps args : List D} {ret : D}
    (hg : aguardC ds g σ = some true) (hx : evl σ x = .fn f caps) (hc : ACalls P f args ret []) (hargs : mapO (snapD σ [] 4) (xs.toList.map (evl σ) ++ caps) = some args) (hflat : Flat ret []) (hlt : ltD 0 ret = true)
    (he : σ.put dst (nmD [] ret) = σ') (hn : ListD P ds Qv l σ') : ListD P ds Qv (⟨dst, .call { callee := .value x, args := xs, argTypes := ts }, ty, pos, af, g⟩ :: l) σ :=
  ListD.call hg hx hc (.inr ⟨_, _, hargs, LeL.refl _, rfl, LeOs.refl _, hflat⟩) hlt he hn
theorem TriD.frz (o : Nat) {k : Nat} {rows : List (List D)} (hg : hget σ.heap o = .row k rows) (he : σ.frz o k rows = σ') (hn : TriD P ds Q l σ') : TriD P ds Q l σ :=
  fun all ha => TriL.imp (Imp.freeze σ o k rows hg) (by subst he; exact hn all ha)
theorem Tri.frz {c : Code} (o : Nat) {k : Nat} {rows : List (List D)} (hg : hget σ.heap o = .row k rows) (he : σ.frz o k rows = σ') (hn : Tri P c Q σ') : Tri P c Q σ := by subst he; exact Tri.imp (Imp.freeze σ o k rows hg) hn
theorem Tri.virt {c : Code} (t d k : Nat) (ht : σ.slots[t]? = some (.sc (.slice none 0 0))) (hh : hfree σ.heap d = true) (he : St.put { σ.kills [d] with heap := hset (σ.kills [d]).heap d (.row k []) } (some t) (.slo d k 0 0) = σ') (hn : Tri P c Q σ') : Tri P c Q σ := by
  subst he; exact Tri.imp (Imp.virt σ t d k ht hh) hn
theorem TriD.callSkip (hg : aguardC ds g σ = some false) (he : σ.put dst (.sc undef) = σ') (hn : TriD P ds Q l σ') : TriD P ds Q (⟨dst, op, ty, pos, af, g⟩ :: l) σ :=
  fun all ha => TriL.skipW (by rw [aguard_C ha]; exact hg) (by subst he; exact hn all ha)
end
theorem isCallD {P : Program} {ds : List (Option Nat)} {Q : Exit → St → Prop} {σ : St} {l : List Oper} {dst : Option Nat} {x : Operand} {xs : Array Operand} {ts : Array TypeId} {ty : TypeId} {pos : String} {af : Array Edge} {g : Option (Nat × Bool)} (h : TriD P ds Q (⟨dst, .call { callee := .value x, args := xs, argTypes := ts }, ty, pos, af, g⟩ :: l) σ) : TriD P ds Q (⟨dst, .call { callee := .value x, args := xs, argTypes := ts }, ty, pos, af, g⟩ :: l) σ := h
theorem isCallV {P : Program} {ds : List (Option Nat)} {Q : St → Prop} {σ : St} {l : List Oper} {dst : Option Nat} {x : Operand} {xs : Array Operand} {ts : Array TypeId} {ty : TypeId} {pos : String} {af : Array Edge} {g : Option (Nat × Bool)} (h : ListD P ds Q (⟨dst, .call { callee := .value x, args := xs, argTypes := ts }, ty, pos, af, g⟩ :: l) σ) : ListD P ds Q (⟨dst, .call { callee := .value x, args := xs, argTypes := ts }, ty, pos, af, g⟩ :: l) σ := h
theorem isDrawn {P : Program} {Q : Exit → St → Prop} {σ : St} {id : Nat} {a : Array Oper} (h : Tri P (.region id a true) Q σ) : Tri P (.region id a true) Q σ := h
/-- The slot that an operation's guard looks at. -/
def gslot (ds : List (Option Nat)) (g : Option (Nat × Bool)) : Option Nat :=
  match g with
  | none => none
  | some (j, _) => (ds[j]?).bind id
theorem put_known {σ : St} {t : Nat} {b : Bool} (h : σ.slots.getD t .any = .sc (.bool b)) : σ.put (some t) (.sc (.bool b)) = σ := by
  have : σ.slots.set t (.sc (.bool b)) = σ.slots := by
    apply List.ext_getElem?
    intro i
    by_cases e : t = i
    · subst e
      simp only [List.getD] at h
      cases hx : σ.slots[t]? with
      | none => rw [hx] at h; simp at h
      | some d =>
        rw [hx] at h
        simp only [Option.getD_some] at h
        rw [List.getElem?_set_self (List.getElem?_eq_some_iff.1 hx).1, h]
    · rw [List.getElem?_set_ne e]
  simp [St.put, this]
def NL (_ : Bool) : Prop := True
theorem nlI {b : Bool} : NL b := True.intro
theorem nlT : NL true := True.intro
theorem nlF : NL false := True.intro
theorem TriD.byGuard {P : Program} {ds : List (Option Nat)} {Q : Exit → St → Prop} {σ : St} {l : List Oper} {dst : Option Nat} {op : Op} {ty : TypeId} {pos : String} {af : Array Edge} {g : Option (Nat × Bool)} {b : Bool} {t : Nat} (ht : gslot ds g = some t) (hb : σ.slots.getD t .any = .sc (.bool b)) (_hl : NL b)
    (h1 : b = true → TriD P ds Q (⟨dst, op, ty, pos, af, g⟩ :: l) (σ.put (some t) (.sc (.bool true)))) (h2 : b = false → TriD P ds Q (⟨dst, op, ty, pos, af, g⟩ :: l) (σ.put (some t) (.sc (.bool false)))) : TriD P ds Q (⟨dst, op, ty, pos, af, g⟩ :: l) σ := by
  cases b
  · have := h2 rfl; rwa [put_known hb] at this
  · have := h1 rfl; rwa [put_known hb] at this
theorem ListD.byGuard {P : Program} {ds : List (Option Nat)} {Q : St → Prop} {σ : St} {l : List Oper} {dst : Option Nat} {op : Op} {ty : TypeId} {pos : String} {af : Array Edge} {g : Option (Nat × Bool)} {b : Bool} {t : Nat} (ht : gslot ds g = some t) (hb : σ.slots.getD t .any = .sc (.bool b)) (_hl : NL b)
    (h1 : b = true → ListD P ds Q (⟨dst, op, ty, pos, af, g⟩ :: l) (σ.put (some t) (.sc (.bool true)))) (h2 : b = false → ListD P ds Q (⟨dst, op, ty, pos, af, g⟩ :: l) (σ.put (some t) (.sc (.bool false)))) : ListD P ds Q (⟨dst, op, ty, pos, af, g⟩ :: l) σ := by
  cases b
  · have := h2 rfl; rwa [put_known hb] at this
  · have := h1 rfl; rwa [put_known hb] at this
section
variable {P : Program} {y : Code} {Q : Exit → St → Prop} {σ : St} {id id' : Nat} {N : St → Prop}
theorem thenQ_n (h : Tri P y Q σ) : thenQ P y Q .normal σ := h
theorem thenQ_r (h : Q .ret σ) : thenQ P y Q .ret σ := h
theorem thenQ_e (h : Q (.exit id) σ) : thenQ P y Q (.exit id) σ := h
theorem inBlockQ_n (h : Q .normal σ) : inBlockQ id Q .normal σ := h
theorem inBlockQ_r (h : Q .ret σ) : inBlockQ id Q .ret σ := h
theorem inBlockQ_e (h : Q .normal σ) : inBlockQ id Q (.exit id) σ := by simpa [inBlockQ] using h
theorem inBlockQ_o (hn : id' ≠ id) (h : Q (.exit id') σ) : inBlockQ id Q (.exit id') σ := by simpa [inBlockQ, hn] using h
theorem loopQ_n (h : N σ) : loopQ N Q .normal σ := h
theorem loopQ_r (h : Q .ret σ) : loopQ N Q .ret σ := h
theorem loopQ_e (h : Q (.exit id) σ) : loopQ N Q (.exit id) σ := h
theorem of_tri {f : FuncId} {fn : Func} {c : Code} {ins : List Obj} {args : List D} {ret : D} {outs : List Obj} (ids keys : List Nat) (hf : P.funcs[f]? = some fn) (hb : fn.body = some c)
    (hcall : ∀ as w, (callFunc f as).run P w = .ok (.enter f as) w) (hids : ids.length = ins.length) (hge : ids.all (fun o => decide (1000 ≤ o)) = true) (hnd : ids.Nodup) (hla : ltL ins.length args = true) (hli : ins.all (ltO ins.length) = true)
    {s : List D} {h : List (Nat × Obj)} {n : Nat} (hn : fn.ntmps = n) (hs : nmL ids args ++ List.replicate (n - args.length) (.sc undef) = s) (hh : heapI ids ins keys = h)
    (ht : Tri P c (RetOK P fn ids ret outs) { slots := s, heap := h }) : MCalls P f ins args ret outs := by
  subst hn hs hh
  exact MCalls.of_tri ids keys hf hb hcall hids hge hnd hla hli ht
end
theorem drop_get {α : Type} {l : List α} {k : Nat} {x : α} (h : l[k]? = some x) : l.drop k = x :: l.drop (k + 1) := by
  obtain ⟨h1, h2⟩ := List.getElem?_eq_some_iff.1 h
  rw [List.drop_eq_getElem_cons h1, h2]
theorem get_lt {α : Type} {l : List α} {k : Nat} (h : k < l.length) : ∃ x, l[k]? = some x := ⟨_, List.getElem?_eq_getElem h⟩
theorem get_map {α β : Type} {l : List α} {k : Nat} {x : α} (f : α → β) (h : l[k]? = some x) : (l.map f)[k]? = some (f x) := by
  rw [List.getElem?_map, h]; rfl
theorem wrap_succ {k n : Nat} (h : k < n) (hn : n ≤ 4611686018427387904) : IntKind.i64.wrap ((k : Int) + 1) = ((k + 1 : Nat) : Int) := by
  rw [IntWalk.i64_in _ ⟨by omega, by omega⟩]; omega
attribute [go_sem] nmsD nmsL dedupN List.mem_cons List.not_mem_nil or_false false_or aguardC bstepC astepC id gslot setL setH vcells_int vcells_bool vcells_string vcells_nil one_int one_bool one_string one_nil Int.toNat_natCast Nat.one_mul Int.le_refl Nat.zero_add int_beq int_bne
end Go.Avm
