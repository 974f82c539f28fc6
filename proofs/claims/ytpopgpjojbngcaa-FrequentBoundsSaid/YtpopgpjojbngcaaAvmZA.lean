/- The abstract machine, part ZA: calls by one equation; "says less" by one list of equations. -/
import Derived.Test.YtpopgpjojbngcaaAvmZ
namespace Go.Avm
set_option linter.unusedVariables false
set_option linter.unusedSimpArgs false
open Go.RowKit
def memB (o : Nat) : List Nat → Bool
  | [] => false
  | x :: l => if o = x then true else memB o l
theorem memB_iff {o : Nat} : ∀ {l : List Nat}, memB o l = true ↔ o ∈ l
  | [] => by simp [memB]
  | x :: l => by
    by_cases h : o = x
    · simp [memB, h]
    · simp [memB, h, memB_iff]
def nodupB : List Nat → Bool
  | [] => true
  | x :: l => !memB x l && nodupB l
theorem nodupB_iff : ∀ {l : List Nat}, nodupB l = true → l.Nodup
  | [], _ => List.nodup_nil
  | x :: l, h => by
    simp only [nodupB, Bool.and_eq_true, Bool.not_eq_true'] at h
    refine List.nodup_cons.2 ⟨fun hx => ?_, nodupB_iff h.2⟩
    rw [memB_iff.2 hx] at h
    cases h.1
def allB (p : Nat → Bool) : List Nat → Bool
  | [] => true
  | x :: l => p x && allB p l
theorem allB_iff {p : Nat → Bool} : ∀ {l : List Nat}, allB p l = true → l.all p = true
  | [], _ => rfl
  | x :: l, h => by
    simp only [allB, Bool.and_eq_true] at h
    simp only [List.all_cons, Bool.and_eq_true]
    exact ⟨h.1, allB_iff h.2⟩
def allO (p : Obj → Bool) : List Obj → Bool
  | [] => true
  | x :: l => p x && allO p l
theorem allO_iff {p : Obj → Bool} : ∀ {l : List Obj}, allO p l = true → l.all p = true
  | [], _ => rfl
  | x :: l, h => by
    simp only [allO, Bool.and_eq_true] at h
    simp only [List.all_cons, Bool.and_eq_true]
    exact ⟨h.1, allO_iff h.2⟩
def sameLen : List Nat → List Obj → Bool
  | [], [] => true
  | _ :: l, _ :: m => sameLen l m
  | _, _ => false
theorem sameLen_iff : ∀ {l : List Nat} {m : List Obj}, sameLen l m = true → l.length = m.length
  | [], [], _ => rfl
  | _ :: l, _ :: m, h => by
    simp only [sameLen] at h
    simp [sameLen_iff h]
/-- Behind a call, if all that is asked holds. -/
def callR (ds : List (Option Nat)) (g : Option (Nat × Bool)) (σ : St) (dst : Option Nat) (ins new : List Nat) (flat : Bool) (ret : D) (outs : List Obj) : Option St :=
  (aguardC ds g σ).bind fun b => cond b (cond (nodupB (ins ++ new)) (cond (sameLen (ins ++ new) outs) (cond (allB (hhas σ.heap) (ins ++ new)) (cond (allB (fun o => decide (o < 1000)) new) (cond (ltD outs.length ret) (cond (allO (ltO outs.length) outs)
    (cond flat (cond (flatD ret) (cond (allO flatO outs) (some (σ.imp_ dst ins new ret outs)) none) none) (some (σ.imp_ dst ins new ret outs))) none) none) none) none) none) none) none
theorem callR_spec {ds : List (Option Nat)} {g : Option (Nat × Bool)} {σ σ' : St} {dst : Option Nat} {ins new : List Nat} {flat : Bool} {ret : D} {outs : List Obj} (h : callR ds g σ dst ins new flat ret outs = some σ') :
    aguardC ds g σ = some true ∧ (ins ++ new).Nodup ∧ (ins ++ new).length = outs.length ∧ (ins ++ new).all (hhas σ.heap) = true ∧ new.all (fun o => decide (o < 1000)) = true ∧ ltD outs.length ret = true ∧ outs.all (ltO outs.length) = true ∧ σ.imp_ dst ins new ret outs = σ' ∧ (flat = true → Flat ret outs) := by
  simp only [callR, Option.bind_eq_some_iff] at h
  obtain ⟨b, hb, h⟩ := h
  cases b with
  | false => simp only [cond_false, reduceCtorEq] at h
  | true =>
  simp only [cond_true] at h
  cases h1 : nodupB (ins ++ new) with
  | false => simp only [h1, cond_false, reduceCtorEq] at h
  | true =>
  cases h2 : sameLen (ins ++ new) outs with
  | false => simp only [h1, h2, cond_true, cond_false, reduceCtorEq] at h
  | true =>
  cases h3 : allB (hhas σ.heap) (ins ++ new) with
  | false => simp only [h1, h2, h3, cond_true, cond_false, reduceCtorEq] at h
  | true =>
  cases h4 : allB (fun o => decide (o < 1000)) new with
  | false => simp only [h1, h2, h3, h4, cond_true, cond_false, reduceCtorEq] at h
  | true =>
  cases h5 : ltD outs.length ret with
  | false => simp only [h1, h2, h3, h4, h5, cond_true, cond_false, reduceCtorEq] at h
  | true =>
  cases h6 : allO (ltO outs.length) outs with
  | false => simp only [h1, h2, h3, h4, h5, h6, cond_true, cond_false, reduceCtorEq] at h
  | true =>
  simp only [h1, h2, h3, h4, h5, h6, cond_true] at h
  have fin : σ.imp_ dst ins new ret outs = σ' ∧ (flat = true → Flat ret outs) := by
    cases flat
    · simp only [cond_false, Option.some.injEq] at h
      exact ⟨h, fun e => by cases e⟩
    · simp only [cond_true] at h
      cases h7 : flatD ret with
      | false => simp only [h7, cond_false, reduceCtorEq] at h
      | true =>
        cases h8 : allO flatO outs with
        | false => simp only [h7, h8, cond_true, cond_false, reduceCtorEq] at h
        | true =>
          simp only [h7, h8, cond_true, Option.some.injEq] at h
          exact ⟨h, fun _ => flat_of h7 (allO_iff h8)⟩
  exact ⟨hb, nodupB_iff h1, sameLen_iff h2, allB_iff h3, allB_iff h4, rfl, allO_iff h6, fin.1, fin.2⟩
section
variable {P : Program} {ds : List (Option Nat)} {Q : Exit → St → Prop} {Qv : St → Prop} {σ σ' : St} {l : List Oper} {dst : Option Nat} {ty : TypeId} {pos : String} {af : Array Edge} {g : Option (Nat × Bool)} {f : FuncId} {x : Operand} {xs : Array Operand} {ts : Array TypeId} {caps args : List D} {ret : D}
/-- By value, or with objects; E: plain data and the objects ins; S: read off by value. -/
theorem TriD.cE (new : List Nat) {outs : List Obj} (hx : evl σ x = .fn f caps) (hc : ACalls P f args ret outs) (hargs : renL [] (xs.toList.map (evl σ) ++ caps) = some args) (h : callR ds g σ dst [] new false ret outs = some σ')
    (hn : TriD P ds Q l σ') : TriD P ds Q (⟨dst, .call { callee := .value x, args := xs, argTypes := ts }, ty, pos, af, g⟩ :: l) σ := by
  obtain ⟨h1, h2, h3, h4, h5, h6, h7, h8, _⟩ := callR_spec h
  exact TriD.callE [] new h1 hx hc hargs rfl h2 h3 h4 h5 h6 h7 h8 hn
theorem TriD.cS (new : List Nat) {outs : List Obj} (hx : evl σ x = .fn f caps) (hc : ACalls P f args ret outs) (hargs : mapO (snapD σ [] 4) (xs.toList.map (evl σ) ++ caps) = some args) (h : callR ds g σ dst [] new true ret outs = some σ')
    (hn : TriD P ds Q l σ') : TriD P ds Q (⟨dst, .call { callee := .value x, args := xs, argTypes := ts }, ty, pos, af, g⟩ :: l) σ := by
  obtain ⟨h1, h2, h3, h4, h5, h6, h7, h8, h9⟩ := callR_spec h
  exact TriD.callS [] new h1 hx hc hargs (LeL.refl _) rfl (LeOs.refl _) (h9 rfl) h2 h3 h4 h5 h6 h7 h8 hn
theorem TriD.cI (new : List Nat) {objs outs : List Obj} {ins : List Nat} (hx : evl σ x = .fn f caps) (hi : dedupN [] (nmsL (xs.toList.map (evl σ) ++ caps)) = ins) (hc : MCalls P f objs args ret outs) (hargs : renL ins (xs.toList.map (evl σ) ++ caps) = some args) (hobjs : renOs σ (renL ins) ins = some objs)
    (h : callR ds g σ dst ins new false ret outs = some σ') (hn : TriD P ds Q l σ') : TriD P ds Q (⟨dst, .call { callee := .value x, args := xs, argTypes := ts }, ty, pos, af, g⟩ :: l) σ := by
  obtain ⟨h1, h2, h3, h4, h5, h6, h7, h8, _⟩ := callR_spec h
  exact TriD.callE ins new h1 hx hc hargs hobjs h2 h3 h4 h5 h6 h7 h8 hn
def callV (ds : List (Option Nat)) (g : Option (Nat × Bool)) (σ : St) (dst : Option Nat) (flat : Bool) (ret : D) : Option St :=
  (aguardC ds g σ).bind fun b => cond b (cond (ltD 0 ret) (cond (!flat || flatD ret) (some (σ.put dst (nmD [] ret))) none) none) none
theorem callV_spec {flat : Bool} (h : callV ds g σ dst flat ret = some σ') : aguardC ds g σ = some true ∧ ltD 0 ret = true ∧ σ.put dst (nmD [] ret) = σ' ∧ (flat = true → Flat ret []) := by
  simp only [callV, Option.bind_eq_some_iff] at h
  obtain ⟨b, hb, h⟩ := h
  cases b with
  | false => simp only [cond_false, reduceCtorEq] at h
  | true =>
  simp only [cond_true] at h
  cases h1 : ltD 0 ret with
  | false => simp only [h1, cond_false, reduceCtorEq] at h
  | true =>
  cases h2 : (!flat || flatD ret) with
  | false => simp only [h1, h2, cond_true, cond_false, reduceCtorEq] at h
  | true =>
  simp only [h1, h2, cond_true, Option.some.injEq] at h
  refine ⟨hb, rfl, h, fun e => flat_of ?_ rfl⟩
  subst e; simpa using h2
theorem ListD.cE (hx : evl σ x = .fn f caps) (hc : ACalls P f args ret []) (hargs : renL [] (xs.toList.map (evl σ) ++ caps) = some args) (h : callV ds g σ dst false ret = some σ')
    (hn : ListD P ds Qv l σ') : ListD P ds Qv (⟨dst, .call { callee := .value x, args := xs, argTypes := ts }, ty, pos, af, g⟩ :: l) σ := by
  obtain ⟨h1, h2, h3, _⟩ := callV_spec h
  exact ListD.callE h1 hx hc hargs h2 h3 hn
theorem ListD.cS (hx : evl σ x = .fn f caps) (hc : ACalls P f args ret []) (hargs : mapO (snapD σ [] 4) (xs.toList.map (evl σ) ++ caps) = some args) (h : callV ds g σ dst true ret = some σ')
    (hn : ListD P ds Qv l σ') : ListD P ds Qv (⟨dst, .call { callee := .value x, args := xs, argTypes := ts }, ty, pos, af, g⟩ :: l) σ := by
  obtain ⟨h1, h2, h3, h4⟩ := callV_spec h
  exact ListD.callS h1 hx hc hargs (h4 rfl) h2 h3 hn
end

/-! "Says less" as a list of equations. -/
mutual
def leQ : D → D → Prop
  | .any, .any => True
  | .sc v, .any => True
  | .agg ds, .any => True
  | .sl k rows, .any => True
  | .tup ds, .any => True
  | .ro cs, .any => True
  | .ref o off, .any => True
  | .elt o k i off, .any => True
  | .slo o k off n, .any => True
  | .fn f cs, .any => True
  | .sc v, .sc u => v = u
  | .sc v, .sl k rows => v = .slice none 0 0 ∧ rows = []
  | .slo o k off n, .slo o' k' off' n' => o = o' ∧ k = k' ∧ off = off' ∧ n = n'
  | .sl k rows, .sl k' rows' => k = k' ∧ rows = rows'
  | .agg ds, .agg es => leQL ds es
  | .tup ds, .tup es => leQL ds es
  | .ref o off, .ref o' off' => o = o' ∧ off = off'
  | .elt o k i off, .elt o' k' i' off' => o = o' ∧ k = k' ∧ i = i' ∧ off = off'
  | .ro cs, .ro es => leQL cs es
  | .fn f cs, .fn f' es => f = f' ∧ leQL cs es
  | _, _ => False
def leQL : List D → List D → Prop
  | [], [] => True
  | d :: ds, e :: es => leQ d e ∧ leQL ds es
  | _, _ => False
end
mutual
theorem leQ_spec : ∀ {d e : D}, leQ d e → LeD d e
  | d, e, h => by
    cases e with
    | any => exact LeD.any d
    | sc u => cases d <;> simp only [leQ] at h; subst h; exact LeD.refl _
    | sl k' rows' =>
      cases d <;> simp only [leQ] at h
      · obtain ⟨rfl, rfl⟩ := h; exact LeD.nil _
      · obtain ⟨rfl, rfl⟩ := h; exact LeD.refl _
    | slo => cases d <;> simp only [leQ] at h; obtain ⟨rfl, rfl, rfl, rfl⟩ := h; exact LeD.refl _
    | ref => cases d <;> simp only [leQ] at h; obtain ⟨rfl, rfl⟩ := h; exact LeD.refl _
    | elt => cases d <;> simp only [leQ] at h; obtain ⟨rfl, rfl, rfl, rfl⟩ := h; exact LeD.refl _
    | agg es => cases d <;> simp only [leQ] at h; exact LeD.agg (leQL_spec h)
    | tup es => cases d <;> simp only [leQ] at h; exact LeD.tup (leQL_spec h)
    | ro es => cases d <;> simp only [leQ] at h; exact LeD.ro (leQL_spec h)
    | fn f' es => cases d <;> simp only [leQ] at h; obtain ⟨rfl, h⟩ := h; exact LeD.fn (leQL_spec h)
theorem leQL_spec : ∀ {ds es : List D}, leQL ds es → LeL ds es
  | [], [], _ => LeL.nil
  | d :: ds, e :: es, h => by
    simp only [leQL] at h
    exact LeL.cons (leQ_spec h.1) (leQL_spec h.2)
  | [], _ :: _, h => by simp only [leQL] at h
  | _ :: _, [], h => by simp only [leQL] at h
end
def leQO : Obj → Obj → Prop
  | _, .dead => True
  | .row k rs, .row k' ss => k = k' ∧ rs = ss
  | .box ds, .box es => leQL ds es
  | .ext e, .ext e' => e = e'
  | _, _ => False
theorem leQO_spec {x y : Obj} (h : leQO x y) : LeO x y := by
  cases y with
  | dead => exact LeO.dead _
  | row => cases x <;> simp only [leQO] at h; obtain ⟨rfl, rfl⟩ := h; exact LeO.refl _
  | box => cases x <;> simp only [leQO] at h; exact LeO.box (leQL_spec h)
  | ext => cases x <;> simp only [leQO] at h; subst h; exact LeO.refl _
def leQH : List (Nat × Obj) → List (Nat × Obj) → Prop
  | [], [] => True
  | (o, x) :: h, (o', y) :: k => o = o' ∧ leQO x y ∧ leQH h k
  | _, _ => False
theorem leQH_spec : ∀ {h k : List (Nat × Obj)}, leQH h k → LeH h k
  | [], [], _ => LeH.nil
  | (o, x) :: h, (o', y) :: k, e => by
    simp only [leQH] at e
    obtain ⟨rfl, e1, e2⟩ := e
    exact LeH.cons (leQO_spec e1) (leQH_spec e2)
  | [], _ :: _, e => by simp only [leQH] at e
  | _ :: _, [], e => by simp only [leQH] at e
def leQOs : List Obj → List Obj → Prop
  | [], [] => True
  | x :: xs, y :: ys => leQO x y ∧ leQOs xs ys
  | _, _ => False
theorem leQOs_spec : ∀ {xs ys : List Obj}, leQOs xs ys → LeOs xs ys
  | [], [], _ => LeOs.nil
  | x :: xs, y :: ys, e => by
    simp only [leQOs] at e
    exact LeOs.cons (leQO_spec e.1) (leQOs_spec e.2)
  | [], _ :: _, e => by simp only [leQOs] at e
  | _ :: _, [], e => by simp only [leQOs] at e
attribute [go_sem] Bool.true_or Bool.false_or Bool.or_true Bool.or_false eq_self callR callV nodupB memB allB allO sameLen leQ leQL leQO leQH leQOs Value.int.injEq Value.bool.injEq Value.string.injEq
end Go.Avm
