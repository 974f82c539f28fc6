/- The abstract machine, part B: operations that only read. -/
import Derived.Test.YtpopgpjojbngcaaAvmA
namespace Go.Avm
set_option linter.unusedVariables false
set_option linter.unusedSimpArgs false
open Go.RowKit

/-- A run that asks nothing of memory. -/
def pureRun (P : Program) {α : Type} : Sem α → Option α
  | .pure a => some a
  | .program k => pureRun P (k P)
  | .mark _ k => pureRun P k
  | _ => none
theorem pureRun_run {P : Program} {α : Type} {a : α} : ∀ {s : Sem α} (w : World), pureRun P s = some a → s.run P w = .ok a w
  | .pure _, _, h => by simp only [pureRun, Option.some.injEq] at h; subst h; rfl
  | .program k, w, h => by simp only [pureRun] at h; exact pureRun_run (s := k P) w h
  | .mark _ k, w, h => by simp only [pureRun] at h; exact pureRun_run (s := k) w h
  | .load .., _, h | .store .., _, h | .new .., _, h | .shape .., _, h | .freeze .., _, h | .frozen .., _, h | .getObj .., _, h | .setObj .., _, h
  | .choose .., _, h | .sys .., _, h | .halt .., _, h => by simp [pureRun] at h
theorem pureRun_bind {P : Program} {α β : Type} (x : Sem α) (f : α → Sem β) : pureRun P (x >>= f) = (pureRun P x).bind fun a => pureRun P (f a) := by
  show pureRun P (x.bind f) = _
  induction x with
  | pure a => rfl
  | program k ih => exact ih P
  | mark m k ih => exact ih
  | _ => rfl

/-- What of a type the machine asks. -/
inductive TK where
  | bool | int (k : IntKind) | string | slice (e : TypeId) | struct (fs : List (Nat × TypeId)) | array (n : Nat) (e : TypeId) | ptr (e : TypeId) | map (k e : TypeId) | func | other
structure TI where
  size : Nat
  bytes : Nat
  zero : Value
  kind : TK
def tkOf : TypeDesc → TK
  | .bool => .bool | .int k => .int k | .string => .string | .slice e => .slice e | .struct fs => .struct (fs.toList.map fun f => (f.offset, f.type))
  | .array n e => .array n e | .pointer e => .ptr e | .map k e => .map k e | .func .. => .func | _ => .other
def tiGet (P : Program) (t : TypeId) : Option TI :=
  match P.info? t, P.underlying t with
  | some i, some d => match i.zero with
    | some z => some { size := i.size, bytes := i.bytes, zero := z, kind := tkOf d }
    | none => none
  | _, _ => none
def TK.isAgg : TK → Bool
  | .struct _ | .array .. => true
  | _ => false

theorem tiGet_spec {P : Program} {t : TypeId} {ti : TI} (h : tiGet P t = some ti) :
    ∃ i d, P.info? t = some i ∧ P.underlying t = some d ∧ i.size = ti.size ∧ i.bytes = ti.bytes ∧ i.zero = some ti.zero ∧ tkOf d = ti.kind := by
  unfold tiGet at h
  split at h
  · rename_i i d hi hd
    split at h
    · rename_i z hz
      simp only [Option.some.injEq] at h
      subst h
      exact ⟨i, d, hi, hd, rfl, rfl, hz, rfl⟩
    · cases h
  · cases h
theorem run_ti {P : Program} {t : TypeId} {ti : TI} (h : tiGet P t = some ti) (w : World) :
    (∃ d, (underlying t).run P w = .ok d w ∧ tkOf d = ti.kind) ∧ (sizeOf t).run P w = .ok ti.size w ∧ (∃ i, (typeInfo t).run P w = .ok i w ∧ i.bytes = ti.bytes ∧ i.size = ti.size ∧ i.zero = some ti.zero) ∧
      (zeroValue t).run P w = .ok ti.zero w ∧ (isAgg t).run P w = .ok ti.kind.isAgg w := by
  obtain ⟨i, d, h1, h2, h3, h4, h5, h6⟩ := tiGet_spec h
  have hu := run_underlying (P := P) h2 w
  refine ⟨⟨d, hu, h6⟩, ?_, ⟨i, ?_, h4, h3, h5⟩, ?_, ?_⟩
  · simp [sizeOf, typeInfo, h1, h3]
  · simp [typeInfo, h1]
  · simp [zeroValue, typeInfo, h1, h5]
  · rw [← h6]
    simp only [isAgg, Sem.run_bind, hu, Result.andThen_ok]
    cases d <;> rfl

mutual
def conc : D → Option Value
  | .sc v => some v
  | .agg cs => (concL cs).map fun l => .agg l.toArray
  | _ => none
def concL : List D → Option (List Value)
  | [] => some []
  | d :: ds => (conc d).bind fun v => (concL ds).map fun l => v :: l
end
mutual
theorem conc_spec {w : World} {st : Nat → Prop} {ρ : Nat → Option (Option Nat)} : ∀ {d : D} {v x : Value}, conc d = some v → R w st ρ d x → x = v
  | .sc u, v, x, h, hr => by
    simp only [conc, Option.some.injEq] at h
    simp only [R] at hr
    rw [hr, h]
  | .agg cs, v, x, h, hr => by
    simp only [conc, Option.map_eq_some_iff] at h
    obtain ⟨l, h1, h2⟩ := h
    simp only [R] at hr
    obtain ⟨vs, h3, h4⟩ := hr
    have := concL_spec h1 h4
    rw [h3, ← h2, ← this]
  | .any, _, _, h, _ | .sl .., _, _, h, _ | .tup .., _, _, h, _ | .ro .., _, _, h, _ | .ref .., _, _, h, _ | .elt .., _, _, h, _ | .slo .., _, _, h, _ | .fn .., _, _, h, _ => by simp [conc] at h
theorem concL_spec {w : World} {st : Nat → Prop} {ρ : Nat → Option (Option Nat)} : ∀ {ds : List D} {l vs : List Value}, concL ds = some l → RL w st ρ ds vs → vs = l
  | [], l, vs, h, hr => by
    simp only [concL, Option.some.injEq] at h
    simp only [RL] at hr
    rw [hr, h]
  | d :: ds, l, vs, h, hr => by
    simp only [concL, Option.bind_eq_some_iff, Option.map_eq_some_iff] at h
    obtain ⟨v, h1, l', h2, h3⟩ := h
    simp only [RL] at hr
    obtain ⟨v', vs', h4, h5, h6⟩ := hr
    rw [h4, ← h3, conc_spec h1 h5, concL_spec h2 h6]
end

def ofC : Value → D
  | .agg cs => .agg (cs.toList.map .sc)
  | v => .sc v
theorem RL_sc {w : World} {st : Nat → Prop} {ρ : Nat → Option (Option Nat)} : ∀ (l : List Value), RL w st ρ (l.map .sc) l
  | [] => by simp [RL]
  | v :: l => by simp only [List.map_cons, RL]; exact ⟨v, l, rfl, by simp [R], RL_sc l⟩
theorem R_ofC {w : World} {st : Nat → Prop} {ρ : Nat → Option (Option Nat)} (v : Value) : R w st ρ (ofC v) v := by
  cases v <;> simp only [ofC, R]
  rename_i cs
  exact ⟨cs, rfl, RL_sc _⟩

def evl (σ : St) : Operand → D
  | .tmp t => σ.slots.getD t .any
  | .const v => ofC v
  | .func f => .fn f []
  | .global _ => .any

theorem RL_length {w : World} {st : Nat → Prop} {ρ : Nat → Option (Option Nat)} : ∀ {ds : List D} {vs : List Value}, RL w st ρ ds vs → vs.length = ds.length
  | [], _, h => by simp only [RL] at h; simp [h]
  | _ :: _, _, h => by
    simp only [RL] at h
    obtain ⟨v, vs', h1, _, h3⟩ := h
    simp [h1, RL_length h3]
theorem RL_get {w : World} {st : Nat → Prop} {ρ : Nat → Option (Option Nat)} : ∀ {ds : List D} {vs : List Value} {i : Nat} {d : D}, RL w st ρ ds vs → ds[i]? = some d → ∃ v, vs[i]? = some v ∧ R w st ρ d v
  | [], _, _, _, _, h => by simp at h
  | d :: ds, vs, i, x, hr, h => by
    simp only [RL] at hr
    obtain ⟨v, vs', h1, h2, h3⟩ := hr
    subst h1
    cases i with
    | zero => simp only [List.getElem?_cons_zero, Option.some.injEq] at h; subst h; exact ⟨v, by simp, h2⟩
    | succ i => simp only [List.getElem?_cons_succ] at h ⊢; exact RL_get h3 h
theorem RL_set {w : World} {st : Nat → Prop} {ρ : Nat → Option (Option Nat)} : ∀ {ds : List D} {vs : List Value} {i : Nat} {d : D} {v : Value}, RL w st ρ ds vs → R w st ρ d v → RL w st ρ (ds.set i d) (vs.set i v)
  | [], _, _, _, _, h, _ => by simp only [RL] at h; simp [RL, h]
  | _ :: _, vs, i, x, u, hr, h => by
    simp only [RL] at hr
    obtain ⟨v, vs', h1, h2, h3⟩ := hr
    subst h1
    cases i with
    | zero => simp only [List.set_cons_zero, RL]; exact ⟨u, vs', rfl, h, h3⟩
    | succ i => simp only [List.set_cons_succ, RL]; exact ⟨v, _, rfl, h2, RL_set h3 h⟩
theorem RL_append {w : World} {st : Nat → Prop} {ρ : Nat → Option (Option Nat)} : ∀ {ds es : List D} {vs us : List Value}, RL w st ρ ds vs → RL w st ρ es us → RL w st ρ (ds ++ es) (vs ++ us)
  | [], _, _, _, h, h' => by simp only [RL] at h; subst h; simpa using h'
  | _ :: _, _, _, _, h, h' => by
    simp only [RL] at h
    obtain ⟨v, vs', h1, h2, h3⟩ := h
    subst h1
    simp only [List.cons_append, RL]
    exact ⟨v, _, rfl, h2, RL_append h3 h'⟩
theorem RL_drop {w : World} {st : Nat → Prop} {ρ : Nat → Option (Option Nat)} : ∀ {ds : List D} {vs : List Value} (n : Nat), RL w st ρ ds vs → RL w st ρ (ds.drop n) (vs.drop n)
  | [], _, n, h => by simp only [RL] at h; simp [RL, h]
  | _ :: _, _, 0, h => by simpa using h
  | _ :: _, _, n + 1, h => by
    simp only [RL] at h
    obtain ⟨v, vs', h1, h2, h3⟩ := h
    subst h1
    simpa using RL_drop n h3
theorem RL_take {w : World} {st : Nat → Prop} {ρ : Nat → Option (Option Nat)} : ∀ {ds : List D} {vs : List Value} (n : Nat), RL w st ρ ds vs → RL w st ρ (ds.take n) (vs.take n)
  | [], _, n, h => by simp only [RL] at h; simp [RL, h]
  | _ :: _, _, 0, h => by simp [RL]
  | _ :: _, _, n + 1, h => by
    simp only [RL] at h
    obtain ⟨v, vs', h1, h2, h3⟩ := h
    subst h1
    simp only [List.take_succ_cons, RL]
    exact ⟨v, _, rfl, h2, RL_take n h3⟩

theorem RelAt.evl {w0 : World} {p : Pm} {σ : St} {a : Act} {w : World} {ρ : Nat → Option (Option Nat)} (h : RelAt w0 p σ a w ρ) (x : Operand) : R w (stab p σ.heap ρ w) ρ (evl σ x) (a.eval x) := by
  cases x with
  | tmp t =>
    simp only [Avm.evl, Act.eval]
    cases hd : σ.slots[t]? with
    | none => simp [List.getD, hd, R]
    | some d =>
      obtain ⟨v, h1, h2⟩ := RL_get h.slots hd
      have hv : a.tmps.getD t undef = v := by
        rw [Array.getElem?_toList] at h1
        simp [Array.getD_eq_getD_getElem?, h1]
      simp only [List.getD, hd, Option.getD_some, hv]
      exact h2
  | const v => exact R_ofC v
  | global g => simp [Avm.evl, R]
  | func f => simp only [Avm.evl, R, Act.eval]; exact ⟨#[], rfl, by simp [RL]⟩

def St.put (σ : St) (dst : Option Nat) (d : D) : St :=
  match dst with
  | some t => { σ with slots := σ.slots.set t d }
  | none => σ
theorem RelAt.put {w0 : World} {p : Pm} {σ : St} {a : Act} {w : World} {ρ : Nat → Option (Option Nat)} (h : RelAt w0 p σ a w ρ) (dst : Option Nat) {d : D} {v : Value} (hd : R w (stab p σ.heap ρ w) ρ d v) :
    RelAt w0 p (σ.put dst d) (a.put dst v) w ρ := by
  cases dst with
  | none => exact h
  | some t =>
    refine ⟨h.open_, h.defers, ?_, h.objs, h.inj, h.fresh, h.below, h.pin⟩
    simp only [St.put, Act.put, Array.toList_setIfInBounds]
    exact RL_set h.slots hd
end Go.Avm
