/- The abstract machine, parts ZJ to ZK. -/
import Derived.Test.YtnckgbmifigadaaZAvmR
import Derived.MapKept
import Derived.ChangeMaps3
/- The abstract machine, part ZJ: a row turned in place whose head is returned, and empty rows left as they are, out of contracts of the library's shelf. -/
namespace Go.Avm
set_option linter.unusedVariables false
set_option linter.unusedSimpArgs false
open Go.RowKit Go.Sort
section
variable {α : Type} {enc : α → Value} {P : Program} {f : FuncId}
variable [Inhabited α]
theorem Sh.refl_below {own : Nat → Prop} (w : World) : BelowO own w w := ⟨rfl, rfl, rfl, Nat.le_refl _, fun _ _ _ => rfl, fun _ _ h => h⟩
theorem none_calls (henter : ∀ xs w, (callFunc f xs).run P w = .ok (.enter f xs) w)
    (hc : ∀ (p : Option Addr) (cap : Nat) (w : World), Calls P f #[.slice p 0 cap] w fun e w' => e = .returned (.tuple #[]) ∧ w' = w) : MCalls P f [.row 1 []] [.slo 0 1 0 0] (.tup []) [.row 1 []] := by
  refine ⟨henter, fun w st ρ vs hst hin hargs => ?_⟩
  simp only [RL, R] at hargs
  obtain ⟨v, vs', rfl, hv, rfl⟩ := hargs
  obtain ⟨a, c, rfl⟩ : ∃ a c, v = .slice a 0 c := by
    rcases hv with ⟨_, _, _, a, rfl⟩ | ⟨g, cap, A, _, _, _, _, rfl, _⟩
    · exact ⟨_, _, rfl⟩
    · exact ⟨_, _, rfl⟩
  refine Calls.mono (hc a c w) ?_
  rintro ex w' ⟨rfl, rfl⟩
  refine ⟨_, rfl, ρ, Sh.refl_below w', fun _ _ => rfl, ?_, fun j => ?_, fun j g' hj hg' => ?_, fun j j' g' hj hj' e1 e2 => ?_, fun j g' hj hh => ?_⟩
  · simp [R, RL]
  · cases j with
    | succ j => simp [RO]
    | zero =>
      have := hin.objs 0
      simp only [List.getD_cons_zero, RO, RR] at this ⊢
      exact this
  · cases j with
    | succ j => simp at hj
    | zero => exact .inr ⟨0, by simp, hg'⟩
  · cases j with
    | succ j => simp at hj
    | zero =>
      cases j' with
      | succ j => simp at hj'
      | zero => rfl
  · cases j with
    | succ j => simp at hj
    | zero => exact hin.hlt 0 g' (by simp) hh
end
theorem Imp.frzTo {σ σ' σ2 : St} (o : Nat) {k : Nat} {rows : List (List D)} (hg : hget σ.heap o = .row k rows) (he : σ.frz o k rows = σ') (h : Imp σ' σ2) : Imp σ σ2 := Imp.trans (he ▸ Imp.freeze σ o k rows hg) h
end Go.Avm
/- The abstract machine, part ZK: maps whose keys are integers or strings and whose elements are told by value. -/
namespace Go.Avm
set_option linter.unusedVariables false
set_option linter.unusedSimpArgs false
open Go.RowKit Go.MapKept

/-- The kinds of keys. -/
inductive KK where
  | int (k : IntKind)
  | str
def KK.desc : KK → TypeDesc
  | .int k => .int k
  | .str => .string
def kkOf : TK → Option KK
  | .int k => some (.int k)
  | .string => some .str
  | _ => none
def mapKE : TK → Option (TypeId × TypeId)
  | .map k e => some (k, e)
  | _ => none
def KK.ok : KK → Value → Bool
  | .int k, .int k' _ => decide (k' = k)
  | .str, .string _ => true
  | _, _ => false
def keyB : Value → Value → Bool
  | .int _ a, .int _ b => a == b
  | .string a, .string b => a.toList == b.toList
  | _, _ => false
def mFind (k : Value) : List (Value × D) → Option D
  | [] => none
  | p :: l => if keyB p.1 k = true then some p.2 else mFind k l
def mSet (k : Value) (v : D) : List (Value × D) → List (Value × D)
  | [] => [(k, v)]
  | p :: l => if keyB p.1 k = true then (k, v) :: l else p :: mSet k v l
def mDel (k : Value) : List (Value × D) → List (Value × D)
  | [] => []
  | p :: l => if keyB p.1 k = true then l else p :: mDel k l
/-- The entries, one after another. -/
def ME (w : World) (st : Nat → Prop) : List (Value × D) → List MapEntry → Prop
  | [], es => es = []
  | p :: l, es => ∃ e es', es = e :: es' ∧ e.key = p.1 ∧ R w st (fun _ => none) p.2 e.val ∧ ME w st l es'
theorem ME.mono {w w' : World} {st st' : Nat → Prop} (hc : ∀ g off, st g → w'.cell? ⟨g, off, none⟩ = w.cell? ⟨g, off, none⟩) (hs : ∀ g n, Sh w g n → Sh w' g n) (hst : ∀ g, st g → st' g) : ∀ {l : List (Value × D)} {es : List MapEntry}, ME w st l es → ME w' st' l es
  | [], _, h => h
  | _ :: _, _, h => by
    obtain ⟨e, es', h1, h2, h3, h4⟩ := h
    exact ⟨e, es', h1, h2, R.mono hc hs hst h3, ME.mono hc hs hst h4⟩
theorem ME.length {w : World} {st : Nat → Prop} : ∀ {l : List (Value × D)} {es : List MapEntry}, ME w st l es → es.length = l.length
  | [], _, h => by rw [h]; rfl
  | _ :: _, _, h => by
    obtain ⟨e, es', rfl, _, _, h4⟩ := h
    simp [ME.length h4]
/-- A map with these entries, in this order. -/
def mapX (kk : KK) (l : List (Value × D)) : Ext where
  nms := []
  φ w st _ _ g := ∃ es clock, w.heap[g]? = some (.map es clock) ∧ Stamped es clock ∧ (∀ x ∈ es.toList, IsKey kk.desc x.key) ∧ ME w st l es.toList
  lt h := by
    obtain ⟨_, _, h1, _⟩ := h
    exact (Array.getElem?_eq_some_iff.1 h1).1
  mono hc hs hst hb _ h := by
    obtain ⟨es, cl, h1, h2, h3, h4⟩ := h
    exact ⟨es, cl, hb.trans h1, h2, h3, h4.mono hc hs hst⟩
  loc _ h := h
theorem mapX_nms {kk : KK} {l : List (Value × D)} : (mapX kk l).nms = [] := rfl
/-- The same, with the stamp of the entry of a key. -/
def mapS (kk : KK) (l : List (Value × D)) (k : Value) (born : Nat) : Ext where
  nms := []
  φ w st _ _ g := ∃ es clock, w.heap[g]? = some (.map es clock) ∧ Stamped es clock ∧ (∀ x ∈ es.toList, IsKey kk.desc x.key) ∧ ME w st l es.toList ∧ ∃ e ∈ es.toList, e.key = k ∧ e.born = born
  lt h := by
    obtain ⟨_, _, h1, _⟩ := h
    exact (Array.getElem?_eq_some_iff.1 h1).1
  mono hc hs hst hb _ h := by
    obtain ⟨es, cl, h1, h2, h3, h4, h5⟩ := h
    exact ⟨es, cl, hb.trans h1, h2, h3, h4.mono hc hs hst, h5⟩
  loc _ h := h
theorem mapS_nms {kk : KK} {l : List (Value × D)} {k : Value} {born : Nat} : (mapS kk l k born).nms = [] := rfl
attribute [go_sem] mapX_nms mapS_nms

section
variable {w0 : World} {p : Pm} {σ : St} {a : Act} {w : World} {ρ : Nm}
def setMap (w : World) (g : Nat) (es : Array MapEntry) (c : Nat) : World := { w with heap := w.heap.setIfInBounds g (.map es c) }
end

section
variable {P : Program} {ds : List (Option Nat)} {Q : Exit → St → Prop} {σ σ' : St} {l : List Oper} {dst : Option Nat} {ty : TypeId} {pos : String} {af : Array Edge} {g : Option (Nat × Bool)}
/-- What a look-up gives. -/
def mGot : Bool → Value → Option D → D
  | true, _, some d => .tup [d, .sc (.bool true)]
  | true, z, none => .tup [ofC z, .sc (.bool false)]
  | false, _, some d => d
  | false, z, none => ofC z
attribute [go_sem] kkOf mapKE mGot KK.ok
end
/-- A function of plain values that leaves the world as it was. -/
theorem same_calls {P : Program} {f : FuncId} {us : List Value} {v : Value} (henter : ∀ xs w, (callFunc f xs).run P w = .ok (.enter f xs) w) (hc : ∀ w, Calls P f us.toArray w fun e w' => e = .returned v ∧ w' = w) : ACalls P f (us.map .sc) (.sc v) [] := by
  refine ⟨henter, fun w st ρ vs hst hin hargs => ?_⟩
  have hvs : ∀ {us vs : List Value}, RL w st ρ (us.map .sc) vs → vs = us := by
    intro us
    induction us with
    | nil => intro vs h; simpa [RL] using h
    | cons u us ih =>
      intro vs h
      simp only [List.map_cons, RL, R] at h
      obtain ⟨x, xs, rfl, rfl, h2⟩ := h
      rw [ih h2]
  rw [hvs hargs]
  refine Calls.mono (hc w) ?_
  rintro e w' ⟨rfl, rfl⟩
  exact ⟨v, rfl, ρ, { below := BelowO.refl _ _, keep := fun j hj => by simp at hj, ret := by simp [R], objs := fun j => by simp [RO], fresh := fun j g h => by simp at h, hlt := fun j g h => by simp at h, inj := fun j j' g h => by simp at h }⟩
mutual
theorem leQ_self : ∀ d : D, leQ d d
  | .any => trivial
  | .sc _ => rfl
  | .agg cs => leQL_self cs
  | .sl _ _ => ⟨rfl, rfl⟩
  | .tup cs => leQL_self cs
  | .ro cs => leQL_self cs
  | .ref _ _ => ⟨rfl, rfl⟩
  | .elt _ _ _ _ => ⟨rfl, rfl, rfl, rfl⟩
  | .slo _ _ _ _ => ⟨rfl, rfl, rfl, rfl⟩
  | .fn _ cs => ⟨rfl, leQL_self cs⟩
  | .mp _ => rfl
theorem leQL_self : ∀ l : List D, leQL l l
  | [] => trivial
  | d :: l => ⟨leQ_self d, leQL_self l⟩
end
end Go.Avm
