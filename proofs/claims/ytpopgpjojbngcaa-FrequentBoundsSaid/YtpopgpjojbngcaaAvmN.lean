/- The abstract machine, part N: a run of operations that may make and write memory, reckoned. -/
import Derived.Test.YtpopgpjojbngcaaAvmM
namespace Go.Avm
set_option linter.unusedVariables false
set_option linter.unusedSimpArgs false
open Go.RowKit

def isEff : Op → Bool
  | .box .. | .alloc _ | .buildSlice .. | .makeSlice .. | .store .. => true
  | .call { callee := .builtin .append, .. } => true
  | _ => false
/-- A new object under the name d, that the slot d then holds. -/
def St.bear (σ : St) (d : Nat) (x : Obj) (v : D) : St := St.put { σ.kills [d] with heap := hset (σ.kills [d]).heap d x } (some d) v
/-- n elements of zero, in a row. -/
def zeroR (z : Value) (n : Nat) : List D := (List.replicate n (z.cells.toList.map .sc)).flatten
theorem zeroR_eq {z : Value} {k : Nat} (h : z.cells.size = k) : ∀ n, zeroR z n = zeroD z (n * k) := by
  intro n
  induction n with
  | zero => simp [zeroR, zeroD]
  | succ n ih =>
    have h1 : zeroD z ((n + 1) * k) = zeroD z (n * k) ++ z.cells.toList.map .sc := by
      simp only [zeroD, Nat.add_mul, Nat.one_mul, List.range_add, List.map_append, List.map_map]
      congr 1
      apply List.ext_getElem?
      intro i
      simp only [List.getElem?_map]
      by_cases hi : i < k
      · rw [List.getElem?_range hi]
        have hi' : i < z.cells.size := by omega
        simp only [Option.map_some, Function.comp_apply, h, Nat.mul_add_mod_self_right, Nat.mod_eq_of_lt hi]
        rw [getElem!_pos z.cells i hi', Array.getElem?_toList, Array.getElem?_eq_getElem hi']
        rfl
      · rw [List.getElem?_eq_none (by simp; omega), Array.getElem?_toList, Array.getElem?_eq_none (by omega)]
        rfl
    rw [h1, ← ih]
    simp [zeroR, List.replicate_succ']
def aeff (P : Program) (σ : St) (o : Oper) : Option St :=
  match o.op, o.dst with
  | .box _ x, some d => if hfree σ.heap d then (cellsD (evl σ x)).map fun cs => σ.bear d (.box (clrL d cs)) (.ref d 0) else none
  | .alloc t, some d => if hfree σ.heap d then (tiGet P t).map fun ti => σ.bear d (.box (ti.zero.cells.toList.map .sc)) (.ref d 0) else none
  | .buildSlice t n parts, some d => if hfree σ.heap d then (tiGet P t).bind fun ti => (ti.kind.elem?).bind fun e => (tiGet P e).bind fun ei =>
      if n ≤ 16777216 ∧ n * ei.size ≤ 16777216 then if ei.zero.cells.size = ei.size then (fillD (fun i => some (i * ei.size, ei.size)) (zeroR ei.zero n) (parts.toList.map fun x => (x.1, evl σ x.2))).bind fun cells =>
        if cells.length = n * ei.size ∧ cells.all oneD = true ∧ pureL cells = true then some (σ.bear d (.row ei.size (chunks ei.size n cells)) (.slo d ei.size 0 n)) else none else none
      else none
    else none
  | .makeSlice t lx cx, some d => if hfree σ.heap d then (tiGet P t).bind fun ti => (ti.kind.elem?).bind fun e => (tiGet P e).bind fun ei => match evl σ lx, evl σ cx with
      | .sc (.int _ l), .sc (.int _ c) => if 0 ≤ l ∧ l ≤ c ∧ ei.bytes * c.toNat ≤ 281474976710656 ∧ c ≤ 9223372036854775807 then
          if ei.zero.cells.size = ei.size ∧ 0 < ei.size ∧ ei.zero.cells.toList.all (·.oneCell') = true then some (σ.bear d (.row ei.size (List.replicate c.toNat (ei.zero.cells.toList.map .sc))) (.slo d ei.size 0 l.toNat)) else none
        else none
      | _, _ => none
    else none
  | .store t ax vx, dst => (tiGet P t).bind fun ti => (cellsD (evl σ vx)).bind fun vs => if vs.length = ti.size then (storeD σ vs (evl σ ax)).map fun x => St.put { σ with heap := hset σ.heap x.1 x.2 } dst (.sc undef) else none
  | .call { callee := .builtin .append, args := xs, argTypes := ts }, some d => match xs.toList, ts.toList with
    | [s, x], [t, t'] => if hfree σ.heap d = true ∧ t = t' then (tiGet P t).bind fun ti => (ti.kind.elem?).bind fun e => (tiGet P e).bind fun ei => (tgtD σ ei.size (evl σ s)).bind fun sr => (elemsD σ ei.size (evl σ x)).bind fun es =>
        if (sr.2.length + es.length) * ei.bytes ≤ 140737488355328 then
          if ei.zero.cells.size = ei.size ∧ ei.zero.cells.toList.all (·.oneCell') = true ∧ 0 < ei.bytes then some (σ.appTo sr.1 d ei.size (sr.2 ++ es)) else none
        else none
      else none
    | _, _ => none
  | _, _ => none

theorem arr2 {α : Type} {a : Array α} {x y : α} (h : a.toList = [x, y]) : a = #[x, y] := by
  apply Array.toList_inj.1; simpa using h
theorem aeff_sound {P : Program} {σ σ' : St} {o : Oper} (h : aeff P σ o = some σ') : Steps1 P σ o σ' := by
  unfold aeff at h
  split at h
  · rename_i t x d ho hd
    split at h
    · rename_i hh
      simp only [Option.map_eq_some_iff] at h
      obtain ⟨cs, hcs, rfl⟩ := h
      exact Steps1.box ho hd hh hcs
    · cases h
  · rename_i t d ho hd
    split at h
    · rename_i hh
      simp only [Option.map_eq_some_iff] at h
      obtain ⟨ti, hti, rfl⟩ := h
      exact Steps1.alloc ho hd hh hti
    · cases h
  · rename_i t n parts d ho hd
    split at h
    · rename_i hh
      simp only [Option.bind_eq_some_iff] at h
      obtain ⟨ti, hti, e, he, ei, hei, h⟩ := h
      split at h
      · rename_i hn
        split at h
        case isFalse => cases h
        rename_i hzs
        simp only [Option.bind_eq_some_iff] at h
        obtain ⟨cells, hc, h⟩ := h
        rw [zeroR_eq hzs] at hc
        split at h
        · rename_i hc2
          simp only [Option.some.injEq] at h
          subst h
          exact Steps1.buildSlice ho hd hh hti he hei hn.1 hn.2 hc hc2.1 hc2.2.1 hc2.2.2
        · cases h
      · cases h
    · cases h
  · rename_i t lx cx d ho hd
    split at h
    · rename_i hh
      simp only [Option.bind_eq_some_iff] at h
      obtain ⟨ti, hti, e, he, ei, hei, h⟩ := h
      split at h
      · rename_i kl l kc c hl hc
        split at h
        · rename_i hn
          obtain ⟨h0, hlc, hb, h63⟩ := hn
          split at h
          · rename_i hz
            simp only [Option.some.injEq] at h
            subst h
            exact Steps1.makeSlice (l := l.toNat) (c := c.toNat) ho hd hh hti he hei (by rw [hl]; congr; omega) (by rw [hc]; congr; omega) (by omega) hb (by omega) hz.1 hz.2.1 hz.2.2
          · cases h
        · cases h
      · cases h
    · cases h
  · rename_i t ax vx ho
    simp only [Option.bind_eq_some_iff] at h
    obtain ⟨ti, hti, vs, hvs, h⟩ := h
    split at h
    · rename_i hl
      simp only [Option.map_eq_some_iff] at h
      obtain ⟨x, hx, rfl⟩ := h
      exact Steps1.store ho hti hvs hl hx
    · cases h
  · rename_i xs ts d ho hd
    split at h
    · rename_i s x t t' hxs hts
      split at h
      · rename_i hh
        obtain ⟨hh, rfl⟩ := hh
        simp only [Option.bind_eq_some_iff] at h
        obtain ⟨ti, hti, e, he, ei, hei, sr, hsr, es, hes, h⟩ := h
        split at h
        · rename_i hb
          split at h
          · rename_i hz
            simp only [Option.some.injEq] at h
            subst h
            exact Steps1.append (by rw [ho, arr2 hxs, arr2 hts]) hd hti he hei hz.1 hz.2.1 hz.2.2 hh hsr hes hb
          · cases h
        · cases h
      · cases h
    · cases h
  · cases h

def bstep (P : Program) (all : Array Oper) (o : Oper) (σ : St) : Option St :=
  (aguard all σ o).bind fun g => if g then (if isEff o.op then aeff P σ o else (aval P σ o.op).map (σ.put o.dst)) else some (σ.put o.dst (.sc undef))
theorem TriL.bstep {P : Program} {all : Array Oper} {Q : Exit → St → Prop} {σ σ' : St} {o : Oper} {rest : List Oper} (h : Avm.bstep P all o σ = some σ') (hn : TriL P all Q rest σ') : TriL P all Q (o :: rest) σ := by
  simp only [Avm.bstep, Option.bind_eq_some_iff] at h
  obtain ⟨g, hg, h⟩ := h
  cases g
  · simp only [Bool.false_eq_true, if_false, Option.some.injEq] at h
    subst h
    exact TriL.skipW hg hn
  · simp only [if_true] at h
    by_cases he : isEff o.op = true
    · simp only [he, if_true] at h
      exact TriL.stepW hg (aeff_sound h) hn
    · simp only [he, Bool.false_eq_true, if_false, Option.map_eq_some_iff] at h
      obtain ⟨d, hd, rfl⟩ := h
      exact TriL.stepW hg (aval_sound hd).steps hn
def brun (P : Program) (all : Array Oper) : List Oper → St → Option St
  | [], σ => some σ
  | o :: l, σ => (bstep P all o σ).bind (brun P all l)
theorem TriL.brun {P : Program} {all : Array Oper} {Q : Exit → St → Prop} {σ' : St} : ∀ {l1 l2 : List Oper} {σ : St}, Avm.brun P all l1 σ = some σ' → TriL P all Q l2 σ' → TriL P all Q (l1 ++ l2) σ
  | [], _, _, h, hn => by simp only [Avm.brun, Option.some.injEq] at h; subst h; exact hn
  | o :: l, _, _, h, hn => by
    simp only [Avm.brun, Option.bind_eq_some_iff] at h
    obtain ⟨σ1, h1, h2⟩ := h
    exact TriL.bstep h1 (TriL.brun h2 hn)
theorem TriL.brunN {P : Program} {all : Array Oper} {Q : Exit → St → Prop} {l : List Oper} {σ σ' : St} (n : Nat) (h : Avm.brun P all (l.take n) σ = some σ') (hn : TriL P all Q (l.drop n) σ') : TriL P all Q l σ := by
  have := TriL.brun h hn
  rwa [List.take_append_drop] at this
theorem TriL.bdone {P : Program} {all : Array Oper} {Q : Exit → St → Prop} {l : List Oper} {σ σ' : St} (h : Avm.brun P all l σ = some σ') (hn : Q .normal σ') : TriL P all Q l σ := by
  have := TriL.brun (l2 := []) h (TriL.nil hn)
  rwa [List.append_nil] at this
theorem Tri.brun {P : Program} {id : Nat} {l : List Oper} {Q : Exit → St → Prop} {σ σ' : St} (h : Avm.brun P l.toArray l σ = some σ') (hn : Q .normal σ') : Tri P (.region id l.toArray false) Q σ :=
  Tri.region (TriL.bdone h hn)
theorem vcells_int (k : IntKind) (z : Int) : (Value.int k z).cells = #[.int k z] := rfl
theorem vcells_bool (b : Bool) : (Value.bool b).cells = #[.bool b] := rfl
theorem vcells_string (b : ByteArray) : (Value.string b).cells = #[.string b] := rfl
theorem vcells_nil : (Value.slice none 0 0).cells = #[.slice none 0 0] := rfl
theorem one_int (k : IntKind) (z : Int) : (Value.int k z).oneCell' = true := rfl
theorem one_bool (b : Bool) : (Value.bool b).oneCell' = true := rfl
theorem one_string (b : ByteArray) : (Value.string b).oneCell' = true := rfl
theorem one_nil : (Value.slice none 0 0).oneCell' = true := rfl
end Go.Avm
