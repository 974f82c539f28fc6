/- The abstract machine, part W: masks and shifts by numbers. -/
import Derived.Test.YtbeodddkccpmhaaAvmV
namespace Go.Avm
set_option linter.unusedVariables false
set_option linter.unusedSimpArgs false
open Go.RowKit
theorem and_mask (x : Int) (n : Nat) (h : n ≤ 62) : bits .and .i64 x ((2 ^ n - 1 : Nat) : Int) = x % ((2 ^ n : Nat) : Int) := by
  have hp : (2 ^ n : Nat) ≤ 2 ^ 62 := Nat.pow_le_pow_right (by omega) h
  have h62 : (2 ^ 62 : Nat) = 4611686018427387904 := by decide
  have h0 : 0 < (2 ^ n : Nat) := Nat.pow_pos (by omega)
  have hd : ((2 ^ n : Nat) : Int) ∣ 18446744073709551616 := by
    have : (2 ^ n : Nat) ∣ 2 ^ 64 := Nat.pow_dvd_pow 2 (by omega)
    have h64 : (2 ^ 64 : Nat) = 18446744073709551616 := by decide
    rw [h64] at this
    exact Int.natCast_dvd_natCast.2 this
  have key : ((BitVec.ofInt 64 x &&& BitVec.ofInt 64 ((2 ^ n - 1 : Nat) : Int)).toNat : Int) = x % ((2 ^ n : Nat) : Int) := by
    rw [BitVec.toNat_and, BitVec.toNat_ofInt, BitVec.toNat_ofInt]
    have e1 : (((2 ^ n - 1 : Nat) : Int) % ((2 ^ 64 : Nat) : Int)).toNat = 2 ^ n - 1 := by
      rw [Int.emod_eq_of_lt (by omega) (by have : (2 ^ 64 : Nat) = 18446744073709551616 := by decide
                                           rw [this]; omega)]
      omega
    rw [e1, Nat.and_two_pow_sub_one_eq_mod]
    have hx : 0 ≤ x % ((2 ^ 64 : Nat) : Int) := Int.emod_nonneg _ (by decide)
    rw [Int.natCast_emod, Int.toNat_of_nonneg hx]
    exact Int.emod_emod_of_dvd x hd
  have hw : bits .and .i64 x ((2 ^ n - 1 : Nat) : Int) = IntKind.i64.wrap ((BitVec.ofInt 64 x &&& BitVec.ofInt 64 ((2 ^ n - 1 : Nat) : Int)).toNat : Int) := rfl
  rw [hw, key]
  have h1 := Int.emod_nonneg x (show ((2 ^ n : Nat) : Int) ≠ 0 by omega)
  have h2 := Int.emod_lt_of_pos x (show (0 : Int) < ((2 ^ n : Nat) : Int) by omega)
  exact IntWalk.i64_in _ ⟨by omega, by omega⟩
theorem and_1 (x : Int) : bits .and .i64 x 1 = x % 2 := and_mask x 1 (by omega)
theorem and_3 (x : Int) : bits .and .i64 x 3 = x % 4 := and_mask x 2 (by omega)
theorem and_7 (x : Int) : bits .and .i64 x 7 = x % 8 := and_mask x 3 (by omega)
theorem and_15 (x : Int) : bits .and .i64 x 15 = x % 16 := and_mask x 4 (by omega)
theorem and_31 (x : Int) : bits .and .i64 x 31 = x % 32 := and_mask x 5 (by omega)
theorem and_63 (x : Int) : bits .and .i64 x 63 = x % 64 := and_mask x 6 (by omega)
theorem and_127 (x : Int) : bits .and .i64 x 127 = x % 128 := and_mask x 7 (by omega)
theorem and_255 (x : Int) : bits .and .i64 x 255 = x % 256 := and_mask x 8 (by omega)
theorem and_fff (x : Int) : bits .and .i64 x 4095 = x % 4096 := and_mask x 12 (by omega)
theorem and_ffff (x : Int) : bits .and .i64 x 65535 = x % 65536 := and_mask x 16 (by omega)
theorem and_ffffff (x : Int) : bits .and .i64 x 16777215 = x % 16777216 := and_mask x 24 (by omega)
section
variable {P : Program} {ds : List (Option Nat)} {Q : Exit → St → Prop} {σ : St} {l : List Oper} {dst : Option Nat} {ty : TypeId} {pos : String} {af : Array Edge} {g : Option (Nat × Bool)} {x : Operand} {t : TypeId} {xs : Array Operand} {ts : Array TypeId}
theorem isNilEq (h : TriD P ds Q (⟨dst, .binOp .eql t x (.const (.slice none 0 0)) t, ty, pos, af, g⟩ :: l) σ) : TriD P ds Q (⟨dst, .binOp .eql t x (.const (.slice none 0 0)) t, ty, pos, af, g⟩ :: l) σ := h
theorem isNilNe (h : TriD P ds Q (⟨dst, .binOp .neq t x (.const (.slice none 0 0)) t, ty, pos, af, g⟩ :: l) σ) : TriD P ds Q (⟨dst, .binOp .neq t x (.const (.slice none 0 0)) t, ty, pos, af, g⟩ :: l) σ := h
theorem isCopy (h : TriD P ds Q (⟨dst, .call { callee := .builtin .copy, args := xs, argTypes := ts }, ty, pos, af, g⟩ :: l) σ) : TriD P ds Q (⟨dst, .call { callee := .builtin .copy, args := xs, argTypes := ts }, ty, pos, af, g⟩ :: l) σ := h
theorem isClear (h : TriD P ds Q (⟨dst, .call { callee := .builtin .clear, args := xs, argTypes := ts }, ty, pos, af, g⟩ :: l) σ) : TriD P ds Q (⟨dst, .call { callee := .builtin .clear, args := xs, argTypes := ts }, ty, pos, af, g⟩ :: l) σ := h
theorem isAppend (h : TriD P ds Q (⟨dst, .call { callee := .builtin .append, args := xs, argTypes := ts }, ty, pos, af, g⟩ :: l) σ) : TriD P ds Q (⟨dst, .call { callee := .builtin .append, args := xs, argTypes := ts }, ty, pos, af, g⟩ :: l) σ := h
end
theorem binV_bool_eql {P : Program} {t : TypeId} (h : P.underlying t = some .bool) (x y : Operand) (a b : Bool) : binV P .eql t x y (.bool a) (.bool b) = some (.bool (a == b)) := by
  show pureRun P (do eqGuard .eql t x y (.bool a) (.bool b); Go.binOp .eql t (.bool a) (.bool b)) = _
  have hg : eqGuard .eql t x y (.bool a) (.bool b) = pure () := rfl
  have hb : Go.binOp .eql t (.bool a) (.bool b) = (do let r ← Op.equal t (.bool a) (.bool b); pure (.bool r)) := rfl
  rw [hg, pureRun_bind, hb]
  show (pureRun P (do let r ← Op.equal t (.bool a) (.bool b); pure (Value.bool r))) = _
  rw [pureRun_bind]
  have he : pureRun P (Op.equal t (.bool a) (.bool b)) = some (a == b) := by
    show pureRun P (Op.equalIn (9999 + 1) t (.bool a) (.bool b)) = _
    unfold Op.equalIn
    rw [pureRun_bind, pureRun_underlying h]
    rfl
  rw [he]; rfl
theorem binV_bool_neq {P : Program} {t : TypeId} (h : P.underlying t = some .bool) (x y : Operand) (a b : Bool) : binV P .neq t x y (.bool a) (.bool b) = some (.bool (!(a == b))) := by
  show pureRun P (do eqGuard .neq t x y (.bool a) (.bool b); Go.binOp .neq t (.bool a) (.bool b)) = _
  have hg : eqGuard .neq t x y (.bool a) (.bool b) = pure () := rfl
  have hb : Go.binOp .neq t (.bool a) (.bool b) = (do let r ← Op.equal t (.bool a) (.bool b); pure (.bool !r)) := rfl
  rw [hg, pureRun_bind, hb]
  show (pureRun P (do let r ← Op.equal t (.bool a) (.bool b); pure (Value.bool !r))) = _
  rw [pureRun_bind]
  have he : pureRun P (Op.equal t (.bool a) (.bool b)) = some (a == b) := by
    show pureRun P (Op.equalIn (9999 + 1) t (.bool a) (.bool b)) = _
    unfold Op.equalIn
    rw [pureRun_bind, pureRun_underlying h]
    rfl
  rw [he]; rfl
theorem bits_i64 : IntKind.i64.bits = 64 := rfl
theorem bits_u64 : IntKind.u64.bits = 64 := rfl
theorem bits_u8 : IntKind.u8.bits = 8 := rfl
theorem bits_u32 : IntKind.u32.bits = 32 := rfl
theorem bits_i32 : IntKind.i32.bits = 32 := rfl
theorem tdiv_pos {a b : Int} (h : 0 ≤ a) : a.tdiv b = a / b := Int.tdiv_eq_ediv_of_nonneg h
theorem tmod_pos {a b : Int} (h : 0 ≤ a) : a.tmod b = a % b := Int.tmod_eq_emod_of_nonneg h
theorem cells_slice {P : Program} {W : World} {base : Nat} {t e : TypeId} {v : Value} (ht : P.underlying t = some (.slice e)) (hv : Value.okWide P W .any base t v) : v.cells = #[v] := by
  obtain ⟨A, n, c, rfl⟩ := Go.WideShapes.okWide_slice ht hv
  rfl
attribute [go_sem] and_1 and_3 and_7 and_15 and_31 and_63 and_127 and_255 and_fff and_ffff and_ffffff bits_i64 bits_u64 bits_u8 bits_u32 bits_i32 Nat.min_def
end Go.Avm
