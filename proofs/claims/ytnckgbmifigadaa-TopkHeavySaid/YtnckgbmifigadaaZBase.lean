/- The facts about the types of the program that the machine asks. -/
import Derived.Test.YtnckgbmifigadaaRows
import Derived.Test.YtnckgbmifigadaaZAvmR
set_option linter.unusedSimpArgs false
set_option linter.unusedVariables false
namespace Go.Proofs.Ytnckgbmifigadaa
open Go.RowKit Go.Avm
theorem ti3 : tiGet Try.prog 3 = some ⟨1, 8, .int .i64 0, .int .i64⟩ := by kernel_rfl
theorem ti4 : tiGet Try.prog 4 = some ⟨1, 1, .bool false, .bool⟩ := by kernel_rfl
theorem ti5 : tiGet Try.prog 5 = some ⟨1, 1, .int .u8 0, .int .u8⟩ := by kernel_rfl
theorem ti9 : tiGet Try.prog 9 = some ⟨1, 16, .string ByteArray.empty, .string⟩ := by kernel_rfl
theorem ti22 : tiGet Try.prog 22 = some ⟨1, 24, .slice none 0 0, .slice 3⟩ := by kernel_rfl
theorem ti23 : tiGet Try.prog 23 = some ⟨1, 24, .slice none 0 0, .slice 42⟩ := by kernel_rfl
theorem ti25 : tiGet Try.prog 25 = some ⟨4, 48, .agg #[.int .i64 0, .int .i64 0, .slice none 0 0, .bool false], .struct [(0, 3), (1, 3), (2, 23), (3, 4)]⟩ := by kernel_rfl
theorem ti29 : tiGet Try.prog 29 = some ⟨2, 24, .agg #[.string ByteArray.empty, .int .i64 0], .struct [(0, 9), (1, 3)]⟩ := by kernel_rfl
theorem ti31 : tiGet Try.prog 31 = some ⟨1, 8, .int .u64 0, .int .u64⟩ := by kernel_rfl
theorem ti40 : tiGet Try.prog 40 = some ⟨1, 24, .slice none 0 0, .slice 9⟩ := by kernel_rfl
theorem ti42 : tiGet Try.prog 42 = some ⟨3, 32, .agg #[.string ByteArray.empty, .int .i64 0, .int .i64 0], .struct [(0, 9), (1, 3), (2, 3)]⟩ := by kernel_rfl
theorem ti46 : tiGet Try.prog 46 = some ⟨1, 24, .slice none 0 0, .slice 5⟩ := by kernel_rfl
theorem ti94 : tiGet Try.prog 94 = some ⟨1, 8, .map none, .map 9 4⟩ := by kernel_rfl
attribute [go_sem] ti3 ti4 ti5 ti9 ti22 ti23 ti25 ti29 ti31 ti40 ti42 ti46 ti94
theorem call4 : ∀ xs w, (callFunc 4 xs).run Try.prog w = .ok (.enter 4 xs) w := fun _ _ => by kernel_rfl
theorem call18 : ∀ xs w, (callFunc 18 xs).run Try.prog w = .ok (.enter 18 xs) w := fun _ _ => by kernel_rfl
theorem call19 : ∀ xs w, (callFunc 19 xs).run Try.prog w = .ok (.enter 19 xs) w := fun _ _ => by kernel_rfl
theorem call21 : ∀ xs w, (callFunc 21 xs).run Try.prog w = .ok (.enter 21 xs) w := fun _ _ => by kernel_rfl
theorem call24 : ∀ xs w, (callFunc 24 xs).run Try.prog w = .ok (.enter 24 xs) w := fun _ _ => by kernel_rfl
theorem call26 : ∀ xs w, (callFunc 26 xs).run Try.prog w = .ok (.enter 26 xs) w := fun _ _ => by kernel_rfl
theorem call27 : ∀ xs w, (callFunc 27 xs).run Try.prog w = .ok (.enter 27 xs) w := fun _ _ => by kernel_rfl
theorem call39 : ∀ xs w, (callFunc 39 xs).run Try.prog w = .ok (.enter 39 xs) w := fun _ _ => by kernel_rfl
theorem call43 : ∀ xs w, (callFunc 43 xs).run Try.prog w = .ok (.enter 43 xs) w := fun _ _ => by kernel_rfl
theorem call57 : ∀ xs w, (callFunc 57 xs).run Try.prog w = .ok (.enter 57 xs) w := fun _ _ => by kernel_rfl
theorem call58 : ∀ xs w, (callFunc 58 xs).run Try.prog w = .ok (.enter 58 xs) w := fun _ _ => by kernel_rfl
theorem call59 : ∀ xs w, (callFunc 59 xs).run Try.prog w = .ok (.enter 59 xs) w := fun _ _ => by kernel_rfl
theorem call60 : ∀ xs w, (callFunc 60 xs).run Try.prog w = .ok (.enter 60 xs) w := fun _ _ => by kernel_rfl
theorem call61 : ∀ xs w, (callFunc 61 xs).run Try.prog w = .ok (.enter 61 xs) w := fun _ _ => by kernel_rfl
theorem call67 : ∀ xs w, (callFunc 67 xs).run Try.prog w = .ok (.enter 67 xs) w := fun _ _ => by kernel_rfl
theorem call70 : ∀ xs w, (callFunc 70 xs).run Try.prog w = .ok (.enter 70 xs) w := fun _ _ => by kernel_rfl
theorem call71 : ∀ xs w, (callFunc 71 xs).run Try.prog w = .ok (.enter 71 xs) w := fun _ _ => by kernel_rfl
theorem call74 : ∀ xs w, (callFunc 74 xs).run Try.prog w = .ok (.enter 74 xs) w := fun _ _ => by kernel_rfl
theorem call87 : ∀ xs w, (callFunc 87 xs).run Try.prog w = .ok (.enter 87 xs) w := fun _ _ => by kernel_rfl
theorem call105 : ∀ xs w, (callFunc 105 xs).run Try.prog w = .ok (.enter 105 xs) w := fun _ _ => by kernel_rfl
theorem call107 : ∀ xs w, (callFunc 107 xs).run Try.prog w = .ok (.enter 107 xs) w := fun _ _ => by kernel_rfl
theorem call108 : ∀ xs w, (callFunc 108 xs).run Try.prog w = .ok (.enter 108 xs) w := fun _ _ => by kernel_rfl
theorem call109 : ∀ xs w, (callFunc 109 xs).run Try.prog w = .ok (.enter 109 xs) w := fun _ _ => by kernel_rfl
theorem call110 : ∀ xs w, (callFunc 110 xs).run Try.prog w = .ok (.enter 110 xs) w := fun _ _ => by kernel_rfl
theorem call115 : ∀ xs w, (callFunc 115 xs).run Try.prog w = .ok (.enter 115 xs) w := fun _ _ => by kernel_rfl
theorem call121 : ∀ xs w, (callFunc 121 xs).run Try.prog w = .ok (.enter 121 xs) w := fun _ _ => by kernel_rfl
theorem call123 : ∀ xs w, (callFunc 123 xs).run Try.prog w = .ok (.enter 123 xs) w := fun _ _ => by kernel_rfl
theorem call136 : ∀ xs w, (callFunc 136 xs).run Try.prog w = .ok (.enter 136 xs) w := fun _ _ => by kernel_rfl
set_option maxRecDepth 100000 in
theorem eqs42 (x y : Operand) (a0 : ByteArray) (a1 : Int) (a2 : Int) (b0 : ByteArray) (b1 : Int) (b2 : Int) : binV Try.prog .eql 42 x y (.agg #[.string a0,.int .i64 a1,.int .i64 a2]) (.agg #[.string b0,.int .i64 b1,.int .i64 b2]) = some (.bool ((a0.toList == b0.toList) && ((a1 == b1) && ((a2 == b2) && true)))) ∧ binV Try.prog .neq 42 x y (.agg #[.string a0,.int .i64 a1,.int .i64 a2]) (.agg #[.string b0,.int .i64 b1,.int .i64 b2]) = some (.bool (!((a0.toList == b0.toList) && ((a1 == b1) && ((a2 == b2) && true))))) := binV_agg Try.underlying42 (by kernel_rfl) (by kernel_rfl) (eqFields_cons (by decide) (pureRun_part Try.underlying9 rfl rfl) (pureRun_part Try.underlying9 rfl rfl) (pureRun_equalIn_string Try.underlying9) (eqFields_cons (by decide) (pureRun_part Try.underlying3 rfl rfl) (pureRun_part Try.underlying3 rfl rfl) (pureRun_equalIn_int Try.underlying3) (eqFields_cons (by decide) (pureRun_part Try.underlying3 rfl rfl) (pureRun_part Try.underlying3 rfl rfl) (pureRun_equalIn_int Try.underlying3) eqFields_nil)))
theorem eqa42 (x y : Operand) (a0 : ByteArray) (a1 : Int) (a2 : Int) (b0 : ByteArray) (b1 : Int) (b2 : Int) : pureRun Try.prog (do eqGuard .eql 42 x y (.agg #[.string a0,.int .i64 a1,.int .i64 a2]) (.agg #[.string b0,.int .i64 b1,.int .i64 b2]);Go.binOp .eql 42 (.agg #[.string a0,.int .i64 a1,.int .i64 a2]) (.agg #[.string b0,.int .i64 b1,.int .i64 b2])) = some (.bool ((a0.toList == b0.toList) && ((a1 == b1) && ((a2 == b2) && true)))) := (eqs42 x y a0 a1 a2 b0 b1 b2).1
attribute [go_sem] eqa42
theorem len_str (s : ByteArray) : pureRun Try.prog (Builtin.len_ #[9] 0 #[.string s]) = some (.int .i64 s.size) := by
  show pureRun Try.prog (underlying 9 >>= _) = _
  rw [pureRun_bind, pureRun_underlying Try.underlying9]
  rfl
attribute [go_sem] len_str
theorem mix : Try.prog.follows .mixedOrders = true := by kernel_rfl
end Go.Proofs.Ytnckgbmifigadaa
