/- The facts about the types of the program that the machine asks. -/
import Derived.Test.YtnckgbmifigadaaRows
import Derived.Test.YtnckgbmifigadaaZAvmR
set_option linter.unusedSimpArgs false
set_option linter.unusedVariables false
namespace Go.Proofs.Ytnckgbmifigadaa
open Go.RowKit Go.Avm
theorem ti3 : tiGet Try.prog 3 = some ⟨1, 8, .int .i64 0, .int .i64⟩ := by kernel_rfl
theorem ti4 : tiGet Try.prog 4 = some ⟨1, 1, .bool false, .bool⟩ := by kernel_rfl
theorem ti5 : tiGet Try.prog 5 = some ⟨1, 1, .int .u8 0, .int .u8⟩ := by kernel_rfl
theorem ti9 : tiGet Try.prog 9 = some ⟨1, 16, .string ByteArray.empty, .string⟩ := by kernel_rfl
theorem ti22 : tiGet Try.prog 22 = some ⟨1, 24, .slice none 0 0, .slice 3⟩ := by kernel_rfl
theorem ti29 : tiGet Try.prog 29 = some ⟨2, 24, .agg #[.string ByteArray.empty, .int .i64 0], .struct [(0, 9), (1, 3)]⟩ := by kernel_rfl
theorem ti31 : tiGet Try.prog 31 = some ⟨1, 8, .int .u64 0, .int .u64⟩ := by kernel_rfl
theorem ti40 : tiGet Try.prog 40 = some ⟨1, 24, .slice none 0 0, .slice 9⟩ := by kernel_rfl
theorem ti46 : tiGet Try.prog 46 = some ⟨1, 24, .slice none 0 0, .slice 5⟩ := by kernel_rfl
theorem ti48 : tiGet Try.prog 48 = some ⟨1, 24, .slice none 0 0, .slice 40⟩ := by kernel_rfl
theorem ti50 : tiGet Try.prog 50 = some ⟨5, 56, .agg #[.int .i64 0, .int .i64 0, .int .i64 0, .slice none 0 0, .bool false], .struct [(0, 3), (1, 3), (2, 3), (3, 48), (4, 4)]⟩ := by kernel_rfl
attribute [go_sem] ti3 ti4 ti5 ti9 ti22 ti29 ti31 ti40 ti46 ti48 ti50
theorem call6 : ∀ xs w, (callFunc 6 xs).run Try.prog w = .ok (.enter 6 xs) w := fun _ _ => by kernel_rfl
theorem call10 : ∀ xs w, (callFunc 10 xs).run Try.prog w = .ok (.enter 10 xs) w := fun _ _ => by kernel_rfl
theorem call12 : ∀ xs w, (callFunc 12 xs).run Try.prog w = .ok (.enter 12 xs) w := fun _ _ => by kernel_rfl
theorem call18 : ∀ xs w, (callFunc 18 xs).run Try.prog w = .ok (.enter 18 xs) w := fun _ _ => by kernel_rfl
theorem call28 : ∀ xs w, (callFunc 28 xs).run Try.prog w = .ok (.enter 28 xs) w := fun _ _ => by kernel_rfl
theorem call29 : ∀ xs w, (callFunc 29 xs).run Try.prog w = .ok (.enter 29 xs) w := fun _ _ => by kernel_rfl
theorem call30 : ∀ xs w, (callFunc 30 xs).run Try.prog w = .ok (.enter 30 xs) w := fun _ _ => by kernel_rfl
theorem call31 : ∀ xs w, (callFunc 31 xs).run Try.prog w = .ok (.enter 31 xs) w := fun _ _ => by kernel_rfl
theorem call32 : ∀ xs w, (callFunc 32 xs).run Try.prog w = .ok (.enter 32 xs) w := fun _ _ => by kernel_rfl
theorem call33 : ∀ xs w, (callFunc 33 xs).run Try.prog w = .ok (.enter 33 xs) w := fun _ _ => by kernel_rfl
theorem call34 : ∀ xs w, (callFunc 34 xs).run Try.prog w = .ok (.enter 34 xs) w := fun _ _ => by kernel_rfl
theorem call35 : ∀ xs w, (callFunc 35 xs).run Try.prog w = .ok (.enter 35 xs) w := fun _ _ => by kernel_rfl
theorem call36 : ∀ xs w, (callFunc 36 xs).run Try.prog w = .ok (.enter 36 xs) w := fun _ _ => by kernel_rfl
theorem call37 : ∀ xs w, (callFunc 37 xs).run Try.prog w = .ok (.enter 37 xs) w := fun _ _ => by kernel_rfl
theorem call38 : ∀ xs w, (callFunc 38 xs).run Try.prog w = .ok (.enter 38 xs) w := fun _ _ => by kernel_rfl
theorem call39 : ∀ xs w, (callFunc 39 xs).run Try.prog w = .ok (.enter 39 xs) w := fun _ _ => by kernel_rfl
theorem call40 : ∀ xs w, (callFunc 40 xs).run Try.prog w = .ok (.enter 40 xs) w := fun _ _ => by kernel_rfl
theorem call44 : ∀ xs w, (callFunc 44 xs).run Try.prog w = .ok (.enter 44 xs) w := fun _ _ => by kernel_rfl
theorem call45 : ∀ xs w, (callFunc 45 xs).run Try.prog w = .ok (.enter 45 xs) w := fun _ _ => by kernel_rfl
theorem call46 : ∀ xs w, (callFunc 46 xs).run Try.prog w = .ok (.enter 46 xs) w := fun _ _ => by kernel_rfl
theorem call47 : ∀ xs w, (callFunc 47 xs).run Try.prog w = .ok (.enter 47 xs) w := fun _ _ => by kernel_rfl
theorem call48 : ∀ xs w, (callFunc 48 xs).run Try.prog w = .ok (.enter 48 xs) w := fun _ _ => by kernel_rfl
theorem call57 : ∀ xs w, (callFunc 57 xs).run Try.prog w = .ok (.enter 57 xs) w := fun _ _ => by kernel_rfl
theorem call62 : ∀ xs w, (callFunc 62 xs).run Try.prog w = .ok (.enter 62 xs) w := fun _ _ => by kernel_rfl
theorem call63 : ∀ xs w, (callFunc 63 xs).run Try.prog w = .ok (.enter 63 xs) w := fun _ _ => by kernel_rfl
theorem call68 : ∀ xs w, (callFunc 68 xs).run Try.prog w = .ok (.enter 68 xs) w := fun _ _ => by kernel_rfl
theorem call70 : ∀ xs w, (callFunc 70 xs).run Try.prog w = .ok (.enter 70 xs) w := fun _ _ => by kernel_rfl
theorem call72 : ∀ xs w, (callFunc 72 xs).run Try.prog w = .ok (.enter 72 xs) w := fun _ _ => by kernel_rfl
theorem call75 : ∀ xs w, (callFunc 75 xs).run Try.prog w = .ok (.enter 75 xs) w := fun _ _ => by kernel_rfl
theorem call76 : ∀ xs w, (callFunc 76 xs).run Try.prog w = .ok (.enter 76 xs) w := fun _ _ => by kernel_rfl
theorem call77 : ∀ xs w, (callFunc 77 xs).run Try.prog w = .ok (.enter 77 xs) w := fun _ _ => by kernel_rfl
theorem call78 : ∀ xs w, (callFunc 78 xs).run Try.prog w = .ok (.enter 78 xs) w := fun _ _ => by kernel_rfl
theorem call79 : ∀ xs w, (callFunc 79 xs).run Try.prog w = .ok (.enter 79 xs) w := fun _ _ => by kernel_rfl
theorem call80 : ∀ xs w, (callFunc 80 xs).run Try.prog w = .ok (.enter 80 xs) w := fun _ _ => by kernel_rfl
theorem call81 : ∀ xs w, (callFunc 81 xs).run Try.prog w = .ok (.enter 81 xs) w := fun _ _ => by kernel_rfl
theorem call82 : ∀ xs w, (callFunc 82 xs).run Try.prog w = .ok (.enter 82 xs) w := fun _ _ => by kernel_rfl
theorem call83 : ∀ xs w, (callFunc 83 xs).run Try.prog w = .ok (.enter 83 xs) w := fun _ _ => by kernel_rfl
theorem call84 : ∀ xs w, (callFunc 84 xs).run Try.prog w = .ok (.enter 84 xs) w := fun _ _ => by kernel_rfl
theorem call87 : ∀ xs w, (callFunc 87 xs).run Try.prog w = .ok (.enter 87 xs) w := fun _ _ => by kernel_rfl
theorem call88 : ∀ xs w, (callFunc 88 xs).run Try.prog w = .ok (.enter 88 xs) w := fun _ _ => by kernel_rfl
theorem call89 : ∀ xs w, (callFunc 89 xs).run Try.prog w = .ok (.enter 89 xs) w := fun _ _ => by kernel_rfl
theorem call90 : ∀ xs w, (callFunc 90 xs).run Try.prog w = .ok (.enter 90 xs) w := fun _ _ => by kernel_rfl
theorem call91 : ∀ xs w, (callFunc 91 xs).run Try.prog w = .ok (.enter 91 xs) w := fun _ _ => by kernel_rfl
theorem call106 : ∀ xs w, (callFunc 106 xs).run Try.prog w = .ok (.enter 106 xs) w := fun _ _ => by kernel_rfl
theorem call111 : ∀ xs w, (callFunc 111 xs).run Try.prog w = .ok (.enter 111 xs) w := fun _ _ => by kernel_rfl
theorem call112 : ∀ xs w, (callFunc 112 xs).run Try.prog w = .ok (.enter 112 xs) w := fun _ _ => by kernel_rfl
theorem call113 : ∀ xs w, (callFunc 113 xs).run Try.prog w = .ok (.enter 113 xs) w := fun _ _ => by kernel_rfl
theorem call122 : ∀ xs w, (callFunc 122 xs).run Try.prog w = .ok (.enter 122 xs) w := fun _ _ => by kernel_rfl
theorem bool_neq' (a b : Bool) : pureRun Try.prog ((pure () : Sem Unit) >>= fun _ => Go.binOp .neq 4 (.bool a) (.bool b)) = some (.bool (!(a == b))) := binV_bool_neq Try.underlying4 (.tmp 0) (.tmp 0) a b
attribute [go_sem] bool_neq'
theorem len_str (s : ByteArray) : pureRun Try.prog (Builtin.len_ #[9] 0 #[.string s]) = some (.int .i64 s.size) := by
  show pureRun Try.prog (underlying 9 >>= _) = _
  rw [pureRun_bind, pureRun_underlying Try.underlying9]
  rfl
attribute [go_sem] len_str
theorem mix : Try.prog.follows .mixedOrders = true := by kernel_rfl
end Go.Proofs.Ytnckgbmifigadaa
