/- The facts about the types of the program that the machine asks. -/
import Derived.Test.YtpopgpjojbngcaaRows
import Derived.Test.YtpopgpjojbngcaaAvmR
set_option linter.unusedSimpArgs false
set_option linter.unusedVariables false
namespace Go.Proofs.Ytpopgpjojbngcaa
open Go.RowKit Go.Avm
theorem ti3 : tiGet Try.prog 3 = some ⟨1, 8, .int .i64 0, .int .i64⟩ := by kernel_rfl
theorem ti9 : tiGet Try.prog 9 = some ⟨1, 16, .string ByteArray.empty, .string⟩ := by kernel_rfl
theorem ti22 : tiGet Try.prog 22 = some ⟨1, 24, .slice none 0 0, .slice 3⟩ := by kernel_rfl
theorem ti53 : tiGet Try.prog 53 = some ⟨1, 24, .slice none 0 0, .slice 67⟩ := by kernel_rfl
theorem ti57 : tiGet Try.prog 57 = some ⟨1, 24, .slice none 0 0, .slice 9⟩ := by kernel_rfl
theorem ti65 : tiGet Try.prog 65 = some ⟨1, 24, .slice none 0 0, .slice 70⟩ := by kernel_rfl
theorem ti67 : tiGet Try.prog 67 = some ⟨4, 40, .agg #[.string ByteArray.empty, .int .i64 0, .int .i64 0, .int .i64 0], .struct [(0, 9), (1, 3), (2, 3), (3, 3)]⟩ := by kernel_rfl
theorem ti70 : tiGet Try.prog 70 = some ⟨2, 16, .agg #[.int .i64 0, .int .i64 0], .struct [(0, 3), (1, 3)]⟩ := by kernel_rfl
attribute [go_sem] ti3 ti9 ti22 ti53 ti57 ti65 ti67 ti70
theorem call8 : ∀ xs w, (callFunc 8 xs).run Try.prog w = .ok (.enter 8 xs) w := fun _ _ => by kernel_rfl
theorem call9 : ∀ xs w, (callFunc 9 xs).run Try.prog w = .ok (.enter 9 xs) w := fun _ _ => by kernel_rfl
theorem call10 : ∀ xs w, (callFunc 10 xs).run Try.prog w = .ok (.enter 10 xs) w := fun _ _ => by kernel_rfl
theorem call11 : ∀ xs w, (callFunc 11 xs).run Try.prog w = .ok (.enter 11 xs) w := fun _ _ => by kernel_rfl
theorem call12 : ∀ xs w, (callFunc 12 xs).run Try.prog w = .ok (.enter 12 xs) w := fun _ _ => by kernel_rfl
theorem call32 : ∀ xs w, (callFunc 32 xs).run Try.prog w = .ok (.enter 32 xs) w := fun _ _ => by kernel_rfl
theorem call33 : ∀ xs w, (callFunc 33 xs).run Try.prog w = .ok (.enter 33 xs) w := fun _ _ => by kernel_rfl
theorem call34 : ∀ xs w, (callFunc 34 xs).run Try.prog w = .ok (.enter 34 xs) w := fun _ _ => by kernel_rfl
theorem call35 : ∀ xs w, (callFunc 35 xs).run Try.prog w = .ok (.enter 35 xs) w := fun _ _ => by kernel_rfl
theorem call36 : ∀ xs w, (callFunc 36 xs).run Try.prog w = .ok (.enter 36 xs) w := fun _ _ => by kernel_rfl
theorem call37 : ∀ xs w, (callFunc 37 xs).run Try.prog w = .ok (.enter 37 xs) w := fun _ _ => by kernel_rfl
theorem call38 : ∀ xs w, (callFunc 38 xs).run Try.prog w = .ok (.enter 38 xs) w := fun _ _ => by kernel_rfl
theorem call39 : ∀ xs w, (callFunc 39 xs).run Try.prog w = .ok (.enter 39 xs) w := fun _ _ => by kernel_rfl
theorem call40 : ∀ xs w, (callFunc 40 xs).run Try.prog w = .ok (.enter 40 xs) w := fun _ _ => by kernel_rfl
theorem call41 : ∀ xs w, (callFunc 41 xs).run Try.prog w = .ok (.enter 41 xs) w := fun _ _ => by kernel_rfl
theorem call42 : ∀ xs w, (callFunc 42 xs).run Try.prog w = .ok (.enter 42 xs) w := fun _ _ => by kernel_rfl
theorem call43 : ∀ xs w, (callFunc 43 xs).run Try.prog w = .ok (.enter 43 xs) w := fun _ _ => by kernel_rfl
theorem call44 : ∀ xs w, (callFunc 44 xs).run Try.prog w = .ok (.enter 44 xs) w := fun _ _ => by kernel_rfl
theorem call45 : ∀ xs w, (callFunc 45 xs).run Try.prog w = .ok (.enter 45 xs) w := fun _ _ => by kernel_rfl
theorem call46 : ∀ xs w, (callFunc 46 xs).run Try.prog w = .ok (.enter 46 xs) w := fun _ _ => by kernel_rfl
theorem call47 : ∀ xs w, (callFunc 47 xs).run Try.prog w = .ok (.enter 47 xs) w := fun _ _ => by kernel_rfl
theorem call76 : ∀ xs w, (callFunc 76 xs).run Try.prog w = .ok (.enter 76 xs) w := fun _ _ => by kernel_rfl
theorem call77 : ∀ xs w, (callFunc 77 xs).run Try.prog w = .ok (.enter 77 xs) w := fun _ _ => by kernel_rfl
theorem call78 : ∀ xs w, (callFunc 78 xs).run Try.prog w = .ok (.enter 78 xs) w := fun _ _ => by kernel_rfl
theorem call79 : ∀ xs w, (callFunc 79 xs).run Try.prog w = .ok (.enter 79 xs) w := fun _ _ => by kernel_rfl
theorem call80 : ∀ xs w, (callFunc 80 xs).run Try.prog w = .ok (.enter 80 xs) w := fun _ _ => by kernel_rfl
theorem call81 : ∀ xs w, (callFunc 81 xs).run Try.prog w = .ok (.enter 81 xs) w := fun _ _ => by kernel_rfl
theorem call82 : ∀ xs w, (callFunc 82 xs).run Try.prog w = .ok (.enter 82 xs) w := fun _ _ => by kernel_rfl
theorem call83 : ∀ xs w, (callFunc 83 xs).run Try.prog w = .ok (.enter 83 xs) w := fun _ _ => by kernel_rfl
theorem call84 : ∀ xs w, (callFunc 84 xs).run Try.prog w = .ok (.enter 84 xs) w := fun _ _ => by kernel_rfl
theorem call85 : ∀ xs w, (callFunc 85 xs).run Try.prog w = .ok (.enter 85 xs) w := fun _ _ => by kernel_rfl
theorem call86 : ∀ xs w, (callFunc 86 xs).run Try.prog w = .ok (.enter 86 xs) w := fun _ _ => by kernel_rfl
theorem call87 : ∀ xs w, (callFunc 87 xs).run Try.prog w = .ok (.enter 87 xs) w := fun _ _ => by kernel_rfl
theorem call88 : ∀ xs w, (callFunc 88 xs).run Try.prog w = .ok (.enter 88 xs) w := fun _ _ => by kernel_rfl
theorem call89 : ∀ xs w, (callFunc 89 xs).run Try.prog w = .ok (.enter 89 xs) w := fun _ _ => by kernel_rfl
theorem call90 : ∀ xs w, (callFunc 90 xs).run Try.prog w = .ok (.enter 90 xs) w := fun _ _ => by kernel_rfl
theorem call91 : ∀ xs w, (callFunc 91 xs).run Try.prog w = .ok (.enter 91 xs) w := fun _ _ => by kernel_rfl
theorem call92 : ∀ xs w, (callFunc 92 xs).run Try.prog w = .ok (.enter 92 xs) w := fun _ _ => by kernel_rfl
theorem call93 : ∀ xs w, (callFunc 93 xs).run Try.prog w = .ok (.enter 93 xs) w := fun _ _ => by kernel_rfl
theorem call94 : ∀ xs w, (callFunc 94 xs).run Try.prog w = .ok (.enter 94 xs) w := fun _ _ => by kernel_rfl
theorem call95 : ∀ xs w, (callFunc 95 xs).run Try.prog w = .ok (.enter 95 xs) w := fun _ _ => by kernel_rfl
theorem call96 : ∀ xs w, (callFunc 96 xs).run Try.prog w = .ok (.enter 96 xs) w := fun _ _ => by kernel_rfl
theorem call109 : ∀ xs w, (callFunc 109 xs).run Try.prog w = .ok (.enter 109 xs) w := fun _ _ => by kernel_rfl
theorem call110 : ∀ xs w, (callFunc 110 xs).run Try.prog w = .ok (.enter 110 xs) w := fun _ _ => by kernel_rfl
theorem call111 : ∀ xs w, (callFunc 111 xs).run Try.prog w = .ok (.enter 111 xs) w := fun _ _ => by kernel_rfl
theorem call112 : ∀ xs w, (callFunc 112 xs).run Try.prog w = .ok (.enter 112 xs) w := fun _ _ => by kernel_rfl
theorem call113 : ∀ xs w, (callFunc 113 xs).run Try.prog w = .ok (.enter 113 xs) w := fun _ _ => by kernel_rfl
theorem call114 : ∀ xs w, (callFunc 114 xs).run Try.prog w = .ok (.enter 114 xs) w := fun _ _ => by kernel_rfl
theorem call115 : ∀ xs w, (callFunc 115 xs).run Try.prog w = .ok (.enter 115 xs) w := fun _ _ => by kernel_rfl
theorem call116 : ∀ xs w, (callFunc 116 xs).run Try.prog w = .ok (.enter 116 xs) w := fun _ _ => by kernel_rfl
theorem call117 : ∀ xs w, (callFunc 117 xs).run Try.prog w = .ok (.enter 117 xs) w := fun _ _ => by kernel_rfl
theorem bool_neq' (a b : Bool) : pureRun Try.prog ((pure () : Sem Unit) >>= fun _ => Go.binOp .neq 4 (.bool a) (.bool b)) = some (.bool (!(a == b))) := binV_bool_neq Try.underlying4 (.tmp 0) (.tmp 0) a b
attribute [go_sem] bool_neq'
set_option maxRecDepth 100000 in
theorem eqs67 (x y : Operand) (a0 : ByteArray) (a1 : Int) (a2 : Int) (a3 : Int) (b0 : ByteArray) (b1 : Int) (b2 : Int) (b3 : Int) : binV Try.prog .eql 67 x y (.agg #[.string a0,.int .i64 a1,.int .i64 a2,.int .i64 a3]) (.agg #[.string b0,.int .i64 b1,.int .i64 b2,.int .i64 b3]) = some (.bool ((a0.toList == b0.toList) && ((a1 == b1) && ((a2 == b2) && ((a3 == b3) && true))))) ∧ binV Try.prog .neq 67 x y (.agg #[.string a0,.int .i64 a1,.int .i64 a2,.int .i64 a3]) (.agg #[.string b0,.int .i64 b1,.int .i64 b2,.int .i64 b3]) = some (.bool (!((a0.toList == b0.toList) && ((a1 == b1) && ((a2 == b2) && ((a3 == b3) && true)))))) := binV_agg Try.underlying67 (by kernel_rfl) (by kernel_rfl) (eqFields_cons (by decide) (pureRun_part Try.underlying9 rfl rfl) (pureRun_part Try.underlying9 rfl rfl) (pureRun_equalIn_string Try.underlying9) (eqFields_cons (by decide) (pureRun_part Try.underlying3 rfl rfl) (pureRun_part Try.underlying3 rfl rfl) (pureRun_equalIn_int Try.underlying3) (eqFields_cons (by decide) (pureRun_part Try.underlying3 rfl rfl) (pureRun_part Try.underlying3 rfl rfl) (pureRun_equalIn_int Try.underlying3) (eqFields_cons (by decide) (pureRun_part Try.underlying3 rfl rfl) (pureRun_part Try.underlying3 rfl rfl) (pureRun_equalIn_int Try.underlying3) eqFields_nil))))
theorem nea67 (x y : Operand) (a0 : ByteArray) (a1 : Int) (a2 : Int) (a3 : Int) (b0 : ByteArray) (b1 : Int) (b2 : Int) (b3 : Int) : pureRun Try.prog (do eqGuard .neq 67 x y (.agg #[.string a0,.int .i64 a1,.int .i64 a2,.int .i64 a3]) (.agg #[.string b0,.int .i64 b1,.int .i64 b2,.int .i64 b3]);Go.binOp .neq 67 (.agg #[.string a0,.int .i64 a1,.int .i64 a2,.int .i64 a3]) (.agg #[.string b0,.int .i64 b1,.int .i64 b2,.int .i64 b3])) = some (.bool (!((a0.toList == b0.toList) && ((a1 == b1) && ((a2 == b2) && ((a3 == b3) && true)))))) := (eqs67 x y a0 a1 a2 a3 b0 b1 b2 b3).2
attribute [go_sem] nea67
theorem len_str (s : ByteArray) : pureRun Try.prog (Builtin.len_ #[9] 0 #[.string s]) = some (.int .i64 s.size) := by
  show pureRun Try.prog (underlying 9 >>= _) = _
  rw [pureRun_bind, pureRun_underlying Try.underlying9]
  rfl
attribute [go_sem] len_str
theorem mix : Try.prog.follows .mixedOrders = true := by kernel_rfl
end Go.Proofs.Ytpopgpjojbngcaa
