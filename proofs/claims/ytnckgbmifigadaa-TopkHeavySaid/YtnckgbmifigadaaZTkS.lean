/- The library's strings.Compare, bits.Len and slices.Sort at []string, by their contracts on the kit's shelf (the layings written by the kit's lay-shelf and lay-plain for this seat); strings.Compare as a contract of the machine. -/
import Derived.Shelf.Small.Bits
import Derived.Shelf.Small.Strs
import Derived.Shelf.Sort.Plain
import Derived.Shelf.Slices.In.SortNone
import Derived.Test.YtnckgbmifigadaaZAvmS
import Derived.Test.YtnckgbmifigadaaZBl
set_option linter.unusedSimpArgs false
set_option linter.unusedVariables false
namespace Go.Proofs.Ytnckgbmifigadaa
open Go.Shelf
def lays125_ren : Go.Shelf.Ren := ⟨fun | 125 => 115 | 128 => 134 | 129 => 135 | n => n, fun | 46 => 31 | 3 => 3 | 51 => 152 | 53 => 154 | 4 => 4 | 5 => 5 | 9 => 9 | n => n, fun | n => n⟩
theorem lays125 : Lays.n125 Try.prog lays125_ren := {
  mixed := by kernel_rfl
  f125 := Try.func115.trans (congrArg some (by kernel_rfl))
  f128 := Try.func134.trans (congrArg some (by kernel_rfl))
  f129 := Try.func135.trans (congrArg some (by kernel_rfl))
  t3 := Try.underlying3
  a3 := Try.isAgg3
  z3 := Try.sizeOf3
  v3 := Try.zeroValue3
  t4 := Try.underlying4
  a4 := Try.isAgg4
  z4 := Try.sizeOf4
  v4 := Try.zeroValue4
  t5 := Try.underlying5
  a5 := Try.isAgg5
  z5 := Try.sizeOf5
  v5 := Try.zeroValue5
  t9 := Try.underlying9
  a9 := Try.isAgg9
  z9 := Try.sizeOf9
  v9 := Try.zeroValue9
  t46 := Try.underlying31
  a46 := Try.isAgg31
  z46 := Try.sizeOf31
  v46 := Try.zeroValue31
  t51 := Try.underlying152
  a51 := Try.isAgg152
  z51 := Try.sizeOf152
  v51 := Try.zeroValue152
  t53 := Try.underlying154
  a53 := Try.isAgg154
  z53 := Try.sizeOf154
  v53 := Try.zeroValue154 }
/-- bits.Len: "Len returns the minimum number of bits required to represent x; the result is 0 for x == 0.": IT RETURNS 'Lib.bitLen x'; the world is as it was. (A uint has 64 bits in the model.) ITS CALLEE bits.Len64 IS MET BY ITS OWN CONTRACT OFF THE SHELF (lay that first). (LAID: no walk: one application.) -/
theorem bits_Len (x : Int) (w : World) (h0 : 0 ≤ x) (h1 : x ≤ 18446744073709551615) :
    Calls Try.prog 115 #[.int .u64 x] w fun e w' => e = .returned (.int .i64 (Lib.bitLen x.toNat)) ∧ w' = w := Any.bits_Len lays125 x w h0 h1
def lays106_ren : Go.Shelf.Ren := ⟨fun | 106 => 109 | 213 => 124 | 265 => 144 | n => n, fun | 9 => 9 | 3 => 3 | n => n, fun | n => n⟩
theorem lays106 : Lays.n106 Try.prog lays106_ren := {
  mixed := by kernel_rfl
  f106 := Try.func109.trans (congrArg some (by kernel_rfl))
  f213 := Try.func124.trans (congrArg some (by kernel_rfl))
  f265 := Try.func144.trans (congrArg some (by kernel_rfl))
  t3 := Try.underlying3
  a3 := Try.isAgg3
  z3 := Try.sizeOf3
  v3 := Try.zeroValue3
  t9 := Try.underlying9
  a9 := Try.isAgg9
  z9 := Try.sizeOf9
  v9 := Try.zeroValue9 }
open Go.RowKit in
/-- strings.Compare: "Compare returns an integer comparing two strings lexicographically. The result will be 0 if a == b, -1 if a < b, and +1 if a > b.": IT RETURNS 'Lib.compareBytes a b'; the world is as it was. (LAID: no walk: one application.) -/
theorem strings_Compare (a b : ByteArray) (w : World) :
    Calls Try.prog 109 #[.string a, .string b] w fun e w' => e = .returned (.int .i64 (Lib.compareBytes a.data.toList b.data.toList)) ∧ w' = w := Any.strings_Compare lays106 a b w
def lays190_ren : Go.Shelf.Ren := ⟨fun|190 => 90|125 => 115|258 => 114|128 => 134|129 => 135|302 => 125|303 => 126|304 => 127|305 => 128|306 => 129|307 => 130|308 => 131|309 => 132|310 => 133|333 => 145|329 => 146|330 => 147|334 => 148|335 => 149|336 => 150|344 => 154|n => n,fun|31 => 40|9 => 9|3 => 3|46 => 31|0 => 0|51 => 152|53 => 154|4 => 4|183 => 145|182 => 144|131 => 87|5 => 5|218 => 160|222 => 164|228 => 168|229 => 169|n => n,fun|n => n⟩
open Go.RowKit Go.Avm
def cmpB (a b : ByteArray) : Int := Lib.compareBytes a.data.toList b.data.toList
theorem cmps_calls {a b : ByteArray} : ACalls Try.prog 109 [.sc (.string a), .sc (.string b)] (.sc (.int .i64 (cmpB a b))) [] :=
  same_calls (us := [.string a, .string b]) call109 (fun w => strings_Compare a b w)
theorem compareBytes_neg : ∀ a b : List UInt8, decide (Lib.compareBytes a b < 0) = Op.bytesLess a b
  | [], [] => rfl
  | [], _ :: _ => rfl
  | _ :: _, [] => rfl
  | x :: a, y :: b => by
    rw [Lib.compareBytes, Op.bytesLess]
    by_cases h1 : x < y
    · simp [h1]
    · by_cases h2 : y < x
      · have h3 : ¬ x = y := fun e => by subst e; exact h1 h2
        simp [h1, h2, h3]
      · have h3 : x = y := UInt8.toNat_inj.1 (by rw [UInt8.lt_iff_toNat_lt] at h1 h2; omega)
        subst h3
        simp only [if_neg h1, compareBytes_neg a b]
        simp [h1]
theorem cmpB_neg (a b : ByteArray) : decide (cmpB a b < 0) = Op.bytesLess a.toList b.toList := by
  rw [Go.ByteArray.toList_eq, Go.ByteArray.toList_eq]
  exact compareBytes_neg _ _
end Go.Proofs.Ytnckgbmifigadaa
