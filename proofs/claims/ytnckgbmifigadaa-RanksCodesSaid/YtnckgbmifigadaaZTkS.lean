/- The library's strings.Compare, bits.Len and slices.Sort at []string, by their contracts on the kit's shelf (the layings written by the kit's lay-shelf and lay-plain for this seat); strings.Compare as a contract of the machine. -/
import Derived.Shelf.Small.Bits
import Derived.Shelf.Small.Strs
import Derived.Shelf.Sort.Plain
import Derived.Shelf.Slices.In.SortNone
import Derived.Test.YtnckgbmifigadaaZAvmS
import Derived.Test.YtnckgbmifigadaaZBl
set_option linter.unusedSimpArgs false
set_option linter.unusedVariables false
namespace Go.Proofs.Ytnckgbmifigadaa
open Go.Shelf
def lays125_ren : Go.Shelf.Ren := ⟨fun | 125 => 115 | 128 => 134 | 129 => 135 | n => n, fun | 46 => 31 | 3 => 3 | 51 => 152 | 53 => 154 | 4 => 4 | 5 => 5 | 9 => 9 | n => n, fun | n => n⟩
def lays106_ren : Go.Shelf.Ren := ⟨fun | 106 => 109 | 213 => 124 | 265 => 144 | n => n, fun | 9 => 9 | 3 => 3 | n => n, fun | n => n⟩
def lays190_ren : Go.Shelf.Ren := ⟨fun|190 => 90|125 => 115|258 => 114|128 => 134|129 => 135|302 => 125|303 => 126|304 => 127|305 => 128|306 => 129|307 => 130|308 => 131|309 => 132|310 => 133|333 => 145|329 => 146|330 => 147|334 => 148|335 => 149|336 => 150|344 => 154|n => n,fun|31 => 40|9 => 9|3 => 3|46 => 31|0 => 0|51 => 152|53 => 154|4 => 4|183 => 145|182 => 144|131 => 87|5 => 5|218 => 160|222 => 164|228 => 168|229 => 169|n => n,fun|n => n⟩
theorem lays190 : Lays.n190 Try.prog lays190_ren := {
  mixed := by kernel_rfl
  f125 := Try.func115.trans (congrArg some (by kernel_rfl))
  f128 := Try.func134.trans (congrArg some (by kernel_rfl))
  f129 := Try.func135.trans (congrArg some (by kernel_rfl))
  f190 := Try.func90.trans (congrArg some (by kernel_rfl))
  f258 := Try.func114.trans (congrArg some (by kernel_rfl))
  f302 := Try.func125.trans (congrArg some (by kernel_rfl))
  f303 := Try.func126.trans (congrArg some (by kernel_rfl))
  f304 := Try.func127.trans (congrArg some (by kernel_rfl))
  f305 := Try.func128.trans (congrArg some (by kernel_rfl))
  f306 := Try.func129.trans (congrArg some (by kernel_rfl))
  f307 := Try.func130.trans (congrArg some (by kernel_rfl))
  f308 := Try.func131.trans (congrArg some (by kernel_rfl))
  f309 := Try.func132.trans (congrArg some (by kernel_rfl))
  f310 := Try.func133.trans (congrArg some (by kernel_rfl))
  f329 := Try.func146.trans (congrArg some (by kernel_rfl))
  f330 := Try.func147.trans (congrArg some (by kernel_rfl))
  f333 := Try.func145.trans (congrArg some (by kernel_rfl))
  f334 := Try.func148.trans (congrArg some (by kernel_rfl))
  f335 := Try.func149.trans (congrArg some (by kernel_rfl))
  f336 := Try.func150.trans (congrArg some (by kernel_rfl))
  f344 := Try.func154.trans (congrArg some (by kernel_rfl))
  t0 := Try.underlying0
  a0 := Try.isAgg0
  z0 := Try.sizeOf0
  v0 := Try.zeroValue0
  t3 := Try.underlying3
  a3 := Try.isAgg3
  z3 := Try.sizeOf3
  v3 := Try.zeroValue3
  t4 := Try.underlying4
  a4 := Try.isAgg4
  z4 := Try.sizeOf4
  v4 := Try.zeroValue4
  t5 := Try.underlying5
  a5 := Try.isAgg5
  z5 := Try.sizeOf5
  v5 := Try.zeroValue5
  t9 := Try.underlying9
  a9 := Try.isAgg9
  z9 := Try.sizeOf9
  v9 := Try.zeroValue9
  t31 := Try.underlying40
  a31 := Try.isAgg40
  z31 := Try.sizeOf40
  v31 := Try.zeroValue40
  t46 := Try.underlying31
  a46 := Try.isAgg31
  z46 := Try.sizeOf31
  v46 := Try.zeroValue31
  t51 := Try.underlying152
  a51 := Try.isAgg152
  z51 := Try.sizeOf152
  v51 := Try.zeroValue152
  t53 := Try.underlying154
  a53 := Try.isAgg154
  z53 := Try.sizeOf154
  v53 := Try.zeroValue154
  t131 := Try.underlying87
  a131 := Try.isAgg87
  z131 := Try.sizeOf87
  v131 := Try.zeroValue87
  t182 := Try.underlying144
  a182 := Try.isAgg144
  z182 := Try.sizeOf144
  v182 := Try.zeroValue144
  t183 := Try.underlying145
  a183 := Try.isAgg145
  z183 := Try.sizeOf145
  v183 := Try.zeroValue145
  t218 := Try.underlying160
  a218 := Try.isAgg160
  z218 := Try.sizeOf160
  v218 := Try.zeroValue160
  t222 := Try.underlying164
  a222 := Try.isAgg164
  z222 := Try.sizeOf164
  v222 := Try.zeroValue164
  t228 := Try.underlying168
  a228 := Try.isAgg168
  z228 := Try.sizeOf168
  v228 := Try.zeroValue168
  t229 := Try.underlying169
  a229 := Try.isAgg169
  z229 := Try.sizeOf169
  v229 := Try.zeroValue169 }
open Go.Sort Go.RowKit in
theorem slices_Sort_string (blk off cap : Nat) (ss : List (List UInt8)) (w : World) (hH : Holds encStr w blk off ss.toArray) (hblk : blk < w.heap.size) (hsz : ss.length < 4611686018427387904) :
    Calls Try.prog 90 #[.slice (some ⟨blk, off, none⟩) ss.length cap] w fun e w' =>
      e = .returned (.tuple #[]) ∧ ∃ n os, w' = grow (putRow encStr (Sort.ahead w n) blk off (ss.mergeSort fun x y => decide (x ≤ y)).toArray) os := Any.slices_Sort_string lays190 blk off cap ss w hH hblk hsz
open Go.RowKit Go.Sort in
/-- .. and plain. (LAID: no walk: one application.) -/
theorem slices_Sort_string_none (p : Option Addr) (cap : Nat) (w : World) :
    Calls Try.prog 90 #[.slice p 0 cap] w fun e w' => e = .returned (.tuple #[]) ∧ w' = w := Any.slices_Sort_string_none lays190 p cap w
open Go.RowKit Go.Avm
def cmpB (a b : ByteArray) : Int := Lib.compareBytes a.data.toList b.data.toList
end Go.Proofs.Ytnckgbmifigadaa
