/- The library's slices.Sort and slices.Compact at []string, by their contracts on the kit's shelf (the layings written by the kit's lay-shelf and lay-plain for this seat); as contracts of the machine. -/
import Derived.Shelf.Sort.Plain
import Derived.Shelf.Slices.CompactS
import Derived.Shelf.Slices.In.SortNone
import Derived.Test.YtpopgpjojbngcaaAvmS
import Derived.Test.YtpopgpjojbngcaaBase
set_option linter.unusedSimpArgs false
set_option linter.unusedVariables false
namespace Go.Proofs.Ytpopgpjojbngcaa
open Go.Shelf
def lays190_ren : Go.Shelf.Ren := ⟨fun|190 => 94|125 => 107|258 => 118|128 => 130|129 => 131|302 => 134|303 => 135|304 => 136|305 => 137|306 => 138|307 => 139|308 => 140|309 => 141|310 => 142|333 => 151|329 => 145|330 => 146|334 => 152|335 => 153|336 => 154|344 => 157|n => n,fun|31 => 57|9 => 9|3 => 3|46 => 31|0 => 0|51 => 143|53 => 134|4 => 4|183 => 137|182 => 136|131 => 74|5 => 5|218 => 153|222 => 157|228 => 161|229 => 162|n => n,fun|n => n⟩
theorem lays190 : Go.Proofs.Lays.n190 Try.prog lays190_ren := {
  mixed := by kernel_rfl
  f125 := Try.func107.trans (congrArg some (by kernel_rfl))
  f128 := Try.func130.trans (congrArg some (by kernel_rfl))
  f129 := Try.func131.trans (congrArg some (by kernel_rfl))
  f190 := Try.func94.trans (congrArg some (by kernel_rfl))
  f258 := Try.func118.trans (congrArg some (by kernel_rfl))
  f302 := Try.func134.trans (congrArg some (by kernel_rfl))
  f303 := Try.func135.trans (congrArg some (by kernel_rfl))
  f304 := Try.func136.trans (congrArg some (by kernel_rfl))
  f305 := Try.func137.trans (congrArg some (by kernel_rfl))
  f306 := Try.func138.trans (congrArg some (by kernel_rfl))
  f307 := Try.func139.trans (congrArg some (by kernel_rfl))
  f308 := Try.func140.trans (congrArg some (by kernel_rfl))
  f309 := Try.func141.trans (congrArg some (by kernel_rfl))
  f310 := Try.func142.trans (congrArg some (by kernel_rfl))
  f329 := Try.func145.trans (congrArg some (by kernel_rfl))
  f330 := Try.func146.trans (congrArg some (by kernel_rfl))
  f333 := Try.func151.trans (congrArg some (by kernel_rfl))
  f334 := Try.func152.trans (congrArg some (by kernel_rfl))
  f335 := Try.func153.trans (congrArg some (by kernel_rfl))
  f336 := Try.func154.trans (congrArg some (by kernel_rfl))
  f344 := Try.func157.trans (congrArg some (by kernel_rfl))
  t0 := Try.underlying0
  a0 := Try.isAgg0
  z0 := Try.sizeOf0
  v0 := Try.zeroValue0
  t3 := Try.underlying3
  a3 := Try.isAgg3
  z3 := Try.sizeOf3
  v3 := Try.zeroValue3
  t4 := Try.underlying4
  a4 := Try.isAgg4
  z4 := Try.sizeOf4
  v4 := Try.zeroValue4
  t5 := Try.underlying5
  a5 := Try.isAgg5
  z5 := Try.sizeOf5
  v5 := Try.zeroValue5
  t9 := Try.underlying9
  a9 := Try.isAgg9
  z9 := Try.sizeOf9
  v9 := Try.zeroValue9
  t31 := Try.underlying57
  a31 := Try.isAgg57
  z31 := Try.sizeOf57
  v31 := Try.zeroValue57
  t46 := Try.underlying31
  a46 := Try.isAgg31
  z46 := Try.sizeOf31
  v46 := Try.zeroValue31
  t51 := Try.underlying143
  a51 := Try.isAgg143
  z51 := Try.sizeOf143
  v51 := Try.zeroValue143
  t53 := Try.underlying134
  a53 := Try.isAgg134
  z53 := Try.sizeOf134
  v53 := Try.zeroValue134
  t131 := Try.underlying74
  a131 := Try.isAgg74
  z131 := Try.sizeOf74
  v131 := Try.zeroValue74
  t182 := Try.underlying136
  a182 := Try.isAgg136
  z182 := Try.sizeOf136
  v182 := Try.zeroValue136
  t183 := Try.underlying137
  a183 := Try.isAgg137
  z183 := Try.sizeOf137
  v183 := Try.zeroValue137
  t218 := Try.underlying153
  a218 := Try.isAgg153
  z218 := Try.sizeOf153
  v218 := Try.zeroValue153
  t222 := Try.underlying157
  a222 := Try.isAgg157
  z222 := Try.sizeOf157
  v222 := Try.zeroValue157
  t228 := Try.underlying161
  a228 := Try.isAgg161
  z228 := Try.sizeOf161
  v228 := Try.zeroValue161
  t229 := Try.underlying162
  a229 := Try.isAgg162
  z229 := Try.sizeOf162
  v229 := Try.zeroValue162 }
open Go.Sort Go.RowKit in
theorem slices_Sort_string (blk off cap : Nat) (ss : List (List UInt8)) (w : World) (hH : Holds encStr w blk off ss.toArray) (hblk : blk < w.heap.size) (hsz : ss.length < 4611686018427387904) :
    Calls Try.prog 94 #[.slice (some ⟨blk, off, none⟩) ss.length cap] w fun e w' =>
      e = .returned (.tuple #[]) ∧ ∃ n os, w' = grow (putRow encStr (Sort.ahead w n) blk off (ss.mergeSort fun x y => decide (x ≤ y)).toArray) os := Any.slices_Sort_string lays190 blk off cap ss w hH hblk hsz
def lays194_ren : Go.Shelf.Ren := ⟨fun | 194 => 95 | n => n, fun | 31 => 57 | 9 => 9 | 3 => 3 | 4 => 4 | 0 => 0 | n => n, fun | n => n⟩
theorem lays194 : Go.Proofs.Lays.n194 Try.prog lays194_ren := {
  mixed := by kernel_rfl
  f194 := Try.func95.trans (congrArg some (by kernel_rfl))
  t0 := Try.underlying0
  a0 := Try.isAgg0
  z0 := Try.sizeOf0
  v0 := Try.zeroValue0
  t3 := Try.underlying3
  a3 := Try.isAgg3
  z3 := Try.sizeOf3
  v3 := Try.zeroValue3
  t4 := Try.underlying4
  a4 := Try.isAgg4
  z4 := Try.sizeOf4
  v4 := Try.zeroValue4
  t9 := Try.underlying9
  a9 := Try.isAgg9
  z9 := Try.sizeOf9
  v9 := Try.zeroValue9
  t31 := Try.underlying57
  a31 := Try.isAgg57
  z31 := Try.sizeOf57
  v31 := Try.zeroValue57 }
open Go.RowKit Go.Lib Go.Sort in
theorem slices_Compact_string (blk off cap : Nat) (zs : List (List UInt8)) (w : World) (hH : Holds encStr w blk off zs.toArray) (hsz : zs.length ≤ 9223372036854775807) (hcap : zs.length ≤ cap) :
    Calls Try.prog 95 #[.slice (some ⟨blk,off,none⟩) zs.length cap] w fun e w' => e = .returned (.slice (some ⟨blk,off,none⟩) (Lib.compact zs).length cap) ∧ ∃ q,w' = putRow encStr (Sort.ahead w q) blk off (Lib.compact zs ++ List.replicate (zs.length - (Lib.compact zs).length) []).toArray := Any.slices_Compact_string lays194 blk off cap zs w hH hsz hcap
open Go.RowKit Go.Lib Go.Sort in
theorem slices_Compact_string_empty (a : Option Addr) (cap : Nat) (w : World) :
    Calls Try.prog 95 #[.slice a 0 cap] w fun e w' => e = .returned (.slice a 0 cap) ∧ w' = w := Any.slices_Compact_string_empty lays194 a cap w
open Go.RowKit Go.Sort in
theorem slices_Sort_string_none (p : Option Addr) (cap : Nat) (w : World) :
    Calls Try.prog 94 #[.slice p 0 cap] w fun e w' => e = .returned (.tuple #[]) ∧ w' = w := Any.slices_Sort_string_none lays190 p cap w
end Go.Proofs.Ytpopgpjojbngcaa
