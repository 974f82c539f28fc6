/- The library's slices.Sort at []int, by its contract on the kit's shelf (the layings written by the kit's lay-shelf and lay-plain for this seat); as a contract of the machine. -/
import Derived.Shelf.Sort.Plain
import Derived.Test.YtpopgpjojbngcaaAvmR
import Derived.Test.YtpopgpjojbngcaaBase
set_option linter.unusedSimpArgs false
set_option linter.unusedVariables false
namespace Go.Proofs.Ytpopgpjojbngcaa
open Go.Shelf
def lays189_ren : Go.Shelf.Ren := ⟨fun | 189 => 74 | 125 => 107 | 257 => 106 | 128 => 130 | 129 => 131 | 294 => 121 | 295 => 122 | 296 => 123 | 297 => 124 | 298 => 125 | 299 => 126 | 216 => 127 | 300 => 128 | 301 => 129 | 328 => 144 | 329 => 145 | 330 => 146 | 331 => 147 | 332 => 148 | 215 => 149 | 343 => 155 | n => n, fun | 28 => 22 | 3 => 3 | 46 => 31 | 0 => 0 | 51 => 143 | 53 => 134 | 4 => 4 | 183 => 137 | 182 => 136 | 131 => 74 | 5 => 5 | 9 => 9 | 218 => 153 | 222 => 157 | 228 => 161 | 229 => 162 | n => n, fun | n => n⟩
theorem lays189 : Lays.n189 Try.prog lays189_ren := {
  mixed := by kernel_rfl
  f125 := Try.func107.trans (congrArg some (by kernel_rfl))
  f128 := Try.func130.trans (congrArg some (by kernel_rfl))
  f129 := Try.func131.trans (congrArg some (by kernel_rfl))
  f189 := Try.func74.trans (congrArg some (by kernel_rfl))
  f215 := Try.func149.trans (congrArg some (by kernel_rfl))
  f216 := Try.func127.trans (congrArg some (by kernel_rfl))
  f257 := Try.func106.trans (congrArg some (by kernel_rfl))
  f294 := Try.func121.trans (congrArg some (by kernel_rfl))
  f295 := Try.func122.trans (congrArg some (by kernel_rfl))
  f296 := Try.func123.trans (congrArg some (by kernel_rfl))
  f297 := Try.func124.trans (congrArg some (by kernel_rfl))
  f298 := Try.func125.trans (congrArg some (by kernel_rfl))
  f299 := Try.func126.trans (congrArg some (by kernel_rfl))
  f300 := Try.func128.trans (congrArg some (by kernel_rfl))
  f301 := Try.func129.trans (congrArg some (by kernel_rfl))
  f328 := Try.func144.trans (congrArg some (by kernel_rfl))
  f329 := Try.func145.trans (congrArg some (by kernel_rfl))
  f330 := Try.func146.trans (congrArg some (by kernel_rfl))
  f331 := Try.func147.trans (congrArg some (by kernel_rfl))
  f332 := Try.func148.trans (congrArg some (by kernel_rfl))
  f343 := Try.func155.trans (congrArg some (by kernel_rfl))
  t0 := Try.underlying0
  a0 := Try.isAgg0
  z0 := Try.sizeOf0
  v0 := Try.zeroValue0
  t3 := Try.underlying3
  a3 := Try.isAgg3
  z3 := Try.sizeOf3
  v3 := Try.zeroValue3
  t4 := Try.underlying4
  a4 := Try.isAgg4
  z4 := Try.sizeOf4
  v4 := Try.zeroValue4
  t5 := Try.underlying5
  a5 := Try.isAgg5
  z5 := Try.sizeOf5
  v5 := Try.zeroValue5
  t9 := Try.underlying9
  a9 := Try.isAgg9
  z9 := Try.sizeOf9
  v9 := Try.zeroValue9
  t28 := Try.underlying22
  a28 := Try.isAgg22
  z28 := Try.sizeOf22
  v28 := Try.zeroValue22
  t46 := Try.underlying31
  a46 := Try.isAgg31
  z46 := Try.sizeOf31
  v46 := Try.zeroValue31
  t51 := Try.underlying143
  a51 := Try.isAgg143
  z51 := Try.sizeOf143
  v51 := Try.zeroValue143
  t53 := Try.underlying134
  a53 := Try.isAgg134
  z53 := Try.sizeOf134
  v53 := Try.zeroValue134
  t131 := Try.underlying74
  a131 := Try.isAgg74
  z131 := Try.sizeOf74
  v131 := Try.zeroValue74
  t182 := Try.underlying136
  a182 := Try.isAgg136
  z182 := Try.sizeOf136
  v182 := Try.zeroValue136
  t183 := Try.underlying137
  a183 := Try.isAgg137
  z183 := Try.sizeOf137
  v183 := Try.zeroValue137
  t218 := Try.underlying153
  a218 := Try.isAgg153
  z218 := Try.sizeOf153
  v218 := Try.zeroValue153
  t222 := Try.underlying157
  a222 := Try.isAgg157
  z222 := Try.sizeOf157
  v222 := Try.zeroValue157
  t228 := Try.underlying161
  a228 := Try.isAgg161
  z228 := Try.sizeOf161
  v228 := Try.zeroValue161
  t229 := Try.underlying162
  a229 := Try.isAgg162
  z229 := Try.sizeOf162
  v229 := Try.zeroValue162 }
open Go.Sort Go.RowKit in
theorem slices_Sort_int (blk off cap : Nat) (zs : List Int) (w : World) (hH : Holds (Value.int .i64) w blk off zs.toArray) (hblk : blk < w.heap.size) (hsz : zs.length < 4611686018427387904) :
    Calls Try.prog 74 #[.slice (some ⟨blk, off, none⟩) zs.length cap] w fun e w' =>
      e = .returned (.tuple #[]) ∧ ∃ n os, w' = grow (putRow (Value.int .i64) (Sort.ahead w n) blk off (zs.mergeSort fun x y => decide (x ≤ y)).toArray) os := Any.slices_Sort_int lays189 blk off cap zs w hH hblk hsz
open Go.RowKit Go.Avm
-- CON slices.Sort[[]int,int] | sorti_calls ?_ ?_ ?_ | 2
def rowI (z : Int) : List D := [.sc (.int .i64 z)]
def sortI (l : List Int) : List Int := l.mergeSort fun x y => decide (x ≤ y)
theorem sorti_calls {zs : List Int} {n : Nat} (hn : zs.length = n) (h0 : 0 < n) (hl : n ≤ 1000000) : MCalls Try.prog 74 [.row 1 (zs.map rowI)] [.slo 0 1 0 n] (.tup []) [.row 1 ((sortI zs).map rowI)] := by
  subst hn
  exact sort_calls (enc := Value.int .i64) sortI (fun l => by simp [sortI]) (fun _ => rfl) call74 (fun blk cap zs w hH hb hs => slices_Sort_int blk 0 cap zs w hH hb hs) (fun e => by subst e; simp at h0) hl
end Go.Proofs.Ytpopgpjojbngcaa
