/- The library's slices.Sort and slices.Compact at []int, by their contracts on the kit's shelf (the layings written by the kit's lay-shelf and lay-plain for this seat); as contracts of the machine. -/
import Derived.Shelf.Sort.Plain
import Derived.Shelf.Slices.CompactI
import Derived.Shelf.Slices.In.SortNone
import Derived.Test.YtmgodadmafcliaaRAvmS
import Derived.Test.YtmgodadmafcliaaRCoQ
set_option linter.unusedSimpArgs false
set_option linter.unusedVariables false
namespace Go.Proofs.Ytmgodadmafcliaa
open Go.Shelf
def lays189_ren:Go.Shelf.Ren:=⟨fun|189=>54|125=>97|257=>96|128=>139|129=>140|294=>130|295=>131|296=>132|297=>133|298=>134|299=>135|216=>136|300=>137|301=>138|328=>152|329=>153|330=>154|331=>155|332=>156|215=>129|343=>158|n=>n,fun|28=>22|3=>3|46=>65|0=>0|51=>175|53=>177|4=>4|183=>170|182=>169|131=>117|5=>5|9=>9|218=>189|222=>193|228=>195|229=>196|n=>n,fun|n=>n⟩
theorem lays189:Go.Proofs.Lays.n189 Try.prog lays189_ren:={
 mixed:=by kernel_rfl
 f125:=Try.func97.trans (congrArg some (by kernel_rfl))
 f128:=Try.func139.trans (congrArg some (by kernel_rfl))
 f129:=Try.func140.trans (congrArg some (by kernel_rfl))
 f189:=Try.func54.trans (congrArg some (by kernel_rfl))
 f215:=Try.func129.trans (congrArg some (by kernel_rfl))
 f216:=Try.func136.trans (congrArg some (by kernel_rfl))
 f257:=Try.func96.trans (congrArg some (by kernel_rfl))
 f294:=Try.func130.trans (congrArg some (by kernel_rfl))
 f295:=Try.func131.trans (congrArg some (by kernel_rfl))
 f296:=Try.func132.trans (congrArg some (by kernel_rfl))
 f297:=Try.func133.trans (congrArg some (by kernel_rfl))
 f298:=Try.func134.trans (congrArg some (by kernel_rfl))
 f299:=Try.func135.trans (congrArg some (by kernel_rfl))
 f300:=Try.func137.trans (congrArg some (by kernel_rfl))
 f301:=Try.func138.trans (congrArg some (by kernel_rfl))
 f328:=Try.func152.trans (congrArg some (by kernel_rfl))
 f329:=Try.func153.trans (congrArg some (by kernel_rfl))
 f330:=Try.func154.trans (congrArg some (by kernel_rfl))
 f331:=Try.func155.trans (congrArg some (by kernel_rfl))
 f332:=Try.func156.trans (congrArg some (by kernel_rfl))
 f343:=Try.func158.trans (congrArg some (by kernel_rfl))
 t0:=Try.underlying0
 a0:=Try.isAgg0
 z0:=Try.sizeOf0
 v0:=Try.zeroValue0
 t3:=Try.underlying3
 a3:=Try.isAgg3
 z3:=Try.sizeOf3
 v3:=Try.zeroValue3
 t4:=Try.underlying4
 a4:=Try.isAgg4
 z4:=Try.sizeOf4
 v4:=Try.zeroValue4
 t5:=Try.underlying5
 a5:=Try.isAgg5
 z5:=Try.sizeOf5
 v5:=Try.zeroValue5
 t9:=Try.underlying9
 a9:=Try.isAgg9
 z9:=Try.sizeOf9
 v9:=Try.zeroValue9
 t28:=Try.underlying22
 a28:=Try.isAgg22
 z28:=Try.sizeOf22
 v28:=Try.zeroValue22
 t46:=Try.underlying65
 a46:=Try.isAgg65
 z46:=Try.sizeOf65
 v46:=Try.zeroValue65
 t51:=Try.underlying175
 a51:=Try.isAgg175
 z51:=Try.sizeOf175
 v51:=Try.zeroValue175
 t53:=Try.underlying177
 a53:=Try.isAgg177
 z53:=Try.sizeOf177
 v53:=Try.zeroValue177
 t131:=Try.underlying117
 a131:=Try.isAgg117
 z131:=Try.sizeOf117
 v131:=Try.zeroValue117
 t182:=Try.underlying169
 a182:=Try.isAgg169
 z182:=Try.sizeOf169
 v182:=Try.zeroValue169
 t183:=Try.underlying170
 a183:=Try.isAgg170
 z183:=Try.sizeOf170
 v183:=Try.zeroValue170
 t218:=Try.underlying189
 a218:=Try.isAgg189
 z218:=Try.sizeOf189
 v218:=Try.zeroValue189
 t222:=Try.underlying193
 a222:=Try.isAgg193
 z222:=Try.sizeOf193
 v222:=Try.zeroValue193
 t228:=Try.underlying195
 a228:=Try.isAgg195
 z228:=Try.sizeOf195
 v228:=Try.zeroValue195
 t229:=Try.underlying196
 a229:=Try.isAgg196
 z229:=Try.sizeOf196
 v229:=Try.zeroValue196 }
open Go.Sort Go.RowKit in
theorem slices_Sort_int (blk off cap:Nat) (zs:List Int) (w:World) (hH:Holds (Value.int .i64) w blk off zs.toArray) (hblk:blk<w.heap.size) (hsz:zs.length<4611686018427387904):
  Calls Try.prog 54 #[.slice (some ⟨blk,off,none⟩) zs.length cap] w fun e w'=>
   e = .returned (.tuple #[])∧ ∃ n os,w'=grow (putRow (Value.int .i64) (Sort.ahead w n) blk off (zs.mergeSort fun x y=>decide (x≤y)).toArray) os:=Any.slices_Sort_int lays189 blk off cap zs w hH hblk hsz
def laysNm220_ren:Go.Shelf.Ren:=⟨fun|20=>55|n=>n,fun|22=>22|3=>3|4=>4|0=>0|n=>n,fun|n=>n⟩
theorem laysNm220:Go.Proofs.Lays2.n20 Try.prog laysNm220_ren:={
 mixed:=by kernel_rfl
 f20:=Try.func55.trans (congrArg some (by kernel_rfl))
 t0:=Try.underlying0
 a0:=Try.isAgg0
 z0:=Try.sizeOf0
 v0:=Try.zeroValue0
 t3:=Try.underlying3
 a3:=Try.isAgg3
 z3:=Try.sizeOf3
 v3:=Try.zeroValue3
 t4:=Try.underlying4
 a4:=Try.isAgg4
 z4:=Try.sizeOf4
 v4:=Try.zeroValue4
 t22:=Try.underlying22
 a22:=Try.isAgg22
 z22:=Try.sizeOf22
 v22:=Try.zeroValue22
 i3:=by kernel_rfl }
open Go.RowKit Go.Lib Go.Sort in
theorem slices_Compact_int (blk off cap:Nat) (zs:List Int) (w:World) (hH:Holds (Value.int .i64) w blk off zs.toArray) (hsz:zs.length≤9223372036854775807) (hcap:zs.length≤cap):
  Calls Try.prog 55 #[.slice (some ⟨blk,off,none⟩) zs.length cap] w fun e w'=>e = .returned (.slice (some ⟨blk,off,none⟩) (Lib.compact zs).length cap)∧ ∃ q,w'=putRow (Value.int .i64) (Sort.ahead w q) blk off (Lib.compact zs++List.replicate (zs.length-(Lib.compact zs).length) 0).toArray:=Any.slices_Compact_int laysNm220 blk off cap zs w hH hsz hcap
open Go.RowKit Go.Lib Go.Sort in
theorem slices_Compact_int_empty (a:Option Addr) (cap:Nat) (w:World):
  Calls Try.prog 55 #[.slice a 0 cap] w fun e w'=>e = .returned (.slice a 0 cap)∧w'=w:=Any.slices_Compact_int_empty laysNm220 a cap w
open Go.RowKit Go.Sort in
theorem slices_Sort_int_none (p:Option Addr) (cap:Nat) (w:World):
  Calls Try.prog 54 #[.slice p 0 cap] w fun e w'=>e = .returned (.tuple #[])∧w'=w:=Any.slices_Sort_int_none lays189 p cap w
open Go.RowKit Go.Avm
-- CON slices.Sort[[]int,int] | sorti_calls ?_ ?_ ?_ | 2
-- CON slices.Sort[[]int,int] | sorti_none | 2
-- CON slices.Compact[[]int,int] | compi_calls ?_ ?_ ?_ | 2
-- CON slices.Compact[[]int,int] | compi_none | 2
theorem sorti_calls {zs:List Int} {n:Nat} (hn:zs.length=n) (h0:0<n) (hl:n≤1000000):MCalls Try.prog 54 [.row 1 (zs.map rowI)] [.slo 0 1 0 n] (.tup []) [.row 1 ((sortI zs).map rowI)]:=by
 subst hn
 exact sort_calls (enc:=Value.int .i64) sortI (fun l=>by simp [sortI]) (fun _=>rfl) call54 (fun blk cap zs w hH hb hs=>slices_Sort_int blk 0 cap zs w hH hb hs) (fun e=>by subst e;simp at h0) hl
theorem sorti_none:MCalls Try.prog 54 [.row 1 []] [.slo 0 1 0 0] (.tup []) [.row 1 []]:=none_calls call54 slices_Sort_int_none
def restI (zs:List Int):List Int:=Lib.compact zs++List.replicate (zs.length-(Lib.compact zs).length) 0
theorem restI_len (zs:List Int):(restI zs).length=zs.length:=by
 have:=Lib.compact_length_le zs
 simp only [restI,List.length_append,List.length_replicate];omega
theorem restI_take (zs:List Int):(restI zs).take (Lib.compact zs).length=Lib.compact zs:=by
 rw [restI,List.take_left' rfl]
theorem compi_calls {zs:List Int} {n:Nat} (hn:zs.length=n) (h0:0<n) (hl:n≤1000000):MCalls Try.prog 55 [.row 1 (zs.map rowI)] [.slo 0 1 0 n] (.slo 0 1 0 (Lib.compact zs).length) [.row 1 ((restI zs).map rowI)]:=by
 subst hn
 exact head_calls (enc:=Value.int .i64) (P:=Try.prog) restI (fun l=>(Lib.compact l).length) (fun l=>Lib.compact_length_le l) restI_len (fun _=>rfl) call55 (fun blk cap zs w hH hb hs hc=>slices_Compact_int blk 0 cap zs w hH (by omega) hc) (fun e=>by subst e;simp at h0) hl
theorem compi_none:MCalls Try.prog 55 [.row 1 []] [.slo 0 1 0 0] (.slo 0 1 0 0) [.row 1 []]:=none_head call55 slices_Compact_int_empty
end Go.Proofs.Ytmgodadmafcliaa
