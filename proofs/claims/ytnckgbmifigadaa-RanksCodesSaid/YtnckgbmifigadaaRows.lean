/-
  No cell of these rows narrows 'for every input' (looked for: loops, veiled, ifaces, maps, wideKeys, modest, calm, conditions, laid).
  DERIVED. THE GIVEN ROWS OF THIS SEAT. 13 by the template 'for every input the law returns true; each argument reads behind the call as it read before'; 0 by the template 'total and deterministic' (their statements: YtnckgbmifigadaaTotals.lean).
  GIVEN WITH THE SEED: the statements are not yours to turn. If you find one false, say at which input.
  Laid BY PROGRAM, IN A SANDBOX (cutbox-rows.mjs): the forced cells as the released guide's own fill.sh prints them over the translation 52ba160adec8aa31… (all of the seat's roots in one cut). By AI agents, Wed Nov 11 2026. No macro, syntax, notation, axiom, sorry.
-/
import Derived.Test.YtnckgbmifigadaaChecked
import GoSem.Claim
import GoSem.ClaimJoined
import GoSem.ClaimMapViews
import Derived.JoinedTies
import Derived.KernelRfl
namespace Go.Proofs.Ytnckgbmifigadaa
/- THE CELL 'sum', in the pinned program and in every row, IS THE sha256 OF THE DUMP (.gsa) THAT YtnckgbmifigadaaProg.lean LOADS. Nothing in Lean hashes anything: it is a label: what it is worth is what the hold of that sum in a sandbox is worth. -/
noncomputable def Try.pinned : Pinned := { name := "ytnckgbmifigadaa", sum := "52ba160adec8aa316fdad5eec8b908bf096ff00639f6b0aa440687f906732c0e", checked := Try.checked }
namespace Rows
def none {H : Type} : Left H := { results := [], args := [] }

/-- 'sketchstorelaw9.TopkInserts': WHATEVER THE INPUT: true; the input reads as it did. -/
def topkInsertsSpec : ChangeSpec := { name := "topkInserts", fn := fun _ => fun
  | [d1, d2, d3] => { results := [.lit (.bool true)], args := [d1, d2, d3] }
  | _ => none }
def topkInsertsRow : OpenClaim := { program := "ytnckgbmifigadaa", sum := "52ba160adec8aa316fdad5eec8b908bf096ff00639f6b0aa440687f906732c0e", func := "sketchstore/sketchstorelaw9.TopkInserts", spec := "topkInserts", inPlace := ["internal/bytealg.abigen_runtime_cmpstring"], unfollowed := true, recurses := true, apart := false }
def TopkInsertsSaid : Prop := topkInsertsRow.holds Try.pinned (OpenSpec.ofChange topkInsertsSpec)

/-- ITS FALSE NEIGHBOUR: 'it returns false'. Refute it at one input. -/
def topkInsertsWrong : ChangeSpec := { name := "topkInserts", fn := fun _ => fun
  | [d1, d2, d3] => { results := [.lit (.bool false)], args := [d1, d2, d3] }
  | _ => none }
def TopkInsertsWrongFalsely : Prop := topkInsertsRow.holds Try.pinned (OpenSpec.ofChange topkInsertsWrong)

/-- 'sketchstorelaw9.TopkHeavy': WHATEVER THE INPUT: true; the input reads as it did. -/
def topkHeavySpec : ChangeSpec := { name := "topkHeavy", fn := fun _ => fun
  | [d1, d2] => { results := [.lit (.bool true)], args := [d1, d2] }
  | _ => none }
def topkHeavyRow : OpenClaim := { program := "ytnckgbmifigadaa", sum := "52ba160adec8aa316fdad5eec8b908bf096ff00639f6b0aa440687f906732c0e", func := "sketchstore/sketchstorelaw9.TopkHeavy", spec := "topkHeavy", inPlace := ["internal/bytealg.abigen_runtime_cmpstring"], unfollowed := true, recurses := true, apart := false }
def TopkHeavySaid : Prop := topkHeavyRow.holds Try.pinned (OpenSpec.ofChange topkHeavySpec)

/-- ITS FALSE NEIGHBOUR: 'it returns false'. Refute it at one input. -/
def topkHeavyWrong : ChangeSpec := { name := "topkHeavy", fn := fun _ => fun
  | [d1, d2] => { results := [.lit (.bool false)], args := [d1, d2] }
  | _ => none }
def TopkHeavyWrongFalsely : Prop := topkHeavyRow.holds Try.pinned (OpenSpec.ofChange topkHeavyWrong)

/-- 'sketchstorelaw11.RanksInserts': WHATEVER THE INPUT: true; the input reads as it did. -/
def ranksInsertsSpec : ChangeSpec := { name := "ranksInserts", fn := fun _ => fun
  | [d1, d2, d3, d4, d5] => { results := [.lit (.bool true)], args := [d1, d2, d3, d4, d5] }
  | _ => none }
def ranksInsertsRow : OpenClaim := { program := "ytnckgbmifigadaa", sum := "52ba160adec8aa316fdad5eec8b908bf096ff00639f6b0aa440687f906732c0e", func := "sketchstore/sketchstorelaw11.RanksInserts", spec := "ranksInserts", recurses := true, apart := false }
def RanksInsertsSaid : Prop := ranksInsertsRow.holds Try.pinned (OpenSpec.ofChange ranksInsertsSpec)

/-- ITS FALSE NEIGHBOUR: 'it returns false'. Refute it at one input. -/
def ranksInsertsWrong : ChangeSpec := { name := "ranksInserts", fn := fun _ => fun
  | [d1, d2, d3, d4, d5] => { results := [.lit (.bool false)], args := [d1, d2, d3, d4, d5] }
  | _ => none }
def RanksInsertsWrongFalsely : Prop := ranksInsertsRow.holds Try.pinned (OpenSpec.ofChange ranksInsertsWrong)

/-- 'sketchstorelaw11.RanksExact': WHATEVER THE INPUT: true; the input reads as it did. -/
def ranksExactSpec : ChangeSpec := { name := "ranksExact", fn := fun _ => fun
  | [d1, d2, d3] => { results := [.lit (.bool true)], args := [d1, d2, d3] }
  | _ => none }
def ranksExactRow : OpenClaim := { program := "ytnckgbmifigadaa", sum := "52ba160adec8aa316fdad5eec8b908bf096ff00639f6b0aa440687f906732c0e", func := "sketchstore/sketchstorelaw11.RanksExact", spec := "ranksExact", recurses := true, apart := false }
def RanksExactSaid : Prop := ranksExactRow.holds Try.pinned (OpenSpec.ofChange ranksExactSpec)

/-- ITS FALSE NEIGHBOUR: 'it returns false'. Refute it at one input. -/
def ranksExactWrong : ChangeSpec := { name := "ranksExact", fn := fun _ => fun
  | [d1, d2, d3] => { results := [.lit (.bool false)], args := [d1, d2, d3] }
  | _ => none }
def RanksExactWrongFalsely : Prop := ranksExactRow.holds Try.pinned (OpenSpec.ofChange ranksExactWrong)

/-- 'sketchstorelaw9.TopkMerges': WHATEVER THE INPUT: true; the input reads as it did. -/
def topkMergesSpec : ChangeSpec := { name := "topkMerges", fn := fun _ => fun
  | [d1, d2, d3, d4] => { results := [.lit (.bool true)], args := [d1, d2, d3, d4] }
  | _ => none }
def topkMergesRow : OpenClaim := { program := "ytnckgbmifigadaa", sum := "52ba160adec8aa316fdad5eec8b908bf096ff00639f6b0aa440687f906732c0e", func := "sketchstore/sketchstorelaw9.TopkMerges", spec := "topkMerges", inPlace := ["internal/bytealg.abigen_runtime_cmpstring"], unfollowed := true, recurses := true, apart := false }
def TopkMergesSaid : Prop := topkMergesRow.holds Try.pinned (OpenSpec.ofChange topkMergesSpec)

/-- ITS FALSE NEIGHBOUR: 'it returns false'. Refute it at one input. -/
def topkMergesWrong : ChangeSpec := { name := "topkMerges", fn := fun _ => fun
  | [d1, d2, d3, d4] => { results := [.lit (.bool false)], args := [d1, d2, d3, d4] }
  | _ => none }
def TopkMergesWrongFalsely : Prop := topkMergesRow.holds Try.pinned (OpenSpec.ofChange topkMergesWrong)

/-- 'sketchstorelaw9.TopkBounds': WHATEVER THE INPUT: true; the input reads as it did. -/
def topkBoundsSpec : ChangeSpec := { name := "topkBounds", fn := fun _ => fun
  | [d1, d2, d3, d4] => { results := [.lit (.bool true)], args := [d1, d2, d3, d4] }
  | _ => none }
def topkBoundsRow : OpenClaim := { program := "ytnckgbmifigadaa", sum := "52ba160adec8aa316fdad5eec8b908bf096ff00639f6b0aa440687f906732c0e", func := "sketchstore/sketchstorelaw9.TopkBounds", spec := "topkBounds", inPlace := ["internal/bytealg.abigen_runtime_cmpstring"], unfollowed := true, recurses := true, apart := false }
def TopkBoundsSaid : Prop := topkBoundsRow.holds Try.pinned (OpenSpec.ofChange topkBoundsSpec)

/-- ITS FALSE NEIGHBOUR: 'it returns false'. Refute it at one input. -/
def topkBoundsWrong : ChangeSpec := { name := "topkBounds", fn := fun _ => fun
  | [d1, d2, d3, d4] => { results := [.lit (.bool false)], args := [d1, d2, d3, d4] }
  | _ => none }
def TopkBoundsWrongFalsely : Prop := topkBoundsRow.holds Try.pinned (OpenSpec.ofChange topkBoundsWrong)

/-- 'sketchstorelaw9.TopkCommutes': WHATEVER THE INPUT: true; the input reads as it did. -/
def topkCommutesSpec : ChangeSpec := { name := "topkCommutes", fn := fun _ => fun
  | [d1, d2, d3] => { results := [.lit (.bool true)], args := [d1, d2, d3] }
  | _ => none }
def topkCommutesRow : OpenClaim := { program := "ytnckgbmifigadaa", sum := "52ba160adec8aa316fdad5eec8b908bf096ff00639f6b0aa440687f906732c0e", func := "sketchstore/sketchstorelaw9.TopkCommutes", spec := "topkCommutes", inPlace := ["internal/bytealg.abigen_runtime_cmpstring"], unfollowed := true, recurses := true, apart := false }
def TopkCommutesSaid : Prop := topkCommutesRow.holds Try.pinned (OpenSpec.ofChange topkCommutesSpec)

/-- ITS FALSE NEIGHBOUR: 'it returns false'. Refute it at one input. -/
def topkCommutesWrong : ChangeSpec := { name := "topkCommutes", fn := fun _ => fun
  | [d1, d2, d3] => { results := [.lit (.bool false)], args := [d1, d2, d3] }
  | _ => none }
def TopkCommutesWrongFalsely : Prop := topkCommutesRow.holds Try.pinned (OpenSpec.ofChange topkCommutesWrong)

/-- 'sketchstorelaw11.RanksMerges': WHATEVER THE INPUT: true; the input reads as it did. -/
def ranksMergesSpec : ChangeSpec := { name := "ranksMerges", fn := fun _ => fun
  | [d1, d2, d3, d4, d5, d6] => { results := [.lit (.bool true)], args := [d1, d2, d3, d4, d5, d6] }
  | _ => none }
def ranksMergesRow : OpenClaim := { program := "ytnckgbmifigadaa", sum := "52ba160adec8aa316fdad5eec8b908bf096ff00639f6b0aa440687f906732c0e", func := "sketchstore/sketchstorelaw11.RanksMerges", spec := "ranksMerges", recurses := true, apart := false }
def RanksMergesSaid : Prop := ranksMergesRow.holds Try.pinned (OpenSpec.ofChange ranksMergesSpec)

/-- ITS FALSE NEIGHBOUR: 'it returns false'. Refute it at one input. -/
def ranksMergesWrong : ChangeSpec := { name := "ranksMerges", fn := fun _ => fun
  | [d1, d2, d3, d4, d5, d6] => { results := [.lit (.bool false)], args := [d1, d2, d3, d4, d5, d6] }
  | _ => none }
def RanksMergesWrongFalsely : Prop := ranksMergesRow.holds Try.pinned (OpenSpec.ofChange ranksMergesWrong)

/-- 'sketchstorelaw11.RanksBounds': WHATEVER THE INPUT: true; the input reads as it did. -/
def ranksBoundsSpec : ChangeSpec := { name := "ranksBounds", fn := fun _ => fun
  | [d1, d2, d3, d4, d5] => { results := [.lit (.bool true)], args := [d1, d2, d3, d4, d5] }
  | _ => none }
def ranksBoundsRow : OpenClaim := { program := "ytnckgbmifigadaa", sum := "52ba160adec8aa316fdad5eec8b908bf096ff00639f6b0aa440687f906732c0e", func := "sketchstore/sketchstorelaw11.RanksBounds", spec := "ranksBounds", recurses := true, apart := false }
def RanksBoundsSaid : Prop := ranksBoundsRow.holds Try.pinned (OpenSpec.ofChange ranksBoundsSpec)

/-- ITS FALSE NEIGHBOUR: 'it returns false'. Refute it at one input. -/
def ranksBoundsWrong : ChangeSpec := { name := "ranksBounds", fn := fun _ => fun
  | [d1, d2, d3, d4, d5] => { results := [.lit (.bool false)], args := [d1, d2, d3, d4, d5] }
  | _ => none }
def RanksBoundsWrongFalsely : Prop := ranksBoundsRow.holds Try.pinned (OpenSpec.ofChange ranksBoundsWrong)

/-- 'sketchstorelaw11.RanksQueries': WHATEVER THE INPUT: true; the input reads as it did. -/
def ranksQueriesSpec : ChangeSpec := { name := "ranksQueries", fn := fun _ => fun
  | [d1, d2, d3, d4, d5, d6] => { results := [.lit (.bool true)], args := [d1, d2, d3, d4, d5, d6] }
  | _ => none }
def ranksQueriesRow : OpenClaim := { program := "ytnckgbmifigadaa", sum := "52ba160adec8aa316fdad5eec8b908bf096ff00639f6b0aa440687f906732c0e", func := "sketchstore/sketchstorelaw11.RanksQueries", spec := "ranksQueries", recurses := true, apart := false }
def RanksQueriesSaid : Prop := ranksQueriesRow.holds Try.pinned (OpenSpec.ofChange ranksQueriesSpec)

/-- ITS FALSE NEIGHBOUR: 'it returns false'. Refute it at one input. -/
def ranksQueriesWrong : ChangeSpec := { name := "ranksQueries", fn := fun _ => fun
  | [d1, d2, d3, d4, d5, d6] => { results := [.lit (.bool false)], args := [d1, d2, d3, d4, d5, d6] }
  | _ => none }
def RanksQueriesWrongFalsely : Prop := ranksQueriesRow.holds Try.pinned (OpenSpec.ofChange ranksQueriesWrong)

/-- 'sketchstorelaw11.RanksOrder': WHATEVER THE INPUT: true; the input reads as it did. -/
def ranksOrderSpec : ChangeSpec := { name := "ranksOrder", fn := fun _ => fun
  | [d1, d2, d3, d4, d5, d6] => { results := [.lit (.bool true)], args := [d1, d2, d3, d4, d5, d6] }
  | _ => none }
def ranksOrderRow : OpenClaim := { program := "ytnckgbmifigadaa", sum := "52ba160adec8aa316fdad5eec8b908bf096ff00639f6b0aa440687f906732c0e", func := "sketchstore/sketchstorelaw11.RanksOrder", spec := "ranksOrder", recurses := true, apart := false }
def RanksOrderSaid : Prop := ranksOrderRow.holds Try.pinned (OpenSpec.ofChange ranksOrderSpec)

/-- ITS FALSE NEIGHBOUR: 'it returns false'. Refute it at one input. -/
def ranksOrderWrong : ChangeSpec := { name := "ranksOrder", fn := fun _ => fun
  | [d1, d2, d3, d4, d5, d6] => { results := [.lit (.bool false)], args := [d1, d2, d3, d4, d5, d6] }
  | _ => none }
def RanksOrderWrongFalsely : Prop := ranksOrderRow.holds Try.pinned (OpenSpec.ofChange ranksOrderWrong)

/-- 'sketchstorelaw9.TopkCodes': WHATEVER THE INPUT: true; the input reads as it did. -/
def topkCodesSpec : ChangeSpec := { name := "topkCodes", fn := fun _ => fun
  | [d1, d2, d3, d4] => { results := [.lit (.bool true)], args := [d1, d2, d3, d4] }
  | _ => none }
def topkCodesRow : OpenClaim := { program := "ytnckgbmifigadaa", sum := "52ba160adec8aa316fdad5eec8b908bf096ff00639f6b0aa440687f906732c0e", func := "sketchstore/sketchstorelaw9.TopkCodes", spec := "topkCodes", inPlace := ["internal/bytealg.abigen_runtime_cmpstring"], unfollowed := true, recurses := true, apart := false }
def TopkCodesSaid : Prop := topkCodesRow.holds Try.pinned (OpenSpec.ofChange topkCodesSpec)

/-- ITS FALSE NEIGHBOUR: 'it returns false'. Refute it at one input. -/
def topkCodesWrong : ChangeSpec := { name := "topkCodes", fn := fun _ => fun
  | [d1, d2, d3, d4] => { results := [.lit (.bool false)], args := [d1, d2, d3, d4] }
  | _ => none }
def TopkCodesWrongFalsely : Prop := topkCodesRow.holds Try.pinned (OpenSpec.ofChange topkCodesWrong)

/-- 'sketchstorelaw11.RanksCodes': WHATEVER THE INPUT: true; the input reads as it did. -/
def ranksCodesSpec : ChangeSpec := { name := "ranksCodes", fn := fun _ => fun
  | [d1, d2, d3, d4, d5] => { results := [.lit (.bool true)], args := [d1, d2, d3, d4, d5] }
  | _ => none }
def ranksCodesRow : OpenClaim := { program := "ytnckgbmifigadaa", sum := "52ba160adec8aa316fdad5eec8b908bf096ff00639f6b0aa440687f906732c0e", func := "sketchstore/sketchstorelaw11.RanksCodes", spec := "ranksCodes", recurses := true, apart := false }
def RanksCodesSaid : Prop := ranksCodesRow.holds Try.pinned (OpenSpec.ofChange ranksCodesSpec)

/-- ITS FALSE NEIGHBOUR: 'it returns false'. Refute it at one input. -/
def ranksCodesWrong : ChangeSpec := { name := "ranksCodes", fn := fun _ => fun
  | [d1, d2, d3, d4, d5] => { results := [.lit (.bool false)], args := [d1, d2, d3, d4, d5] }
  | _ => none }
def RanksCodesWrongFalsely : Prop := ranksCodesRow.holds Try.pinned (OpenSpec.ofChange ranksCodesWrong)

/- THE SECOND FORM. 'bulk': how many values and letters a reading holds, each counted each time it is reached (what is shared counts as often as it is met; a slice's spare places count too). A statement '..UptoSaid' is the law's where the arguments, and the package variables that the reading takes, are together of bulk at most 1048576: NARROWER than '..Said'. Prove '..Said' where nothing that the law and all that it calls make is longer than what came in: it says more and counts as full. Else prove '..UptoSaid'. A law counts once. -/
mutual
def uptoBulk {H : Type} : DataW H → Nat
  | .lit (.string bytes) => bytes.length + 1
  | .lit _ => 1
  | .nil => 1
  | .ptr d => uptoBulk d + 1
  | .slice elems spare => uptoBulkAll elems + uptoBulkAll spare + 1
  | .agg parts => uptoBulkAll parts + 1
  | .iface _ d => uptoBulk d + 1
  | .map entries => uptoBulkEntries entries + 1
  | .held _ => 1
def uptoBulkAll {H : Type} : List (DataW H) → Nat
  | [] => 0
  | d :: r => uptoBulk d + uptoBulkAll r
def uptoBulkEntries {H : Type} : List (Lit × DataW H) → Nat
  | [] => 0
  | x :: r => uptoBulkEntry x + uptoBulkEntries r
def uptoBulkEntry {H : Type} : Lit × DataW H → Nat
  | (.string bytes, d) => bytes.length + uptoBulk d + 1
  | (_, d) => uptoBulk d + 1
 end
def uptoSmall : (H : Type) → List (DataW H) → Bool := fun _ ds => decide (uptoBulkAll ds ≤ 1048576)
def OpenSpec.upto (s : _root_.Go.ChangeSpec) : _root_.Go.OpenSpec := { _root_.Go.OpenSpec.ofChange s with cond := some uptoSmall }

/-- 'sketchstorelaw9.TopkInserts', WHERE WHAT IT READS IS OF BULK AT MOST 1048576: true; the input reads as it did. -/
def topkInsertsUptoRow : OpenClaim := { program := "ytnckgbmifigadaa", sum := "52ba160adec8aa316fdad5eec8b908bf096ff00639f6b0aa440687f906732c0e", func := "sketchstore/sketchstorelaw9.TopkInserts", spec := "topkInserts", inPlace := ["internal/bytealg.abigen_runtime_cmpstring"], unfollowed := true, recurses := true, apart := false, narrowed := true }
def TopkInsertsUptoSaid : Prop := topkInsertsUptoRow.holds Try.pinned (OpenSpec.upto topkInsertsSpec)

/-- 'sketchstorelaw9.TopkHeavy', WHERE WHAT IT READS IS OF BULK AT MOST 1048576: true; the input reads as it did. -/
def topkHeavyUptoRow : OpenClaim := { program := "ytnckgbmifigadaa", sum := "52ba160adec8aa316fdad5eec8b908bf096ff00639f6b0aa440687f906732c0e", func := "sketchstore/sketchstorelaw9.TopkHeavy", spec := "topkHeavy", inPlace := ["internal/bytealg.abigen_runtime_cmpstring"], unfollowed := true, recurses := true, apart := false, narrowed := true }
def TopkHeavyUptoSaid : Prop := topkHeavyUptoRow.holds Try.pinned (OpenSpec.upto topkHeavySpec)

/-- 'sketchstorelaw11.RanksInserts', WHERE WHAT IT READS IS OF BULK AT MOST 1048576: true; the input reads as it did. -/
def ranksInsertsUptoRow : OpenClaim := { program := "ytnckgbmifigadaa", sum := "52ba160adec8aa316fdad5eec8b908bf096ff00639f6b0aa440687f906732c0e", func := "sketchstore/sketchstorelaw11.RanksInserts", spec := "ranksInserts", recurses := true, apart := false, narrowed := true }
def RanksInsertsUptoSaid : Prop := ranksInsertsUptoRow.holds Try.pinned (OpenSpec.upto ranksInsertsSpec)

/-- 'sketchstorelaw11.RanksExact', WHERE WHAT IT READS IS OF BULK AT MOST 1048576: true; the input reads as it did. -/
def ranksExactUptoRow : OpenClaim := { program := "ytnckgbmifigadaa", sum := "52ba160adec8aa316fdad5eec8b908bf096ff00639f6b0aa440687f906732c0e", func := "sketchstore/sketchstorelaw11.RanksExact", spec := "ranksExact", recurses := true, apart := false, narrowed := true }
def RanksExactUptoSaid : Prop := ranksExactUptoRow.holds Try.pinned (OpenSpec.upto ranksExactSpec)

/-- 'sketchstorelaw9.TopkMerges', WHERE WHAT IT READS IS OF BULK AT MOST 1048576: true; the input reads as it did. -/
def topkMergesUptoRow : OpenClaim := { program := "ytnckgbmifigadaa", sum := "52ba160adec8aa316fdad5eec8b908bf096ff00639f6b0aa440687f906732c0e", func := "sketchstore/sketchstorelaw9.TopkMerges", spec := "topkMerges", inPlace := ["internal/bytealg.abigen_runtime_cmpstring"], unfollowed := true, recurses := true, apart := false, narrowed := true }
def TopkMergesUptoSaid : Prop := topkMergesUptoRow.holds Try.pinned (OpenSpec.upto topkMergesSpec)

/-- 'sketchstorelaw9.TopkBounds', WHERE WHAT IT READS IS OF BULK AT MOST 1048576: true; the input reads as it did. -/
def topkBoundsUptoRow : OpenClaim := { program := "ytnckgbmifigadaa", sum := "52ba160adec8aa316fdad5eec8b908bf096ff00639f6b0aa440687f906732c0e", func := "sketchstore/sketchstorelaw9.TopkBounds", spec := "topkBounds", inPlace := ["internal/bytealg.abigen_runtime_cmpstring"], unfollowed := true, recurses := true, apart := false, narrowed := true }
def TopkBoundsUptoSaid : Prop := topkBoundsUptoRow.holds Try.pinned (OpenSpec.upto topkBoundsSpec)

/-- 'sketchstorelaw9.TopkCommutes', WHERE WHAT IT READS IS OF BULK AT MOST 1048576: true; the input reads as it did. -/
def topkCommutesUptoRow : OpenClaim := { program := "ytnckgbmifigadaa", sum := "52ba160adec8aa316fdad5eec8b908bf096ff00639f6b0aa440687f906732c0e", func := "sketchstore/sketchstorelaw9.TopkCommutes", spec := "topkCommutes", inPlace := ["internal/bytealg.abigen_runtime_cmpstring"], unfollowed := true, recurses := true, apart := false, narrowed := true }
def TopkCommutesUptoSaid : Prop := topkCommutesUptoRow.holds Try.pinned (OpenSpec.upto topkCommutesSpec)

/-- 'sketchstorelaw11.RanksMerges', WHERE WHAT IT READS IS OF BULK AT MOST 1048576: true; the input reads as it did. -/
def ranksMergesUptoRow : OpenClaim := { program := "ytnckgbmifigadaa", sum := "52ba160adec8aa316fdad5eec8b908bf096ff00639f6b0aa440687f906732c0e", func := "sketchstore/sketchstorelaw11.RanksMerges", spec := "ranksMerges", recurses := true, apart := false, narrowed := true }
def RanksMergesUptoSaid : Prop := ranksMergesUptoRow.holds Try.pinned (OpenSpec.upto ranksMergesSpec)

/-- 'sketchstorelaw11.RanksBounds', WHERE WHAT IT READS IS OF BULK AT MOST 1048576: true; the input reads as it did. -/
def ranksBoundsUptoRow : OpenClaim := { program := "ytnckgbmifigadaa", sum := "52ba160adec8aa316fdad5eec8b908bf096ff00639f6b0aa440687f906732c0e", func := "sketchstore/sketchstorelaw11.RanksBounds", spec := "ranksBounds", recurses := true, apart := false, narrowed := true }
def RanksBoundsUptoSaid : Prop := ranksBoundsUptoRow.holds Try.pinned (OpenSpec.upto ranksBoundsSpec)

/-- 'sketchstorelaw11.RanksQueries', WHERE WHAT IT READS IS OF BULK AT MOST 1048576: true; the input reads as it did. -/
def ranksQueriesUptoRow : OpenClaim := { program := "ytnckgbmifigadaa", sum := "52ba160adec8aa316fdad5eec8b908bf096ff00639f6b0aa440687f906732c0e", func := "sketchstore/sketchstorelaw11.RanksQueries", spec := "ranksQueries", recurses := true, apart := false, narrowed := true }
def RanksQueriesUptoSaid : Prop := ranksQueriesUptoRow.holds Try.pinned (OpenSpec.upto ranksQueriesSpec)

/-- 'sketchstorelaw11.RanksOrder', WHERE WHAT IT READS IS OF BULK AT MOST 1048576: true; the input reads as it did. -/
def ranksOrderUptoRow : OpenClaim := { program := "ytnckgbmifigadaa", sum := "52ba160adec8aa316fdad5eec8b908bf096ff00639f6b0aa440687f906732c0e", func := "sketchstore/sketchstorelaw11.RanksOrder", spec := "ranksOrder", recurses := true, apart := false, narrowed := true }
def RanksOrderUptoSaid : Prop := ranksOrderUptoRow.holds Try.pinned (OpenSpec.upto ranksOrderSpec)

/-- 'sketchstorelaw9.TopkCodes', WHERE WHAT IT READS IS OF BULK AT MOST 1048576: true; the input reads as it did. -/
def topkCodesUptoRow : OpenClaim := { program := "ytnckgbmifigadaa", sum := "52ba160adec8aa316fdad5eec8b908bf096ff00639f6b0aa440687f906732c0e", func := "sketchstore/sketchstorelaw9.TopkCodes", spec := "topkCodes", inPlace := ["internal/bytealg.abigen_runtime_cmpstring"], unfollowed := true, recurses := true, apart := false, narrowed := true }
def TopkCodesUptoSaid : Prop := topkCodesUptoRow.holds Try.pinned (OpenSpec.upto topkCodesSpec)

/-- 'sketchstorelaw11.RanksCodes', WHERE WHAT IT READS IS OF BULK AT MOST 1048576: true; the input reads as it did. -/
def ranksCodesUptoRow : OpenClaim := { program := "ytnckgbmifigadaa", sum := "52ba160adec8aa316fdad5eec8b908bf096ff00639f6b0aa440687f906732c0e", func := "sketchstore/sketchstorelaw11.RanksCodes", spec := "ranksCodes", recurses := true, apart := false, narrowed := true }
def RanksCodesUptoSaid : Prop := ranksCodesUptoRow.holds Try.pinned (OpenSpec.upto ranksCodesSpec)

end Rows
end Go.Proofs.Ytnckgbmifigadaa
