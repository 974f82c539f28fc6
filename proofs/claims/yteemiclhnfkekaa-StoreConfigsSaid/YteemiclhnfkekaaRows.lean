/-
  No cell of these rows narrows 'for every input' (looked for: loops, veiled, ifaces, maps, wideKeys, modest, calm, conditions, laid).
  DERIVED. THE GIVEN ROWS OF THIS SEAT. 6 by the template 'for every input the law returns true; each argument reads behind the call as it read before'; 0 by the template 'total and deterministic' (their statements: YteemiclhnfkekaaTotals.lean).
  GIVEN WITH THE SEED: the statements are not yours to turn. If you find one false, say at which input.
  Laid BY PROGRAM, IN A SANDBOX (cutbox-rows.mjs): the forced cells as the released guide's own fill.sh prints them over the translation f7ee2145333198b0… (all of the seat's roots in one cut). By AI agents, Wed Nov 11 2026. No macro, syntax, notation, axiom, sorry.
-/
import Derived.Test.YteemiclhnfkekaaChecked
import GoSem.Claim
import GoSem.ClaimJoined
import GoSem.ClaimMapViews
import Derived.JoinedTies
import Derived.KernelRfl
namespace Go.Proofs.Yteemiclhnfkekaa
/- THE CELL 'sum', in the pinned program and in every row, IS THE sha256 OF THE DUMP (.gsa) THAT YteemiclhnfkekaaProg.lean LOADS. Nothing in Lean hashes anything: it is a label: what it is worth is what the hold of that sum in a sandbox is worth. -/
noncomputable def Try.pinned : Pinned := { name := "yteemiclhnfkekaa", sum := "f7ee2145333198b0d79f05a22c709a754ca5138a90d4d17fc038285ed5f637e4", checked := Try.checked }
namespace Rows
def none {H : Type} : Left H := { results := [], args := [] }

/-- 'sketchstorelaw15.ArenaNew': WHATEVER THE INPUT: true; the input reads as it did. -/
def arenaNewSpec : ChangeSpec := { name := "arenaNew", fn := fun _ => fun
  | [d1, d2] => { results := [.lit (.bool true)], args := [d1, d2] }
  | _ => none }
def arenaNewRow : OpenClaim := { program := "yteemiclhnfkekaa", sum := "f7ee2145333198b0d79f05a22c709a754ca5138a90d4d17fc038285ed5f637e4", func := "sketchstore/sketchstorelaw15.ArenaNew", spec := "arenaNew", apart := false }
def ArenaNewSaid : Prop := arenaNewRow.holds Try.pinned (OpenSpec.ofChange arenaNewSpec)

/-- ITS FALSE NEIGHBOUR: 'it returns false'. Refute it at one input. -/
def arenaNewWrong : ChangeSpec := { name := "arenaNew", fn := fun _ => fun
  | [d1, d2] => { results := [.lit (.bool false)], args := [d1, d2] }
  | _ => none }
def ArenaNewWrongFalsely : Prop := arenaNewRow.holds Try.pinned (OpenSpec.ofChange arenaNewWrong)

/-- 'sketchstorelaw15.ArenaCounts': WHATEVER THE INPUT: true; the input reads as it did. -/
def arenaCountsSpec : ChangeSpec := { name := "arenaCounts", fn := fun _ => fun
  | [d] => { results := [.lit (.bool true)], args := [d] }
  | _ => none }
def arenaCountsRow : OpenClaim := { program := "yteemiclhnfkekaa", sum := "f7ee2145333198b0d79f05a22c709a754ca5138a90d4d17fc038285ed5f637e4", func := "sketchstore/sketchstorelaw15.ArenaCounts", spec := "arenaCounts", apart := false }
def ArenaCountsSaid : Prop := arenaCountsRow.holds Try.pinned (OpenSpec.ofChange arenaCountsSpec)

/-- ITS FALSE NEIGHBOUR: 'it returns false'. Refute it at one input. -/
def arenaCountsWrong : ChangeSpec := { name := "arenaCounts", fn := fun _ => fun
  | [d] => { results := [.lit (.bool false)], args := [d] }
  | _ => none }
def ArenaCountsWrongFalsely : Prop := arenaCountsRow.holds Try.pinned (OpenSpec.ofChange arenaCountsWrong)

/-- 'sketchstorelaw15.ArenaCopies': WHATEVER THE INPUT: true; the input reads as it did. -/
def arenaCopiesSpec : ChangeSpec := { name := "arenaCopies", fn := fun _ => fun
  | [d] => { results := [.lit (.bool true)], args := [d] }
  | _ => none }
def arenaCopiesRow : OpenClaim := { program := "yteemiclhnfkekaa", sum := "f7ee2145333198b0d79f05a22c709a754ca5138a90d4d17fc038285ed5f637e4", func := "sketchstore/sketchstorelaw15.ArenaCopies", spec := "arenaCopies", recurses := true, apart := false }
def ArenaCopiesSaid : Prop := arenaCopiesRow.holds Try.pinned (OpenSpec.ofChange arenaCopiesSpec)

/-- ITS FALSE NEIGHBOUR: 'it returns false'. Refute it at one input. -/
def arenaCopiesWrong : ChangeSpec := { name := "arenaCopies", fn := fun _ => fun
  | [d] => { results := [.lit (.bool false)], args := [d] }
  | _ => none }
def ArenaCopiesWrongFalsely : Prop := arenaCopiesRow.holds Try.pinned (OpenSpec.ofChange arenaCopiesWrong)

/-- 'sketchstorelaw15.ArenaRuns': WHATEVER THE INPUT: true; the input reads as it did. -/
def arenaRunsSpec : ChangeSpec := { name := "arenaRuns", fn := fun _ => fun
  | [d1, d2] => { results := [.lit (.bool true)], args := [d1, d2] }
  | _ => none }
def arenaRunsRow : OpenClaim := { program := "yteemiclhnfkekaa", sum := "f7ee2145333198b0d79f05a22c709a754ca5138a90d4d17fc038285ed5f637e4", func := "sketchstore/sketchstorelaw15.ArenaRuns", spec := "arenaRuns", recurses := true, apart := false }
def ArenaRunsSaid : Prop := arenaRunsRow.holds Try.pinned (OpenSpec.ofChange arenaRunsSpec)

/-- ITS FALSE NEIGHBOUR: 'it returns false'. Refute it at one input. -/
def arenaRunsWrong : ChangeSpec := { name := "arenaRuns", fn := fun _ => fun
  | [d1, d2] => { results := [.lit (.bool false)], args := [d1, d2] }
  | _ => none }
def ArenaRunsWrongFalsely : Prop := arenaRunsRow.holds Try.pinned (OpenSpec.ofChange arenaRunsWrong)

/-- 'sketchstorelaw19.StoreConfigs': WHATEVER THE INPUT: true; the input reads as it did. -/
def storeConfigsSpec : ChangeSpec := { name := "storeConfigs", fn := fun _ => fun
  | [d1, d2] => { results := [.lit (.bool true)], args := [d1, d2] }
  | _ => none }
def storeConfigsRow : OpenClaim := { program := "yteemiclhnfkekaa", sum := "f7ee2145333198b0d79f05a22c709a754ca5138a90d4d17fc038285ed5f637e4", func := "sketchstore/sketchstorelaw19.StoreConfigs", spec := "storeConfigs", inPlace := ["slices.overlaps[sketchstore/api.Binding]"], unfollowed := true, recurses := true, apart := false }
def StoreConfigsSaid : Prop := storeConfigsRow.holds Try.pinned (OpenSpec.ofChange storeConfigsSpec)

/-- ITS FALSE NEIGHBOUR: 'it returns false'. Refute it at one input. -/
def storeConfigsWrong : ChangeSpec := { name := "storeConfigs", fn := fun _ => fun
  | [d1, d2] => { results := [.lit (.bool false)], args := [d1, d2] }
  | _ => none }
def StoreConfigsWrongFalsely : Prop := storeConfigsRow.holds Try.pinned (OpenSpec.ofChange storeConfigsWrong)

/-- 'sketchstorelaw19.StoreShares': WHATEVER THE INPUT: true; the input reads as it did. -/
def storeSharesSpec : ChangeSpec := { name := "storeShares", fn := fun _ => fun
  | [d1, d2] => { results := [.lit (.bool true)], args := [d1, d2] }
  | _ => none }
def storeSharesRow : OpenClaim := { program := "yteemiclhnfkekaa", sum := "f7ee2145333198b0d79f05a22c709a754ca5138a90d4d17fc038285ed5f637e4", func := "sketchstore/sketchstorelaw19.StoreShares", spec := "storeShares", inPlace := ["slices.overlaps[sketchstore/api.Binding]"], unfollowed := true, recurses := true, apart := false }
def StoreSharesSaid : Prop := storeSharesRow.holds Try.pinned (OpenSpec.ofChange storeSharesSpec)

/-- ITS FALSE NEIGHBOUR: 'it returns false'. Refute it at one input. -/
def storeSharesWrong : ChangeSpec := { name := "storeShares", fn := fun _ => fun
  | [d1, d2] => { results := [.lit (.bool false)], args := [d1, d2] }
  | _ => none }
def StoreSharesWrongFalsely : Prop := storeSharesRow.holds Try.pinned (OpenSpec.ofChange storeSharesWrong)

/- THE SECOND FORM. 'bulk': how many values and letters a reading holds, each counted each time it is reached (what is shared counts as often as it is met; a slice's spare places count too). A statement '..UptoSaid' is the law's where the arguments, and the package variables that the reading takes, are together of bulk at most 1048576: NARROWER than '..Said'. Prove '..Said' where nothing that the law and all that it calls make is longer than what came in: it says more and counts as full. Else prove '..UptoSaid'. A law counts once. -/
mutual
def uptoBulk {H : Type} : DataW H → Nat
  | .lit (.string bytes) => bytes.length + 1
  | .lit _ => 1
  | .nil => 1
  | .ptr d => uptoBulk d + 1
  | .slice elems spare => uptoBulkAll elems + uptoBulkAll spare + 1
  | .agg parts => uptoBulkAll parts + 1
  | .iface _ d => uptoBulk d + 1
  | .map entries => uptoBulkEntries entries + 1
  | .held _ => 1
def uptoBulkAll {H : Type} : List (DataW H) → Nat
  | [] => 0
  | d :: r => uptoBulk d + uptoBulkAll r
def uptoBulkEntries {H : Type} : List (Lit × DataW H) → Nat
  | [] => 0
  | x :: r => uptoBulkEntry x + uptoBulkEntries r
def uptoBulkEntry {H : Type} : Lit × DataW H → Nat
  | (.string bytes, d) => bytes.length + uptoBulk d + 1
  | (_, d) => uptoBulk d + 1
 end
def uptoSmall : (H : Type) → List (DataW H) → Bool := fun _ ds => decide (uptoBulkAll ds ≤ 1048576)
def OpenSpec.upto (s : _root_.Go.ChangeSpec) : _root_.Go.OpenSpec := { _root_.Go.OpenSpec.ofChange s with cond := some uptoSmall }

/-- 'sketchstorelaw15.ArenaNew', WHERE WHAT IT READS IS OF BULK AT MOST 1048576: true; the input reads as it did. -/
def arenaNewUptoRow : OpenClaim := { program := "yteemiclhnfkekaa", sum := "f7ee2145333198b0d79f05a22c709a754ca5138a90d4d17fc038285ed5f637e4", func := "sketchstore/sketchstorelaw15.ArenaNew", spec := "arenaNew", apart := false, narrowed := true }
def ArenaNewUptoSaid : Prop := arenaNewUptoRow.holds Try.pinned (OpenSpec.upto arenaNewSpec)

/-- 'sketchstorelaw15.ArenaCounts', WHERE WHAT IT READS IS OF BULK AT MOST 1048576: true; the input reads as it did. -/
def arenaCountsUptoRow : OpenClaim := { program := "yteemiclhnfkekaa", sum := "f7ee2145333198b0d79f05a22c709a754ca5138a90d4d17fc038285ed5f637e4", func := "sketchstore/sketchstorelaw15.ArenaCounts", spec := "arenaCounts", apart := false, narrowed := true }
def ArenaCountsUptoSaid : Prop := arenaCountsUptoRow.holds Try.pinned (OpenSpec.upto arenaCountsSpec)

/-- 'sketchstorelaw15.ArenaCopies', WHERE WHAT IT READS IS OF BULK AT MOST 1048576: true; the input reads as it did. -/
def arenaCopiesUptoRow : OpenClaim := { program := "yteemiclhnfkekaa", sum := "f7ee2145333198b0d79f05a22c709a754ca5138a90d4d17fc038285ed5f637e4", func := "sketchstore/sketchstorelaw15.ArenaCopies", spec := "arenaCopies", recurses := true, apart := false, narrowed := true }
def ArenaCopiesUptoSaid : Prop := arenaCopiesUptoRow.holds Try.pinned (OpenSpec.upto arenaCopiesSpec)

/-- 'sketchstorelaw15.ArenaRuns', WHERE WHAT IT READS IS OF BULK AT MOST 1048576: true; the input reads as it did. -/
def arenaRunsUptoRow : OpenClaim := { program := "yteemiclhnfkekaa", sum := "f7ee2145333198b0d79f05a22c709a754ca5138a90d4d17fc038285ed5f637e4", func := "sketchstore/sketchstorelaw15.ArenaRuns", spec := "arenaRuns", recurses := true, apart := false, narrowed := true }
def ArenaRunsUptoSaid : Prop := arenaRunsUptoRow.holds Try.pinned (OpenSpec.upto arenaRunsSpec)

/-- 'sketchstorelaw19.StoreConfigs', WHERE WHAT IT READS IS OF BULK AT MOST 1048576: true; the input reads as it did. -/
def storeConfigsUptoRow : OpenClaim := { program := "yteemiclhnfkekaa", sum := "f7ee2145333198b0d79f05a22c709a754ca5138a90d4d17fc038285ed5f637e4", func := "sketchstore/sketchstorelaw19.StoreConfigs", spec := "storeConfigs", inPlace := ["slices.overlaps[sketchstore/api.Binding]"], unfollowed := true, recurses := true, apart := false, narrowed := true }
def StoreConfigsUptoSaid : Prop := storeConfigsUptoRow.holds Try.pinned (OpenSpec.upto storeConfigsSpec)

/-- 'sketchstorelaw19.StoreShares', WHERE WHAT IT READS IS OF BULK AT MOST 1048576: true; the input reads as it did. -/
def storeSharesUptoRow : OpenClaim := { program := "yteemiclhnfkekaa", sum := "f7ee2145333198b0d79f05a22c709a754ca5138a90d4d17fc038285ed5f637e4", func := "sketchstore/sketchstorelaw19.StoreShares", spec := "storeShares", inPlace := ["slices.overlaps[sketchstore/api.Binding]"], unfollowed := true, recurses := true, apart := false, narrowed := true }
def StoreSharesUptoSaid : Prop := storeSharesUptoRow.holds Try.pinned (OpenSpec.upto storeSharesSpec)

end Rows
end Go.Proofs.Yteemiclhnfkekaa
