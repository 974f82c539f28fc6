/-
  No cell of these rows narrows 'for every input' (looked for: loops, veiled, ifaces, maps, wideKeys, modest, calm, conditions, laid).
  DERIVED. THE GIVEN ROWS OF THIS SEAT. 12 by the template 'for every input the law returns true; each argument reads behind the call as it read before'; 0 by the template 'total and deterministic' (their statements: YtbeodddkccpmhaaTotals.lean).
  GIVEN WITH THE SEED: the statements are not yours to turn. If you find one false, say at which input.
  Laid BY PROGRAM, IN A SANDBOX (cutbox-rows.mjs): the forced cells as the released guide's own fill.sh prints them over the translation 42ca3de46cc8993a… (all of the seat's roots in one cut). By AI agents, Wed Nov 11 2026. No macro, syntax, notation, axiom, sorry.
-/
import Derived.Test.YtbeodddkccpmhaaChecked
import GoSem.Claim
import GoSem.ClaimJoined
import GoSem.ClaimMapViews
import Derived.JoinedTies
import Derived.KernelRfl
namespace Go.Proofs.Ytbeodddkccpmhaa
/- THE CELL 'sum', in the pinned program and in every row, IS THE sha256 OF THE DUMP (.gsa) THAT YtbeodddkccpmhaaProg.lean LOADS. Nothing in Lean hashes anything: it is a label: what it is worth is what the hold of that sum in a sandbox is worth. -/
noncomputable def Try.pinned : Pinned := { name := "ytbeodddkccpmhaa", sum := "42ca3de46cc8993a8453dc5b2bed25129655d765b55ceb9769c8dbf15781adee", checked := Try.checked }
namespace Rows
def none {H : Type} : Left H := { results := [], args := [] }

/-- 'sketchstorelaw15.ArenaNew': WHATEVER THE INPUT: true; the input reads as it did. -/
def arenaNewSpec : ChangeSpec := { name := "arenaNew", fn := fun _ => fun
  | [d1, d2] => { results := [.lit (.bool true)], args := [d1, d2] }
  | _ => none }
def arenaNewRow : OpenClaim := { program := "ytbeodddkccpmhaa", sum := "42ca3de46cc8993a8453dc5b2bed25129655d765b55ceb9769c8dbf15781adee", func := "sketchstore/sketchstorelaw15.ArenaNew", spec := "arenaNew", apart := false }
def ArenaNewSaid : Prop := arenaNewRow.holds Try.pinned (OpenSpec.ofChange arenaNewSpec)

/-- ITS FALSE NEIGHBOUR: 'it returns false'. Refute it at one input. -/
def arenaNewWrong : ChangeSpec := { name := "arenaNew", fn := fun _ => fun
  | [d1, d2] => { results := [.lit (.bool false)], args := [d1, d2] }
  | _ => none }
def ArenaNewWrongFalsely : Prop := arenaNewRow.holds Try.pinned (OpenSpec.ofChange arenaNewWrong)

/-- 'sketchstorelaw15.ArenaCounts': WHATEVER THE INPUT: true; the input reads as it did. -/
def arenaCountsSpec : ChangeSpec := { name := "arenaCounts", fn := fun _ => fun
  | [d] => { results := [.lit (.bool true)], args := [d] }
  | _ => none }
def arenaCountsRow : OpenClaim := { program := "ytbeodddkccpmhaa", sum := "42ca3de46cc8993a8453dc5b2bed25129655d765b55ceb9769c8dbf15781adee", func := "sketchstore/sketchstorelaw15.ArenaCounts", spec := "arenaCounts", apart := false }
def ArenaCountsSaid : Prop := arenaCountsRow.holds Try.pinned (OpenSpec.ofChange arenaCountsSpec)

/-- ITS FALSE NEIGHBOUR: 'it returns false'. Refute it at one input. -/
def arenaCountsWrong : ChangeSpec := { name := "arenaCounts", fn := fun _ => fun
  | [d] => { results := [.lit (.bool false)], args := [d] }
  | _ => none }
def ArenaCountsWrongFalsely : Prop := arenaCountsRow.holds Try.pinned (OpenSpec.ofChange arenaCountsWrong)

/-- 'sketchstorelaw15.ArenaCopies': WHATEVER THE INPUT: true; the input reads as it did. -/
def arenaCopiesSpec : ChangeSpec := { name := "arenaCopies", fn := fun _ => fun
  | [d] => { results := [.lit (.bool true)], args := [d] }
  | _ => none }
def arenaCopiesRow : OpenClaim := { program := "ytbeodddkccpmhaa", sum := "42ca3de46cc8993a8453dc5b2bed25129655d765b55ceb9769c8dbf15781adee", func := "sketchstore/sketchstorelaw15.ArenaCopies", spec := "arenaCopies", recurses := true, apart := false }
def ArenaCopiesSaid : Prop := arenaCopiesRow.holds Try.pinned (OpenSpec.ofChange arenaCopiesSpec)

/-- ITS FALSE NEIGHBOUR: 'it returns false'. Refute it at one input. -/
def arenaCopiesWrong : ChangeSpec := { name := "arenaCopies", fn := fun _ => fun
  | [d] => { results := [.lit (.bool false)], args := [d] }
  | _ => none }
def ArenaCopiesWrongFalsely : Prop := arenaCopiesRow.holds Try.pinned (OpenSpec.ofChange arenaCopiesWrong)

/-- 'sketchstorelaw15.ArenaRuns': WHATEVER THE INPUT: true; the input reads as it did. -/
def arenaRunsSpec : ChangeSpec := { name := "arenaRuns", fn := fun _ => fun
  | [d1, d2] => { results := [.lit (.bool true)], args := [d1, d2] }
  | _ => none }
def arenaRunsRow : OpenClaim := { program := "ytbeodddkccpmhaa", sum := "42ca3de46cc8993a8453dc5b2bed25129655d765b55ceb9769c8dbf15781adee", func := "sketchstore/sketchstorelaw15.ArenaRuns", spec := "arenaRuns", recurses := true, apart := false }
def ArenaRunsSaid : Prop := arenaRunsRow.holds Try.pinned (OpenSpec.ofChange arenaRunsSpec)

/-- ITS FALSE NEIGHBOUR: 'it returns false'. Refute it at one input. -/
def arenaRunsWrong : ChangeSpec := { name := "arenaRuns", fn := fun _ => fun
  | [d1, d2] => { results := [.lit (.bool false)], args := [d1, d2] }
  | _ => none }
def ArenaRunsWrongFalsely : Prop := arenaRunsRow.holds Try.pinned (OpenSpec.ofChange arenaRunsWrong)

/-- 'sketchstorelaw17.ChainFinds': WHATEVER THE INPUT: true; the input reads as it did. -/
def chainFindsSpec : ChangeSpec := { name := "chainFinds", fn := fun _ => fun
  | [d1, d2, d3, d4] => { results := [.lit (.bool true)], args := [d1, d2, d3, d4] }
  | _ => none }
def chainFindsRow : OpenClaim := { program := "ytbeodddkccpmhaa", sum := "42ca3de46cc8993a8453dc5b2bed25129655d765b55ceb9769c8dbf15781adee", func := "sketchstore/sketchstorelaw17.ChainFinds", spec := "chainFinds", apart := false }
def ChainFindsSaid : Prop := chainFindsRow.holds Try.pinned (OpenSpec.ofChange chainFindsSpec)

/-- ITS FALSE NEIGHBOUR: 'it returns false'. Refute it at one input. -/
def chainFindsWrong : ChangeSpec := { name := "chainFinds", fn := fun _ => fun
  | [d1, d2, d3, d4] => { results := [.lit (.bool false)], args := [d1, d2, d3, d4] }
  | _ => none }
def ChainFindsWrongFalsely : Prop := chainFindsRow.holds Try.pinned (OpenSpec.ofChange chainFindsWrong)

/-- 'sketchstorelaw17.ChainChanges': WHATEVER THE INPUT: true; the input reads as it did. -/
def chainChangesSpec : ChangeSpec := { name := "chainChanges", fn := fun _ => fun
  | [d1, d2] => { results := [.lit (.bool true)], args := [d1, d2] }
  | _ => none }
def chainChangesRow : OpenClaim := { program := "ytbeodddkccpmhaa", sum := "42ca3de46cc8993a8453dc5b2bed25129655d765b55ceb9769c8dbf15781adee", func := "sketchstore/sketchstorelaw17.ChainChanges", spec := "chainChanges", apart := false }
def ChainChangesSaid : Prop := chainChangesRow.holds Try.pinned (OpenSpec.ofChange chainChangesSpec)

/-- ITS FALSE NEIGHBOUR: 'it returns false'. Refute it at one input. -/
def chainChangesWrong : ChangeSpec := { name := "chainChanges", fn := fun _ => fun
  | [d1, d2] => { results := [.lit (.bool false)], args := [d1, d2] }
  | _ => none }
def ChainChangesWrongFalsely : Prop := chainChangesRow.holds Try.pinned (OpenSpec.ofChange chainChangesWrong)

/-- 'sketchstorelaw17.ChainRemoves': WHATEVER THE INPUT: true; the input reads as it did. -/
def chainRemovesSpec : ChangeSpec := { name := "chainRemoves", fn := fun _ => fun
  | [d1, d2, d3] => { results := [.lit (.bool true)], args := [d1, d2, d3] }
  | _ => none }
def chainRemovesRow : OpenClaim := { program := "ytbeodddkccpmhaa", sum := "42ca3de46cc8993a8453dc5b2bed25129655d765b55ceb9769c8dbf15781adee", func := "sketchstore/sketchstorelaw17.ChainRemoves", spec := "chainRemoves", unfollowed := true, recurses := true, apart := false }
def ChainRemovesSaid : Prop := chainRemovesRow.holds Try.pinned (OpenSpec.ofChange chainRemovesSpec)

/-- ITS FALSE NEIGHBOUR: 'it returns false'. Refute it at one input. -/
def chainRemovesWrong : ChangeSpec := { name := "chainRemoves", fn := fun _ => fun
  | [d1, d2, d3] => { results := [.lit (.bool false)], args := [d1, d2, d3] }
  | _ => none }
def ChainRemovesWrongFalsely : Prop := chainRemovesRow.holds Try.pinned (OpenSpec.ofChange chainRemovesWrong)

/-- 'sketchstorelaw17.ChainKeeps': WHATEVER THE INPUT: true; the input reads as it did. -/
def chainKeepsSpec : ChangeSpec := { name := "chainKeeps", fn := fun _ => fun
  | [d1, d2] => { results := [.lit (.bool true)], args := [d1, d2] }
  | _ => none }
def chainKeepsRow : OpenClaim := { program := "ytbeodddkccpmhaa", sum := "42ca3de46cc8993a8453dc5b2bed25129655d765b55ceb9769c8dbf15781adee", func := "sketchstore/sketchstorelaw17.ChainKeeps", spec := "chainKeeps", unfollowed := true, recurses := true, apart := false }
def ChainKeepsSaid : Prop := chainKeepsRow.holds Try.pinned (OpenSpec.ofChange chainKeepsSpec)

/-- ITS FALSE NEIGHBOUR: 'it returns false'. Refute it at one input. -/
def chainKeepsWrong : ChangeSpec := { name := "chainKeeps", fn := fun _ => fun
  | [d1, d2] => { results := [.lit (.bool false)], args := [d1, d2] }
  | _ => none }
def ChainKeepsWrongFalsely : Prop := chainKeepsRow.holds Try.pinned (OpenSpec.ofChange chainKeepsWrong)

/-- 'sketchstorelaw16.PinsCover': WHATEVER THE INPUT: true; the input reads as it did. -/
def pinsCoverSpec : ChangeSpec := { name := "pinsCover", fn := fun _ => fun
  | [d1, d2, d3, d4] => { results := [.lit (.bool true)], args := [d1, d2, d3, d4] }
  | _ => none }
def pinsCoverRow : OpenClaim := { program := "ytbeodddkccpmhaa", sum := "42ca3de46cc8993a8453dc5b2bed25129655d765b55ceb9769c8dbf15781adee", func := "sketchstore/sketchstorelaw16.PinsCover", spec := "pinsCover", inPlace := ["slices.overlaps[sketchstore/api.Pin]"], unfollowed := true, recurses := true, apart := false }
def PinsCoverSaid : Prop := pinsCoverRow.holds Try.pinned (OpenSpec.ofChange pinsCoverSpec)

/-- ITS FALSE NEIGHBOUR: 'it returns false'. Refute it at one input. -/
def pinsCoverWrong : ChangeSpec := { name := "pinsCover", fn := fun _ => fun
  | [d1, d2, d3, d4] => { results := [.lit (.bool false)], args := [d1, d2, d3, d4] }
  | _ => none }
def PinsCoverWrongFalsely : Prop := pinsCoverRow.holds Try.pinned (OpenSpec.ofChange pinsCoverWrong)

/-- 'sketchstorelaw16.PinsLook': WHATEVER THE INPUT: true; the input reads as it did. -/
def pinsLookSpec : ChangeSpec := { name := "pinsLook", fn := fun _ => fun
  | [d1, d2, d3, d4] => { results := [.lit (.bool true)], args := [d1, d2, d3, d4] }
  | _ => none }
def pinsLookRow : OpenClaim := { program := "ytbeodddkccpmhaa", sum := "42ca3de46cc8993a8453dc5b2bed25129655d765b55ceb9769c8dbf15781adee", func := "sketchstore/sketchstorelaw16.PinsLook", spec := "pinsLook", inPlace := ["slices.overlaps[sketchstore/api.Pin]"], unfollowed := true, recurses := true, apart := false }
def PinsLookSaid : Prop := pinsLookRow.holds Try.pinned (OpenSpec.ofChange pinsLookSpec)

/-- ITS FALSE NEIGHBOUR: 'it returns false'. Refute it at one input. -/
def pinsLookWrong : ChangeSpec := { name := "pinsLook", fn := fun _ => fun
  | [d1, d2, d3, d4] => { results := [.lit (.bool false)], args := [d1, d2, d3, d4] }
  | _ => none }
def PinsLookWrongFalsely : Prop := pinsLookRow.holds Try.pinned (OpenSpec.ofChange pinsLookWrong)

/-- 'sketchstorelaw16.PinsChange': WHATEVER THE INPUT: true; the input reads as it did. -/
def pinsChangeSpec : ChangeSpec := { name := "pinsChange", fn := fun _ => fun
  | [d1, d2, d3] => { results := [.lit (.bool true)], args := [d1, d2, d3] }
  | _ => none }
def pinsChangeRow : OpenClaim := { program := "ytbeodddkccpmhaa", sum := "42ca3de46cc8993a8453dc5b2bed25129655d765b55ceb9769c8dbf15781adee", func := "sketchstore/sketchstorelaw16.PinsChange", spec := "pinsChange", inPlace := ["slices.overlaps[sketchstore/api.Pin]"], unfollowed := true, recurses := true, apart := false }
def PinsChangeSaid : Prop := pinsChangeRow.holds Try.pinned (OpenSpec.ofChange pinsChangeSpec)

/-- ITS FALSE NEIGHBOUR: 'it returns false'. Refute it at one input. -/
def pinsChangeWrong : ChangeSpec := { name := "pinsChange", fn := fun _ => fun
  | [d1, d2, d3] => { results := [.lit (.bool false)], args := [d1, d2, d3] }
  | _ => none }
def PinsChangeWrongFalsely : Prop := pinsChangeRow.holds Try.pinned (OpenSpec.ofChange pinsChangeWrong)

/-- 'sketchstorelaw16.PinsBack': WHATEVER THE INPUT: true; the input reads as it did. -/
def pinsBackSpec : ChangeSpec := { name := "pinsBack", fn := fun _ => fun
  | [d1, d2, d3] => { results := [.lit (.bool true)], args := [d1, d2, d3] }
  | _ => none }
def pinsBackRow : OpenClaim := { program := "ytbeodddkccpmhaa", sum := "42ca3de46cc8993a8453dc5b2bed25129655d765b55ceb9769c8dbf15781adee", func := "sketchstore/sketchstorelaw16.PinsBack", spec := "pinsBack", inPlace := ["slices.overlaps[sketchstore/api.Pin]"], unfollowed := true, recurses := true, apart := false }
def PinsBackSaid : Prop := pinsBackRow.holds Try.pinned (OpenSpec.ofChange pinsBackSpec)

/-- ITS FALSE NEIGHBOUR: 'it returns false'. Refute it at one input. -/
def pinsBackWrong : ChangeSpec := { name := "pinsBack", fn := fun _ => fun
  | [d1, d2, d3] => { results := [.lit (.bool false)], args := [d1, d2, d3] }
  | _ => none }
def PinsBackWrongFalsely : Prop := pinsBackRow.holds Try.pinned (OpenSpec.ofChange pinsBackWrong)

/- THE SECOND FORM. 'bulk': how many values and letters a reading holds, each counted each time it is reached (what is shared counts as often as it is met; a slice's spare places count too). A statement '..UptoSaid' is the law's where the arguments, and the package variables that the reading takes, are together of bulk at most 1048576: NARROWER than '..Said'. Prove '..Said' where nothing that the law and all that it calls make is longer than what came in: it says more and counts as full. Else prove '..UptoSaid'. A law counts once. -/
mutual
def uptoBulk {H : Type} : DataW H → Nat
  | .lit (.string bytes) => bytes.length + 1
  | .lit _ => 1
  | .nil => 1
  | .ptr d => uptoBulk d + 1
  | .slice elems spare => uptoBulkAll elems + uptoBulkAll spare + 1
  | .agg parts => uptoBulkAll parts + 1
  | .iface _ d => uptoBulk d + 1
  | .map entries => uptoBulkEntries entries + 1
  | .held _ => 1
def uptoBulkAll {H : Type} : List (DataW H) → Nat
  | [] => 0
  | d :: r => uptoBulk d + uptoBulkAll r
def uptoBulkEntries {H : Type} : List (Lit × DataW H) → Nat
  | [] => 0
  | x :: r => uptoBulkEntry x + uptoBulkEntries r
def uptoBulkEntry {H : Type} : Lit × DataW H → Nat
  | (.string bytes, d) => bytes.length + uptoBulk d + 1
  | (_, d) => uptoBulk d + 1
 end
def uptoSmall : (H : Type) → List (DataW H) → Bool := fun _ ds => decide (uptoBulkAll ds ≤ 1048576)
def OpenSpec.upto (s : _root_.Go.ChangeSpec) : _root_.Go.OpenSpec := { _root_.Go.OpenSpec.ofChange s with cond := some uptoSmall }

/-- 'sketchstorelaw15.ArenaNew', WHERE WHAT IT READS IS OF BULK AT MOST 1048576: true; the input reads as it did. -/
def arenaNewUptoRow : OpenClaim := { program := "ytbeodddkccpmhaa", sum := "42ca3de46cc8993a8453dc5b2bed25129655d765b55ceb9769c8dbf15781adee", func := "sketchstore/sketchstorelaw15.ArenaNew", spec := "arenaNew", apart := false, narrowed := true }
def ArenaNewUptoSaid : Prop := arenaNewUptoRow.holds Try.pinned (OpenSpec.upto arenaNewSpec)

/-- 'sketchstorelaw15.ArenaCounts', WHERE WHAT IT READS IS OF BULK AT MOST 1048576: true; the input reads as it did. -/
def arenaCountsUptoRow : OpenClaim := { program := "ytbeodddkccpmhaa", sum := "42ca3de46cc8993a8453dc5b2bed25129655d765b55ceb9769c8dbf15781adee", func := "sketchstore/sketchstorelaw15.ArenaCounts", spec := "arenaCounts", apart := false, narrowed := true }
def ArenaCountsUptoSaid : Prop := arenaCountsUptoRow.holds Try.pinned (OpenSpec.upto arenaCountsSpec)

/-- 'sketchstorelaw15.ArenaCopies', WHERE WHAT IT READS IS OF BULK AT MOST 1048576: true; the input reads as it did. -/
def arenaCopiesUptoRow : OpenClaim := { program := "ytbeodddkccpmhaa", sum := "42ca3de46cc8993a8453dc5b2bed25129655d765b55ceb9769c8dbf15781adee", func := "sketchstore/sketchstorelaw15.ArenaCopies", spec := "arenaCopies", recurses := true, apart := false, narrowed := true }
def ArenaCopiesUptoSaid : Prop := arenaCopiesUptoRow.holds Try.pinned (OpenSpec.upto arenaCopiesSpec)

/-- 'sketchstorelaw15.ArenaRuns', WHERE WHAT IT READS IS OF BULK AT MOST 1048576: true; the input reads as it did. -/
def arenaRunsUptoRow : OpenClaim := { program := "ytbeodddkccpmhaa", sum := "42ca3de46cc8993a8453dc5b2bed25129655d765b55ceb9769c8dbf15781adee", func := "sketchstore/sketchstorelaw15.ArenaRuns", spec := "arenaRuns", recurses := true, apart := false, narrowed := true }
def ArenaRunsUptoSaid : Prop := arenaRunsUptoRow.holds Try.pinned (OpenSpec.upto arenaRunsSpec)

/-- 'sketchstorelaw17.ChainFinds', WHERE WHAT IT READS IS OF BULK AT MOST 1048576: true; the input reads as it did. -/
def chainFindsUptoRow : OpenClaim := { program := "ytbeodddkccpmhaa", sum := "42ca3de46cc8993a8453dc5b2bed25129655d765b55ceb9769c8dbf15781adee", func := "sketchstore/sketchstorelaw17.ChainFinds", spec := "chainFinds", apart := false, narrowed := true }
def ChainFindsUptoSaid : Prop := chainFindsUptoRow.holds Try.pinned (OpenSpec.upto chainFindsSpec)

/-- 'sketchstorelaw17.ChainChanges', WHERE WHAT IT READS IS OF BULK AT MOST 1048576: true; the input reads as it did. -/
def chainChangesUptoRow : OpenClaim := { program := "ytbeodddkccpmhaa", sum := "42ca3de46cc8993a8453dc5b2bed25129655d765b55ceb9769c8dbf15781adee", func := "sketchstore/sketchstorelaw17.ChainChanges", spec := "chainChanges", apart := false, narrowed := true }
def ChainChangesUptoSaid : Prop := chainChangesUptoRow.holds Try.pinned (OpenSpec.upto chainChangesSpec)

/-- 'sketchstorelaw17.ChainRemoves', WHERE WHAT IT READS IS OF BULK AT MOST 1048576: true; the input reads as it did. -/
def chainRemovesUptoRow : OpenClaim := { program := "ytbeodddkccpmhaa", sum := "42ca3de46cc8993a8453dc5b2bed25129655d765b55ceb9769c8dbf15781adee", func := "sketchstore/sketchstorelaw17.ChainRemoves", spec := "chainRemoves", unfollowed := true, recurses := true, apart := false, narrowed := true }
def ChainRemovesUptoSaid : Prop := chainRemovesUptoRow.holds Try.pinned (OpenSpec.upto chainRemovesSpec)

/-- 'sketchstorelaw17.ChainKeeps', WHERE WHAT IT READS IS OF BULK AT MOST 1048576: true; the input reads as it did. -/
def chainKeepsUptoRow : OpenClaim := { program := "ytbeodddkccpmhaa", sum := "42ca3de46cc8993a8453dc5b2bed25129655d765b55ceb9769c8dbf15781adee", func := "sketchstore/sketchstorelaw17.ChainKeeps", spec := "chainKeeps", unfollowed := true, recurses := true, apart := false, narrowed := true }
def ChainKeepsUptoSaid : Prop := chainKeepsUptoRow.holds Try.pinned (OpenSpec.upto chainKeepsSpec)

/-- 'sketchstorelaw16.PinsCover', WHERE WHAT IT READS IS OF BULK AT MOST 1048576: true; the input reads as it did. -/
def pinsCoverUptoRow : OpenClaim := { program := "ytbeodddkccpmhaa", sum := "42ca3de46cc8993a8453dc5b2bed25129655d765b55ceb9769c8dbf15781adee", func := "sketchstore/sketchstorelaw16.PinsCover", spec := "pinsCover", inPlace := ["slices.overlaps[sketchstore/api.Pin]"], unfollowed := true, recurses := true, apart := false, narrowed := true }
def PinsCoverUptoSaid : Prop := pinsCoverUptoRow.holds Try.pinned (OpenSpec.upto pinsCoverSpec)

/-- 'sketchstorelaw16.PinsLook', WHERE WHAT IT READS IS OF BULK AT MOST 1048576: true; the input reads as it did. -/
def pinsLookUptoRow : OpenClaim := { program := "ytbeodddkccpmhaa", sum := "42ca3de46cc8993a8453dc5b2bed25129655d765b55ceb9769c8dbf15781adee", func := "sketchstore/sketchstorelaw16.PinsLook", spec := "pinsLook", inPlace := ["slices.overlaps[sketchstore/api.Pin]"], unfollowed := true, recurses := true, apart := false, narrowed := true }
def PinsLookUptoSaid : Prop := pinsLookUptoRow.holds Try.pinned (OpenSpec.upto pinsLookSpec)

/-- 'sketchstorelaw16.PinsChange', WHERE WHAT IT READS IS OF BULK AT MOST 1048576: true; the input reads as it did. -/
def pinsChangeUptoRow : OpenClaim := { program := "ytbeodddkccpmhaa", sum := "42ca3de46cc8993a8453dc5b2bed25129655d765b55ceb9769c8dbf15781adee", func := "sketchstore/sketchstorelaw16.PinsChange", spec := "pinsChange", inPlace := ["slices.overlaps[sketchstore/api.Pin]"], unfollowed := true, recurses := true, apart := false, narrowed := true }
def PinsChangeUptoSaid : Prop := pinsChangeUptoRow.holds Try.pinned (OpenSpec.upto pinsChangeSpec)

/-- 'sketchstorelaw16.PinsBack', WHERE WHAT IT READS IS OF BULK AT MOST 1048576: true; the input reads as it did. -/
def pinsBackUptoRow : OpenClaim := { program := "ytbeodddkccpmhaa", sum := "42ca3de46cc8993a8453dc5b2bed25129655d765b55ceb9769c8dbf15781adee", func := "sketchstore/sketchstorelaw16.PinsBack", spec := "pinsBack", inPlace := ["slices.overlaps[sketchstore/api.Pin]"], unfollowed := true, recurses := true, apart := false, narrowed := true }
def PinsBackUptoSaid : Prop := pinsBackUptoRow.holds Try.pinned (OpenSpec.upto pinsBackSpec)

end Rows
end Go.Proofs.Ytbeodddkccpmhaa
