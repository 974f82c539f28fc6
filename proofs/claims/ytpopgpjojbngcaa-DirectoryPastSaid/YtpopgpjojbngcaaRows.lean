/-
  No cell of these rows narrows 'for every input' (looked for: loops, veiled, ifaces, maps, wideKeys, modest, calm, conditions, laid).
  DERIVED. THE GIVEN ROWS OF THIS SEAT. 10 by the template 'for every input the law returns true; each argument reads behind the call as it read before'; 0 by the template 'total and deterministic' (their statements: YtpopgpjojbngcaaTotals.lean).
  GIVEN WITH THE SEED: the statements are not yours to turn. If you find one false, say at which input.
  Laid BY PROGRAM, IN A SANDBOX (cutbox-rows.mjs): the forced cells as the released guide's own fill.sh prints them over the translation be6f2a3607316d45… (all of the seat's roots in one cut). By AI agents, Wed Nov 11 2026. No macro, syntax, notation, axiom, sorry.
-/
import Derived.Test.YtpopgpjojbngcaaChecked
import GoSem.Claim
import GoSem.ClaimJoined
import GoSem.ClaimMapViews
import Derived.JoinedTies
import Derived.KernelRfl
namespace Go.Proofs.Ytpopgpjojbngcaa
/- THE CELL 'sum', in the pinned program and in every row, IS THE sha256 OF THE DUMP (.gsa) THAT YtpopgpjojbngcaaProg.lean LOADS. Nothing in Lean hashes anything: it is a label: what it is worth is what the hold of that sum in a sandbox is worth. -/
noncomputable def Try.pinned : Pinned := { name := "ytpopgpjojbngcaa", sum := "be6f2a3607316d4515f95b4fdd061022ac8c92d05ec4cc5794dfcd36a960ae09", checked := Try.checked }
namespace Rows
def none {H : Type} : Left H := { results := [], args := [] }

/-- 'sketchstorelaw10.FrequentInserts': WHATEVER THE INPUT: true; the input reads as it did. -/
def frequentInsertsSpec : ChangeSpec := { name := "frequentInserts", fn := fun _ => fun
  | [d1, d2, d3] => { results := [.lit (.bool true)], args := [d1, d2, d3] }
  | _ => none }
def frequentInsertsRow : OpenClaim := { program := "ytpopgpjojbngcaa", sum := "be6f2a3607316d4515f95b4fdd061022ac8c92d05ec4cc5794dfcd36a960ae09", func := "sketchstore/sketchstorelaw10.FrequentInserts", spec := "frequentInserts", inPlace := ["slices.overlaps[sketchstore/api.Entry]"], apart := false }
def FrequentInsertsSaid : Prop := frequentInsertsRow.holds Try.pinned (OpenSpec.ofChange frequentInsertsSpec)

/-- ITS FALSE NEIGHBOUR: 'it returns false'. Refute it at one input. -/
def frequentInsertsWrong : ChangeSpec := { name := "frequentInserts", fn := fun _ => fun
  | [d1, d2, d3] => { results := [.lit (.bool false)], args := [d1, d2, d3] }
  | _ => none }
def FrequentInsertsWrongFalsely : Prop := frequentInsertsRow.holds Try.pinned (OpenSpec.ofChange frequentInsertsWrong)

/-- 'sketchstorelaw10.FrequentCodes': WHATEVER THE INPUT: true; the input reads as it did. -/
def frequentCodesSpec : ChangeSpec := { name := "frequentCodes", fn := fun _ => fun
  | [d1, d2, d3, d4] => { results := [.lit (.bool true)], args := [d1, d2, d3, d4] }
  | _ => none }
def frequentCodesRow : OpenClaim := { program := "ytpopgpjojbngcaa", sum := "be6f2a3607316d4515f95b4fdd061022ac8c92d05ec4cc5794dfcd36a960ae09", func := "sketchstore/sketchstorelaw10.FrequentCodes", spec := "frequentCodes", inPlace := ["slices.overlaps[sketchstore/api.Entry]"], apart := false }
def FrequentCodesSaid : Prop := frequentCodesRow.holds Try.pinned (OpenSpec.ofChange frequentCodesSpec)

/-- ITS FALSE NEIGHBOUR: 'it returns false'. Refute it at one input. -/
def frequentCodesWrong : ChangeSpec := { name := "frequentCodes", fn := fun _ => fun
  | [d1, d2, d3, d4] => { results := [.lit (.bool false)], args := [d1, d2, d3, d4] }
  | _ => none }
def FrequentCodesWrongFalsely : Prop := frequentCodesRow.holds Try.pinned (OpenSpec.ofChange frequentCodesWrong)

/-- 'sketchstorelaw10.FrequentMerges': WHATEVER THE INPUT: true; the input reads as it did. -/
def frequentMergesSpec : ChangeSpec := { name := "frequentMerges", fn := fun _ => fun
  | [d1, d2, d3, d4] => { results := [.lit (.bool true)], args := [d1, d2, d3, d4] }
  | _ => none }
def frequentMergesRow : OpenClaim := { program := "ytpopgpjojbngcaa", sum := "be6f2a3607316d4515f95b4fdd061022ac8c92d05ec4cc5794dfcd36a960ae09", func := "sketchstore/sketchstorelaw10.FrequentMerges", spec := "frequentMerges", inPlace := ["slices.overlaps[sketchstore/api.Entry]"], recurses := true, apart := false }
def FrequentMergesSaid : Prop := frequentMergesRow.holds Try.pinned (OpenSpec.ofChange frequentMergesSpec)

/-- ITS FALSE NEIGHBOUR: 'it returns false'. Refute it at one input. -/
def frequentMergesWrong : ChangeSpec := { name := "frequentMerges", fn := fun _ => fun
  | [d1, d2, d3, d4] => { results := [.lit (.bool false)], args := [d1, d2, d3, d4] }
  | _ => none }
def FrequentMergesWrongFalsely : Prop := frequentMergesRow.holds Try.pinned (OpenSpec.ofChange frequentMergesWrong)

/-- 'sketchstorelaw10.FrequentCommutes': WHATEVER THE INPUT: true; the input reads as it did. -/
def frequentCommutesSpec : ChangeSpec := { name := "frequentCommutes", fn := fun _ => fun
  | [d1, d2, d3] => { results := [.lit (.bool true)], args := [d1, d2, d3] }
  | _ => none }
def frequentCommutesRow : OpenClaim := { program := "ytpopgpjojbngcaa", sum := "be6f2a3607316d4515f95b4fdd061022ac8c92d05ec4cc5794dfcd36a960ae09", func := "sketchstore/sketchstorelaw10.FrequentCommutes", spec := "frequentCommutes", inPlace := ["slices.overlaps[sketchstore/api.Entry]"], recurses := true, apart := false }
def FrequentCommutesSaid : Prop := frequentCommutesRow.holds Try.pinned (OpenSpec.ofChange frequentCommutesSpec)

/-- ITS FALSE NEIGHBOUR: 'it returns false'. Refute it at one input. -/
def frequentCommutesWrong : ChangeSpec := { name := "frequentCommutes", fn := fun _ => fun
  | [d1, d2, d3] => { results := [.lit (.bool false)], args := [d1, d2, d3] }
  | _ => none }
def FrequentCommutesWrongFalsely : Prop := frequentCommutesRow.holds Try.pinned (OpenSpec.ofChange frequentCommutesWrong)

/-- 'sketchstorelaw10.FrequentBounds': WHATEVER THE INPUT: true; the input reads as it did. -/
def frequentBoundsSpec : ChangeSpec := { name := "frequentBounds", fn := fun _ => fun
  | [d1, d2, d3, d4] => { results := [.lit (.bool true)], args := [d1, d2, d3, d4] }
  | _ => none }
def frequentBoundsRow : OpenClaim := { program := "ytpopgpjojbngcaa", sum := "be6f2a3607316d4515f95b4fdd061022ac8c92d05ec4cc5794dfcd36a960ae09", func := "sketchstore/sketchstorelaw10.FrequentBounds", spec := "frequentBounds", inPlace := ["slices.overlaps[sketchstore/api.Entry]"], recurses := true, apart := false }
def FrequentBoundsSaid : Prop := frequentBoundsRow.holds Try.pinned (OpenSpec.ofChange frequentBoundsSpec)

/-- ITS FALSE NEIGHBOUR: 'it returns false'. Refute it at one input. -/
def frequentBoundsWrong : ChangeSpec := { name := "frequentBounds", fn := fun _ => fun
  | [d1, d2, d3, d4] => { results := [.lit (.bool false)], args := [d1, d2, d3, d4] }
  | _ => none }
def FrequentBoundsWrongFalsely : Prop := frequentBoundsRow.holds Try.pinned (OpenSpec.ofChange frequentBoundsWrong)

/-- 'sketchstorelaw18.DirectoryBinds': WHATEVER THE INPUT: true; the input reads as it did. -/
def directoryBindsSpec : ChangeSpec := { name := "directoryBinds", fn := fun _ => fun
  | [d1, d2, d3] => { results := [.lit (.bool true)], args := [d1, d2, d3] }
  | _ => none }
def directoryBindsRow : OpenClaim := { program := "ytpopgpjojbngcaa", sum := "be6f2a3607316d4515f95b4fdd061022ac8c92d05ec4cc5794dfcd36a960ae09", func := "sketchstore/sketchstorelaw18.DirectoryBinds", spec := "directoryBinds", inPlace := ["slices.overlaps[sketchstore/api.Binding]"], unfollowed := true, recurses := true, apart := false }
def DirectoryBindsSaid : Prop := directoryBindsRow.holds Try.pinned (OpenSpec.ofChange directoryBindsSpec)

/-- ITS FALSE NEIGHBOUR: 'it returns false'. Refute it at one input. -/
def directoryBindsWrong : ChangeSpec := { name := "directoryBinds", fn := fun _ => fun
  | [d1, d2, d3] => { results := [.lit (.bool false)], args := [d1, d2, d3] }
  | _ => none }
def DirectoryBindsWrongFalsely : Prop := directoryBindsRow.holds Try.pinned (OpenSpec.ofChange directoryBindsWrong)

/-- 'sketchstorelaw18.DirectoryUnbinds': WHATEVER THE INPUT: true; the input reads as it did. -/
def directoryUnbindsSpec : ChangeSpec := { name := "directoryUnbinds", fn := fun _ => fun
  | [d1, d2] => { results := [.lit (.bool true)], args := [d1, d2] }
  | _ => none }
def directoryUnbindsRow : OpenClaim := { program := "ytpopgpjojbngcaa", sum := "be6f2a3607316d4515f95b4fdd061022ac8c92d05ec4cc5794dfcd36a960ae09", func := "sketchstore/sketchstorelaw18.DirectoryUnbinds", spec := "directoryUnbinds", inPlace := ["slices.overlaps[sketchstore/api.Binding]"], unfollowed := true, recurses := true, apart := false }
def DirectoryUnbindsSaid : Prop := directoryUnbindsRow.holds Try.pinned (OpenSpec.ofChange directoryUnbindsSpec)

/-- ITS FALSE NEIGHBOUR: 'it returns false'. Refute it at one input. -/
def directoryUnbindsWrong : ChangeSpec := { name := "directoryUnbinds", fn := fun _ => fun
  | [d1, d2] => { results := [.lit (.bool false)], args := [d1, d2] }
  | _ => none }
def DirectoryUnbindsWrongFalsely : Prop := directoryUnbindsRow.holds Try.pinned (OpenSpec.ofChange directoryUnbindsWrong)

/-- 'sketchstorelaw18.DirectoryLooks': WHATEVER THE INPUT: true; the input reads as it did. -/
def directoryLooksSpec : ChangeSpec := { name := "directoryLooks", fn := fun _ => fun
  | [d1, d2, d3, d4, d5, d6] => { results := [.lit (.bool true)], args := [d1, d2, d3, d4, d5, d6] }
  | _ => none }
def directoryLooksRow : OpenClaim := { program := "ytpopgpjojbngcaa", sum := "be6f2a3607316d4515f95b4fdd061022ac8c92d05ec4cc5794dfcd36a960ae09", func := "sketchstore/sketchstorelaw18.DirectoryLooks", spec := "directoryLooks", inPlace := ["slices.overlaps[sketchstore/api.Binding]"], unfollowed := true, recurses := true, apart := false }
def DirectoryLooksSaid : Prop := directoryLooksRow.holds Try.pinned (OpenSpec.ofChange directoryLooksSpec)

/-- ITS FALSE NEIGHBOUR: 'it returns false'. Refute it at one input. -/
def directoryLooksWrong : ChangeSpec := { name := "directoryLooks", fn := fun _ => fun
  | [d1, d2, d3, d4, d5, d6] => { results := [.lit (.bool false)], args := [d1, d2, d3, d4, d5, d6] }
  | _ => none }
def DirectoryLooksWrongFalsely : Prop := directoryLooksRow.holds Try.pinned (OpenSpec.ofChange directoryLooksWrong)

/-- 'sketchstorelaw18.DirectoryPrunes': WHATEVER THE INPUT: true; the input reads as it did. -/
def directoryPrunesSpec : ChangeSpec := { name := "directoryPrunes", fn := fun _ => fun
  | [d1, d2] => { results := [.lit (.bool true)], args := [d1, d2] }
  | _ => none }
def directoryPrunesRow : OpenClaim := { program := "ytpopgpjojbngcaa", sum := "be6f2a3607316d4515f95b4fdd061022ac8c92d05ec4cc5794dfcd36a960ae09", func := "sketchstore/sketchstorelaw18.DirectoryPrunes", spec := "directoryPrunes", inPlace := ["slices.overlaps[sketchstore/api.Binding]"], unfollowed := true, recurses := true, apart := false }
def DirectoryPrunesSaid : Prop := directoryPrunesRow.holds Try.pinned (OpenSpec.ofChange directoryPrunesSpec)

/-- ITS FALSE NEIGHBOUR: 'it returns false'. Refute it at one input. -/
def directoryPrunesWrong : ChangeSpec := { name := "directoryPrunes", fn := fun _ => fun
  | [d1, d2] => { results := [.lit (.bool false)], args := [d1, d2] }
  | _ => none }
def DirectoryPrunesWrongFalsely : Prop := directoryPrunesRow.holds Try.pinned (OpenSpec.ofChange directoryPrunesWrong)

/-- 'sketchstorelaw18.DirectoryPast': WHATEVER THE INPUT: true; the input reads as it did. -/
def directoryPastSpec : ChangeSpec := { name := "directoryPast", fn := fun _ => fun
  | [d1, d2] => { results := [.lit (.bool true)], args := [d1, d2] }
  | _ => none }
def directoryPastRow : OpenClaim := { program := "ytpopgpjojbngcaa", sum := "be6f2a3607316d4515f95b4fdd061022ac8c92d05ec4cc5794dfcd36a960ae09", func := "sketchstore/sketchstorelaw18.DirectoryPast", spec := "directoryPast", inPlace := ["slices.overlaps[sketchstore/api.Binding]"], unfollowed := true, recurses := true, apart := false }
def DirectoryPastSaid : Prop := directoryPastRow.holds Try.pinned (OpenSpec.ofChange directoryPastSpec)

/-- ITS FALSE NEIGHBOUR: 'it returns false'. Refute it at one input. -/
def directoryPastWrong : ChangeSpec := { name := "directoryPast", fn := fun _ => fun
  | [d1, d2] => { results := [.lit (.bool false)], args := [d1, d2] }
  | _ => none }
def DirectoryPastWrongFalsely : Prop := directoryPastRow.holds Try.pinned (OpenSpec.ofChange directoryPastWrong)

/- THE SECOND FORM. 'bulk': how many values and letters a reading holds, each counted each time it is reached (what is shared counts as often as it is met; a slice's spare places count too). A statement '..UptoSaid' is the law's where the arguments, and the package variables that the reading takes, are together of bulk at most 1048576: NARROWER than '..Said'. Prove '..Said' where nothing that the law and all that it calls make is longer than what came in: it says more and counts as full. Else prove '..UptoSaid'. A law counts once. -/
mutual
def uptoBulk {H : Type} : DataW H → Nat
  | .lit (.string bytes) => bytes.length + 1
  | .lit _ => 1
  | .nil => 1
  | .ptr d => uptoBulk d + 1
  | .slice elems spare => uptoBulkAll elems + uptoBulkAll spare + 1
  | .agg parts => uptoBulkAll parts + 1
  | .iface _ d => uptoBulk d + 1
  | .map entries => uptoBulkEntries entries + 1
  | .held _ => 1
def uptoBulkAll {H : Type} : List (DataW H) → Nat
  | [] => 0
  | d :: r => uptoBulk d + uptoBulkAll r
def uptoBulkEntries {H : Type} : List (Lit × DataW H) → Nat
  | [] => 0
  | x :: r => uptoBulkEntry x + uptoBulkEntries r
def uptoBulkEntry {H : Type} : Lit × DataW H → Nat
  | (.string bytes, d) => bytes.length + uptoBulk d + 1
  | (_, d) => uptoBulk d + 1
 end
def uptoSmall : (H : Type) → List (DataW H) → Bool := fun _ ds => decide (uptoBulkAll ds ≤ 1048576)
def OpenSpec.upto (s : _root_.Go.ChangeSpec) : _root_.Go.OpenSpec := { _root_.Go.OpenSpec.ofChange s with cond := some uptoSmall }

/-- 'sketchstorelaw10.FrequentInserts', WHERE WHAT IT READS IS OF BULK AT MOST 1048576: true; the input reads as it did. -/
def frequentInsertsUptoRow : OpenClaim := { program := "ytpopgpjojbngcaa", sum := "be6f2a3607316d4515f95b4fdd061022ac8c92d05ec4cc5794dfcd36a960ae09", func := "sketchstore/sketchstorelaw10.FrequentInserts", spec := "frequentInserts", inPlace := ["slices.overlaps[sketchstore/api.Entry]"], apart := false, narrowed := true }
def FrequentInsertsUptoSaid : Prop := frequentInsertsUptoRow.holds Try.pinned (OpenSpec.upto frequentInsertsSpec)

/-- 'sketchstorelaw10.FrequentCodes', WHERE WHAT IT READS IS OF BULK AT MOST 1048576: true; the input reads as it did. -/
def frequentCodesUptoRow : OpenClaim := { program := "ytpopgpjojbngcaa", sum := "be6f2a3607316d4515f95b4fdd061022ac8c92d05ec4cc5794dfcd36a960ae09", func := "sketchstore/sketchstorelaw10.FrequentCodes", spec := "frequentCodes", inPlace := ["slices.overlaps[sketchstore/api.Entry]"], apart := false, narrowed := true }
def FrequentCodesUptoSaid : Prop := frequentCodesUptoRow.holds Try.pinned (OpenSpec.upto frequentCodesSpec)

/-- 'sketchstorelaw10.FrequentMerges', WHERE WHAT IT READS IS OF BULK AT MOST 1048576: true; the input reads as it did. -/
def frequentMergesUptoRow : OpenClaim := { program := "ytpopgpjojbngcaa", sum := "be6f2a3607316d4515f95b4fdd061022ac8c92d05ec4cc5794dfcd36a960ae09", func := "sketchstore/sketchstorelaw10.FrequentMerges", spec := "frequentMerges", inPlace := ["slices.overlaps[sketchstore/api.Entry]"], recurses := true, apart := false, narrowed := true }
def FrequentMergesUptoSaid : Prop := frequentMergesUptoRow.holds Try.pinned (OpenSpec.upto frequentMergesSpec)

/-- 'sketchstorelaw10.FrequentCommutes', WHERE WHAT IT READS IS OF BULK AT MOST 1048576: true; the input reads as it did. -/
def frequentCommutesUptoRow : OpenClaim := { program := "ytpopgpjojbngcaa", sum := "be6f2a3607316d4515f95b4fdd061022ac8c92d05ec4cc5794dfcd36a960ae09", func := "sketchstore/sketchstorelaw10.FrequentCommutes", spec := "frequentCommutes", inPlace := ["slices.overlaps[sketchstore/api.Entry]"], recurses := true, apart := false, narrowed := true }
def FrequentCommutesUptoSaid : Prop := frequentCommutesUptoRow.holds Try.pinned (OpenSpec.upto frequentCommutesSpec)

/-- 'sketchstorelaw10.FrequentBounds', WHERE WHAT IT READS IS OF BULK AT MOST 1048576: true; the input reads as it did. -/
def frequentBoundsUptoRow : OpenClaim := { program := "ytpopgpjojbngcaa", sum := "be6f2a3607316d4515f95b4fdd061022ac8c92d05ec4cc5794dfcd36a960ae09", func := "sketchstore/sketchstorelaw10.FrequentBounds", spec := "frequentBounds", inPlace := ["slices.overlaps[sketchstore/api.Entry]"], recurses := true, apart := false, narrowed := true }
def FrequentBoundsUptoSaid : Prop := frequentBoundsUptoRow.holds Try.pinned (OpenSpec.upto frequentBoundsSpec)

/-- 'sketchstorelaw18.DirectoryBinds', WHERE WHAT IT READS IS OF BULK AT MOST 1048576: true; the input reads as it did. -/
def directoryBindsUptoRow : OpenClaim := { program := "ytpopgpjojbngcaa", sum := "be6f2a3607316d4515f95b4fdd061022ac8c92d05ec4cc5794dfcd36a960ae09", func := "sketchstore/sketchstorelaw18.DirectoryBinds", spec := "directoryBinds", inPlace := ["slices.overlaps[sketchstore/api.Binding]"], unfollowed := true, recurses := true, apart := false, narrowed := true }
def DirectoryBindsUptoSaid : Prop := directoryBindsUptoRow.holds Try.pinned (OpenSpec.upto directoryBindsSpec)

/-- 'sketchstorelaw18.DirectoryUnbinds', WHERE WHAT IT READS IS OF BULK AT MOST 1048576: true; the input reads as it did. -/
def directoryUnbindsUptoRow : OpenClaim := { program := "ytpopgpjojbngcaa", sum := "be6f2a3607316d4515f95b4fdd061022ac8c92d05ec4cc5794dfcd36a960ae09", func := "sketchstore/sketchstorelaw18.DirectoryUnbinds", spec := "directoryUnbinds", inPlace := ["slices.overlaps[sketchstore/api.Binding]"], unfollowed := true, recurses := true, apart := false, narrowed := true }
def DirectoryUnbindsUptoSaid : Prop := directoryUnbindsUptoRow.holds Try.pinned (OpenSpec.upto directoryUnbindsSpec)

/-- 'sketchstorelaw18.DirectoryLooks', WHERE WHAT IT READS IS OF BULK AT MOST 1048576: true; the input reads as it did. -/
def directoryLooksUptoRow : OpenClaim := { program := "ytpopgpjojbngcaa", sum := "be6f2a3607316d4515f95b4fdd061022ac8c92d05ec4cc5794dfcd36a960ae09", func := "sketchstore/sketchstorelaw18.DirectoryLooks", spec := "directoryLooks", inPlace := ["slices.overlaps[sketchstore/api.Binding]"], unfollowed := true, recurses := true, apart := false, narrowed := true }
def DirectoryLooksUptoSaid : Prop := directoryLooksUptoRow.holds Try.pinned (OpenSpec.upto directoryLooksSpec)

/-- 'sketchstorelaw18.DirectoryPrunes', WHERE WHAT IT READS IS OF BULK AT MOST 1048576: true; the input reads as it did. -/
def directoryPrunesUptoRow : OpenClaim := { program := "ytpopgpjojbngcaa", sum := "be6f2a3607316d4515f95b4fdd061022ac8c92d05ec4cc5794dfcd36a960ae09", func := "sketchstore/sketchstorelaw18.DirectoryPrunes", spec := "directoryPrunes", inPlace := ["slices.overlaps[sketchstore/api.Binding]"], unfollowed := true, recurses := true, apart := false, narrowed := true }
def DirectoryPrunesUptoSaid : Prop := directoryPrunesUptoRow.holds Try.pinned (OpenSpec.upto directoryPrunesSpec)

/-- 'sketchstorelaw18.DirectoryPast', WHERE WHAT IT READS IS OF BULK AT MOST 1048576: true; the input reads as it did. -/
def directoryPastUptoRow : OpenClaim := { program := "ytpopgpjojbngcaa", sum := "be6f2a3607316d4515f95b4fdd061022ac8c92d05ec4cc5794dfcd36a960ae09", func := "sketchstore/sketchstorelaw18.DirectoryPast", spec := "directoryPast", inPlace := ["slices.overlaps[sketchstore/api.Binding]"], unfollowed := true, recurses := true, apart := false, narrowed := true }
def DirectoryPastUptoSaid : Prop := directoryPastUptoRow.holds Try.pinned (OpenSpec.upto directoryPastSpec)

end Rows
end Go.Proofs.Ytpopgpjojbngcaa
