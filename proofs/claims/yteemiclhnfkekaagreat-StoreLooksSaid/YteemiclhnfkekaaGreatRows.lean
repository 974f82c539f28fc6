/-
  No cell of these rows narrows 'for every input' (looked for: loops, veiled, ifaces, maps, wideKeys, modest, calm, conditions, laid).
  DERIVED. THE GIVEN ROWS OF THIS SEAT. 5 by the template 'for every input the law returns true; each argument reads behind the call as it read before'; 0 by the template 'total and deterministic' (their statements: YteemiclhnfkekaaGreatTotals.lean).
  GIVEN WITH THE SEED: the statements are not yours to turn. If you find one false, say at which input.
  Laid BY PROGRAM, IN A SANDBOX (cutbox-rows.mjs): the forced cells as the released guide's own fill.sh prints them over the translation f568763fc1c2e66b… (all of the seat's roots in one cut). By AI agents, Wed Nov 11 2026. No macro, syntax, notation, axiom, sorry.
-/
import Derived.Test.YteemiclhnfkekaaGreatChecked
import GoSem.Claim
import GoSem.ClaimJoined
import GoSem.ClaimMapViews
import Derived.JoinedTies
import Derived.KernelRfl
namespace Go.Proofs.YteemiclhnfkekaaGreat
/- THE CELL 'sum', in the pinned program and in every row, IS THE sha256 OF THE DUMP (.gsa) THAT YteemiclhnfkekaaGreatProg.lean LOADS. Nothing in Lean hashes anything: it is a label: what it is worth is what the hold of that sum in a sandbox is worth. -/
noncomputable def Tryz.pinned : Pinned := { name := "yteemiclhnfkekaagreat", sum := "f568763fc1c2e66bab241fd0c52427d7a1720bac1f5c8cf2e12751996e92822c", checked := Tryz.checked }
namespace Rows
def none {H : Type} : Left H := { results := [], args := [] }

/-- 'sketchstorelaw19.StoreLooks': WHATEVER THE INPUT: true; the input reads as it did. -/
def storeLooksSpec : ChangeSpec := { name := "storeLooks", fn := fun _ => fun
  | [d1, d2, d3] => { results := [.lit (.bool true)], args := [d1, d2, d3] }
  | _ => none }
def storeLooksRow : OpenClaim := { program := "yteemiclhnfkekaagreat", sum := "f568763fc1c2e66bab241fd0c52427d7a1720bac1f5c8cf2e12751996e92822c", func := "sketchstore/sketchstorelaw19.StoreLooks", spec := "storeLooks", inPlace := ["slices.overlaps[sketchstore/api.Binding]", "slices.overlaps[sketchstore/api.Pin]"], unfollowed := true, recurses := true, apart := false }
def StoreLooksSaid : Prop := storeLooksRow.holds Tryz.pinned (OpenSpec.ofChange storeLooksSpec)

/-- ITS FALSE NEIGHBOUR: 'it returns false'. Refute it at one input. -/
def storeLooksWrong : ChangeSpec := { name := "storeLooks", fn := fun _ => fun
  | [d1, d2, d3] => { results := [.lit (.bool false)], args := [d1, d2, d3] }
  | _ => none }
def StoreLooksWrongFalsely : Prop := storeLooksRow.holds Tryz.pinned (OpenSpec.ofChange storeLooksWrong)

/-- 'sketchstorelaw19.StorePinned': WHATEVER THE INPUT: true; the input reads as it did. -/
def storePinnedSpec : ChangeSpec := { name := "storePinned", fn := fun _ => fun
  | [d1, d2] => { results := [.lit (.bool true)], args := [d1, d2] }
  | _ => none }
def storePinnedRow : OpenClaim := { program := "yteemiclhnfkekaagreat", sum := "f568763fc1c2e66bab241fd0c52427d7a1720bac1f5c8cf2e12751996e92822c", func := "sketchstore/sketchstorelaw19.StorePinned", spec := "storePinned", inPlace := ["slices.overlaps[sketchstore/api.Binding]", "slices.overlaps[sketchstore/api.Pin]"], unfollowed := true, recurses := true, apart := false }
def StorePinnedSaid : Prop := storePinnedRow.holds Tryz.pinned (OpenSpec.ofChange storePinnedSpec)

/-- ITS FALSE NEIGHBOUR: 'it returns false'. Refute it at one input. -/
def storePinnedWrong : ChangeSpec := { name := "storePinned", fn := fun _ => fun
  | [d1, d2] => { results := [.lit (.bool false)], args := [d1, d2] }
  | _ => none }
def StorePinnedWrongFalsely : Prop := storePinnedRow.holds Tryz.pinned (OpenSpec.ofChange storePinnedWrong)

/-- 'sketchstorelaw19.StoreRuns': WHATEVER THE INPUT: true; the input reads as it did. -/
def storeRunsSpec : ChangeSpec := { name := "storeRuns", fn := fun _ => fun
  | [d] => { results := [.lit (.bool true)], args := [d] }
  | _ => none }
def storeRunsRow : OpenClaim := { program := "yteemiclhnfkekaagreat", sum := "f568763fc1c2e66bab241fd0c52427d7a1720bac1f5c8cf2e12751996e92822c", func := "sketchstore/sketchstorelaw19.StoreRuns", spec := "storeRuns", inPlace := ["slices.overlaps[sketchstore/api.Binding]", "slices.overlaps[sketchstore/api.Pin]"], unfollowed := true, recurses := true, apart := false }
def StoreRunsSaid : Prop := storeRunsRow.holds Tryz.pinned (OpenSpec.ofChange storeRunsSpec)

/-- ITS FALSE NEIGHBOUR: 'it returns false'. Refute it at one input. -/
def storeRunsWrong : ChangeSpec := { name := "storeRuns", fn := fun _ => fun
  | [d] => { results := [.lit (.bool false)], args := [d] }
  | _ => none }
def StoreRunsWrongFalsely : Prop := storeRunsRow.holds Tryz.pinned (OpenSpec.ofChange storeRunsWrong)

/-- 'sketchstorelaw19.StoreFull': WHATEVER THE INPUT: true; the input reads as it did. -/
def storeFullSpec : ChangeSpec := { name := "storeFull", fn := fun _ => fun
  | [d1, d2] => { results := [.lit (.bool true)], args := [d1, d2] }
  | _ => none }
def storeFullRow : OpenClaim := { program := "yteemiclhnfkekaagreat", sum := "f568763fc1c2e66bab241fd0c52427d7a1720bac1f5c8cf2e12751996e92822c", func := "sketchstore/sketchstorelaw19.StoreFull", spec := "storeFull", inPlace := ["slices.overlaps[sketchstore/api.Binding]", "slices.overlaps[sketchstore/api.Pin]"], unfollowed := true, recurses := true, apart := false }
def StoreFullSaid : Prop := storeFullRow.holds Tryz.pinned (OpenSpec.ofChange storeFullSpec)

/-- ITS FALSE NEIGHBOUR: 'it returns false'. Refute it at one input. -/
def storeFullWrong : ChangeSpec := { name := "storeFull", fn := fun _ => fun
  | [d1, d2] => { results := [.lit (.bool false)], args := [d1, d2] }
  | _ => none }
def StoreFullWrongFalsely : Prop := storeFullRow.holds Tryz.pinned (OpenSpec.ofChange storeFullWrong)

/-- 'sketchstorelaw21.AuditStores': WHATEVER THE INPUT: true; the input reads as it did. -/
def auditStoresSpec : ChangeSpec := { name := "auditStores", fn := fun _ => fun
  | [d] => { results := [.lit (.bool true)], args := [d] }
  | _ => none }
def auditStoresRow : OpenClaim := { program := "yteemiclhnfkekaagreat", sum := "f568763fc1c2e66bab241fd0c52427d7a1720bac1f5c8cf2e12751996e92822c", func := "sketchstore/sketchstorelaw21.AuditStores", spec := "auditStores", inPlace := ["slices.overlaps[sketchstore/api.Binding]", "slices.overlaps[sketchstore/api.Pin]"], unfollowed := true, recurses := true, apart := false }
def AuditStoresSaid : Prop := auditStoresRow.holds Tryz.pinned (OpenSpec.ofChange auditStoresSpec)

/-- ITS FALSE NEIGHBOUR: 'it returns false'. Refute it at one input. -/
def auditStoresWrong : ChangeSpec := { name := "auditStores", fn := fun _ => fun
  | [d] => { results := [.lit (.bool false)], args := [d] }
  | _ => none }
def AuditStoresWrongFalsely : Prop := auditStoresRow.holds Tryz.pinned (OpenSpec.ofChange auditStoresWrong)

/- THE SECOND FORM. 'bulk': how many values and letters a reading holds, each counted each time it is reached (what is shared counts as often as it is met; a slice's spare places count too). A statement '..UptoSaid' is the law's where the arguments, and the package variables that the reading takes, are together of bulk at most 1048576: NARROWER than '..Said'. Prove '..Said' where nothing that the law and all that it calls make is longer than what came in: it says more and counts as full. Else prove '..UptoSaid'. A law counts once. -/
mutual
def uptoBulk {H : Type} : DataW H → Nat
  | .lit (.string bytes) => bytes.length + 1
  | .lit _ => 1
  | .nil => 1
  | .ptr d => uptoBulk d + 1
  | .slice elems spare => uptoBulkAll elems + uptoBulkAll spare + 1
  | .agg parts => uptoBulkAll parts + 1
  | .iface _ d => uptoBulk d + 1
  | .map entries => uptoBulkEntries entries + 1
  | .held _ => 1
def uptoBulkAll {H : Type} : List (DataW H) → Nat
  | [] => 0
  | d :: r => uptoBulk d + uptoBulkAll r
def uptoBulkEntries {H : Type} : List (Lit × DataW H) → Nat
  | [] => 0
  | x :: r => uptoBulkEntry x + uptoBulkEntries r
def uptoBulkEntry {H : Type} : Lit × DataW H → Nat
  | (.string bytes, d) => bytes.length + uptoBulk d + 1
  | (_, d) => uptoBulk d + 1
 end
def uptoSmall : (H : Type) → List (DataW H) → Bool := fun _ ds => decide (uptoBulkAll ds ≤ 1048576)
def OpenSpec.upto (s : _root_.Go.ChangeSpec) : _root_.Go.OpenSpec := { _root_.Go.OpenSpec.ofChange s with cond := some uptoSmall }

/-- 'sketchstorelaw19.StoreLooks', WHERE WHAT IT READS IS OF BULK AT MOST 1048576: true; the input reads as it did. -/
def storeLooksUptoRow : OpenClaim := { program := "yteemiclhnfkekaagreat", sum := "f568763fc1c2e66bab241fd0c52427d7a1720bac1f5c8cf2e12751996e92822c", func := "sketchstore/sketchstorelaw19.StoreLooks", spec := "storeLooks", inPlace := ["slices.overlaps[sketchstore/api.Binding]", "slices.overlaps[sketchstore/api.Pin]"], unfollowed := true, recurses := true, apart := false, narrowed := true }
def StoreLooksUptoSaid : Prop := storeLooksUptoRow.holds Tryz.pinned (OpenSpec.upto storeLooksSpec)

/-- 'sketchstorelaw19.StorePinned', WHERE WHAT IT READS IS OF BULK AT MOST 1048576: true; the input reads as it did. -/
def storePinnedUptoRow : OpenClaim := { program := "yteemiclhnfkekaagreat", sum := "f568763fc1c2e66bab241fd0c52427d7a1720bac1f5c8cf2e12751996e92822c", func := "sketchstore/sketchstorelaw19.StorePinned", spec := "storePinned", inPlace := ["slices.overlaps[sketchstore/api.Binding]", "slices.overlaps[sketchstore/api.Pin]"], unfollowed := true, recurses := true, apart := false, narrowed := true }
def StorePinnedUptoSaid : Prop := storePinnedUptoRow.holds Tryz.pinned (OpenSpec.upto storePinnedSpec)

/-- 'sketchstorelaw19.StoreRuns', WHERE WHAT IT READS IS OF BULK AT MOST 1048576: true; the input reads as it did. -/
def storeRunsUptoRow : OpenClaim := { program := "yteemiclhnfkekaagreat", sum := "f568763fc1c2e66bab241fd0c52427d7a1720bac1f5c8cf2e12751996e92822c", func := "sketchstore/sketchstorelaw19.StoreRuns", spec := "storeRuns", inPlace := ["slices.overlaps[sketchstore/api.Binding]", "slices.overlaps[sketchstore/api.Pin]"], unfollowed := true, recurses := true, apart := false, narrowed := true }
def StoreRunsUptoSaid : Prop := storeRunsUptoRow.holds Tryz.pinned (OpenSpec.upto storeRunsSpec)

/-- 'sketchstorelaw19.StoreFull', WHERE WHAT IT READS IS OF BULK AT MOST 1048576: true; the input reads as it did. -/
def storeFullUptoRow : OpenClaim := { program := "yteemiclhnfkekaagreat", sum := "f568763fc1c2e66bab241fd0c52427d7a1720bac1f5c8cf2e12751996e92822c", func := "sketchstore/sketchstorelaw19.StoreFull", spec := "storeFull", inPlace := ["slices.overlaps[sketchstore/api.Binding]", "slices.overlaps[sketchstore/api.Pin]"], unfollowed := true, recurses := true, apart := false, narrowed := true }
def StoreFullUptoSaid : Prop := storeFullUptoRow.holds Tryz.pinned (OpenSpec.upto storeFullSpec)

/-- 'sketchstorelaw21.AuditStores', WHERE WHAT IT READS IS OF BULK AT MOST 1048576: true; the input reads as it did. -/
def auditStoresUptoRow : OpenClaim := { program := "yteemiclhnfkekaagreat", sum := "f568763fc1c2e66bab241fd0c52427d7a1720bac1f5c8cf2e12751996e92822c", func := "sketchstore/sketchstorelaw21.AuditStores", spec := "auditStores", inPlace := ["slices.overlaps[sketchstore/api.Binding]", "slices.overlaps[sketchstore/api.Pin]"], unfollowed := true, recurses := true, apart := false, narrowed := true }
def AuditStoresUptoSaid : Prop := auditStoresUptoRow.holds Tryz.pinned (OpenSpec.upto auditStoresSpec)

end Rows
end Go.Proofs.YteemiclhnfkekaaGreat
