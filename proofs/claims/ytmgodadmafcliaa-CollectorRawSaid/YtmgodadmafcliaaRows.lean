/-
  No cell of these rows narrows 'for every input' (looked for: loops, veiled, ifaces, maps, wideKeys, modest, calm, conditions, laid).
  DERIVED. THE GIVEN ROWS OF THIS SEAT. 7 by the template 'for every input the law returns true; each argument reads behind the call as it read before'; 0 by the template 'total and deterministic' (their statements: YtmgodadmafcliaaTotals.lean).
  GIVEN WITH THE SEED: the statements are not yours to turn. If you find one false, say at which input.
  Laid BY PROGRAM, IN A SANDBOX (cutbox-rows.mjs): the forced cells as the released guide's own fill.sh prints them over the translation a881d339cc9ae695… (all of the seat's roots in one cut). By AI agents, Wed Nov 11 2026. No macro, syntax, notation, axiom, sorry.
-/
import Derived.Test.YtmgodadmafcliaaChecked
import GoSem.Claim
import GoSem.ClaimJoined
import GoSem.ClaimMapViews
import Derived.JoinedTies
import Derived.KernelRfl
namespace Go.Proofs.Ytmgodadmafcliaa
/- THE CELL 'sum', in the pinned program and in every row, IS THE sha256 OF THE DUMP (.gsa) THAT YtmgodadmafcliaaProg.lean LOADS. Nothing in Lean hashes anything: it is a label: what it is worth is what the hold of that sum in a sandbox is worth. -/
noncomputable def Try.pinned : Pinned := { name := "ytmgodadmafcliaa", sum := "a881d339cc9ae695f7027cb3555342b514eba5a3aa7c5a37046d6b3a2a3f26a7", checked := Try.checked }
namespace Rows
def none {H : Type} : Left H := { results := [], args := [] }

/-- 'sketchstorelaw21.AuditSpoilt': WHATEVER THE INPUT: true; the input reads as it did. -/
def auditSpoiltSpec : ChangeSpec := { name := "auditSpoilt", fn := fun _ => fun
  | [d1, d2, d3] => { results := [.lit (.bool true)], args := [d1, d2, d3] }
  | _ => none }
def auditSpoiltRow : OpenClaim := { program := "ytmgodadmafcliaa", sum := "a881d339cc9ae695f7027cb3555342b514eba5a3aa7c5a37046d6b3a2a3f26a7", func := "sketchstore/sketchstorelaw21.AuditSpoilt", spec := "auditSpoilt", unfollowed := true, recurses := true, apart := false }
def AuditSpoiltSaid : Prop := auditSpoiltRow.holds Try.pinned (OpenSpec.ofChange auditSpoiltSpec)

/-- ITS FALSE NEIGHBOUR: 'it returns false'. Refute it at one input. -/
def auditSpoiltWrong : ChangeSpec := { name := "auditSpoilt", fn := fun _ => fun
  | [d1, d2, d3] => { results := [.lit (.bool false)], args := [d1, d2, d3] }
  | _ => none }
def AuditSpoiltWrongFalsely : Prop := auditSpoiltRow.holds Try.pinned (OpenSpec.ofChange auditSpoiltWrong)

/-- 'sketchstorelaw21.AuditConfigs': WHATEVER THE INPUT: true; the input reads as it did. -/
def auditConfigsSpec : ChangeSpec := { name := "auditConfigs", fn := fun _ => fun
  | [d1, d2, d3] => { results := [.lit (.bool true)], args := [d1, d2, d3] }
  | _ => none }
def auditConfigsRow : OpenClaim := { program := "ytmgodadmafcliaa", sum := "a881d339cc9ae695f7027cb3555342b514eba5a3aa7c5a37046d6b3a2a3f26a7", func := "sketchstore/sketchstorelaw21.AuditConfigs", spec := "auditConfigs", unfollowed := true, recurses := true, apart := false }
def AuditConfigsSaid : Prop := auditConfigsRow.holds Try.pinned (OpenSpec.ofChange auditConfigsSpec)

/-- ITS FALSE NEIGHBOUR: 'it returns false'. Refute it at one input. -/
def auditConfigsWrong : ChangeSpec := { name := "auditConfigs", fn := fun _ => fun
  | [d1, d2, d3] => { results := [.lit (.bool false)], args := [d1, d2, d3] }
  | _ => none }
def AuditConfigsWrongFalsely : Prop := auditConfigsRow.holds Try.pinned (OpenSpec.ofChange auditConfigsWrong)

/-- 'sketchstorelaw21.AuditRaw': WHATEVER THE INPUT: true; the input reads as it did. -/
def auditRawSpec : ChangeSpec := { name := "auditRaw", fn := fun _ => fun
  | [d1, d2] => { results := [.lit (.bool true)], args := [d1, d2] }
  | _ => none }
def auditRawRow : OpenClaim := { program := "ytmgodadmafcliaa", sum := "a881d339cc9ae695f7027cb3555342b514eba5a3aa7c5a37046d6b3a2a3f26a7", func := "sketchstore/sketchstorelaw21.AuditRaw", spec := "auditRaw", unfollowed := true, recurses := true, apart := false }
def AuditRawSaid : Prop := auditRawRow.holds Try.pinned (OpenSpec.ofChange auditRawSpec)

/-- ITS FALSE NEIGHBOUR: 'it returns false'. Refute it at one input. -/
def auditRawWrong : ChangeSpec := { name := "auditRaw", fn := fun _ => fun
  | [d1, d2] => { results := [.lit (.bool false)], args := [d1, d2] }
  | _ => none }
def AuditRawWrongFalsely : Prop := auditRawRow.holds Try.pinned (OpenSpec.ofChange auditRawWrong)

/-- 'sketchstorelaw20.CollectorSafe': WHATEVER THE INPUT: true; the input reads as it did. -/
def collectorSafeSpec : ChangeSpec := { name := "collectorSafe", fn := fun _ => fun
  | [d] => { results := [.lit (.bool true)], args := [d] }
  | _ => none }
def collectorSafeRow : OpenClaim := { program := "ytmgodadmafcliaa", sum := "a881d339cc9ae695f7027cb3555342b514eba5a3aa7c5a37046d6b3a2a3f26a7", func := "sketchstore/sketchstorelaw20.CollectorSafe", spec := "collectorSafe", unfollowed := true, recurses := true, apart := false }
def CollectorSafeSaid : Prop := collectorSafeRow.holds Try.pinned (OpenSpec.ofChange collectorSafeSpec)

/-- ITS FALSE NEIGHBOUR: 'it returns false'. Refute it at one input. -/
def collectorSafeWrong : ChangeSpec := { name := "collectorSafe", fn := fun _ => fun
  | [d] => { results := [.lit (.bool false)], args := [d] }
  | _ => none }
def CollectorSafeWrongFalsely : Prop := collectorSafeRow.holds Try.pinned (OpenSpec.ofChange collectorSafeWrong)

/-- 'sketchstorelaw20.CollectorPins': WHATEVER THE INPUT: true; the input reads as it did. -/
def collectorPinsSpec : ChangeSpec := { name := "collectorPins", fn := fun _ => fun
  | [d1, d2] => { results := [.lit (.bool true)], args := [d1, d2] }
  | _ => none }
def collectorPinsRow : OpenClaim := { program := "ytmgodadmafcliaa", sum := "a881d339cc9ae695f7027cb3555342b514eba5a3aa7c5a37046d6b3a2a3f26a7", func := "sketchstore/sketchstorelaw20.CollectorPins", spec := "collectorPins", unfollowed := true, recurses := true, apart := false }
def CollectorPinsSaid : Prop := collectorPinsRow.holds Try.pinned (OpenSpec.ofChange collectorPinsSpec)

/-- ITS FALSE NEIGHBOUR: 'it returns false'. Refute it at one input. -/
def collectorPinsWrong : ChangeSpec := { name := "collectorPins", fn := fun _ => fun
  | [d1, d2] => { results := [.lit (.bool false)], args := [d1, d2] }
  | _ => none }
def CollectorPinsWrongFalsely : Prop := collectorPinsRow.holds Try.pinned (OpenSpec.ofChange collectorPinsWrong)

/-- 'sketchstorelaw20.CollectorRaw': WHATEVER THE INPUT: true; the input reads as it did. -/
def collectorRawSpec : ChangeSpec := { name := "collectorRaw", fn := fun _ => fun
  | [d1, d2, d3] => { results := [.lit (.bool true)], args := [d1, d2, d3] }
  | _ => none }
def collectorRawRow : OpenClaim := { program := "ytmgodadmafcliaa", sum := "a881d339cc9ae695f7027cb3555342b514eba5a3aa7c5a37046d6b3a2a3f26a7", func := "sketchstore/sketchstorelaw20.CollectorRaw", spec := "collectorRaw", unfollowed := true, recurses := true, apart := false }
def CollectorRawSaid : Prop := collectorRawRow.holds Try.pinned (OpenSpec.ofChange collectorRawSpec)

/-- ITS FALSE NEIGHBOUR: 'it returns false'. Refute it at one input. -/
def collectorRawWrong : ChangeSpec := { name := "collectorRaw", fn := fun _ => fun
  | [d1, d2, d3] => { results := [.lit (.bool false)], args := [d1, d2, d3] }
  | _ => none }
def CollectorRawWrongFalsely : Prop := collectorRawRow.holds Try.pinned (OpenSpec.ofChange collectorRawWrong)

/-- 'sketchstorelaw20.CollectorComplete': WHATEVER THE INPUT: true; the input reads as it did. -/
def collectorCompleteSpec : ChangeSpec := { name := "collectorComplete", fn := fun _ => fun
  | [d1, d2] => { results := [.lit (.bool true)], args := [d1, d2] }
  | _ => none }
def collectorCompleteRow : OpenClaim := { program := "ytmgodadmafcliaa", sum := "a881d339cc9ae695f7027cb3555342b514eba5a3aa7c5a37046d6b3a2a3f26a7", func := "sketchstore/sketchstorelaw20.CollectorComplete", spec := "collectorComplete", unfollowed := true, recurses := true, apart := false }
def CollectorCompleteSaid : Prop := collectorCompleteRow.holds Try.pinned (OpenSpec.ofChange collectorCompleteSpec)

/-- ITS FALSE NEIGHBOUR: 'it returns false'. Refute it at one input. -/
def collectorCompleteWrong : ChangeSpec := { name := "collectorComplete", fn := fun _ => fun
  | [d1, d2] => { results := [.lit (.bool false)], args := [d1, d2] }
  | _ => none }
def CollectorCompleteWrongFalsely : Prop := collectorCompleteRow.holds Try.pinned (OpenSpec.ofChange collectorCompleteWrong)

/- THE SECOND FORM. 'bulk': how many values and letters a reading holds, each counted each time it is reached (what is shared counts as often as it is met; a slice's spare places count too). A statement '..UptoSaid' is the law's where the arguments, and the package variables that the reading takes, are together of bulk at most 1048576: NARROWER than '..Said'. Prove '..Said' where nothing that the law and all that it calls make is longer than what came in: it says more and counts as full. Else prove '..UptoSaid'. A law counts once. -/
mutual
def uptoBulk {H : Type} : DataW H → Nat
  | .lit (.string bytes) => bytes.length + 1
  | .lit _ => 1
  | .nil => 1
  | .ptr d => uptoBulk d + 1
  | .slice elems spare => uptoBulkAll elems + uptoBulkAll spare + 1
  | .agg parts => uptoBulkAll parts + 1
  | .iface _ d => uptoBulk d + 1
  | .map entries => uptoBulkEntries entries + 1
  | .held _ => 1
def uptoBulkAll {H : Type} : List (DataW H) → Nat
  | [] => 0
  | d :: r => uptoBulk d + uptoBulkAll r
def uptoBulkEntries {H : Type} : List (Lit × DataW H) → Nat
  | [] => 0
  | x :: r => uptoBulkEntry x + uptoBulkEntries r
def uptoBulkEntry {H : Type} : Lit × DataW H → Nat
  | (.string bytes, d) => bytes.length + uptoBulk d + 1
  | (_, d) => uptoBulk d + 1
 end
def uptoSmall : (H : Type) → List (DataW H) → Bool := fun _ ds => decide (uptoBulkAll ds ≤ 1048576)
def OpenSpec.upto (s : _root_.Go.ChangeSpec) : _root_.Go.OpenSpec := { _root_.Go.OpenSpec.ofChange s with cond := some uptoSmall }

/-- 'sketchstorelaw21.AuditSpoilt', WHERE WHAT IT READS IS OF BULK AT MOST 1048576: true; the input reads as it did. -/
def auditSpoiltUptoRow : OpenClaim := { program := "ytmgodadmafcliaa", sum := "a881d339cc9ae695f7027cb3555342b514eba5a3aa7c5a37046d6b3a2a3f26a7", func := "sketchstore/sketchstorelaw21.AuditSpoilt", spec := "auditSpoilt", unfollowed := true, recurses := true, apart := false, narrowed := true }
def AuditSpoiltUptoSaid : Prop := auditSpoiltUptoRow.holds Try.pinned (OpenSpec.upto auditSpoiltSpec)

/-- 'sketchstorelaw21.AuditConfigs', WHERE WHAT IT READS IS OF BULK AT MOST 1048576: true; the input reads as it did. -/
def auditConfigsUptoRow : OpenClaim := { program := "ytmgodadmafcliaa", sum := "a881d339cc9ae695f7027cb3555342b514eba5a3aa7c5a37046d6b3a2a3f26a7", func := "sketchstore/sketchstorelaw21.AuditConfigs", spec := "auditConfigs", unfollowed := true, recurses := true, apart := false, narrowed := true }
def AuditConfigsUptoSaid : Prop := auditConfigsUptoRow.holds Try.pinned (OpenSpec.upto auditConfigsSpec)

/-- 'sketchstorelaw21.AuditRaw', WHERE WHAT IT READS IS OF BULK AT MOST 1048576: true; the input reads as it did. -/
def auditRawUptoRow : OpenClaim := { program := "ytmgodadmafcliaa", sum := "a881d339cc9ae695f7027cb3555342b514eba5a3aa7c5a37046d6b3a2a3f26a7", func := "sketchstore/sketchstorelaw21.AuditRaw", spec := "auditRaw", unfollowed := true, recurses := true, apart := false, narrowed := true }
def AuditRawUptoSaid : Prop := auditRawUptoRow.holds Try.pinned (OpenSpec.upto auditRawSpec)

/-- 'sketchstorelaw20.CollectorSafe', WHERE WHAT IT READS IS OF BULK AT MOST 1048576: true; the input reads as it did. -/
def collectorSafeUptoRow : OpenClaim := { program := "ytmgodadmafcliaa", sum := "a881d339cc9ae695f7027cb3555342b514eba5a3aa7c5a37046d6b3a2a3f26a7", func := "sketchstore/sketchstorelaw20.CollectorSafe", spec := "collectorSafe", unfollowed := true, recurses := true, apart := false, narrowed := true }
def CollectorSafeUptoSaid : Prop := collectorSafeUptoRow.holds Try.pinned (OpenSpec.upto collectorSafeSpec)

/-- 'sketchstorelaw20.CollectorPins', WHERE WHAT IT READS IS OF BULK AT MOST 1048576: true; the input reads as it did. -/
def collectorPinsUptoRow : OpenClaim := { program := "ytmgodadmafcliaa", sum := "a881d339cc9ae695f7027cb3555342b514eba5a3aa7c5a37046d6b3a2a3f26a7", func := "sketchstore/sketchstorelaw20.CollectorPins", spec := "collectorPins", unfollowed := true, recurses := true, apart := false, narrowed := true }
def CollectorPinsUptoSaid : Prop := collectorPinsUptoRow.holds Try.pinned (OpenSpec.upto collectorPinsSpec)

/-- 'sketchstorelaw20.CollectorRaw', WHERE WHAT IT READS IS OF BULK AT MOST 1048576: true; the input reads as it did. -/
def collectorRawUptoRow : OpenClaim := { program := "ytmgodadmafcliaa", sum := "a881d339cc9ae695f7027cb3555342b514eba5a3aa7c5a37046d6b3a2a3f26a7", func := "sketchstore/sketchstorelaw20.CollectorRaw", spec := "collectorRaw", unfollowed := true, recurses := true, apart := false, narrowed := true }
def CollectorRawUptoSaid : Prop := collectorRawUptoRow.holds Try.pinned (OpenSpec.upto collectorRawSpec)

/-- 'sketchstorelaw20.CollectorComplete', WHERE WHAT IT READS IS OF BULK AT MOST 1048576: true; the input reads as it did. -/
def collectorCompleteUptoRow : OpenClaim := { program := "ytmgodadmafcliaa", sum := "a881d339cc9ae695f7027cb3555342b514eba5a3aa7c5a37046d6b3a2a3f26a7", func := "sketchstore/sketchstorelaw20.CollectorComplete", spec := "collectorComplete", unfollowed := true, recurses := true, apart := false, narrowed := true }
def CollectorCompleteUptoSaid : Prop := collectorCompleteUptoRow.holds Try.pinned (OpenSpec.upto collectorCompleteSpec)

end Rows
end Go.Proofs.Ytmgodadmafcliaa
