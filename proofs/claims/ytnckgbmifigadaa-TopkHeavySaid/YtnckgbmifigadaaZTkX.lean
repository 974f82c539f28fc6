/- TopkBounds: after any insertions and a merge the true weight of a key lies between Count less Error and Count, all Counts together are at most Total, and no Error is above Total over Size. -/
import Derived.Test.YtnckgbmifigadaaZTkL
import Derived.Test.YtnckgbmifigadaaZTkN
import Derived.Test.YtnckgbmifigadaaZTkW
set_option linter.unusedSimpArgs false
set_option linter.unusedVariables false
namespace Go.Proofs.Ytnckgbmifigadaa
open Go.RowKit Go.Avm Go.ChangeShapes Go.WideShapes Go.ChangeAt
theorem instv_calls {s t w : Int} {l : List En} {b : Bool} {k : ByteArray} (hz : validT ⟨s,t,l,b⟩ = 0) (hs : s ≤ 11) (hi : (1 ≤ k.size ∧ k.size ≤ 32) ∧ 1 ≤ w ∧ w ≤ 4294967295) : ACalls Try.prog 19 [dT ⟨s,t,l,b⟩,.agg [.sc (.string k),.sc (.int .i64 w)]] (.tup [dT (insT ⟨s,t,l,b⟩ k w).1,.sc (.int .i64 0)]) [] := by
  obtain ⟨⟨s1, s2⟩, ⟨t1, t2⟩, l1, ok⟩ := validT_iff.1 hz
  simp only at s1 s2 t1 t2 l1 ok
  have h := inst_calls (s := s) (t := t) (w := w) (l := l) (b := b) (k := k) (by omega) (fun x hx => by have := keyOk_sizeT (ok.range x hx).1; omega) (by omega)
  rw [(insT_valid hz (itemE_ofT hi)).2.2] at h
  exact h
end Go.Proofs.Ytnckgbmifigadaa
