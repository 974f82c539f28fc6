/- Ranks: the program's functions on valid summaries. -/
import Derived.Test.YtnckgbmifigadaaZRkT
import Derived.Test.YtnckgbmifigadaaZRkQ
set_option linter.unusedSimpArgs false
set_option linter.unusedVariables false
namespace Go.Proofs.Ytnckgbmifigadaa
open Go.RowKit Go.Avm
theorem keyOk_ofR {k : ByteArray} (h : 1 ≤ k.size ∧ k.size ≤ 32) : keyOk k = true := by simp only [keyOk, Bool.and_eq_true, decide_eq_true_eq]; omega
theorem itemE_ofR {k : ByteArray} {w : Int} (h : (1 ≤ k.size ∧ k.size ≤ 32) ∧ 1 ≤ w ∧ w ≤ 4294967295) : itemE k w = 0 := by
  unfold itemE; rw [if_neg (by simp [keyOk_ofR h.1]), if_neg (by omega)]
theorem valid_b1 {r : Rk} (h : validR r = 0) : r.levels.length ≤ 1000 := by have := (validR_ok h).len; omega
theorem valid_b2 {r : Rk} (h : validR r = 0) : ∀ l ∈ r.levels, l.length ≤ 100000 ∧ ∀ x ∈ l, x.size ≤ 1000000000 := fun l hl => by
  have ok := validR_ok h
  have h1 := (ok.lev l hl).1
  have h2 := ok.s2
  refine ⟨by omega, fun x hx => ?_⟩
  have := badL_ok l [] (ok.lev l hl).2 x hx
  simp only [keyOk, Bool.and_eq_true, decide_eq_true_eq] at this
  omega
theorem insrv_calls {r : Rk} {k : ByteArray} {w a : Int} {c : List Int} (hv : validR r = 0) (hk : 1 ≤ k.size ∧ k.size ≤ 32) (hc : ∀ z ∈ c, 0 ≤ z ∧ z ≤ 255) (he : (insR r k w c a).2.2 = 0) :
    ACalls Try.prog 32 [dR r, .agg [.sc (.string k), .sc (.int .i64 w)], .sl 1 (c.map rowU), .sc (.int .i64 a)] (.tup [dR (insR r k w c a).1, .sc (.int .i64 (insR r k w c a).2.1), .sc (.int .i64 0)]) [] := by
  have h := insr_calls (r := r) (k := k) (w := w) (a := a) (c := c) (valid_b1 hv) (valid_b2 hv) (by omega) hc
  rw [he] at h
  exact h
theorem rankv_calls {r : Rk} {k : ByteArray} (hv : validR r = 0) (hk : 1 ≤ k.size ∧ k.size ≤ 32) : ACalls Try.prog 40 [dR r, .sc (.string k)] (.tup [.sc (.int .i64 (rankL k 0 r.levels)), .sc (.int .i64 0)]) [] := by
  have h := pRank_calls (r := r) (key := k) (valid_b1 hv) (valid_b2 hv) (by omega)
  have e : rankR r k = (rankL k 0 r.levels, 0) := by unfold rankR; rw [if_neg (by simp [hv]), if_neg (by simp [keyOk_ofR hk])]
  rw [e] at h
  exact h
theorem newrv_calls {n : Int} (h : evenOk n = true) : ACalls Try.prog 34 [.sc (.int .i64 n)] (.tup [dR ⟨n, 0, 0, [], false⟩, .sc (.int .i64 0)]) [] := by
  have h1 := newr_calls (n := n)
  rw [show newR n = (⟨n, 0, 0, [], false⟩, 0) by unfold newR; rw [if_pos h]] at h1
  exact h1
end Go.Proofs.Ytnckgbmifigadaa
