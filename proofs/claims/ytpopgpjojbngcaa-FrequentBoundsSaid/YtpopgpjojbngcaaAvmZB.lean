/- The abstract machine, part ZB: a call that is handed the objects that its arguments name, and those that their cells name. -/
import Derived.Test.YtpopgpjojbngcaaAvmZA
namespace Go.Avm
set_option linter.unusedVariables false
set_option linter.unusedSimpArgs false
open Go.RowKit
def nmsO : Obj → List Nat
  | .box cs => nmsL cs
  | _ => []
def nmsOs (σ : St) : List Nat → List Nat
  | [] => []
  | o :: os => nmsO (hget σ.heap o) ++ nmsOs σ os
def closeN (σ : St) (ids : List Nat) : List Nat := dedupN [] (ids ++ nmsOs σ ids)
section
variable {P : Program} {ds : List (Option Nat)} {Q : Exit → St → Prop} {σ σ' : St} {l : List Oper} {dst : Option Nat} {ty : TypeId} {pos : String} {af : Array Edge} {g : Option (Nat × Bool)} {f : FuncId} {x : Operand} {xs : Array Operand} {ts : Array TypeId} {caps args : List D} {ret : D}
theorem TriD.cJ (new : List Nat) {objs outs : List Obj} {ins : List Nat} (hx : evl σ x = .fn f caps) (hi : closeN σ (nmsL (xs.toList.map (evl σ) ++ caps)) = ins) (hc : MCalls P f objs args ret outs) (hargs : renL ins (xs.toList.map (evl σ) ++ caps) = some args) (hobjs : renOs σ (renL ins) ins = some objs)
    (h : callR ds g σ dst ins new false ret outs = some σ') (hn : TriD P ds Q l σ') : TriD P ds Q (⟨dst, .call { callee := .value x, args := xs, argTypes := ts }, ty, pos, af, g⟩ :: l) σ := by
  obtain ⟨h1, h2, h3, h4, h5, h6, h7, h8, _⟩ := callR_spec h
  exact TriD.callE ins new h1 hx hc hargs hobjs h2 h3 h4 h5 h6 h7 h8 hn
end
attribute [go_sem] nmsO nmsOs closeN
end Go.Avm
