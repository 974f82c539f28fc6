/- The abstract machine, parts ZR to ZR. -/
import Derived.Test.YtnckgbmifigadaaZAvmU
/- The abstract machine, part ZR: the rules of a nest under two names (what is worked out ahead of its parts, and behind them). -/
namespace Go.Avm
set_option linter.unusedVariables false
set_option linter.unusedSimpArgs false
open Go.RowKit
theorem nsP :
    (∀ (k o : Nat) (ls : List (List (List D))), (nestO k ls).clr o = nestO k ls) ∧
    (∀ (k : Nat) (f : List D → Option (List D)) (ls : List (List (List D))), renO f (nestO k ls) = some (nestO k ls)) ∧
    (∀ (k : Nat) (ids : List Nat) (ls : List (List (List D))), nmO ids (nestO k ls) = nestO k ls) ∧
    (∀ (k n : Nat) (ls : List (List (List D))), ltO n (nestO k ls) = true) ∧
    (∀ (k : Nat) (ls : List (List (List D))), nmsO (nestO k ls) = []) ∧
    (∀ (o k j : Nat) (rows : List (List D)) (ls : List (List (List D))), (nestO k ls).frz o j rows = nestO k ls) ∧
    (∀ (o d k : Nat) (ls : List (List (List D))), (nestO k ls).rn o d = nestO k ls) ∧
    (∀ (k : Nat) (a b : List (List (List D))), leQO (nestO k a) (nestO k b) = nestQ k a b) :=
  ⟨fun _ _ _ => nestO_clr, fun _ _ _ => nestO_ren, fun _ _ _ => nestO_nm, fun _ _ _ => nestO_lt, fun _ _ => nestO_nmsO, fun _ _ _ _ _ => nestO_frz, fun _ _ _ _ => nestO_rn, fun _ _ _ => rfl⟩
theorem nsM :
    (∀ (k : Nat) (a : List (List (List D))), nestQ k a a = True) ∧
    (∀ (k : Nat) (cs : List NC), (nestX k cs).nms = nmsN cs) ∧
    (∀ (o d n : Nat) (ls : List (List (List D))) (j : Nat), memN o (nmsN ((ls.map NC.own).set j (.nm d n))) = (decide (d = o) && decide (j < ls.length))) ∧
    (∀ (o d n : Nat) (ls : List (List (List D))), memN o (nmsN (ls.map NC.own ++ [.nm d n])) = decide (d = o)) ∧
    (∀ (ls : List (List (List D))) (j : Nat), nmsN ((ls.map NC.own).set j .hole) = []) ∧
    (∀ (k : Nat) (ls : List (List (List D))) (r : List (List D)), Obj.ext (nestX k (ls.map .own ++ [.own r])) = nestO k (ls ++ [r])) ∧
    (∀ (f : List D → Option (List D)) (k : Nat) (ls : List (List (List D))), Obj.clr.match_1 (fun _ => Option Obj) (nestO k ls) (fun cs => Option.map Obj.box (f cs)) (fun e => cond e.nms.isEmpty (some (.ext e)) none) (fun x => some x) = some (nestO k ls)) ∧
    (∀ (k o : Nat) (ls : List (List (List D))), Obj.clr.match_1 (fun _ => Obj) (nestO k ls) (fun cs => .box (clrL o cs)) (fun e => cond (memN o e.nms) (.ext heldX) (.ext e)) (fun x => x) = nestO k ls) ∧
    (∀ (k n : Nat) (ls : List (List (List D))), Obj.clr.match_1 (fun _ => Bool) (nestO k ls) (fun cs => ltL n cs) (fun e => e.nms.isEmpty) (fun _ => true) = true) ∧
    (∀ (k : Nat) (ids : List Nat) (ls : List (List (List D))), nmO.match_1 (fun _ => Obj) (nestO k ls) (fun cs => Obj.box (nmL ids cs)) (fun _ => Obj.dead) (fun k rows => Obj.row k rows) (fun e => Obj.ext e) = nestO k ls) ∧
    (∀ (o k j : Nat) (rows : List (List D)) (ls : List (List (List D))), addrCells.match_1 (fun _ => Obj) (nestO k ls) (fun cs => Obj.box (frzL o j rows cs)) (fun x => x) = nestO k ls) ∧
    (∀ (o d k : Nat) (ls : List (List (List D))), Obj.rn.match_1 (fun _ => Obj) (nestO k ls) (fun cs => Obj.box (rnL o d cs)) (fun e => cond (memN o e.nms || memN d e.nms) (.ext heldX) (.ext e)) (fun x => x) = nestO k ls) ∧
    (∀ (k : Nat) (ls : List (List (List D))), nmsO.match_1 (fun _ => List Nat) (nestO k ls) (fun cs => nmsL cs) (fun _ => []) = []) :=
  ⟨fun _ _ => nestQ_self,fun _ _ => rfl,fun _ _ _ _ _ => nmsN_set,fun _ _ _ _ => nmsN_snoc,fun _ _ => nmsN_hole,fun _ _ _ => nestO_snoc,fun _ _ _ => nestM_ren,fun _ _ _ => nestM_clr,fun _ _ _ => nestM_lt,fun _ _ _ => nestM_nm,fun _ _ _ _ _ => nestM_frz,fun _ _ _ _ => nestM_rn,fun _ _ => nestM_nms⟩
end Go.Avm
