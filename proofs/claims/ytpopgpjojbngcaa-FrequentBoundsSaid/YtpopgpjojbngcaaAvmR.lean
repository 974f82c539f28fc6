/- The abstract machine, part R: the facts that a run is reckoned with, under one name. -/
import Derived.Test.YtpopgpjojbngcaaAvmQ
namespace Go.Avm
set_option linter.unusedVariables false
set_option linter.unusedSimpArgs false
open Go.RowKit
attribute [go_sem] zeroR List.replicate_succ List.replicate_zero List.flatten_cons List.flatten_nil List.size_toArray List.idxOf_cons cond_true cond_false Nat.zero_mul Nat.zero_le resD retD nilD gB_bool gB_undef elemsD bytesV mapO_byte brun bstep isEff aeff St.bear St.appTo appIds tgtD storeD
  splice chunks fillD cellsD oneD pureD pureL placesOf mapO zeroD hhas arun
  astep aguard aval evl ofC St.put conc concL binV isShift
  unV lenD eltAddr addrCells addrPlus mkD cutD bnd TK.isAgg TK.elem? TK.fields
  Option.bind_some Option.map_some Option.bind_none Option.map_none List.set_cons_succ List.set_cons_zero List.getD_cons_succ List.getD_cons_zero List.getElem?_cons_succ List.getElem?_cons_zero List.getElem?_toArray List.getElem?_cons_succ List.getElem?_cons_zero List.getElem_toArray
  beq_self_eq_true if_true if_false Bool.false_eq_true decide_true decide_false Bool.true_and Bool.and_true Bool.false_and Bool.not_true Bool.not_false ne_eq
  not_true not_false_iff List.length_cons List.length_nil List.take_succ_cons List.take_zero List.drop_succ_cons List.drop_zero List.drop_nil List.take_nil List.toList_toArray List.map_cons
  List.map_nil and_true true_and and_self pr_min pr_max hget hset clr clrL hclr Obj.clr
  St.kill St.kills St.imp_ hputs hfree nmO ltO flatD flatL flatO List.isEmpty_nil St.frz frzD frzL Obj.frz hfrz renD renL renO renOs snapD outsOf heapI heap0 nmD nmL ltD ltL List.all_cons List.all_nil beq_iff_eq Bool.and_self
  List.length_map List.nil_append List.append_nil List.cons_append
end Go.Avm
