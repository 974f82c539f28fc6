/- A struct as an argument. -/
import Derived.Test.YtmgodadmafcliaaRBase
import Derived.Test.YtmgodadmafcliaaRAvmT
set_option linter.unusedSimpArgs false
set_option linter.unusedVariables false
namespace Go.Proofs.Ytmgodadmafcliaa
open Go.RowKit Go.Avm Go.ChangeShapes Go.WideShapes Go.ChangeAt
theorem arg_agg {H:Type} {enc:TypeId×Value→H} {P:Program} {w W:World} {base:Nat} {t:TypeId} {n:Nat} {r:List C} {v:Value} {d:DataW H} {ps:List MemPlace} {fs:Array Field} (hc:cTys P n t=some r) (ht:P.underlying t=some (.struct fs)) (hv:Value.okWide P W .any base t v) (h:DataW.Trod enc P w 0 (fun _=>true) true t v d ps):
  ∃ ds,R w (fun g=>g<w.heap.size) (fun _=>none) (.agg ds) v∧Rok r ds:=by
 obtain ⟨fuel,hf⟩:=h
 obtain ⟨ds,h1,h2,_⟩:=open_any n t r hc fuel _ _ hf
 obtain ⟨cs,rfl,_⟩:=Go.WideShapes.okWide_struct ht hv
 exact ⟨ds,by simp only [R];exact ⟨cs,rfl,h1⟩,h2⟩
end Go.Proofs.Ytmgodadmafcliaa
