/- The laws' Change and Store: the walks. -/
import Derived.Test.YteemiclhnfkekaaGreatZSrF
import Derived.Test.YteemiclhnfkekaaGreatZSrG
set_option linter.unusedSimpArgs false
set_option linter.unusedVariables false
namespace Go.Proofs.YteemiclhnfkekaaGreat
open Go.RowKit Go.eB Go.Proofs.Tryz
set_option maxRecDepth 100000
set_option maxHeartbeats 3200000
theorem Eh {a1 a2 a3 a4 a5 a6 a7 com last cap:Int} {os:List Ob} {bs:List Bd} {ps:List Pn} {pg:List Pg}:ak prog 28 [.agg [i6 a1,i6 a2,i6 a3,i6 a4,i6 a5,i6 a6,i6 a7,i6 com,i6 last,.sl 2 (os.map aK),.sl 4 (bs.map ag),.sl 2 (ps.map aW),i6 cap,.sl 3 (pg.map bt)]] (.agg (Qc (vA ⟨⟨a1,a2,a3,a4,a5,a6,a7⟩,com,last,os,bs,ps,⟨cap,pg⟩⟩))) []:=by
 simp only[Qc,vA];refine bR [] [1,2] [.cell 2 64] func28 (by kernel_rfl) ntmps28 rfl rfl rfl ⟨rfl,rfl⟩ (by simp(disch:=omega)only[seval,go_sem,cI,List.replicate,l_2,l_1];rfl) ?_;((repeat'(first|simp only[seval,go_sem]|(with_reducible refine aV (st:=[]) ?_))))
end Go.Proofs.YteemiclhnfkekaaGreat
