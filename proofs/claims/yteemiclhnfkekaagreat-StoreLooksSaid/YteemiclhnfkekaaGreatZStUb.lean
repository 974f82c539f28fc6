/- The law's change of a store, walked: Create, Put, Drop, Rename. -/
import Derived.Test.YteemiclhnfkekaaGreatZStS
set_option linter.unusedSimpArgs false
set_option linter.unusedVariables false
set_option maxRecDepth 100000
set_option maxHeartbeats 12800000
namespace Go.Proofs.YteemiclhnfkekaaGreat
open Go.RowKit Go.eB Go.Proofs.Tryz
theorem O7 {s:Sr} {pg mJ:List Pg} {n:Int} {X:Sr×Int×Int} (hm:n%16=3\/n%16=4\/n%16=5\/n%16=6)
  (hk:aF prog 34 (hO s pg) [.ref 0 0, .sc (.string (jf n)), .sl 1 ((aO (n/32%65536)).map cF)] (.cT [.sc (.int .i64 X.2.1), .sc (.int .i64 X.2.2)]) (hO X.1 mJ))
  (hr:ak prog 48 [.agg (eS s), .sc (.string (jf n)), .sl 1 ((aO (n/32%65536)).map cF)] (.cT [.agg (eS X.1), .sc (.int .i64 X.2.1), .sc (.int .i64 X.2.2)]) []):
  aF prog 14 (hO s pg) [.ref 0 0, .agg (eS s), .sc (.int .i64 n)] (.cT [.agg (eS X.1), .sc (.bool true)]) (hO X.1 mJ):=by
 have v8:=gG (n:=n/32%65536) (by omega) (by omega);have o9:=(gy (n/32%65536)).1;have hnk:=gJ (n:=n/16%8);have h6:=qo n;generalize aO (n/32%65536)=BK at *;obtain ⟨⟨⟨b1,b2,b3,b4,b5,b6,b7⟩,zJ,rD,MW,MX,ps2,⟨nr,MY⟩⟩,k,e⟩:=X;obtain ⟨⟨a1,a2,a3,a4,a5,a6,a7⟩,com,last,os,bs,ps,⟨cap,rp⟩⟩:=s;simp only[hO,eS] at hk hr ⊢;rcases eW n with ⟨hc,hN⟩|⟨hc,hN⟩
 all_goals rw[hN] at hk hr
 all_goals rcases hm with hm|hm|hm|hm
 all_goals
  refine dP [1000,1001,1002,1003] [4,6,12,17,22,28,33,37,40,46,48,62,66,77,84,106,113,131,137,152,162,169,195,199,236,240,250,253,267,268,301,306] func14 rfl call14 rfl (by decide) (by decide) (by first|rfl) (by first|(simp only[seval,go_sem,List.all_cons,List.all_nil,EL,List.length_cons,List.length_nil];done)) ntmps14 (by simp(disch:=omega)only[seval,go_sem,cI,List.replicate,l_2,l_1];rfl) (by simp(disch:=omega)only[seval,go_sem,cI,l_2,l_1];rfl) ?_
  (all_goals(try have hZ:=(And.intro hm (And.intro hc h6)));(repeat'(first|(with_reducible first|refine ay.seq ?_|refine ay.block ?_|refine ay.skip ?_|refine ay.ret ?_|refine ah.nil ?_|refine bG ?_|refine eC ?_|refine c8 ?_|refine ay.bE (by simp only[fk,eN];rfl) ?_)|((with_reducible refine au ?_);first|(with_reducible refine ah.step (by simp only[seval,go_sem,dc,hZ];rfl) ?_)|((with_reducible refine cy ?_);first|((with_reducible (refine ah.dE (by simp only[seval,go_sem,dc,hZ];rfl) (by simp only[seval,go_sem,dc,hZ];rfl) ?_));first|refine bN.c [] (hnk) (by simp only[seval,go_sem,dc,hZ];rfl) ?_|refine bN.c [] (v8) (by simp only[seval,go_sem,dc,hZ];rfl) ?_|refine bN.c [] (hr) (by simp only[seval,go_sem,dc,hZ];rfl) ?_)|(with_reducible ((refine ah.cK (dst:=_) [] (by simp only[seval,go_sem,dc,hZ];rfl) (by simp only[seval,go_sem,dc,hZ];rfl) (hk) (by simp only[seval,go_sem,dc,hZ]) (by simp only[seval,go_sem,dc,hZ]) (by simp only[seval,go_sem,dc,hZ];rfl) ?_))))|(with_reducible refine ah.step (by simp(disch:=omega)only[seval,go_sem,cI,dc,hZ];rfl) ?_))|(with_reducible refine cg ?_;with_reducible refine ay.cond (by simp only[seval,go_sem,dc,hZ];rfl) (cL ?_) (cL ?_))|(with_reducible refine cB ?_;intro hc;(try simp only[fG,reduceCtorEq] at hc);(try(exfalso;omega)))|(with_reducible refine aB ?_;refine aC.q rfl (by with_unfolding_all (show iw _ _ [.cell 6 33,.tmp 7]=_);simp only[seval,go_sem];rfl) (by simp only[seval,go_sem];rfl) (by decide) (by simp only[seval,go_sem];rfl) (by simp only[seval,go_sem];rfl) rfl ?_<;>(try simp only[seval,go_sem])<;>(repeat'(with_reducible apply And.intro))<;>(try rfl)))))
 all_goals done
end Go.Proofs.YteemiclhnfkekaaGreat
