/- Audit: the walks of the checks of a configuration, of pins and of bindings, of the program and of the reference. -/
import Derived.Test.YteemiclhnfkekaaGreatZDiC
set_option linter.unusedSimpArgs false
set_option linter.unusedVariables false
set_option maxRecDepth 100000
set_option maxHeartbeats 6400000
namespace Go.Proofs.YteemiclhnfkekaaGreat
open Go.RowKit Go.eB Go.Proofs.Tryz
theorem Bu {n a b:Int}:ak prog 147 [i6 n,i6 a,i6 b] (.sc (.bool (mO n a b))) []:=by
 refine bR [] [] [.tmp 6] func147 (by kernel_rfl) ntmps147 rfl rfl rfl ⟨rfl,rfl⟩ (by simp(disch:=omega)only[seval,go_sem,cI,List.replicate,l_2,l_1];rfl) ?_
 ((repeat'(first|(with_reducible refine cB ?_;intro hc;(try simp only[fG,reduceCtorEq] at hc);(try(exfalso;omega)))|simp only[seval,go_sem]|((with_reducible refine au ?_);((with_reducible first|refine ah.step (by simp only[seval,go_sem];rfl) ?_|refine ah.step (by simp(disch:=omega)only[seval,go_sem,cI];rfl) ?_);refine dI (st:=[13]) ?_))|(with_reducible first|refine aV (st:=[13]) ?_|refine ai (by simp(disch:=omega)only[seval,go_sem,cI];rfl) ?_|refine dV ?_|refine And.intro ?_ ?_))))
 all_goals(simp[mO];try omega)
theorem qV {n a b:Int}:ak prog 108 [i6 n,i6 a,i6 b] (.sc (.bool (mO n a b))) []:=by
 refine bR [] [] [.tmp 6] func108 (by kernel_rfl) ntmps108 rfl rfl rfl ⟨rfl,rfl⟩ (by simp(disch:=omega)only[seval,go_sem,cI,List.replicate,l_2,l_1];rfl) ?_
 ((repeat'(first|(with_reducible refine cB ?_;intro hc;(try simp only[fG,reduceCtorEq] at hc);(try(exfalso;omega)))|simp only[seval,go_sem]|((with_reducible refine au ?_);((with_reducible first|refine ah.step (by simp only[seval,go_sem];rfl) ?_|refine ah.step (by simp(disch:=omega)only[seval,go_sem,cI];rfl) ?_);refine dI (st:=[13]) ?_))|(with_reducible first|refine aV (st:=[13]) ?_|refine ai (by simp(disch:=omega)only[seval,go_sem,cI];rfl) ?_|refine dV ?_|refine And.intro ?_ ?_))))
 all_goals(simp[mO];try omega)
theorem Ia {a b c d e f g:Int}:ak prog 79 [.agg [i6 a,i6 b,i6 c,i6 d,i6 e,i6 f,i6 g]] (i6 (cond (qO ⟨a,b,c,d,e,f,g⟩) 0 5)) []:=by
 simp only[qO];generalize h1:mO a 1 64=x1;generalize h2:mO b 1 64=x2;generalize h3:mO c 1 16384=x3;generalize h4:mO d 8 1024=x4;generalize h5:mO e 1 1024=x5;generalize h6:mO f 1 1048576=x6;generalize h7:mO g 1 64=x7;refine bR [] [1,5,10,16,22,28,34,40] [.tmp 2] func79 (by kernel_rfl) ntmps79 rfl rfl rfl ⟨rfl,rfl⟩ (by simp(disch:=omega)only[seval,go_sem,cI,List.replicate,l_2,l_1];rfl) ?_;((repeat'(first|(with_reducible refine cB ?_;intro hc;(try simp only[fG,reduceCtorEq] at hc);(try(exfalso;omega)))|simp only[seval,go_sem,h1,h2,h3,h4,h5,h6,h7]|((with_reducible refine bJ ?_);refine aq.c (Bu) ?_)|(with_reducible first|refine aD (st:=[]) ?_|refine aV (st:=[]) ?_|refine dV ?_|refine cN (cL ?_) (cL ?_)|refine And.intro ?_ ?_))));all_goals(simp_all)
theorem E4 {a b c d e f g:Int}:ak prog 103 [.agg [i6 a,i6 b,i6 c,i6 d,i6 e,i6 f,i6 g]] (i6 (cond (qO ⟨a,b,c,d,e,f,g⟩) 0 5)) []:=by
 simp only[qO];generalize h1:mO a 1 64=x1;generalize h2:mO b 1 64=x2;generalize h3:mO c 1 16384=x3;generalize h4:mO d 8 1024=x4;generalize h5:mO e 1 1024=x5;generalize h6:mO f 1 1048576=x6;generalize h7:mO g 1 64=x7;refine bR [] [1,5,10,16,22,28,34,40] [.tmp 2] func103 (by kernel_rfl) ntmps103 rfl rfl rfl ⟨rfl,rfl⟩ (by simp(disch:=omega)only[seval,go_sem,cI,List.replicate,l_2,l_1];rfl) ?_;((repeat'(first|(with_reducible refine cB ?_;intro hc;(try simp only[fG,reduceCtorEq] at hc);(try(exfalso;omega)))|simp only[seval,go_sem,h1,h2,h3,h4,h5,h6,h7]|((with_reducible refine bJ ?_);refine aq.c (qV) ?_)|(with_reducible first|refine aD (st:=[]) ?_|refine aV (st:=[]) ?_|refine dV ?_|refine cN (cL ?_) (cL ?_)|refine And.intro ?_ ?_))));all_goals(simp_all)
theorem Cy {n:Int}:ak prog 196 [i6 n] (.sc (.bool (mO n 1 1024))) []:=by
 refine bR [] [] [.tmp 2] func196 (by kernel_rfl) ntmps196 rfl rfl rfl ⟨rfl,rfl⟩ (by simp(disch:=omega)only[seval,go_sem,cI,List.replicate,l_2,l_1];rfl) ?_
 ((repeat'(first|(with_reducible refine cB ?_;intro hc;(try simp only[fG,reduceCtorEq] at hc);(try(exfalso;omega)))|simp only[seval,go_sem]|((with_reducible refine au ?_);((with_reducible first|refine ah.step (by simp only[seval,go_sem];rfl) ?_|refine ah.step (by simp(disch:=omega)only[seval,go_sem,cI];rfl) ?_);refine dI (st:=[7]) ?_))|(with_reducible first|refine aV (st:=[7]) ?_|refine ai (by simp(disch:=omega)only[seval,go_sem,cI];rfl) ?_|refine dV ?_|refine And.intro ?_ ?_))))
 all_goals(simp[mO];try omega)
theorem Cz {a b:Int} (ha:0<=a/\a<=9223372036854775807) (hb:2<=b/\b<=1024):ak prog 197 [i6 a,i6 b] (.cT [i6 (yV a b),i6 0]) []:=by
 have h1:0<=a/b/\a/b<=a:=⟨Int.ediv_nonneg (by omega) (by omega),Int.ediv_le_self b (by omega)⟩
 have h2:a/b+1<=9223372036854775807:=by
  have:a/b<=9223372036854775806:=by
   have:a/b<9223372036854775807:=Int.ediv_lt_of_lt_mul (by omega) (by omega);omega
  omega
 refine bR [] [] [.tmp 4, .tmp 5] func197 (by kernel_rfl) ntmps197 rfl rfl rfl ⟨rfl,rfl⟩ (by simp(disch:=omega)only[seval,go_sem,cI,List.replicate,l_2,l_1];rfl) ?_;((repeat'(first|(with_reducible refine cB ?_;intro hc;(try simp only[fG,reduceCtorEq] at hc);(try(exfalso;omega)))|simp only[seval,go_sem]|(with_reducible first|refine aV (st:=[]) ?_|refine ai (by simp(disch:=omega)only[seval,go_sem,cI];rfl) ?_|refine cN (cL ?_) (cL ?_)))));all_goals(simp only[yV];split<;>first|rfl|omega)
theorem CA {a b:Int} (ha:0<=a) (YM:a<=9223372036854775807) (hb:8<=b/\b<=1024):ak prog 148 [i6 a,i6 b] (.cT [i6 (yV a b),i6 0]) []:=by
 have hr:mO b 1 1024=true:=by simp[mO];omega
 have hc:=Cz (a:=a) (b:=b) ⟨ha,YM⟩ ⟨by omega,hb.2⟩;refine bR [] [12,18] [.tmp 4, .tmp 5] func148 (by kernel_rfl) ntmps148 rfl rfl rfl ⟨rfl,rfl⟩ (by simp(disch:=omega)only[seval,go_sem,cI,List.replicate,l_2,l_1];rfl) ?_;((repeat'(first|simp only[seval,go_sem,hr]|((with_reducible refine bJ ?_);first|refine aq.c (hc) ?_|refine aq.c (Cy) ?_)|(with_reducible first|refine aD (st:=[]) ?_|refine aV (st:=[]) ?_|refine ai (by simp(disch:=omega)only[seval,go_sem,cI,hr];rfl) ?_))))
end Go.Proofs.YteemiclhnfkekaaGreat
