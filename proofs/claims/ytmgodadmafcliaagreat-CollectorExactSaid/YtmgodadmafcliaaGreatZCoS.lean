/- The library's slices.Sort and slices.Compact at []int, by their contracts on the kit's shelf (the layings written by the kit's lay-shelf and lay-plain for this seat); as contracts of the machine. -/
import Derived.Shelf.Sort.Plain
import Derived.Shelf.Slices.CompactI
import Derived.Shelf.Slices.In.SortNone
import Derived.Test.YtmgodadmafcliaaGreatZAvmS
import Derived.Test.YtmgodadmafcliaaGreatZCoB
import Derived.Test.YtmgodadmafcliaaGreatZCoC
import Derived.Test.YtmgodadmafcliaaGreatZDiC
import Derived.Test.YtmgodadmafcliaaGreatZChB
import Derived.Test.YtmgodadmafcliaaGreatZAvmU
set_option linter.unusedSimpArgs false
set_option linter.unusedVariables false
namespace Go.Proofs.YtmgodadmafcliaaGreat
open Go.Shelf
def lays189_ren:Go.Shelf.Ren:=⟨fun|189=>30|125=>65|257=>64|128=>92|129=>93|294=>83|295=>84|296=>85|297=>86|298=>87|299=>88|216=>89|300=>90|301=>91|328=>97|329=>98|330=>99|331=>100|332=>101|215=>82|343=>103|n=>n,fun|28=>22|3=>3|46=>38|0=>0|51=>154|53=>156|4=>4|183=>147|182=>146|131=>125|5=>5|9=>9|218=>160|222=>164|228=>166|229=>167|n=>n,fun|n=>n⟩
theorem lays189:Go.Proofs.Lays.n189 Tryz.prog lays189_ren:={
 mixed:=by kernel_rfl
 f125:=Tryz.func65.trans (congrArg some (by kernel_rfl))
 f128:=Tryz.func92.trans (congrArg some (by kernel_rfl))
 f129:=Tryz.func93.trans (congrArg some (by kernel_rfl))
 f189:=Tryz.func30.trans (congrArg some (by kernel_rfl))
 f215:=Tryz.func82.trans (congrArg some (by kernel_rfl))
 f216:=Tryz.func89.trans (congrArg some (by kernel_rfl))
 f257:=Tryz.func64.trans (congrArg some (by kernel_rfl))
 f294:=Tryz.func83.trans (congrArg some (by kernel_rfl))
 f295:=Tryz.func84.trans (congrArg some (by kernel_rfl))
 f296:=Tryz.func85.trans (congrArg some (by kernel_rfl))
 f297:=Tryz.func86.trans (congrArg some (by kernel_rfl))
 f298:=Tryz.func87.trans (congrArg some (by kernel_rfl))
 f299:=Tryz.func88.trans (congrArg some (by kernel_rfl))
 f300:=Tryz.func90.trans (congrArg some (by kernel_rfl))
 f301:=Tryz.func91.trans (congrArg some (by kernel_rfl))
 f328:=Tryz.func97.trans (congrArg some (by kernel_rfl))
 f329:=Tryz.func98.trans (congrArg some (by kernel_rfl))
 f330:=Tryz.func99.trans (congrArg some (by kernel_rfl))
 f331:=Tryz.func100.trans (congrArg some (by kernel_rfl))
 f332:=Tryz.func101.trans (congrArg some (by kernel_rfl))
 f343:=Tryz.func103.trans (congrArg some (by kernel_rfl))
 t0:=Tryz.underlying0
 a0:=Tryz.isAgg0
 z0:=Tryz.sizeOf0
 v0:=Tryz.zeroValue0
 t3:=Tryz.underlying3
 a3:=Tryz.isAgg3
 z3:=Tryz.sizeOf3
 v3:=Tryz.zeroValue3
 t4:=Tryz.underlying4
 a4:=Tryz.isAgg4
 z4:=Tryz.sizeOf4
 v4:=Tryz.zeroValue4
 t5:=Tryz.underlying5
 a5:=Tryz.isAgg5
 z5:=Tryz.sizeOf5
 v5:=Tryz.zeroValue5
 t9:=Tryz.underlying9
 a9:=Tryz.isAgg9
 z9:=Tryz.sizeOf9
 v9:=Tryz.zeroValue9
 t28:=Tryz.underlying22
 a28:=Tryz.isAgg22
 z28:=Tryz.sizeOf22
 v28:=Tryz.zeroValue22
 t46:=Tryz.underlying38
 a46:=Tryz.isAgg38
 z46:=Tryz.sizeOf38
 v46:=Tryz.zeroValue38
 t51:=Tryz.underlying154
 a51:=Tryz.isAgg154
 z51:=Tryz.sizeOf154
 v51:=Tryz.zeroValue154
 t53:=Tryz.underlying156
 a53:=Tryz.isAgg156
 z53:=Tryz.sizeOf156
 v53:=Tryz.zeroValue156
 t131:=Tryz.underlying125
 a131:=Tryz.isAgg125
 z131:=Tryz.sizeOf125
 v131:=Tryz.zeroValue125
 t182:=Tryz.underlying146
 a182:=Tryz.isAgg146
 z182:=Tryz.sizeOf146
 v182:=Tryz.zeroValue146
 t183:=Tryz.underlying147
 a183:=Tryz.isAgg147
 z183:=Tryz.sizeOf147
 v183:=Tryz.zeroValue147
 t218:=Tryz.underlying160
 a218:=Tryz.isAgg160
 z218:=Tryz.sizeOf160
 v218:=Tryz.zeroValue160
 t222:=Tryz.underlying164
 a222:=Tryz.isAgg164
 z222:=Tryz.sizeOf164
 v222:=Tryz.zeroValue164
 t228:=Tryz.underlying166
 a228:=Tryz.isAgg166
 z228:=Tryz.sizeOf166
 v228:=Tryz.zeroValue166
 t229:=Tryz.underlying167
 a229:=Tryz.isAgg167
 z229:=Tryz.sizeOf167
 v229:=Tryz.zeroValue167 }
open Go.Sort Go.RowKit in
theorem slices_Sort_int (blk off cap:Nat) (zs:List Int) (w:World) (hH:Holds (Value.int .i64) w blk off zs.toArray) (hblk:blk<w.heap.size) (hsz:zs.length<4611686018427387904):
  Calls Tryz.prog 30 #[.slice (some ⟨blk,off,none⟩) zs.length cap] w fun e w'=>
   e = .returned (.tuple #[])∧ ∃ n os,w'=grow (putRow (Value.int .i64) (Sort.ahead w n) blk off (zs.mergeSort fun x y=>decide (x≤y)).toArray) os:=Any.slices_Sort_int lays189 blk off cap zs w hH hblk hsz
def laysNm220_ren:Go.Shelf.Ren:=⟨fun|20=>31|n=>n,fun|22=>22|3=>3|4=>4|0=>0|n=>n,fun|n=>n⟩
theorem laysNm220:Go.Proofs.Lays2.n20 Tryz.prog laysNm220_ren:={
 mixed:=by kernel_rfl
 f20:=Tryz.func31.trans (congrArg some (by kernel_rfl))
 t0:=Tryz.underlying0
 a0:=Tryz.isAgg0
 z0:=Tryz.sizeOf0
 v0:=Tryz.zeroValue0
 t3:=Tryz.underlying3
 a3:=Tryz.isAgg3
 z3:=Tryz.sizeOf3
 v3:=Tryz.zeroValue3
 t4:=Tryz.underlying4
 a4:=Tryz.isAgg4
 z4:=Tryz.sizeOf4
 v4:=Tryz.zeroValue4
 t22:=Tryz.underlying22
 a22:=Tryz.isAgg22
 z22:=Tryz.sizeOf22
 v22:=Tryz.zeroValue22
 i3:=by kernel_rfl }
open Go.RowKit Go.Lib Go.Sort in
theorem slices_Compact_int (blk off cap:Nat) (zs:List Int) (w:World) (hH:Holds (Value.int .i64) w blk off zs.toArray) (hsz:zs.length≤9223372036854775807) (hcap:zs.length≤cap):
  Calls Tryz.prog 31 #[.slice (some ⟨blk,off,none⟩) zs.length cap] w fun e w'=>e = .returned (.slice (some ⟨blk,off,none⟩) (Lib.compact zs).length cap)∧ ∃ q,w'=putRow (Value.int .i64) (Sort.ahead w q) blk off (Lib.compact zs++List.replicate (zs.length-(Lib.compact zs).length) 0).toArray:=Any.slices_Compact_int laysNm220 blk off cap zs w hH hsz hcap
open Go.RowKit Go.Lib Go.Sort in
theorem slices_Compact_int_empty (a:Option Addr) (cap:Nat) (w:World):
  Calls Tryz.prog 31 #[.slice a 0 cap] w fun e w'=>e = .returned (.slice a 0 cap)∧w'=w:=Any.slices_Compact_int_empty laysNm220 a cap w
open Go.RowKit Go.Sort in
theorem slices_Sort_int_none (p:Option Addr) (cap:Nat) (w:World):
  Calls Tryz.prog 30 #[.slice p 0 cap] w fun e w'=>e = .returned (.tuple #[])∧w'=w:=Any.slices_Sort_int_none lays189 p cap w
open Go.RowKit Go.Avm
theorem sorti_calls {zs:List Int} {n:Nat} (hn:zs.length=n) (h0:0<n) (hl:n≤1000000):MCalls Tryz.prog 30 [.row 1 (zs.map rowI)] [.slo 0 1 0 n] (.tup []) [.row 1 ((sortI zs).map rowI)]:=by
 subst hn
 exact sort_calls (enc:=Value.int .i64) sortI (fun l=>by simp [sortI]) (fun _=>rfl) call30 (fun blk cap zs w hH hb hs=>slices_Sort_int blk 0 cap zs w hH hb hs) (fun e=>by subst e;simp at h0) hl
theorem sorti_none:MCalls Tryz.prog 30 [.row 1 []] [.slo 0 1 0 0] (.tup []) [.row 1 []]:=none_calls call30 slices_Sort_int_none
def restI (zs:List Int):List Int:=Lib.compact zs++List.replicate (zs.length-(Lib.compact zs).length) 0
theorem restI_len (zs:List Int):(restI zs).length=zs.length:=by
 have:=Lib.compact_length_le zs
 simp only [restI,List.length_append,List.length_replicate];omega
theorem restI_take (zs:List Int):(restI zs).take (Lib.compact zs).length=Lib.compact zs:=by
 rw [restI,List.take_left' rfl]
theorem compi_calls {zs:List Int} {n:Nat} (hn:zs.length=n) (h0:0<n) (hl:n≤1000000):MCalls Tryz.prog 31 [.row 1 (zs.map rowI)] [.slo 0 1 0 n] (.slo 0 1 0 (Lib.compact zs).length) [.row 1 ((restI zs).map rowI)]:=by
 subst hn
 exact head_calls (enc:=Value.int .i64) (P:=Tryz.prog) restI (fun l=>(Lib.compact l).length) (fun l=>Lib.compact_length_le l) restI_len (fun _=>rfl) call31 (fun blk cap zs w hH hb hs hc=>slices_Compact_int blk 0 cap zs w hH (by omega) hc) (fun e=>by subst e;simp at h0) hl
theorem compi_none:MCalls Tryz.prog 31 [.row 1 []] [.slo 0 1 0 0] (.slo 0 1 0 0) [.row 1 []]:=none_head call31 slices_Compact_int_empty
end Go.Proofs.YtmgodadmafcliaaGreat
/- Collector: the walk of Reachable of the program; all functions compared for a dump of at most nineteen versions. -/
set_option linter.unusedSimpArgs false
set_option linter.unusedVariables false
namespace Go.Proofs.YtmgodadmafcliaaGreat
open Go.RowKit Go.Avm
theorem comp_nil:Lib.compact (sortI [])=[]:=by simp [sortI,Lib.compact,Lib.compactUpTo]
set_option maxRecDepth 100000 in set_option maxHeartbeats 6400000 in
theorem reach_calls {com:Int} {os:List Ob} {ps:List Pn} {bd pg:List (List D)} (ho:os.length≤100000) (hl:(os.flatMap vnsO).length≤19) (hp:ps.length≤100000) (hg: ∀ x∈versR os [],x.v.pages.length≤1000):ACalls Tryz.prog 12 [.agg [.sc (.int .i64 com),.sl 2 (os.map rowOb),.sl 4 bd,.sl 2 (ps.map rowP),.sl 3 pg]] (.sl 1 ((reachR ps (versR os [])).map rowI)) []:=by
 have hen:=entries_calls (com:=com) (bd:=bd) (pn:=ps.map rowP) (pg:=pg) ho hl
 have hel:(versR os []).length≤19:=by rw [versR_sortV,sortV_len];simpa using hl
 unfold reachR
 rw [← uniqI_eq]
 unfold uniqI
 generalize versR os []=E at *
 generalize hG:livePgs ps E=G
 refine of_tri [] [1,5,7,16,22,25,27] Tryz.func12 rfl call12 rfl (by decide) (by decide) rfl rfl Tryz.ntmps12 (by simp (disch:=omega) only [seval,go_sem,cnd,intV,shV,convV,strV,List.replicate,l_2,l_1];rfl) (by simp (disch:=omega) only [seval,go_sem,cnd,intV,shV,convV,strV,l_2,l_1];rfl) ?_
 ((repeat' (first|((with_reducible refine isTriD ?_);((with_reducible refine isCallD ?_);((with_reducible refine LVcall (st:=[]) ?_);simp only [seval,go_sem];(refine CallL.c (hen) ?_))))|(with_reducible (refine TVq (st:=[]) ?_))|simp only [seval,go_sem]))<;>(try (fail)))
 all_goals (refine Tri.virt 3 22 1 (by first|(simp only [seval,go_sem];done)) (by first|(simp only [seval,go_sem];done)) (by simp only [seval,go_sem];rfl) ?_)
 all_goals (with_reducible refine Tri.loopU (fun (t:Nat×List Int)=>[(9,.sc (.int .i64 t.1)),(3,.slo 22 1 0 t.2.length),(5,.any),(10,.any),(11,.any),(12,.any),(13,.any),(14,.any),(15,.any),(16,.any),(17,.any),(18,.any),(19,.any),(20,.any),(21,.any),(22,.any),(23,.any)]) (fun (t:Nat×List Int)=>[(22,.row 1 (t.2.map rowI)),(5,.dead),(16,.dead)]) (fun (t:Nat×List Int)=>t.1≤E.length∧t.2.length≤1000*t.1∧t.2++livePgs ps (E.drop t.1)=G) (fun (t:Nat×List Int)=>E.length-t.1) ((0,[])) (⟨Nat.zero_le _,by simp,by simpa using hG⟩) (by intro _;simp (disch:=omega) only [seval,go_sem,cnd,intV,shV,convV,strV];rfl) (by intro _;simp (disch:=omega) only [seval,go_sem,cnd,intV,shV,convV,strV];rfl) (by (refine leQL_spec ?_);(try simp only [seval,go_sem]);done) (by (refine leQH_spec ?_);(try simp only [seval,go_sem]);done) (fun t hI=>?_))
 all_goals
  obtain ⟨k,a⟩:=t
  obtain ⟨hk,hal,hf⟩:=hI
  simp only at hk hal hf
  by_cases hlt:k<E.length
  ·obtain ⟨x,hx⟩:=get_lt hlt
   have hx':=get_map rowVn hx
   have hxp:=hg x (List.mem_of_getElem? hx)
   have hgc:=garb_calls (com:=com) (f:=x.v.from_) (t:=x.v.to) (s:=x.v.size) (p:=x.v.pages.map rowI) (od:=os.map rowOb) (bd:=bd) (pg:=pg) hp
   rw [show (!(x.v.to==0) && !coversP x.v.from_ x.v.to ps)=garbV ps x.v from rfl] at hgc
   rw [drop_get hx,livePgs] at hf
   have hk1:1000*(k+1)=1000*k+1000:=by omega
   cases hgb:garbV ps x.v with
   | true=>
     rw [if_pos hgb] at hf
     rw [hgb] at hgc
     ((repeat' (first|((with_reducible refine isTriD ?_);((with_reducible refine isCallD ?_);((with_reducible refine LVcall (st:=[]) ?_);simp only [seval,go_sem,hx',rowVn];(refine CallL.c (hgc) ?_))))|(with_reducible (refine TVq (st:=[]) ?_))|simp only [seval,go_sem,hx',rowVn]|(with_reducible refine oV_st (by simp (disch:=omega) only [seval,go_sem,cnd,intV,shV,convV,strV,hx',rowVn];rfl) ?_)))<;>(try (fail)))
     all_goals (try (refine isNextM ((k+1,a)) (by (refine leQL_spec ?_);(try simp only [seval,go_sem]);first|((repeat' (with_reducible apply And.intro))<;>first|rfl);done) (by (refine leQH_spec ?_);(try simp only [seval,go_sem]);done) ?_ ?_<;>(try (omega))))
     all_goals (try exact ⟨by simp only;omega,by simp only;omega,hf⟩)
   | false=>
     rw [if_neg (by rw [hgb];decide)] at hf
     rw [hgb] at hgc
     ((repeat' (first|((with_reducible refine isTriD ?_);((with_reducible refine isCallD ?_);((with_reducible refine LVcall (st:=[]) ?_);simp only [seval,go_sem,hx',rowVn];(refine CallL.c (hgc) ?_))))|(with_reducible (refine TVq (st:=[]) ?_))|simp only [seval,go_sem,hx',rowVn]|(with_reducible refine oV_st (by simp (disch:=omega) only [seval,go_sem,cnd,intV,shV,convV,strV,hx',rowVn];rfl) ?_)))<;>(try (fail)))
     all_goals (try (refine isNextM ((k+1,a++x.v.pages)) (by (refine leQL_spec ?_);(try simp only [seval,go_sem]);first|((repeat' (with_reducible apply And.intro))<;>first|rfl|(simp [];done));done) (by (refine leQH_spec ?_);(try simp only [seval,go_sem]);first|((repeat' (with_reducible apply And.intro))<;>first|(simp [];done));done) ?_ ?_<;>(try (omega))))
     all_goals (try exact ⟨by simp only;omega,by simp only [List.length_append];omega,by simp only [List.append_assoc];exact hf⟩)
  ·rw [List.drop_eq_nil_of_le (by omega),livePgs,List.append_nil] at hf
   subst hf
   by_cases hz:a.length=0
   ·have e:a=[]:=List.eq_nil_of_length_eq_zero hz
    subst e
    rw [comp_nil]
    have h1:=sorti_none
    have h2:=compi_none
    ((repeat' (first|((with_reducible refine isTriD ?_);((with_reducible refine isCallD ?_);((with_reducible (first|(refine TriD.cI (dst:=_) [] (by simp only [seval,go_sem,List.length_nil,l_4];rfl) (by simp only [seval,go_sem,List.length_nil,l_4];rfl) (h1) (by simp only [seval,go_sem,List.length_nil,l_4];done) (by simp only [seval,go_sem,List.length_nil,l_4];done) (by simp only [seval,go_sem,List.length_nil,l_4];rfl) ?_)|(refine TriD.cI (dst:=_) [] (by simp only [seval,go_sem,List.length_nil,l_4];rfl) (by simp only [seval,go_sem,List.length_nil,l_4];rfl) (h2) (by simp only [seval,go_sem,List.length_nil,l_4];done) (by simp only [seval,go_sem,List.length_nil,l_4];done) (by simp only [seval,go_sem,List.length_nil,l_4];rfl) ?_)));refine LVs (st:=[]) ?_)))|(with_reducible refine isRet ?_;(refine RetOK.frz 22 (by simp only [seval,go_sem];rfl) (by simp only [seval,go_sem,List.length_nil,l_4];rfl) ?_);(with_reducible refine isRet ?_;refine RetOK.q rfl rfl (by simp only [seval,go_sem];rfl) (by decide) (by simp only [seval,go_sem];rfl) (by simp only [seval,go_sem];rfl) rfl ?_<;>(try simp only [seval,go_sem,List.length_nil,l_4])<;>(repeat' (with_reducible apply And.intro))<;>(try rfl)))|(with_reducible (refine TVq (st:=[]) ?_))|simp only [seval,go_sem,List.length_nil,l_4]|(with_reducible refine oV_st (by simp (disch:=omega) only [seval,go_sem,cnd,intV,shV,convV,strV,List.length_nil,l_4];rfl) ?_)))<;>(try (fail)))
   ·have hsl:=sortI_len a
    have hso:=sorti_calls (zs:=a) rfl (by omega) (by omega)
    have hco:=compi_calls (zs:=sortI a) hsl (by omega) (by omega)
    have hrl:=restI_len (sortI a)
    have hrt:=congrArg (List.map rowI) (restI_take (sortI a))
    rw [List.map_take] at hrt
    have hcl:=Lib.compact_length_le (sortI a)
    generalize restI (sortI a)=R2 at *
    generalize Lib.compact (sortI a)=C at *
    generalize sortI a=S at *
    have hll:(List.map rowI R2).length=a.length:=by rw [List.length_map];omega
    have hcc:C.length≤a.length:=by omega
    (all_goals (try have hZ:=(And.intro hrt (And.intro hll hcc)));(repeat' (first|((with_reducible refine isTriD ?_);((with_reducible refine isCallD ?_);((with_reducible (first|(refine TriD.cI (dst:=_) [] (by simp only [seval,go_sem,hZ];rfl) (by simp only [seval,go_sem,hZ];rfl) (hso) (by simp only [seval,go_sem,hZ];done) (by simp only [seval,go_sem,hZ];done) (by simp only [seval,go_sem,hZ];rfl) ?_)|(refine TriD.cI (dst:=_) [] (by simp only [seval,go_sem,hZ];rfl) (by simp only [seval,go_sem,hZ];rfl) (hco) (by simp only [seval,go_sem,hZ];done) (by simp only [seval,go_sem,hZ];done) (by simp only [seval,go_sem,hZ];rfl) ?_)));refine LVs (st:=[]) ?_)))|(with_reducible refine isRet ?_;(refine RetOK.frz 22 (by simp only [seval,go_sem];rfl) (by simp only [seval,go_sem,hZ];rfl) ?_);(with_reducible refine isRet ?_;refine RetOK.q rfl rfl (by simp only [seval,go_sem];rfl) (by decide) (by simp only [seval,go_sem];rfl) (by simp only [seval,go_sem];rfl) rfl ?_<;>(try simp only [seval,go_sem,hZ])<;>(repeat' (with_reducible apply And.intro))<;>(try rfl)))|(with_reducible (refine TVq (st:=[]) ?_))|simp only [seval,go_sem,hZ]|(with_reducible refine oV_st (by simp (disch:=omega) only [seval,go_sem,cnd,intV,shV,convV,strV,hZ];rfl) ?_)))<;>(try (fail));all_goals (try clear hZ))
set_option maxRecDepth 100000 in set_option maxHeartbeats 12800000 in
theorem same20_calls {com c:Int} {os:List Ob} {ps:List Pn} {bd pg:List (List D)} {p:Vc} (ho:os.length≤1000) (hl:(os.flatMap vnsO).length≤19) (hp:ps.length≤100000) (hg: ∀ x∈versR os [],x.v.pages.length≤1000) (hcr:c≤9223372036854775807) (hfr: ∀ x∈versR os [],-9223372036854775808≤x.v.from_):ACalls Tryz.prog 6 [.agg [.sc (.int .i64 com),.sl 2 (os.map rowOb),.sl 4 bd,.sl 2 (ps.map rowP),.sl 3 pg],.agg (rowVc p),.sc (.int .i64 c)] (.sc (.bool true)) []:=by
 have h1:=reach_calls (com:=com) (bd:=bd) (pg:=pg) (by omega) hl hp hg
 have h2:=rreach_calls (com:=com) (bd:=bd) (pg:=pg) ho (by omega) hp hg
 have h3:=garbage_calls (com:=com) (bd:=bd) (pg:=pg) (by omega) hl hp
 have h4:=rgarbage_calls (com:=com) (bd:=bd) (pg:=pg) ho (by omega) hp
 have h5:=next_calls (com:=com) (bd:=bd) (pg:=pg) (p:=p) (by omega) hl hp hcr hfr
 have h6:=rnext_calls (com:=com) (bd:=bd) (pg:=pg) (p:=p) ho (by omega) hp hcr hfr
 have hasc:AscV (versR os []):=by rw [versR_sortV];exact sortV_asc _ List.Pairwise.nil
 rw [nextP_eq ps p (versR os []) c [] p hasc] at h5
 have hel:(versR os []).length≤19:=by rw [versR_sortV,sortV_len];simpa using hl
 have hgl: ∀ l:List Vn,(garbR ps l).length≤l.length:=by
  intro l
  induction l with
  | nil=>exact Nat.le_refl _
  | cons x l ih=>rw [garbR];split<;>simp only [List.length_cons]<;>omega
 have hnl: ∀ (l:List Vn) (c:Int) (v:List Vc) (n:Vc),(nextR ps l c v n).1.length≤v.length+l.length:=by
  intro l
  induction l with
  | nil=>intro c v n;exact Nat.le_refl _
  | cons x l ih=>
    intro c v n
    rw [nextR]
    split
    ·refine Nat.le_trans (ih _ _ _) ?_
     split<;>simp only [List.length_append,List.length_cons,List.length_nil]<;>omega
    ·simp only;omega
 have hskl: ∀ l:List Vn,(skipR p l).length≤l.length:=by
  intro l
  induction l with
  | nil=>exact Nat.le_refl _
  | cons x l ih=>rw [skipR];split<;>simp only [List.length_cons]<;>omega
 have g1:=hgl (versR os [])
 have g2:=hnl (skipR p (versR os [])) c [] p
 have g3:=hskl (versR os [])
 have h7:=samevc_calls (a:=garbR ps (versR os [])) (b:=garbR ps (versR os [])) (by omega)
 have h8:=samevc_calls (a:=(nextR ps (skipR p (versR os [])) c [] p).1) (b:=(nextR ps (skipR p (versR os [])) c [] p).1) (by simp only [List.length_nil] at g2;omega)
 rw [decide_eq_true rfl] at h7 h8
 have hrl:(reachR ps (versR os [])).length≤1000000:=by
  have q1: ∀ (l a:List Int),(insAll a l).length≤a.length+l.length:=by
   intro l
   induction l with
   | nil=>intro a;exact Nat.le_refl _
   | cons x l ih=>intro a;rw [insAll];have:=ih (insI x a);have:=insI_len x a;simp only [List.length_cons];omega
  have q2: ∀ (l:List Vn),(∀ x∈l,x.v.pages.length≤1000)→(livePgs ps l).length≤1000*l.length:=by
   intro l
   induction l with
   | nil=>intro _;exact Nat.le_refl _
   | cons x l ih=>
     intro h
     have e1:=ih fun y hy=>h y (by simp [hy])
     have e2:=h x (by simp)
     rw [livePgs]
     split
     ·simp only [List.length_cons];omega
     ·simp only [List.length_cons,List.length_append];omega
  have e1:=q1 (livePgs ps (versR os [])) []
  have e2:=q2 _ hg
  rw [reachR];simp only [List.length_nil] at e1;omega
 generalize reachR ps (versR os [])=R at *
 generalize garbR ps (versR os [])=G at *
 generalize nextR ps (skipR p (versR os [])) c [] p=X at *
 obtain ⟨XV,⟨XA,XB⟩,XD⟩:=X
 obtain ⟨pa,pb⟩:=p
 simp only [rowVc] at h5 h6 h8 ⊢
 have eb:(XD==XD)=true:=beq_self_eq_true XD
 refine of_tri [] [3,4,11,14,17,19,27,29,30,52,60,66] Tryz.func6 rfl call6 rfl (by decide) (by decide) rfl rfl Tryz.ntmps6 (by simp (disch:=omega) only [seval,go_sem,cnd,intV,shV,convV,strV,List.replicate,l_2,l_1];rfl) (by simp (disch:=omega) only [seval,go_sem,cnd,intV,shV,convV,strV,l_2,l_1];rfl) ?_
 ((repeat' (first|(with_reducible refine ListD.nil ?_)|((with_reducible refine isListD ?_);first|(with_reducible refine ListD.step (by simp only [seval,go_sem];rfl) ?_)|((with_reducible refine isCallV ?_);((with_reducible (refine ListD.dE (by simp only [seval,go_sem];rfl) (by simp only [seval,go_sem];rfl) ?_));first|refine CallW.c (h1) (by simp only [seval,go_sem];rfl) ?_|refine CallW.c (h2) (by simp only [seval,go_sem];rfl) ?_|refine CallW.c (h3) (by simp only [seval,go_sem];rfl) ?_|refine CallW.c (h4) (by simp only [seval,go_sem];rfl) ?_|refine CallW.c (h7) (by simp only [seval,go_sem];rfl) ?_))|(with_reducible refine ListD.step (by simp (disch:=omega) only [seval,go_sem,cnd,intV,shV,convV,strV];rfl) ?_))|(with_reducible refine isDrawn ?_;refine Tri.drawnD mix (by kernel_rfl) (by simp only [l_3,l_4];rfl) ?_)|(with_reducible (refine TVq (st:=[70,75]) ?_))|simp only [seval,go_sem]))<;>(try (fail)))
 all_goals (with_reducible refine Tri.loopU (fun (k:Nat)=>[(9,.sc (.int .i64 k)),(6,.any),(33,.any),(34,.any),(35,.any),(36,.any),(37,.any),(38,.any),(39,.any),(40,.any),(41,.any),(42,.any),(43,.any),(44,.any),(45,.any),(46,.any),(47,.any)]) (fun (k:Nat)=>[]) (fun (k:Nat)=>k≤R.length) (fun (k:Nat)=>R.length-k) (0) (Nat.zero_le _) (by intro _;simp (disch:=omega) only [seval,go_sem,cnd,intV,shV,convV,strV];rfl) (by intro _;simp (disch:=omega) only [seval,go_sem,cnd,intV,shV,convV,strV];rfl) (by (refine leQL_spec ?_);(try simp only [seval,go_sem]);done) (by (refine leQH_spec ?_);(try simp only [seval,go_sem]);done) (fun k hI=>?_))
 all_goals by_cases hlt:k<R.length
 ·obtain ⟨x,hx⟩:=get_lt hlt
  have hx':=get_map rowI hx
  ((repeat' (first|(with_reducible refine ListD.nil ?_)|((with_reducible refine isListD ?_);(with_reducible first|refine ListD.step (by simp only [seval,go_sem,hx',rowI];rfl) ?_|refine ListD.step (by simp (disch:=omega) only [seval,go_sem,cnd,intV,shV,convV,strV,hx',rowI];rfl) ?_))|(with_reducible refine isDrawn ?_;refine Tri.drawnD mix (by kernel_rfl) (by simp only [l_3,l_4];rfl) ?_)|(with_reducible (refine TVq (st:=[70,75]) ?_))|simp only [seval,go_sem,hx',rowI]|(with_reducible refine oV_st (by simp (disch:=omega) only [seval,go_sem,cnd,intV,shV,convV,strV,hx',rowI];rfl) ?_)))<;>(try (fail)))
  all_goals (try (refine isNextM (k+1) (by (refine leQL_spec ?_);(try simp only [seval,go_sem]);first|((repeat' (with_reducible apply And.intro))<;>first|rfl);done) (by (refine leQH_spec ?_);(try simp only [seval,go_sem]);done) ?_ ?_<;>(try (omega))))
  all_goals (try omega)
 ·((repeat' (first|((with_reducible refine isTriD ?_);first|((with_reducible refine isCallD ?_);((with_reducible refine LVcall (st:=[70,75]) ?_);simp only [seval,go_sem,eb];first|(refine CallL.c (h5) ?_)|(refine CallL.c (h6) ?_)|(refine CallL.c (h8) ?_)))|((with_reducible first|refine TriD.step (by simp only [seval,go_sem,eb];rfl) ?_);refine LVs (st:=[70,75]) ?_))|(with_reducible refine isRet ?_;refine RetV (rs:=[.tmp 6]) (by with_unfolding_all rfl) rfl ?_<;>simp only [seval,go_sem]<;>(repeat' (with_reducible apply And.intro))<;>(try rfl))|(with_reducible (refine TVq (st:=[70,75]) ?_))|simp only [seval,go_sem,eb]|(with_reducible refine oV_st (by simp (disch:=omega) only [seval,go_sem,cnd,intV,shV,convV,strV,eb];rfl) ?_)))<;>(try (fail)))
end Go.Proofs.YtmgodadmafcliaaGreat
/- The configurations of the laws. -/
set_option linter.unusedSimpArgs false
set_option linter.unusedVariables false
namespace Go.Proofs.YtmgodadmafcliaaGreat
open Go.RowKit Go.Avm
/-- In a region whose order is open, an own row stays from now on. -/
theorem anyP_frz {P:Program} {ops:Array Oper} {K:St→Prop} {pl:Pl} {fuel:Nat} {listed:Array Bool} {σ σ':St} (o:Nat) {k:Nat} {rows:List (List D)} (hg:hget σ.heap o = .row k rows) (he:σ.frz o k rows=σ') (hn:AnyP P ops K pl fuel listed σ'):AnyP P ops K pl fuel listed σ:=by
 subst he
 unfold AnyP at hn ⊢
 exact fun hk=>AnyG.imp (Imp.freeze σ o k rows hg) (hn hk)
def cfgK (n:Int):Cf:=⟨2+n%2,2+n/2%2,if n/4%4=0 then 60 else if n/4%4=1 then 12 else if n/4%4=2 then 6 else 30,if n/16%4=0 then 8 else if n/16%4=1 then 16 else if n/16%4=2 then 40 else 200,if n/64%4=0 then 8 else if n/64%4=1 then 3 else if n/64%4=2 then 2 else 5,if n/256%4=0 then 100 else if n/256%4=1 then 6 else if n/256%4=2 then 30 else 12,1+n/1024%4⟩
theorem pick4 (m a b c d:Int):([[.sc (.int .i64 a)],[.sc (.int .i64 b)],[.sc (.int .i64 c)],[.sc (.int .i64 d)]]:List (List D))[(m%4).toNat]? = some [.sc (.int .i64 (if m%4=0 then a else if m%4=1 then b else if m%4=2 then c else d))]:=by
 have:m%4=0∨m%4=1∨m%4=2∨m%4=3:=by omega
 rcases this with h|h|h|h<;>rw [h]<;>rfl
set_option maxRecDepth 100000 in set_option maxHeartbeats 6400000 in
theorem cfgk_calls {n:Int} (h0:0≤n) (h1:n≤1000000):ACalls Tryz.prog 9 [.sc (.int .i64 n)] (.agg (dCf (cfgK n))) []:=by
 have p1:=pick4 (n/4) 60 12 6 30
 have p2:=pick4 (n/16) 8 16 40 200
 have p3:=pick4 (n/64) 8 3 2 5
 have p4:=pick4 (n/256) 100 6 30 12
 simp only [cfgK,dCf]
 generalize (if n/4%4=0 then (60:Int) else if n/4%4=1 then 12 else if n/4%4=2 then 6 else 30)=a1 at *
 generalize (if n/16%4=0 then (8:Int) else if n/16%4=1 then 16 else if n/16%4=2 then 40 else 200)=a2 at *
 generalize (if n/64%4=0 then (8:Int) else if n/64%4=1 then 3 else if n/64%4=2 then 2 else 5)=a3 at *
 generalize (if n/256%4=0 then (100:Int) else if n/256%4=1 then 6 else if n/256%4=2 then 30 else 12)=a4 at *
 refine of_tri [] [2,10,16,22,28] Tryz.func9 rfl call9 rfl (by decide) (by decide) rfl rfl Tryz.ntmps9 (by simp (disch:=omega) only [seval,go_sem,cnd,intV,shV,convV,strV,List.replicate,l_2,l_1];rfl) (by simp (disch:=omega) only [seval,go_sem,cnd,intV,shV,convV,strV,l_2,l_1];rfl) ?_
 ((repeat' (first|((with_reducible refine isTriD ?_);((with_reducible first|refine TriD.step (by simp only [seval,go_sem,p1,p2,p3,p4];rfl) ?_);refine LVs (st:=[]) ?_))|(with_reducible refine isDrawnN 1 ?_;refine Tri.mixedP 1 mix 37 rfl (.f 0 <| .f 1 <| .f 2 <| .f 3 <| .f 4 <| .f 5 <| .f 6 <| .f 8 <| .f 9 <| .f 10 <| .f 14 <| .f 15 <| .f 16 <| .f 20 <| .f 21 <| .f 22 <| .f 26 <| .f 27 <| .f 28 <| .f 31 <| .f 32 <| .f 33 <| .f 34 <| .a <| .b 7 (.f 11 <| .r 12 <| .a <| .b 13 (.f 17 <| .r 18 <| .a <| .b 19 (.f 23 <| .r 24 <| .a <| .b 25 (.f 29 <| .r 30 <| .a <| .b 35 (.a <| .b 36 (.d) .e) .e) .e) <| .b 25 (.f 29 <| .r 30 <| .a <| .b 19 (.f 23 <| .r 24 <| .a <| .b 35 (.a <| .b 36 (.d) .e) .e) .e) .e) <| .b 19 (.f 23 <| .r 24 <| .a <| .b 13 (.f 17 <| .r 18 <| .a <| .b 25 (.f 29 <| .r 30 <| .a <| .b 35 (.a <| .b 36 (.d) .e) .e) .e) <| .b 25 (.f 29 <| .r 30 <| .a <| .b 13 (.f 17 <| .r 18 <| .a <| .b 35 (.a <| .b 36 (.d) .e) .e) .e) .e) <| .b 25 (.f 29 <| .r 30 <| .a <| .b 13 (.f 17 <| .r 18 <| .a <| .b 19 (.f 23 <| .r 24 <| .a <| .b 35 (.a <| .b 36 (.d) .e) .e) .e) <| .b 19 (.f 23 <| .r 24 <| .a <| .b 13 (.f 17 <| .r 18 <| .a <| .b 35 (.a <| .b 36 (.d) .e) .e) .e) .e) .e) <| .b 13 (.f 17 <| .r 18 <| .a <| .b 7 (.f 11 <| .r 12 <| .a <| .b 19 (.f 23 <| .r 24 <| .a <| .b 25 (.f 29 <| .r 30 <| .a <| .b 35 (.a <| .b 36 (.d) .e) .e) .e) <| .b 25 (.f 29 <| .r 30 <| .a <| .b 19 (.f 23 <| .r 24 <| .a <| .b 35 (.a <| .b 36 (.d) .e) .e) .e) .e) <| .b 19 (.f 23 <| .r 24 <| .a <| .b 7 (.f 11 <| .r 12 <| .a <| .b 25 (.f 29 <| .r 30 <| .a <| .b 35 (.a <| .b 36 (.d) .e) .e) .e) <| .b 25 (.f 29 <| .r 30 <| .a <| .b 7 (.f 11 <| .r 12 <| .a <| .b 35 (.a <| .b 36 (.d) .e) .e) .e) .e) <| .b 25 (.f 29 <| .r 30 <| .a <| .b 7 (.f 11 <| .r 12 <| .a <| .b 19 (.f 23 <| .r 24 <| .a <| .b 35 (.a <| .b 36 (.d) .e) .e) .e) <| .b 19 (.f 23 <| .r 24 <| .a <| .b 7 (.f 11 <| .r 12 <| .a <| .b 35 (.a <| .b 36 (.d) .e) .e) .e) .e) .e) <| .b 19 (.f 23 <| .r 24 <| .a <| .b 7 (.f 11 <| .r 12 <| .a <| .b 13 (.f 17 <| .r 18 <| .a <| .b 25 (.f 29 <| .r 30 <| .a <| .b 35 (.a <| .b 36 (.d) .e) .e) .e) <| .b 25 (.f 29 <| .r 30 <| .a <| .b 13 (.f 17 <| .r 18 <| .a <| .b 35 (.a <| .b 36 (.d) .e) .e) .e) .e) <| .b 13 (.f 17 <| .r 18 <| .a <| .b 7 (.f 11 <| .r 12 <| .a <| .b 25 (.f 29 <| .r 30 <| .a <| .b 35 (.a <| .b 36 (.d) .e) .e) .e) <| .b 25 (.f 29 <| .r 30 <| .a <| .b 7 (.f 11 <| .r 12 <| .a <| .b 35 (.a <| .b 36 (.d) .e) .e) .e) .e) <| .b 25 (.f 29 <| .r 30 <| .a <| .b 7 (.f 11 <| .r 12 <| .a <| .b 13 (.f 17 <| .r 18 <| .a <| .b 35 (.a <| .b 36 (.d) .e) .e) .e) <| .b 13 (.f 17 <| .r 18 <| .a <| .b 7 (.f 11 <| .r 12 <| .a <| .b 35 (.a <| .b 36 (.d) .e) .e) .e) .e) .e) <| .b 25 (.f 29 <| .r 30 <| .a <| .b 7 (.f 11 <| .r 12 <| .a <| .b 13 (.f 17 <| .r 18 <| .a <| .b 19 (.f 23 <| .r 24 <| .a <| .b 35 (.a <| .b 36 (.d) .e) .e) .e) <| .b 19 (.f 23 <| .r 24 <| .a <| .b 13 (.f 17 <| .r 18 <| .a <| .b 35 (.a <| .b 36 (.d) .e) .e) .e) .e) <| .b 13 (.f 17 <| .r 18 <| .a <| .b 7 (.f 11 <| .r 12 <| .a <| .b 19 (.f 23 <| .r 24 <| .a <| .b 35 (.a <| .b 36 (.d) .e) .e) .e) <| .b 19 (.f 23 <| .r 24 <| .a <| .b 7 (.f 11 <| .r 12 <| .a <| .b 35 (.a <| .b 36 (.d) .e) .e) .e) .e) <| .b 19 (.f 23 <| .r 24 <| .a <| .b 7 (.f 11 <| .r 12 <| .a <| .b 13 (.f 17 <| .r 18 <| .a <| .b 35 (.a <| .b 36 (.d) .e) .e) .e) <| .b 13 (.f 17 <| .r 18 <| .a <| .b 7 (.f 11 <| .r 12 <| .a <| .b 35 (.a <| .b 36 (.d) .e) .e) .e) .e) .e) .e) (by kernel_rfl) ?_)|(with_reducible refine isAnyP ?_;first|refine anyP_frz 10 (by simp only [seval,go_sem,p1,p2,p3,p4];with_reducible rfl) (by simp only [seval,go_sem,p1,p2,p3,p4];with_reducible rfl) ?_|refine anyP_frz 16 (by simp only [seval,go_sem,p1,p2,p3,p4];with_reducible rfl) (by simp only [seval,go_sem,p1,p2,p3,p4];with_reducible rfl) ?_|refine anyP_frz 22 (by simp only [seval,go_sem,p1,p2,p3,p4];with_reducible rfl) (by simp only [seval,go_sem,p1,p2,p3,p4];with_reducible rfl) ?_|refine anyP_frz 28 (by simp only [seval,go_sem,p1,p2,p3,p4];with_reducible rfl) (by simp only [seval,go_sem,p1,p2,p3,p4];with_reducible rfl) ?_|refine AnyP.D ?_|refine AnyP.F (by simp only [seval,go_sem,l_7,l_6];rfl) (by first|(simp only [seval,go_sem,p1,p2,p3,p4];done)) (by first|(simp only [seval,go_sem,p1,p2,p3,p4];with_reducible rfl)|(simp (disch:=omega) only [seval,go_sem,cnd,intV,shV,convV,strV,p1,p2,p3,p4];with_reducible rfl)) ?_|refine AnyP.R (by simp only [seval,go_sem,l_7,l_6];rfl) (by first|(refine .inl ?_;simp only [seval,go_sem,p1,p2,p3,p4];done)) (by first|(simp only [seval,go_sem,p1,p2,p3,p4];with_reducible rfl)) ?_|refine AnyP.A ?_)|(with_reducible first|exact NextsP.E|refine NextsP.B (by simp only [seval,go_sem,l_7,l_6];rfl) ?_ ?_)|(with_reducible refine isRet ?_;refine RetV (rs:=[.cell 2 31]) (by with_unfolding_all rfl) rfl ?_<;>simp only [seval,go_sem]<;>(repeat' (with_reducible apply And.intro))<;>(try rfl))|(with_reducible (refine TVq (st:=[]) ?_))|simp only [seval,go_sem,p1,p2,p3,p4]))<;>(try (fail)))
 all_goals trace_state
end Go.Proofs.YtmgodadmafcliaaGreat
/- The walks of Append and Close of the chain and of the reference. -/
set_option linter.unusedSimpArgs false
set_option linter.unusedVariables false
namespace Go.Proofs.YtmgodadmafcliaaGreat
open Go.RowKit Go.Avm
def appendV (vs:List Ver) (v:Ver):List Ver×Int:=
 if validV none vs≠0 then ([],validV none vs) else if v.from_<1∨v.size<0∨v.to≠0 then ([],5) else
  match vs[vs.length-1]? with
  | none=>([v],0)
  | some u=>if v.from_≤u.from_∨v.from_<u.to then ([],19) else if u.to=0 then (vs.set (vs.length-1) { u with to:=v.from_ }++[v],0) else (vs++[v],0)
set_option maxRecDepth 100000 in set_option maxHeartbeats 3200000 in
theorem rappend_calls {vs:List Ver} {f t s:Int} {p:List Int} (hl:vs.length≤100000) (hp: ∀ v∈vs,v.pages.length≤1000000) (hq:p.length≤1000000):ACalls Tryz.prog 50 [.sl 4 (vs.map rowV), .agg [.sc (.int .i64 f), .sc (.int .i64 t), .sc (.int .i64 s), .sl 1 (p.map rowI)]]
  (.tup [.slo 0 4 0 (appendV vs ⟨f,t,s,p⟩).1.length, .sc (.int .i64 (appendV vs ⟨f,t,s,p⟩).2)]) [.row 4 ((appendV vs ⟨f,t,s,p⟩).1.map rowV)]:=by
 refine of_tri [] [3,10,28,69,70] Tryz.func50 rfl call50 rfl (by decide) (by decide) rfl rfl Tryz.ntmps50 (by simp (disch:=omega) only [seval,go_sem,cnd,intV,shV,convV,strV,List.replicate,l_2,l_1];rfl) (by simp (disch:=omega) only [seval,go_sem,cnd,intV,shV,convV,strV,l_2,l_1];rfl) ?_
 by_cases h0:vs.length=0
 ·have e:vs=[]:=List.eq_nil_of_length_eq_zero h0
  have hu:vs[vs.length-1]? = none:=by rw [e];rfl
  have hz:validV none vs=0:=by rw [e];rfl
  ((repeat' (first|(with_reducible (first|refine Tri.seq ?_|refine Tri.skip ?_|refine Tri.ret ?_|refine TriD.nil ?_|refine thenQ_n ?_|refine thenQ_r ?_|refine Tri.regionD (by simp only [l_3,l_4];rfl) ?_))|((with_reducible refine isTriD ?_);first|(with_reducible refine TriD.step (by simp only [seval,go_sem,hz];rfl) ?_)|((with_reducible refine isCallD ?_);((with_reducible (refine TriD.dE (by simp only [seval,go_sem,hz];rfl) (by simp only [seval,go_sem,hz];rfl) ?_));refine CallK.c [] (rvalid_calls ?_) (by simp only [seval,go_sem,hz];rfl) ?_))|(with_reducible first|refine TriD.step (by simp (disch:=omega) only [seval,go_sem,cnd,intV,shV,convV,strV,hz];rfl) ?_|refine TriD.byGuard (by simp only [seval,go_sem,hz];rfl) (by simp only [seval,go_sem,hz];rfl) (by (fail_if_success (with_reducible exact nlT));(fail_if_success (with_reducible exact nlF));exact nlI) (cvI ?_) (cvI ?_)))|(with_reducible refine isCond ?_;with_reducible refine Tri.cond (by simp only [seval,go_sem,hz];rfl) (cvI ?_) (cvI ?_))|(with_reducible refine isCv ?_;intro hc;(try simp only [bls,reduceCtorEq] at hc);(try (exfalso;omega)))|(with_reducible refine isRet ?_;refine RetOK.q rfl rfl (by simp only [seval,go_sem];rfl) (by decide) (by simp only [seval,go_sem];rfl) (by simp only [seval,go_sem];rfl) rfl ?_<;>(try simp only [seval,go_sem])<;>(repeat' (with_reducible apply And.intro))<;>(try rfl))|(with_reducible refine isRet ?_;(refine RetOK.virt 4 70 4 (by first|(simp only [seval,go_sem];done)) (by first|(simp only [seval,go_sem];done)) (by simp only [seval,go_sem];rfl) ?_);(with_reducible refine isRet ?_;refine RetOK.q rfl rfl (by simp only [seval,go_sem];rfl) (by decide) (by simp only [seval,go_sem];rfl) (by simp only [seval,go_sem];rfl) rfl ?_<;>(try simp only [seval,go_sem,hz])<;>(repeat' (with_reducible apply And.intro))<;>(try rfl)))))<;>(try ((with_reducible assumption))))
  all_goals ((try simp (disch:=omega) only [appendV,hu,rowV,if_pos,if_neg])<;>(try (first|omega|(simp [appendV,hu,rowV];done)|(simp [appendV,hu,rowV];omega))))
  all_goals (subst e;try simp)
 ·obtain ⟨u,hu⟩:=get_lt (show vs.length-1<vs.length by omega)
  have hu':=get_map rowV hu
  ((repeat' (first|(with_reducible (first|refine Tri.seq ?_|refine Tri.skip ?_|refine Tri.ret ?_|refine TriD.nil ?_|refine ListD.nil ?_|refine thenQ_n ?_|refine thenQ_r ?_|refine Tri.regionD (by simp only [l_3,l_4];rfl) ?_))|((with_reducible refine isTriD ?_);first|(with_reducible refine TriD.step (by simp only [seval,go_sem,hu',rowV];rfl) ?_)|((with_reducible refine isCallD ?_);((with_reducible (refine TriD.dE (by simp only [seval,go_sem,hu',rowV];rfl) (by simp only [seval,go_sem,hu',rowV];rfl) ?_));refine CallK.c [] (rvalid_calls ?_) (by simp only [seval,go_sem,hu',rowV];rfl) ?_))|(with_reducible first|refine TriD.step (by simp (disch:=omega) only [seval,go_sem,cnd,intV,shV,convV,strV,hu',rowV];rfl) ?_|refine TriD.byGuard (by simp only [seval,go_sem,hu',rowV];rfl) (by simp only [seval,go_sem,hu',rowV];rfl) (by (fail_if_success (with_reducible exact nlT));(fail_if_success (with_reducible exact nlF));exact nlI) (cvI ?_) (cvI ?_)))|((with_reducible refine isListD ?_);(with_reducible first|refine ListD.step (by simp only [seval,go_sem,hu',rowV];rfl) ?_|refine ListD.step (by simp (disch:=omega) only [seval,go_sem,cnd,intV,shV,convV,strV,hu',rowV];rfl) ?_|refine ListD.byGuard (by simp only [seval,go_sem,hu',rowV];rfl) (by simp only [seval,go_sem,hu',rowV];rfl) (by (fail_if_success (with_reducible exact nlT));(fail_if_success (with_reducible exact nlF));exact nlI) (cvI ?_) (cvI ?_)))|(with_reducible refine isCond ?_;with_reducible refine Tri.cond (by simp only [seval,go_sem,hu',rowV];rfl) (cvI ?_) (cvI ?_))|(with_reducible refine isCv ?_;intro hc;(try simp only [bls,reduceCtorEq] at hc);(try (exfalso;omega)))|(with_reducible refine isDrawn ?_;refine Tri.drawnD mix (by kernel_rfl) (by simp only [l_3,l_4];rfl) ?_)|(with_reducible refine isRet ?_;refine RetOK.q rfl rfl (by simp only [seval,go_sem];rfl) (by decide) (by simp only [seval,go_sem];rfl) (by simp only [seval,go_sem];rfl) rfl ?_<;>(try simp only [seval,go_sem])<;>(repeat' (with_reducible apply And.intro))<;>(try rfl))|(with_reducible refine isRet ?_;(refine RetOK.virt 4 70 4 (by first|(simp only [seval,go_sem];done)) (by first|(simp only [seval,go_sem];done)) (by simp only [seval,go_sem];rfl) ?_);(with_reducible refine isRet ?_;refine RetOK.q rfl rfl (by simp only [seval,go_sem];rfl) (by decide) (by simp only [seval,go_sem];rfl) (by simp only [seval,go_sem];rfl) rfl ?_<;>(try simp only [seval,go_sem,hu',rowV])<;>(repeat' (with_reducible apply And.intro))<;>(try rfl)))))<;>(try ((with_reducible assumption))))
  all_goals ((try simp (disch:=omega) only [appendV,hu,rowV,List.map_set,if_pos,if_neg])<;>(try ((simp [appendV,hu,rowV,List.map_set];done))))
theorem rappend_val {vs:List Ver} {f t s:Int} {p:List Int} (hl:vs.length≤100000) (hp: ∀ v∈vs,v.pages.length≤1000000) (hq:p.length≤1000000):ACalls Tryz.prog 50 [.sl 4 (vs.map rowV), .agg [.sc (.int .i64 f), .sc (.int .i64 t), .sc (.int .i64 s), .sl 1 (p.map rowI)]]
  (.tup [.sl 4 ((appendV vs ⟨f,t,s,p⟩).1.map rowV), .sc (.int .i64 (appendV vs ⟨f,t,s,p⟩).2)]) []:=by
 have h:=ACalls.freeze (rappend_calls (f:=f) (t:=t) (s:=s) hl hp hq)
 simpa [frzD,frzL,take_lenmap] using h
end Go.Proofs.YtmgodadmafcliaaGreat
/- The walks of Close of the chain and of the reference. -/
set_option linter.unusedSimpArgs false
set_option linter.unusedVariables false
namespace Go.Proofs.YtmgodadmafcliaaGreat
open Go.RowKit Go.Avm
def closeV (vs:List Ver) (c:Int):List Ver×Int:=
 if validV none vs≠0 then ([],validV none vs) else
  match vs[vs.length-1]? with
  | none=>([],17)
  | some u=>if u.to≠0 then ([],17) else if c≤u.from_ then ([],19) else (vs.set (vs.length-1) { u with to:=c },0)
set_option maxRecDepth 100000 in set_option maxHeartbeats 3200000 in
theorem rclose_calls {vs:List Ver} {c:Int} (hl:vs.length≤100000) (hp: ∀ v∈vs,v.pages.length≤1000000):ACalls Tryz.prog 51 [.sl 4 (vs.map rowV), .sc (.int .i64 c)]
  (.tup [.slo 0 4 0 (closeV vs c).1.length, .sc (.int .i64 (closeV vs c).2)]) [.row 4 ((closeV vs c).1.map rowV)]:=by
 refine of_tri [] [10,36] Tryz.func51 rfl call51 rfl (by decide) (by decide) rfl rfl Tryz.ntmps51 (by simp (disch:=omega) only [seval,go_sem,cnd,intV,shV,convV,strV,List.replicate,l_2,l_1];rfl) (by simp (disch:=omega) only [seval,go_sem,cnd,intV,shV,convV,strV,l_2,l_1];rfl) ?_
 by_cases h0:vs.length=0
 ·have e:vs=[]:=List.eq_nil_of_length_eq_zero h0
  have hu:vs[vs.length-1]? = none:=by rw [e];rfl
  have hz:validV none vs=0:=by rw [e];rfl
  ((repeat' (first|(with_reducible (first|refine Tri.seq ?_|refine Tri.skip ?_|refine Tri.ret ?_|refine TriD.nil ?_|refine thenQ_n ?_|refine thenQ_r ?_|refine Tri.regionD (by simp only [l_3,l_4];rfl) ?_))|((with_reducible refine isTriD ?_);first|(with_reducible refine TriD.step (by simp only [seval,go_sem,hz];rfl) ?_)|((with_reducible refine isCallD ?_);((with_reducible (refine TriD.dE (by simp only [seval,go_sem,hz];rfl) (by simp only [seval,go_sem,hz];rfl) ?_));refine CallK.c [] (rvalid_calls ?_) (by simp only [seval,go_sem,hz];rfl) ?_))|(with_reducible refine TriD.step (by simp (disch:=omega) only [seval,go_sem,cnd,intV,shV,convV,strV,hz];rfl) ?_))|(with_reducible refine isCond ?_;with_reducible refine Tri.cond (by simp only [seval,go_sem,hz];rfl) (cvI ?_) (cvI ?_))|(with_reducible refine isCv ?_;intro hc;(try simp only [bls,reduceCtorEq] at hc);(try (exfalso;omega)))|(with_reducible refine isRet ?_;(refine RetOK.virt 4 36 4 (by first|(simp only [seval,go_sem];done)) (by first|(simp only [seval,go_sem];done)) (by simp only [seval,go_sem];rfl) ?_);(with_reducible refine isRet ?_;refine RetOK.q rfl rfl (by simp only [seval,go_sem];rfl) (by decide) (by simp only [seval,go_sem];rfl) (by simp only [seval,go_sem];rfl) rfl ?_<;>(try simp only [seval,go_sem,hz])<;>(repeat' (with_reducible apply And.intro))<;>(try rfl)))))<;>(try ((with_reducible assumption))))
  all_goals ((try simp (disch:=omega) only [closeV,hu,rowV,if_pos,if_neg])<;>(try (first|omega|(simp [closeV,hu,rowV];done)|(simp [closeV,hu,rowV];omega))))
  all_goals (subst e;try simp)
 ·obtain ⟨u,hu⟩:=get_lt (show vs.length-1<vs.length by omega)
  have hu':=get_map rowV hu
  ((repeat' (first|(with_reducible (first|refine Tri.seq ?_|refine Tri.skip ?_|refine Tri.ret ?_|refine TriD.nil ?_|refine thenQ_n ?_|refine thenQ_r ?_|refine Tri.regionD (by simp only [l_3,l_4];rfl) ?_))|((with_reducible refine isTriD ?_);first|(with_reducible refine TriD.step (by simp only [seval,go_sem,hu',rowV];rfl) ?_)|((with_reducible refine isCallD ?_);((with_reducible (refine TriD.dE (by simp only [seval,go_sem,hu',rowV];rfl) (by simp only [seval,go_sem,hu',rowV];rfl) ?_));refine CallK.c [] (rvalid_calls ?_) (by simp only [seval,go_sem,hu',rowV];rfl) ?_))|(with_reducible refine TriD.step (by simp (disch:=omega) only [seval,go_sem,cnd,intV,shV,convV,strV,hu',rowV];rfl) ?_))|(with_reducible refine isCond ?_;with_reducible refine Tri.cond (by simp only [seval,go_sem,hu',rowV];rfl) (cvI ?_) (cvI ?_))|(with_reducible refine isCv ?_;intro hc;(try simp only [bls,reduceCtorEq] at hc);(try (exfalso;omega)))|(with_reducible refine isRet ?_;refine RetOK.q rfl rfl (by simp only [seval,go_sem];rfl) (by decide) (by simp only [seval,go_sem];rfl) (by simp only [seval,go_sem];rfl) rfl ?_<;>(try simp only [seval,go_sem])<;>(repeat' (with_reducible apply And.intro))<;>(try rfl))|(with_reducible refine isRet ?_;(refine RetOK.virt 4 36 4 (by first|(simp only [seval,go_sem];done)) (by first|(simp only [seval,go_sem];done)) (by simp only [seval,go_sem];rfl) ?_);(with_reducible refine isRet ?_;refine RetOK.q rfl rfl (by simp only [seval,go_sem];rfl) (by decide) (by simp only [seval,go_sem];rfl) (by simp only [seval,go_sem];rfl) rfl ?_<;>(try simp only [seval,go_sem,hu',rowV])<;>(repeat' (with_reducible apply And.intro))<;>(try rfl)))))<;>(try ((with_reducible assumption))))
  all_goals ((try simp (disch:=omega) only [closeV,hu,rowV,List.map_set,if_pos,if_neg])<;>(try ((simp [closeV,hu,rowV,List.map_set];done))))
theorem rclose_val {vs:List Ver} {c:Int} (hl:vs.length≤100000) (hp: ∀ v∈vs,v.pages.length≤1000000):ACalls Tryz.prog 51 [.sl 4 (vs.map rowV), .sc (.int .i64 c)]
  (.tup [.sl 4 ((closeV vs c).1.map rowV), .sc (.int .i64 (closeV vs c).2)]) []:=by
 have h:=ACalls.freeze (rclose_calls (c:=c) hl hp)
 simpa [frzD,frzL,take_lenmap] using h
end Go.Proofs.YtmgodadmafcliaaGreat
/- Chain: RemoveVersion of the reference. -/
set_option linter.unusedSimpArgs false
set_option linter.unusedVariables false
namespace Go.Proofs.YtmgodadmafcliaaGreat
open Go.RowKit Go.Avm
def idxV (c:Int):List Ver→Nat→Int
 | [],_=> -1
 | v::vs,k=>if v.from_=c then k else idxV c vs (k+1)
def zeroV:Ver:=⟨0,0,0,[]⟩
def removeV (vs:List Ver) (c:Int):List Ver×Ver×Int:=
 if idxV c vs 0<0 then ([],zeroV,8) else (vs.take (idxV c vs 0).toNat++vs.drop ((idxV c vs 0).toNat+1),(vs[(idxV c vs 0).toNat]?).getD zeroV,0)
end Go.Proofs.YtmgodadmafcliaaGreat
