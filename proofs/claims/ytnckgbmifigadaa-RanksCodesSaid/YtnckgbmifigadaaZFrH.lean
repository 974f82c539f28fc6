/- Frequent: the walks of sketchstorebase's Key and Item: of their results only the ranges are told. -/
import Derived.Test.YtnckgbmifigadaaZFrP
set_option linter.unusedSimpArgs false
set_option linter.unusedVariables false
namespace Go.Proofs.Ytnckgbmifigadaa
open Go.RowKit Go.Avm
def keyT (j : Int) : ByteArray := if j = 0 then ⟨#[97]⟩ else if j = 1 then ⟨#[98]⟩ else if j = 2 then ⟨#[99]⟩ else if j = 3 then ⟨#[100]⟩ else if j = 4 then ⟨#[101]⟩ else if j = 5 then ⟨#[102]⟩ else if j = 6 then ⟨#[97,97]⟩ else if j = 7 then ⟨#[98,32,99]⟩ else if j = 8 then ⟨#[37,54,49]⟩ else if j = 9 then ⟨#[65,58,49]⟩ else if j = 10 then ⟨#[0]⟩ else ⟨#[122,47,255]⟩
theorem keyT_get (j : Int) (h0 : 0 ≤ j) (h1 : j < 12) : ([[.sc (.string ⟨#[97]⟩)],[.sc (.string ⟨#[98]⟩)],[.sc (.string ⟨#[99]⟩)],[.sc (.string ⟨#[100]⟩)],[.sc (.string ⟨#[101]⟩)],[.sc (.string ⟨#[102]⟩)],[.sc (.string ⟨#[97,97]⟩)],[.sc (.string ⟨#[98,32,99]⟩)],[.sc (.string ⟨#[37,54,49]⟩)],[.sc (.string ⟨#[65,58,49]⟩)],[.sc (.string ⟨#[0]⟩)],[.sc (.string ⟨#[122,47,255]⟩)]] : List (List D))[j.toNat]? = some [.sc (.string (keyT j))] := by
  have : j = 0 ∨ j = 1 ∨ j = 2 ∨ j = 3 ∨ j = 4 ∨ j = 5 ∨ j = 6 ∨ j = 7 ∨ j = 8 ∨ j = 9 ∨ j = 10 ∨ j = 11 := by omega
  rcases this with rfl | rfl | rfl | rfl | rfl | rfl | rfl | rfl | rfl | rfl | rfl | rfl <;> rfl
theorem keyT_size (j : Int) : 1 ≤ (keyT j).size ∧ (keyT j).size ≤ 32 := by
  unfold keyT
  repeat' split
  all_goals decide
set_option maxRecDepth 100000 in set_option maxHeartbeats 3200000 in
theorem key_x {n : Int} : XCalls Try.prog 39 [] [.sc (.int .i64 n)] (fun k : ByteArray => 1 ≤ k.size ∧ k.size ≤ 32) (fun k => .sc (.string k)) (fun _ => []) := by
  have hq := keyT_get (n % 256 % 12) (by omega) (by omega)
  have h12 : ((12 : Nat) : Int) = 12 := rfl
  refine of_triX [] [4,17] Try.func39 rfl call39 rfl (by decide) (by decide) rfl rfl Try.ntmps39 (by simp (disch := omega) only [seval,go_sem,cnd,intV,shV,convV,strV,List.replicate,List.zip_nil_left,List.zip_cons_cons];rfl) (by simp (disch := omega) only [seval,go_sem,cnd,intV,shV,convV,strV,List.zip_nil_left,List.zip_cons_cons];rfl) ?_
  (all_goals (try have hZ := (And.intro hq h12));(repeat' (first|(with_reducible (first|refine Tri.seq ?_|refine Tri.skip ?_|refine Tri.ret ?_|refine TriD.nil ?_|refine thenQ_n ?_|refine thenQ_r ?_|refine Tri.regionD (by simp only [List.map_cons,List.map_nil];rfl) ?_))|((with_reducible refine isTriD ?_);first|(with_reducible refine TriD.step (by simp only [seval,go_sem,Go.Avm.byteOf,mapO,Option.map_some,Option.bind_some,hZ];rfl) ?_)|(with_reducible refine TriD.step (by simp (disch := omega) only [seval,go_sem,cnd,intV,shV,convV,strV,Go.Avm.byteOf,mapO,Option.map_some,Option.bind_some,hZ];rfl) ?_))|(with_reducible refine isCond ?_;with_reducible refine Tri.cond (by simp only [seval,go_sem,Go.Avm.byteOf,mapO,Option.map_some,Option.bind_some,hZ];rfl) (cvI ?_) (cvI ?_))|(with_reducible refine isCv ?_;intro hc;(try simp only [bls,reduceCtorEq] at hc);(try (exfalso;omega))))) <;> (try (fail));all_goals (try clear hZ))
  · (refine isRetX (strOfNums [IntKind.u8.wrap n, IntKind.u8.wrap (n / 2), IntKind.u8.wrap (n / 8)]) ?_ ?_)
    · exact ⟨by simp [strOfNums, ByteArray.size], by simp [strOfNums, ByteArray.size]⟩
    (with_reducible refine isRet ?_;refine RetOK.q rfl rfl (by simp only [seval,go_sem];rfl) (by decide) (by simp only [seval,go_sem];first|rfl) (by simp only [seval,go_sem];first|rfl) rfl ?_ <;> (try simp only [seval,go_sem]) <;> (repeat' (with_reducible apply And.intro)) <;> (try rfl))
  · (refine isRetX (keyT (n % 256 % 12)) ?_ ?_)
    · exact keyT_size _
    (with_reducible refine isRet ?_;refine RetOK.q rfl rfl (by simp only [seval,go_sem];rfl) (by decide) (by simp only [seval,go_sem];first|rfl) (by simp only [seval,go_sem];first|rfl) rfl ?_ <;> (try simp only [seval,go_sem]) <;> (repeat' (with_reducible apply And.intro)) <;> (try rfl))
set_option maxRecDepth 100000 in set_option maxHeartbeats 3200000 in
theorem item_x {n : Int} : XCalls Try.prog 18 [] [.sc (.int .i64 n)] (fun x : ByteArray × Int => (1 ≤ x.1.size ∧ x.1.size ≤ 32) ∧ 1 ≤ x.2 ∧ x.2 ≤ 4294967295) (fun x => .agg [.sc (.string x.1), .sc (.int .i64 x.2)]) (fun _ => []) := by
  refine of_triX [] [2,24] Try.func18 rfl call18 rfl (by decide) (by decide) rfl rfl Try.ntmps18 (by simp (disch := omega) only [seval,go_sem,cnd,intV,shV,convV,strV,List.replicate,List.zip_nil_left,List.zip_cons_cons];rfl) (by simp (disch := omega) only [seval,go_sem,cnd,intV,shV,convV,strV,List.zip_nil_left,List.zip_cons_cons];rfl) ?_
  ((repeat' (first|(with_reducible (first|refine Tri.seq ?_|refine Tri.block ?_|refine Tri.skip ?_|refine Tri.ret ?_|refine TriD.nil ?_|refine thenQ_n ?_|refine inBlockQ_n ?_|refine Tri.regionD (by simp only [List.map_cons,List.map_nil];rfl) ?_))|((with_reducible refine isTriD ?_);first|(with_reducible refine TriD.step (by simp only [seval,go_sem];rfl) ?_)|((with_reducible refine isCallD ?_);first|(with_reducible (first|(with_unfolding_all refine TriD.callX (dst := _) true [] [] (by simp only [seval,go_sem]) rfl (key_x) ⟨by simp only [seval,go_sem];first|rfl,rfl⟩ (by decide) (fun _ => rfl) rfl rfl (fun _ => by first|rfl) (fun _ => by first|rfl) (fun t ht => ?_);(try dsimp only at ht)))))|(with_reducible refine TriD.step (by simp (disch := omega) only [seval,go_sem,cnd,intV,shV,convV,strV];rfl) ?_))|(with_reducible refine isCond ?_;with_reducible refine Tri.cond (by simp only [seval,go_sem];rfl) (cvI ?_) (cvI ?_))|(with_reducible refine isCv ?_;intro hc;(try simp only [bls,reduceCtorEq] at hc);(try (exfalso;omega))))) <;> (try (fail)))
  · (refine isRetX ((t, 1 + n % 65536 * 65537 % 4294967295)) ?_ ?_)
    · exact ⟨ht, by simp only; omega⟩
    (with_reducible refine isRet ?_;refine RetOK.q rfl (by with_unfolding_all (show retD _ _ [.cell 2 29] = _);simp only [seval,go_sem];rfl) (by simp only [seval,go_sem];rfl) (by decide) (by simp only [seval,go_sem];first|rfl) (by simp only [seval,go_sem];first|rfl) rfl ?_ <;> (try simp only [seval,go_sem]) <;> (repeat' (with_reducible apply And.intro)) <;> (try rfl))
  · (refine isRetX ((t, 4294967295 - n % 4)) ?_ ?_)
    · exact ⟨ht, by simp only; omega⟩
    (with_reducible refine isRet ?_;refine RetOK.q rfl (by with_unfolding_all (show retD _ _ [.cell 2 29] = _);simp only [seval,go_sem];rfl) (by simp only [seval,go_sem];rfl) (by decide) (by simp only [seval,go_sem];first|rfl) (by simp only [seval,go_sem];first|rfl) rfl ?_ <;> (try simp only [seval,go_sem]) <;> (repeat' (with_reducible apply And.intro)) <;> (try rfl))
  · (refine isRetX ((t, 1 + n / 16 % 8)) ?_ ?_)
    · exact ⟨ht, by simp only; omega⟩
    (with_reducible refine isRet ?_;refine RetOK.q rfl (by with_unfolding_all (show retD _ _ [.cell 2 29] = _);simp only [seval,go_sem];rfl) (by simp only [seval,go_sem];rfl) (by decide) (by simp only [seval,go_sem];first|rfl) (by simp only [seval,go_sem];first|rfl) rfl ?_ <;> (try simp only [seval,go_sem]) <;> (repeat' (with_reducible apply And.intro)) <;> (try rfl))
end Go.Proofs.Ytnckgbmifigadaa
