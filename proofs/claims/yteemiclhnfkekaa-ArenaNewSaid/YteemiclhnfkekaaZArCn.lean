/- ArenaNew: the error of New for any capacity. -/
import Derived.Test.YteemiclhnfkekaaZArC
set_option linter.unusedSimpArgs false
set_option linter.unusedVariables false
namespace Go.Proofs.Yteemiclhnfkekaa
open Go.RowKit Go.Avm Go.ChangeShapes Go.WideShapes Go.ChangeAt
theorem arenaNew_calls {c n:Int}:ACalls Try.prog 3 [.sc (.int .i64 c), .sc (.int .i64 n)] (.sc (.bool true)) []:=by
 have h4:n%4=0∨n%4=1∨n%4=2∨n%4=3:=by omega
 have h3:c<0∨(0≤c∧c≤16384)∨16384<c:=by omega
 rcases h3 with h1|⟨h1,h2⟩|h1<;>rcases h4 with hm|hm|hm|hm
 ·exact arenaNew00 h1 hm
 ·exact arenaNew01 h1 hm
 ·exact arenaNew02 h1 hm
 ·exact arenaNew03 h1 hm
 ·exact arenaNew10 h1 h2 hm
 ·exact arenaNew11 h1 h2 hm
 ·exact arenaNew12 h1 h2 hm
 ·exact arenaNew13 h1 h2 hm
 ·exact arenaNew20 h1 hm
 ·exact arenaNew21 h1 hm
 ·exact arenaNew22 h1 hm
 ·exact arenaNew23 h1 hm
theorem arenaNew_own:ownKnob Try.prog.godebug=none:=by kernel_rfl
theorem arenaNew_laid:laidOutB Try.prog=true:=by kernel_rfl
set_option maxRecDepth 100000 in
theorem arenaNew_lifted (os:Os) (started:os.Started) (H:Type) (enc:TypeId×Value→H):
  ReturnsInHanded {} Try.checked os 3 .any (Rows.arenaNewSpec.pre6 enc Try.prog Try.f3 Rows.arenaNewRow.domain false) (Rows.arenaNewSpec.post enc Try.prog Try.f3 false true false false):=by
 refine returnsInHanded_of_change (C:=Try.checked) arenaNew_own started (by kernel_rfl) Try.func3
  (ChangeSpec.witness6 (enc:=enc) (C:=Try.checked) false ⟨#[], #[.int .i64 0, .int .i64 0],[]⟩ 8 (by kernel_rfl) (by kernel_rfl) (by kernel_rfl) (by kernel_rfl)) ?_
 intro W base args ds gs before hval0 hW hcnd _
 have hval: ∀ (j:Nat) t v,Try.f3.params[j]? = some t→args[j]? = some v→Value.okWide Try.prog W .any base t v:=hval0
 have hW':=hW
 obtain ⟨p,q,hA0,hV,rfl,hfz,hnd⟩:=hW
 have hA:DataW.TrodAll enc Try.prog W 0 (fun _=>true) true Try.f3.params.toList args.toList ds p:=hA0
 rw [Try.params3] at hA hval
 obtain ⟨v0,vs0,d0,ds0,p0,q0,hargs,rfl,rfl,h0,r0⟩:=trodAll_cons hA
 obtain ⟨v1,vs1,d1,ds1,p1,q1,rfl,rfl,rfl,h1,r1⟩:=trodAll_cons r0
 obtain ⟨rfl,rfl,rfl⟩:=trodAll_nil r1
 obtain rfl:args = #[v0,v1]:=by cases args;simp_all
 obtain ⟨a0,x0,w0⟩:=arg_int Try.underlying3 (hval 0 3 v0 rfl rfl) h0
 obtain ⟨a1,x1,w1⟩:=arg_int Try.underlying3 (hval 1 3 v1 rfl rfl) h1
 exact law_step (xs:=[.sc (.int .i64 a0), .sc (.int .i64 a1)]) hW' rfl arenaNew_laid (by kernel_rfl) (fun gs' h=>by subst h;rfl) rfl Try.underlying4 (by simp only [RL];exact ⟨_,_,rfl,x0,⟨_,_,rfl,x1,rfl⟩⟩) (arenaNew_calls)
theorem arenaNew_over:Rows.arenaNewRow.holds Try.pinned (OpenSpec.ofChange Rows.arenaNewSpec):=
 OpenClaim.holds_of_wide 3 Try.f3 rfl rfl rfl rfl rfl rfl rfl ⟨rfl,rfl,rfl,rfl,rfl⟩ rfl rfl rfl rfl rfl (by kernel_rfl) Try.func3 (by kernel_rfl)
  (of_decide_eq_true (by kernel_rfl)) (by unfold Func.isWrapper;first|(rw [if_pos (by decide +kernel)];kernel_rfl)|(rw [if_neg (by decide +kernel)];exact ⟨rfl,rfl⟩))
  (fun os started H enc _=>arenaNew_lifted os started H enc)
theorem arenaNew_holds:Rows.ArenaNewSaid:=arenaNew_over

end Go.Proofs.Yteemiclhnfkekaa
