/- StoreConfigs: the error of ValidateConfig and New for any configuration is that of the reference. -/
import Derived.Test.YteemiclhnfkekaaZStH0
import Derived.Test.YteemiclhnfkekaaZStH3
set_option linter.unusedSimpArgs false
set_option linter.unusedVariables false
namespace Go.Proofs.Yteemiclhnfkekaa
open Go.RowKit Go.Avm Go.ChangeShapes Go.WideShapes Go.ChangeAt
theorem storeConfigs_calls {c:Cf} {n:Int}:ACalls Try.prog 7 [.agg (dCf c), .sc (.int .i64 n)] (.sc (.bool true)) []:=by
 obtain ⟨b1,b2,b3,b4,b5,b6,b7⟩:=c
 simp only [dCf]
 have h:n/524288%8=0∨n/524288%8=1∨n/524288%8=2∨n/524288%8=3∨n/524288%8=4∨n/524288%8=5∨n/524288%8=6∨n/524288%8=7:=by omega
 rcases h with h|h|h|h|h|h|h|h
 ·exact sconf0 h
 ·exact sconf1 h
 ·exact sconf2 h
 ·exact sconf3 h
 ·exact sconf4 h
 ·exact sconf5 h
 ·exact sconf6 h
 ·exact sconf7 h
theorem conv_cf (row:List D) (h:Rok [.int .i64, .int .i64, .int .i64, .int .i64, .int .i64, .int .i64, .int .i64] row): ∃ c:Cf,row=dCf c∧True:=by
 simp only [Rok,Cok] at h
 obtain ⟨_,_,rfl,⟨a,rfl,_⟩,_,_,rfl,⟨b,rfl,_⟩,_,_,rfl,⟨c,rfl,_⟩,_,_,rfl,⟨d,rfl,_⟩,_,_,rfl,⟨e,rfl,_⟩,_,_,rfl,⟨f,rfl,_⟩,_,_,rfl,⟨g,rfl,_⟩,rfl⟩:=h
 exact ⟨⟨a,b,c,d,e,f,g⟩,rfl,trivial⟩
theorem storeConfigs_own:ownKnob Try.prog.godebug=none:=by kernel_rfl
theorem storeConfigs_laid:laidOutB Try.prog=true:=by kernel_rfl
set_option maxRecDepth 100000 in
theorem storeConfigs_lifted (os:Os) (started:os.Started) (H:Type) (enc:TypeId×Value→H):
  ReturnsInHanded {} Try.checked os 7 .any (Rows.storeConfigsSpec.pre6 enc Try.prog Try.f7 Rows.storeConfigsRow.domain false) (Rows.storeConfigsSpec.post enc Try.prog Try.f7 false true false false):=by
 refine returnsInHanded_of_change (C:=Try.checked) storeConfigs_own started (by kernel_rfl) Try.func7
  (ChangeSpec.witness6 (enc:=enc) (C:=Try.checked) false ⟨#[], #[.agg #[.int .i64 0, .int .i64 0, .int .i64 0, .int .i64 0, .int .i64 0, .int .i64 0, .int .i64 0], .int .i64 0],[]⟩ 8 (by kernel_rfl) (by kernel_rfl) (by kernel_rfl) (by kernel_rfl)) ?_
 intro W base args ds gs before hval0 hW hcnd _
 have hval: ∀ (j:Nat) t v,Try.f7.params[j]? = some t→args[j]? = some v→Value.okWide Try.prog W .any base t v:=hval0
 have hW':=hW
 obtain ⟨p,q,hA0,hV,rfl,hfz,hnd⟩:=hW
 have hA:DataW.TrodAll enc Try.prog W 0 (fun _=>true) true Try.f7.params.toList args.toList ds p:=hA0
 rw [Try.params7] at hA hval
 obtain ⟨v0,vs0,d0,ds0,p0,q0,hargs,rfl,rfl,h0,r0⟩:=trodAll_cons hA
 obtain ⟨v1,vs1,d1,ds1,p1,q1,rfl,rfl,rfl,h1,r1⟩:=trodAll_cons r0
 obtain ⟨rfl,rfl,rfl⟩:=trodAll_nil r1
 obtain rfl:args = #[v0,v1]:=by cases args;simp_all
 obtain ⟨A0,x0,k0⟩:=arg_agg (base:=base) (n:=8) (r:=[.int .i64,.int .i64,.int .i64,.int .i64,.int .i64,.int .i64,.int .i64]) (by kernel_rfl) Try.underlying57 (hval 0 57 v0 rfl rfl) h0
 obtain ⟨a0,rfl,w0⟩:=conv_cf _ k0
 obtain ⟨a1,x1,w1⟩:=arg_int Try.underlying3 (hval 1 3 v1 rfl rfl) h1
 exact law_step (xs:=[.agg (dCf a0), .sc (.int .i64 a1)]) hW' rfl storeConfigs_laid (by kernel_rfl) (fun gs' h=>by subst h;rfl) rfl Try.underlying4 (by simp only [RL];exact ⟨_,_,rfl,x0,⟨_,_,rfl,x1,rfl⟩⟩) (storeConfigs_calls)
theorem storeConfigs_over:Rows.storeConfigsRow.holds Try.pinned (OpenSpec.ofChange Rows.storeConfigsSpec):=
 OpenClaim.holds_of_wide 7 Try.f7 rfl rfl rfl rfl rfl rfl rfl ⟨rfl,rfl,rfl,rfl,rfl⟩ rfl rfl rfl rfl rfl (by kernel_rfl) Try.func7 (by kernel_rfl)
  (of_decide_eq_true (by kernel_rfl)) (by unfold Func.isWrapper;first|(rw [if_pos (by decide +kernel)];kernel_rfl)|(rw [if_neg (by decide +kernel)];exact ⟨rfl,rfl⟩))
  (fun os started H enc _=>storeConfigs_lifted os started H enc)
theorem storeConfigs_holds:Rows.StoreConfigsSaid:=storeConfigs_over

end Go.Proofs.Yteemiclhnfkekaa
