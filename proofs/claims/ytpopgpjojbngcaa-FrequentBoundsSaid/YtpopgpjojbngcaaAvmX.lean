/- The abstract machine, part X: drawn regions in which calls and stores stand: every order of these, the rest taken first. -/
import Derived.Test.YtpopgpjojbngcaaAvmW
namespace Go.Avm
set_option linter.unusedVariables false
set_option linter.unusedSimpArgs false
open Go.RowKit

/-- A run that, if it yields, asks nothing of the world and leaves it. -/
def NoH (P : Program) {α : Type} (s : Sem α) : Prop := ∀ w a w1, s.run P w = .ok a w1 → w1 = w ∧ ∀ w', s.run P w' = .ok a w'
section
variable {P : Program} {α β : Type}
theorem NoH.pure_ (a : α) : NoH P (pure a : Sem α) := fun w b w1 h => by
  simp only [Sem.run_pure, Result.ok.injEq] at h
  obtain ⟨rfl, rfl⟩ := h
  exact ⟨rfl, fun w' => by simp⟩
theorem NoH.bind_ {x : Sem α} {f : α → Sem β} (hx : NoH P x) (hf : ∀ a, NoH P (f a)) : NoH P (x >>= f) := fun w b w2 h => by
  rw [Sem.run_bind] at h
  cases hr : x.run P w with
  | ok a w1 =>
    rw [hr, Result.andThen_ok] at h
    obtain ⟨rfl, h1⟩ := hx w a w1 hr
    obtain ⟨rfl, h2⟩ := hf a _ _ _ h
    exact ⟨rfl, fun w' => by rw [Sem.run_bind, h1 w', Result.andThen_ok]; exact h2 w'⟩
  | halt e w1 => rw [hr] at h; cases h
/-- A run that never yields. -/
def Never (P : Program) {α : Type} (s : Sem α) : Prop := ∀ w a w1, s.run P w ≠ .ok a w1
theorem NoH.never {s : Sem α} (h : Never P s) : NoH P s := fun w a w1 he => absurd he (h w a w1)
theorem Never.halt_ (x : Halt) : Never P (.halt x : Sem α) := fun w a w1 h => by cases h
theorem Never.bind_ {x : Sem α} {f : α → Sem β} (hf : ∀ a, Never P (f a)) : Never P (x >>= f) := fun w b w2 h => by
  rw [Sem.run_bind] at h
  cases hr : x.run P w with
  | ok a w1 => rw [hr, Result.andThen_ok] at h; exact hf a _ _ _ h
  | halt e w1 => rw [hr] at h; cases h
theorem Never.bounds (k : IntKind) (x y : Int) (c : BoundsCode) : Never P (boundsPanic k x y c : Sem α) := by
  unfold boundsPanic
  dsimp only
  split <;> exact Never.bind_ fun s => Never.bind_ fun p => Never.halt_ _
theorem NoH.halt_ (x : Halt) : NoH P (.halt x : Sem α) := .never (Never.halt_ x)
theorem NoH.program_ : NoH P program := fun w a w1 h => by
  have e : ∀ w, (program : Sem Program).run P w = .ok P w := fun _ => rfl
  rw [e, Result.ok.injEq] at h
  obtain ⟨rfl, rfl⟩ := h
  exact ⟨rfl, e⟩
theorem NoH.underlying_ (t : TypeId) : NoH P (underlying t) := by
  unfold underlying
  exact NoH.bind_ NoH.program_ fun p => by split; exact NoH.pure_ _; exact NoH.halt_ _
theorem NoH.typeInfo_ (t : TypeId) : NoH P (typeInfo t) := by
  unfold typeInfo
  exact NoH.bind_ NoH.program_ fun p => by split; exact NoH.pure_ _; exact NoH.halt_ _
theorem NoH.sizeOf_ (t : TypeId) : NoH P (sizeOf t) := NoH.bind_ (NoH.typeInfo_ t) fun _ => NoH.pure_ _
theorem NoH.asIntOf_ (v : Value) : NoH P (asIntOf v) := by
  unfold asIntOf; split
  · exact NoH.pure_ _
  · exact NoH.halt_ _
  · exact NoH.halt_ _
theorem NoH.asBool_ (v : Value) : NoH P (asBool v) := by
  unfold asBool; split
  · exact NoH.pure_ _
  · exact NoH.halt_ _
theorem NoH.asAddr_ (v : Value) : NoH P (Instr.sureAddr v) := by
  unfold Instr.sureAddr; split
  · exact NoH.pure_ _
  · exact NoH.halt_ _
theorem NoH.sliceBound_ (x : Value) (y : Nat) (c : BoundsCode) : NoH P (Instr.sliceBound x y c) := by
  unfold Instr.sliceBound
  refine NoH.bind_ (NoH.asIntOf_ x) fun ki => ?_
  split
  split
  · exact NoH.pure_ _
  · exact NoH.never (Never.bounds _ _ _ _)
theorem NoH.sliceBounds_ (b : Bool) (n c : Nat) (lo hi mx : Option Value) : NoH P (Instr.sliceBounds b n c lo hi mx) := by
  unfold Instr.sliceBounds
  dsimp only
  repeat' (first | exact NoH.pure_ _ | exact NoH.halt_ _ | exact NoH.sliceBound_ _ _ _ | exact NoH.underlying_ _ | exact NoH.sizeOf_ _ | exact NoH.asIntOf_ _ | exact NoH.asBool_ _ | exact NoH.asAddr_ _ | exact NoH.never (Never.bounds _ _ _ _) | refine NoH.bind_ ?_ (fun _ => ?_) | split)
theorem NoH.asAddr'_ (v : Value) : NoH P (asAddr v) := by
  unfold asAddr; split
  · exact NoH.pure_ _
  · unfold runtimePanic
    exact NoH.never (Never.bind_ fun p => Never.halt_ _)
  · exact NoH.halt_ _
theorem NoH.slice_ (t : TypeId) (x : Value) (lo hi mx : Option Value) : NoH P (Instr.slice t x lo hi mx) := by
  unfold Instr.slice
  dsimp only
  repeat' (first | exact NoH.pure_ _ | exact NoH.halt_ _ | exact NoH.sliceBound_ _ _ _ | exact NoH.underlying_ _ | exact NoH.sizeOf_ _ | exact NoH.asIntOf_ _ | exact NoH.asAddr'_ _ | exact NoH.asAddr_ _ | exact NoH.sliceBounds_ _ _ _ _ _ _ | exact NoH.never (Never.bounds _ _ _ _) | refine NoH.bind_ ?_ (fun _ => ?_) | split)
theorem NoH.sliceAt_ (t : TypeId) (x : Value) (lo hi mx : Option Value) : NoH P (Instr.sliceAt t x lo hi mx) := by
  unfold Instr.sliceAt
  dsimp only
  repeat' (first | exact NoH.pure_ _ | exact NoH.halt_ _ | exact NoH.sliceBound_ _ _ _ | exact NoH.underlying_ _ | exact NoH.sizeOf_ _ | exact NoH.asIntOf_ _ | exact NoH.slice_ _ _ _ _ _ | exact NoH.asAddr_ _ | exact NoH.sliceBounds_ _ _ _ _ _ _ | exact NoH.never (Never.bounds _ _ _ _) | refine NoH.bind_ ?_ (fun _ => ?_) | split)
theorem NoH.indexAt_ (t : TypeId) (x i : Value) : NoH P (Instr.indexAt t x i) := by
  unfold Instr.indexAt
  dsimp only
  repeat' (first | exact NoH.pure_ _ | exact NoH.halt_ _ | exact NoH.sliceBound_ _ _ _ | exact NoH.underlying_ _ | exact NoH.sizeOf_ _ | exact NoH.asIntOf_ _ | exact NoH.asBool_ _ | exact NoH.asAddr_ _ | exact NoH.sliceBounds_ _ _ _ _ _ _ | exact NoH.never (Never.bounds _ _ _ _) | refine NoH.bind_ ?_ (fun _ => ?_) | split)
theorem NoH.extract_ (x : Value) (i : Nat) : NoH P (Instr.extract x i) := by
  unfold Instr.extract
  repeat' (first | exact NoH.pure_ _ | exact NoH.halt_ _ | exact NoH.sliceBound_ _ _ _ | exact NoH.underlying_ _ | exact NoH.sizeOf_ _ | exact NoH.asIntOf_ _ | exact NoH.asBool_ _ | exact NoH.asAddr_ _ | exact NoH.sliceBounds_ _ _ _ _ _ _ | exact NoH.never (Never.bounds _ _ _ _) | refine NoH.bind_ ?_ (fun _ => ?_) | split)
theorem NoH.makeFunc_ (f : Fn) (a b : Array Value) : NoH P (Instr.makeFunc f a b) := by
  unfold Instr.makeFunc
  repeat' (first | exact NoH.pure_ _ | exact NoH.halt_ _ | exact NoH.sliceBound_ _ _ _ | exact NoH.underlying_ _ | exact NoH.sizeOf_ _ | exact NoH.asIntOf_ _ | exact NoH.asBool_ _ | exact NoH.asAddr_ _ | exact NoH.sliceBounds_ _ _ _ _ _ _ | exact NoH.never (Never.bounds _ _ _ _) | refine NoH.bind_ ?_ (fun _ => ?_) | split)
end

/-- What is taken first. -/
def hfOp (P : Program) (σ : St) : Op → Bool
  | .move _ | .assign _ | .pick .. | .extract .. | .slice .. | .makeFunc .. | .indexAddr .. | .fieldAddr .. | .binOp .. | .unOp .. => true
  | .convert s t x => ((elemsD σ 1 (evl σ x)).bind (bytesV P s t)).isNone
  | .call { callee := .builtin .len, .. } => true
  | _ => false
section
variable {P : Program} {σ : St}
theorem run_fieldAt_ok {t : TypeId} {i off : Nat} {ti fi : TI} {ft : TypeId} (ht : tiGet P t = some ti) (hi : ti.kind.fields[i]? = some (off, ft)) (hf : tiGet P ft = some fi) (hn : fi.size ≠ 0) (g q : Nat) (w : World) :
    (Instr.fieldAt t (.pointer (some ⟨g, q, none⟩)) i).run P w = .ok (.pointer (some ⟨g, q + off, none⟩)) w := by
  obtain ⟨⟨dt, hu, hk⟩, _⟩ := run_ti ht w
  cases hkk : ti.kind with
  | struct fs =>
    rw [hkk] at hk hi
    obtain ⟨F, rfl, hF⟩ := tk_struct hk
    obtain ⟨f, hf1, hf2, hf3⟩ := field_at hF hi
    obtain ⟨_, hsz, _, _, _⟩ := run_ti hf w
    simp [Instr.fieldAt, hu, hf1, Instr.sureAddr, fieldPlace, hf3, hsz, hn, hf2, Addr.add_lit]
  | _ => rw [hkk] at hi; simp [TK.fields] at hi
theorem addrPlus_ptr {w0 : World} {p : Pm} {a : Act} {w : World} {ρ : Nat → Option (Option Nat)} {x : Operand} {n : Nat} {d : D} (h : RelAt w0 p σ a w ρ) (hd : addrPlus n (evl σ x) = some d) : ∃ g q, a.eval x = .pointer (some ⟨g, q, none⟩) := by
  have h1 := h.evl x
  cases hx : evl σ x <;> rw [hx] at hd h1 <;> simp only [addrPlus, reduceCtorEq] at hd <;> simp only [R] at h1
  · obtain ⟨g, q, e1, _⟩ := h1; exact ⟨g, q, e1⟩
  · obtain ⟨g, _, e2⟩ := h1; exact ⟨g, _, e2⟩
  · obtain ⟨g, _, e2⟩ := h1; exact ⟨g, _, e2⟩
theorem lenD_slice {w0 : World} {p : Pm} {a : Act} {w : World} {ρ : Nat → Option (Option Nat)} {x : Operand} {n : Nat} (h : RelAt w0 p σ a w ρ) (hn : lenD (evl σ x) = some n) : ∃ A c, a.eval x = .slice A n c := by
  have h1 := h.evl x
  cases hx : evl σ x with
  | sl k rows =>
    rw [hx] at h1 hn
    simp only [lenD, Option.some.injEq] at hn
    simp only [R] at h1
    obtain ⟨A, c, e1, _⟩ := h1
    exact ⟨A, c, by rw [e1, hn]⟩
  | slo o k off len =>
    rw [hx] at h1 hn
    simp only [lenD, Option.some.injEq] at hn
    subst hn
    simp only [R] at h1
    rcases h1 with ⟨_, _, e3, A, e4⟩ | ⟨g, cap, A, _, _, _, _, e5, _⟩
    · exact ⟨A, 0, by rw [e4, e3]⟩
    · exact ⟨A, _, e5⟩
  | any | sc | agg | ro | ref | elt | tup | fn => rw [hx] at hn; simp [lenD] at hn
theorem NoH.value_ {s : Sem Value} (h : NoH P s) : NoH P (do pure (Next.value (← s))) := NoH.bind_ h fun _ => NoH.pure_ _
theorem NoH.of_some {s : Sem Next} {v : Value} (h : ∀ w, s.run P w = .ok (.value v) w) : NoH P s := fun w a w1 he => by
  rw [h w, Result.ok.injEq] at he
  obtain ⟨rfl, rfl⟩ := he
  exact ⟨rfl, h⟩
/-- Taken at whatever time it yields the same. -/
theorem aval_noH {op : Op} {d : D} (hop : hfOp P σ op = true) (h : aval P σ op = some d) {w0 : World} {p : Pm} {a : Act} {w : World} {ρ : Nat → Option (Option Nat)} {o : Oper} (ho : o.op = op) (hr : RelAt w0 p σ a w ρ) :
    NoH P (execOp a.eval o) := by
  cases op with
  | move x => simp only [execOp, ho]; exact NoH.pure_ _
  | assign x => simp only [execOp, ho]; exact NoH.pure_ _
  | pick c x y => simp only [execOp, ho]; exact NoH.bind_ (NoH.asBool_ _) fun b => NoH.pure_ _
  | extract x i => simp only [execOp, ho]; exact NoH.value_ (NoH.extract_ _ _)
  | slice t x lo hi mx => simp only [execOp, ho]; exact NoH.value_ (NoH.sliceAt_ _ _ _ _ _)
  | makeFunc f l c => simp only [execOp, ho]; exact NoH.value_ (NoH.makeFunc_ _ _ _)
  | indexAddr t x i => simp only [execOp, ho]; exact NoH.value_ (NoH.indexAt_ _ _ _)
  | fieldAddr t x i =>
    simp only [aval, Option.bind_eq_some_iff] at h
    obtain ⟨ti, ht, ⟨off, ft⟩, hi, fi, hf, h⟩ := h
    split at h
    · rename_i hn
      obtain ⟨g, q, hp⟩ := addrPlus_ptr hr h
      refine NoH.of_some (v := .pointer (some ⟨g, q + off, none⟩)) fun w' => ?_
      simp only [execOp, ho, hp, Sem.run_bind, run_fieldAt_ok ht hi hf hn, Result.andThen_ok, Sem.run_pure]
    · cases h
  | binOp op t x y ty =>
    simp only [aval, Option.bind_eq_some_iff, Option.map_eq_some_iff] at h
    obtain ⟨u, hu, v, hv, z, hz, rfl⟩ := h
    have h1 := conc_spec hu (hr.evl x)
    have h2 := conc_spec hv (hr.evl y)
    refine NoH.of_some (v := z) fun w' => ?_
    have h3 := pureRun_run w' (binV_spec hz)
    simp only [execOp, ho, h1, h2, Sem.run_bind, Sem.run_pure] at h3 ⊢
    rw [h3]; rfl
  | unOp op t x =>
    simp only [aval, Option.bind_eq_some_iff, Option.map_eq_some_iff] at h
    obtain ⟨u, hu, z, hz, rfl⟩ := h
    have h1 := conc_spec hu (hr.evl x)
    refine NoH.of_some (v := z) fun w' => ?_
    have h3 := pureRun_run w' (unV_spec hz)
    simp only [execOp, ho, h1, Sem.run_bind, Sem.run_pure]
    rw [h3]; rfl
  | convert s t x =>
    simp only [hfOp, Option.isNone_iff_eq_none] at hop
    simp only [aval, hop, Option.bind_eq_some_iff, Option.map_eq_some_iff] at h
    obtain ⟨u, hu, z, hz, rfl⟩ := h
    have h1 := conc_spec hu (hr.evl x)
    refine NoH.of_some (v := z) fun w' => ?_
    have h3 := pureRun_run w' (convV_spec hz)
    simp only [execOp, ho, h1, Sem.run_bind, Sem.run_pure]
    rw [h3]; rfl
  | call c =>
    obtain ⟨f, xs, ts⟩ := c
    cases f <;> simp only [hfOp, reduceCtorEq, Bool.false_eq_true] at hop
    rename_i b
    cases b <;> simp only [reduceCtorEq, Bool.false_eq_true] at hop
    simp only [aval] at h
    split at h
    · rename_i x t hxs hts
      have hxs' := arr1 hxs
      have hts' := arr1 hts
      subst hxs' hts'
      split at h
      · rename_i n hn
        obtain ⟨A, c, hA⟩ := lenD_slice hr hn
        simp only [Option.bind_eq_some_iff, Option.map_eq_some_iff] at h
        obtain ⟨ti, ht, e, he, rfl⟩ := h
        refine NoH.of_some (v := .int .i64 n) fun w' => ?_
        obtain ⟨⟨dt, hu, hkd⟩, _⟩ := run_ti ht w'
        cases hkk : ti.kind with
        | slice e' =>
          rw [hkk] at hkd
          obtain rfl := tk_slice hkd
          simp [execOp, ho, resolve, invoke, builtin, Builtin.len_, hu, hA, goInt]
        | _ => rw [hkk] at he; simp [TK.elem?] at he
      · simp only [Option.bind_eq_some_iff, Option.map_eq_some_iff] at h
        obtain ⟨v, hv, z, hz, rfl⟩ := h
        have h1 := conc_spec hv (hr.evl _)
        refine NoH.of_some (v := z) fun w' => ?_
        have h3 := pureRun_run w' hz
        have e : ∀ u t', Builtin.len_ #[u] t' #[v] = Builtin.len_ #[u] 0 #[v] := fun _ _ => rfl
        simp only [execOp, ho, resolve, invoke, Go.builtin, Sem.run_bind, Sem.run_pure, Result.andThen_ok, List.map_toArray, List.map_cons, List.map_nil, h1, e]
        rw [h3]; rfl
    all_goals first | cases h | (simp_all; done)
  | _ => simp [hfOp] at hop

theorem Oper.wp_monoQ_ {o : Oper} {a : Act} {w : World} {K : Act → World → Prop} {Q1 Q2 : Exit → Act → World → Prop} (hq : ∀ e a w, Q1 e a w → Q2 e a w) (h : o.wp P a w K Q1) : o.wp P a w K Q2 := by
  unfold Oper.wp at *
  generalize (execOp a.eval o).run P w = r at *
  cases r with
  | ok n w' =>
    cases n <;> simp only [Oper.upon] at h ⊢ <;> first
      | exact h
      | exact Calls.mono h (fun e w'' he => by
          cases e with
          | returned v => exact he
          | panicked c => exact hq _ _ _ he
          | outgrown => obtain ⟨a, w, h3⟩ := he; exact ⟨a, w, hq _ _ _ h3⟩)
  | halt x w' => cases x <;> simp only [Oper.upon] at h ⊢ <;> first | exact h | exact hq _ _ _ h
theorem wpAny_mono_ {ops : Array Oper} {Q1 Q2 : Exit → Act → World → Prop} (hq : ∀ e a w, Q1 e a w → Q2 e a w) : ∀ (fuel : Nat) (listed : Array Bool) (a : Act) (w : World), wpAny P .any ops Q1 fuel listed a w → wpAny P .any ops Q2 fuel listed a w
  | 0, _, _, _, h => ⟨h.1, hq _ _ _ h.2⟩
  | fuel + 1, listed, a, w, h => ⟨fun h0 => hq _ _ _ (h.1 h0), fun i hi => by
      have h1 := wpOp_mono (fun a' w' h' => wpAny_mono_ hq fuel _ a' w' h') (h.2 i hi)
      unfold wpOp at h1 ⊢
      split
      · rename_i h0; simpa [h0] using h1
      · rename_i o ho
        simp only [ho] at h1
        split
        · rename_i hw
          rw [if_pos hw] at h1
          exact h1.imp (fun h2 => Oper.wp_monoQ_ hq h2) (fun h2 => ⟨h2.1, by obtain ⟨a, w, h3⟩ := h2.2; exact ⟨a, w, hq _ _ _ h3⟩⟩)
        · rename_i hw
          rw [if_neg hw] at h1
          exact h1⟩
/-- A drawn region's operations that are left, in every order. -/
def AnyT (P : Program) (ops : Array Oper) (K : St → Prop) (fuel : Nat) (listed : Array Bool) (σ : St) : Prop :=
  ∀ w0 p a w, Rel w0 p σ a w → wpAny P .any ops (fun e a' w' => e = .normal ∧ ∃ σ', K σ' ∧ Rel w0 p σ' a' w') fuel listed a w
variable {ops : Array Oper} {K : St → Prop} {fuel : Nat} {listed : Array Bool} {ds : List (Option Nat)}
theorem AnyT.done (hr : Region.ready .any ops listed = []) (h : K σ) : AnyT P ops K fuel listed σ := fun w0 p a w hrel => wpAny_done hr ⟨rfl, σ, h, hrel⟩ fuel
/-- Number i may be taken first. -/
def takeB (ops : Array Oper) (listed : Array Bool) (i : Nat) : Bool := Region.noSelect ops && Region.free .any ops listed i && (Region.ready .any ops listed).contains i
theorem AnyT.first (i : Nat) {dst : Option Nat} {op : Op} {ty : TypeId} {pos : String} {af : Array Edge} {g : Option (Nat × Bool)} {σ' : St} (hi : ops[i]? = some ⟨dst, op, ty, pos, af, g⟩) (hd : ops.toList.map (·.dst) = ds) (ht : takeB ops listed i = true) (hop : hfOp P σ op = true) (h : astepC P ds dst op g σ = some σ')
    (hn : AnyT P ops K fuel (listed.setIfInBounds i true) σ') : AnyT P ops K (fuel + 1) listed σ := by
  simp only [takeB, Bool.and_eq_true] at ht
  obtain ⟨⟨t1, t2⟩, t3⟩ := ht
  rintro w0 p a w hrel
  have hrel0 := hrel
  simp only [astepC, Option.bind_eq_some_iff] at h
  obtain ⟨b, hb, h⟩ := h
  rw [← aguard_C hd ⟨dst, op, ty, pos, af, g⟩ σ] at hb
  have hw := aguard_wanted hb hrel
  obtain ⟨ρ, hr⟩ := hrel
  cases b
  · simp only [Bool.false_eq_true, if_false, Option.some.injEq] at h
    subst h
    exact wpAny_take hi t1 t2 t3 (fun c a w ⟨h1, _⟩ => by cases h1) (.inr ⟨hw, rfl⟩) (hn w0 p _ w ⟨ρ, hr.put dst (by simp [R])⟩)
  · simp only [if_true, Option.map_eq_some_iff] at h
    obtain ⟨d, hd', rfl⟩ := h
    obtain ⟨v, hv, hR⟩ := aval_sound hd' w0 p a w ρ ⟨dst, op, ty, pos, af, g⟩ rfl hr
    have hno := (aval_noH hop hd' (o := ⟨dst, op, ty, pos, af, g⟩) rfl hr) w _ _ hv
    exact wpAny_take hi t1 t2 t3 (fun c a w ⟨h1, _⟩ => by cases h1) (.inl ⟨hw, hno.2⟩) (hn w0 p _ w ⟨ρ, hr.put dst hR⟩)
/-- Number i comes up next. -/
def NextT (P : Program) (ops : Array Oper) (ds : List (Option Nat)) (K : St → Prop) (fuel : Nat) (listed : Array Bool) (σ : St) (i : Nat) : Prop :=
  ∃ o, ops[i]? = some o ∧ TriD P ds (fun e σ' => e = .normal ∧ AnyT P ops K fuel (listed.setIfInBounds i true) σ') [o] σ
def NextsT (P : Program) (ops : Array Oper) (ds : List (Option Nat)) (K : St → Prop) (fuel : Nat) (listed : Array Bool) (σ : St) : List Nat → Prop
  | [] => True
  | i :: l => NextT P ops ds K fuel listed σ i ∧ NextsT P ops ds K fuel listed σ l
theorem NextsT.all : ∀ {l : List Nat}, NextsT P ops ds K fuel listed σ l → ∀ i ∈ l, NextT P ops ds K fuel listed σ i
  | _ :: l, h, i, hi => by
    rcases List.mem_cons.1 hi with rfl | hi
    · exact h.1
    · exact h.2.all i hi
theorem AnyT.all (rs : List Nat) (hr : Region.ready .any ops listed = rs) (hne : rs ≠ []) (hd : ops.toList.map (·.dst) = ds) (h : NextsT P ops ds K fuel listed σ rs) : AnyT P ops K (fuel + 1) listed σ := by
  intro w0 p a w hrel
  refine wpAny_all hr hne fun i hi => ?_
  obtain ⟨o, ho, ht⟩ := h.all i hi
  have hl := ht ops hd w0 p a w hrel
  unfold wpOp
  simp only [ho]
  simp only [wpList] at hl
  split
  · rename_i hw
    rw [if_pos hw] at hl
    rcases hl with hl | ⟨h1, h2⟩
    · left
      unfold Oper.wp at hl ⊢
      generalize (execOp a.eval o).run P w = r at *
      cases r with
      | ok n w' =>
        cases n <;> simp only [Oper.upon] at hl ⊢ <;> first
          | (obtain ⟨σ', ⟨_, h3⟩, h4⟩ := hl; exact h3 _ _ _ _ h4)
          | exact Calls.mono hl (fun e w'' he => by
              cases e with
              | returned v => obtain ⟨σ', ⟨_, h3⟩, h4⟩ := he; exact h3 _ _ _ _ h4
              | panicked c => obtain ⟨σ', ⟨h3, _⟩, _⟩ := he; cases h3
              | outgrown => obtain ⟨_, _, σ', ⟨h3, _⟩, _⟩ := he; cases h3)
          | exact Rows.mono hl (fun v w'' he => by obtain ⟨σ', ⟨_, h3⟩, h4⟩ := he; exact h3 _ _ _ _ h4)
          | exact hl
      | halt x w' => cases x <;> simp only [Oper.upon] at hl ⊢ <;> first | exact hl | (obtain ⟨σ', ⟨h3, _⟩, _⟩ := hl; cases h3)
    · obtain ⟨_, _, σ', ⟨h3, _⟩, _⟩ := h2; cases h3
  · rename_i hw
    rw [if_neg hw] at hl
    obtain ⟨σ', ⟨_, h3⟩, h4⟩ := hl
    exact h3 _ _ _ _ h4
theorem NextsT.nil : NextsT P ops ds K fuel listed σ [] := trivial
theorem NextsT.cons {i : Nat} {rs : List Nat} {o : Oper} (ho : ops[i]? = some o) (h : TriD P ds (fun e σ' => e = .normal ∧ AnyT P ops K fuel (listed.setIfInBounds i true) σ') [o] σ) (hn : NextsT P ops ds K fuel listed σ rs) : NextsT P ops ds K fuel listed σ (i :: rs) := ⟨⟨o, ho, h⟩, hn⟩
theorem TriD.nilM (h : AnyT P ops K fuel listed σ) : TriD P ds (fun e σ' => e = .normal ∧ AnyT P ops K fuel listed σ') [] σ := TriD.nil ⟨rfl, h⟩
/-- A drawn region, whatever stands in it. -/
theorem Tri.mixed (id : Nat) {l : List Oper} {Q : Exit → St → Prop} (hm : P.follows .mixedOrders = true) (n : Nat) (hl : l.length = n) (h : AnyT P l.toArray (Q .normal) n (Array.replicate n false) σ) : Tri P (.region id l.toArray true) Q σ := by
  rintro w0 p a w ⟨ρ, hr⟩
  refine wp_region_any hm ?_
  subst hl
  refine wpAny_mono_ ?_ _ _ _ _ (h w0 p a _ ⟨ρ, hr.drew⟩)
  rintro e a' w' ⟨rfl, h2⟩
  exact h2
end
end Go.Avm
