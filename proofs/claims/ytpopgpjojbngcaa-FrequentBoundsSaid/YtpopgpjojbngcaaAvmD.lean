/- The abstract machine, part D: more operations that only read. -/
import Derived.Test.YtpopgpjojbngcaaAvmC
namespace Go.Avm
set_option linter.unusedVariables false
set_option linter.unusedSimpArgs false
open Go.RowKit

section
variable {P : Program} {σ : St}

theorem Sound.sliceConc (t : TypeId) (x : Operand) (lo hi mx : Option Operand) (u z : Value) (lo' hi' mx' : Option Value) (hx : conc (evl σ x) = some u)
    (hlo : lo.map (fun y => conc (evl σ y)) = lo'.map some) (hhi : hi.map (fun y => conc (evl σ y)) = hi'.map some) (hmx : mx.map (fun y => conc (evl σ y)) = mx'.map some)
    (hz : pureRun P (Instr.sliceAt t u lo' hi' mx') = some z) : Sound P σ (.slice t x lo hi mx) (.sc z) := by
  intro w0 p a w ρ o ho h
  have h1 := conc_spec hx (h.evl x)
  have h3 := pureRun_run w hz
  have key : ∀ (y : Option Operand) (y' : Option Value), y.map (fun y => conc (evl σ y)) = y'.map some → y.map a.eval = y' := by
    intro y y' hy
    cases y <;> cases y' <;> simp at hy ⊢
    exact conc_spec hy (h.evl _)
  refine ⟨z, ?_, by simp [R]⟩
  simp only [execOp, ho, h1, key _ _ hlo, key _ _ hhi, key _ _ hmx, Sem.run_bind, Sem.run_pure]
  rw [h3]; rfl

/-- A bound that is given or left out. -/
def bnd (σ : St) (dflt : Nat) : Option Operand → Option Nat
  | none => some dflt
  | some y => match evl σ y with
    | .sc (.int _ n) => if 0 ≤ n then some n.toNat else none
    | _ => none
theorem bnd_spec {w0 : World} {p : Pm} {a : Act} {w : World} {ρ : Nat → Option (Option Nat)} (h : RelAt w0 p σ a w ρ) {dflt l : Nat} {y : Option Operand} (hb : bnd σ dflt y = some l) :
    (y = none ∧ l = dflt) ∨ ∃ y' k, y = some y' ∧ a.eval y' = .int k (l : Int) := by
  cases y with
  | none => simp only [bnd, Option.some.injEq] at hb; exact .inl ⟨rfl, hb.symm⟩
  | some y =>
    simp only [bnd] at hb
    split at hb
    · rename_i k n hy
      split at hb
      · rename_i hn
        simp only [Option.some.injEq] at hb
        have h1 := h.evl y
        rw [hy] at h1
        simp only [R] at h1
        exact .inr ⟨y, k, rfl, by rw [h1]; congr; omega⟩
      · cases hb
    · cases hb

theorem run_slice_nat {w0 : World} {p : Pm} {a : Act} {w : World} {ρ : Nat → Option (Option Nat)} (h : RelAt w0 p σ a w ρ) {t : TypeId} {ti ei : TI} {e : TypeId} (ht : tiGet P t = some ti) (hk : ti.kind.elem? = some e) (he : tiGet P e = some ei)
    {A : Option Addr} {len cap l hh : Nat} {lo hi : Option Operand} (hlo : bnd σ 0 lo = some l) (hhi : bnd σ len hi = some hh) (h1 : l ≤ hh) (h2 : hh ≤ len) (h3 : len ≤ cap) :
    (Instr.sliceAt t (.slice A len cap) (lo.map a.eval) (hi.map a.eval) none).run P w = .ok (.slice (if cap = l then A else A.map (·.add (l * ei.size))) (hh - l) (cap - l)) w := by
  obtain ⟨⟨dt, hu, hkd⟩, _⟩ := run_ti ht w
  obtain ⟨_, hsz, _⟩ := run_ti he w
  cases hkk : ti.kind with
  | slice e' =>
    rw [hkk] at hk hkd
    simp only [TK.elem?, Option.some.injEq] at hk
    subst hk
    obtain rfl := tk_slice hkd
    rcases bnd_spec h hlo with ⟨rfl, rfl⟩ | ⟨y, k, rfl, hy⟩ <;> rcases bnd_spec h hhi with ⟨rfl, rfl⟩ | ⟨y', k', rfl, hy'⟩
    · simp [Instr.sliceAt, hu, Instr.slice, Instr.sliceBounds, hsz]
    · have hb := run_sliceBound (P := P) w k' (hh : Int) cap .sliceAcap (by omega) (by omega)
      simp [Instr.sliceAt, hu, Instr.slice, Instr.sliceBounds, hsz, hy', hb]
    · have hb := run_sliceBound (P := P) w k (l : Int) hh .sliceB (by omega) (by omega)
      simp [Instr.sliceAt, hu, Instr.slice, Instr.sliceBounds, hsz, hy, hb]
    · have hb := run_sliceBound (P := P) w k (l : Int) hh .sliceB (by omega) (by omega)
      have hb' := run_sliceBound (P := P) w k' (hh : Int) cap .sliceAcap (by omega) (by omega)
      simp [Instr.sliceAt, hu, Instr.slice, Instr.sliceBounds, hsz, hy, hb, hy', hb']
  | _ => rw [hkk] at hk; simp [TK.elem?] at hk

/-- A part of a slice. -/
def cutD (k l hh : Nat) : D → Option D
  | .sl k' rows => if k' = k ∧ l ≤ hh ∧ hh ≤ rows.length then some (.sl k ((rows.take hh).drop l)) else none
  | .slo o k' off len => if k' = k ∧ l ≤ hh ∧ hh ≤ len then some (.slo o k (off + l) (hh - l)) else none
  | _ => none
def lenD : D → Option Nat
  | .sl _ rows => some rows.length
  | .slo _ _ _ len => some len
  | _ => none
theorem Sound.slice (t : TypeId) (x : Operand) (lo hi : Option Operand) (ti ei : TI) (e : TypeId) (len l hh : Nat) (d : D) (ht : tiGet P t = some ti) (hk : ti.kind.elem? = some e) (he : tiGet P e = some ei)
    (hlen : lenD (evl σ x) = some len) (hlo : bnd σ 0 lo = some l) (hhi : bnd σ len hi = some hh) (hd : cutD ei.size l hh (evl σ x) = some d) : Sound P σ (.slice t x lo hi none) d := by
  intro w0 p a w ρ o ho h
  have h1 := h.evl x
  cases hx : evl σ x with
  | sl k' rows =>
    rw [hx] at hd h1 hlen
    simp only [cutD] at hd
    simp only [lenD, Option.some.injEq] at hlen
    split at hd
    · rename_i hc
      obtain ⟨rfl, c1, c2⟩ := hc
      simp only [Option.some.injEq] at hd
      subst hd
      simp only [R] at h1
      obtain ⟨A, c, e1, e2, e3, e4⟩ := h1
      have hr := run_slice_nat h ht hk he (A := A) (cap := c) hlo hhi c1 (by omega) (by omega)
      rw [hlen] at e1
      refine ⟨.slice (if c = l then A else A.map (·.add (l * ei.size))) (hh - l) (c - l), by simp [execOp, ho, e1, hr], ?_⟩
      simp only [R]
      have hl2 : ((rows.take hh).drop l).length = hh - l := by rw [List.length_drop, List.length_take]; omega
      refine ⟨(if c = l then A else A.map (·.add (l * ei.size))), c - l, by rw [hl2], by rw [hl2]; omega, by omega, ?_⟩
      · by_cases hz : hh = l
        · left
          apply List.eq_nil_of_length_eq_zero
          rw [List.length_drop, List.length_take]; omega
        · right
          rcases e4 with e4 | ⟨g, off, e5, e6, e7⟩
          · subst e4; simp only [List.length_nil] at c2; omega
          · subst e5
            refine ⟨g, off + l * ei.size, ?_, e6, RR_drop l (RR_take hh e7)⟩
            rw [if_neg (by omega)]; simp [Addr.add_lit]
    · cases hd
  | slo o' k' off len' =>
    rw [hx] at hd h1 hlen
    simp only [cutD] at hd
    simp only [lenD, Option.some.injEq] at hlen
    subst hlen
    split at hd
    · rename_i hc
      obtain ⟨rfl, c1, c2⟩ := hc
      simp only [Option.some.injEq] at hd
      subst hd
      simp only [R] at h1
      rcases h1 with ⟨e1, e2, e3, A, e4⟩ | ⟨g, cap, A, e1, e2, e3, e4, e5, e6⟩
      · subst e3
        have hr := run_slice_nat h ht hk he (A := A) (cap := 0) hlo hhi c1 (by omega) (by omega)
        refine ⟨.slice (if 0 = l then A else A.map (·.add (l * ei.size))) (hh - l) (0 - l), by simp [execOp, ho, e4, hr], ?_⟩
        simp only [R]
        obtain rfl : l = 0 := by omega
        obtain rfl : hh = 0 := by omega
        exact .inl ⟨e1, by omega, rfl, A, by rw [if_pos rfl]⟩
      · have hr := run_slice_nat h ht hk he (A := A) (cap := cap - off) hlo hhi c1 (by omega) (by omega)
        refine ⟨.slice (if cap - off = l then A else A.map (·.add (l * ei.size))) (hh - l) (cap - off - l), by simp [execOp, ho, e5, hr], ?_⟩
        simp only [R]
        refine .inr ⟨g, cap, (if cap - off = l then A else A.map (·.add (l * ei.size))), e1, e2, by omega, e4, by rw [Nat.sub_sub], ?_⟩
        · intro hlt
          rw [if_neg (by omega), e6 (by omega)]
          simp [Addr.add_lit, Nat.add_mul]
    · cases hd
  | any | sc | agg | ro | ref | elt | tup | fn => rw [hx] at hd; simp [cutD] at hd

theorem Sound.makeFunc (f : FuncId) (caps : Array Operand) : Sound P σ (.makeFunc (.func f) #[] caps) (.fn f (caps.toList.map (evl σ))) := by
  intro w0 p a w ρ o ho h
  refine ⟨_, by simp [execOp, ho, Instr.makeFunc]; rfl, ?_⟩
  simp only [R]
  refine ⟨_, rfl, ?_⟩
  rw [Array.toList_map]
  have : ∀ l : List Operand, RL w (stab p σ.heap ρ w) ρ (l.map (evl σ)) (l.map a.eval) := by
    intro l
    induction l with
    | nil => simp [RL]
    | cons x l ih => simp only [List.map_cons, RL]; exact ⟨_, _, rfl, h.evl x, ih⟩
  exact this _

theorem Sound.len (x : Operand) (t : TypeId) (ti : TI) (e : TypeId) (n : Nat) (ht : tiGet P t = some ti) (hk : ti.kind.elem? = some e) (hn : lenD (evl σ x) = some n) :
    Sound P σ (.call { callee := .builtin .len, args := #[x], argTypes := #[t] }) (.sc (.int .i64 n)) := by
  intro w0 p a w ρ o ho h
  have h1 := h.evl x
  obtain ⟨⟨dt, hu, hkd⟩, _⟩ := run_ti ht w
  have hsl : ∃ A c, a.eval x = .slice A n c := by
    cases hx : evl σ x with
    | sl k rows =>
      rw [hx] at h1 hn
      simp only [lenD, Option.some.injEq] at hn
      simp only [R] at h1
      obtain ⟨A, c, e1, _⟩ := h1
      exact ⟨A, c, by rw [e1, hn]⟩
    | slo o k off len =>
      rw [hx] at h1 hn
      simp only [lenD, Option.some.injEq] at hn
      subst hn
      simp only [R] at h1
      rcases h1 with ⟨_, _, e3, A, e4⟩ | ⟨g, cap, A, _, _, _, _, e5, _⟩
      · exact ⟨A, 0, by rw [e4, e3]⟩
      · exact ⟨A, _, e5⟩
    | any | sc | agg | ro | ref | elt | tup | fn => rw [hx] at hn; simp [lenD] at hn
  obtain ⟨A, c, hA⟩ := hsl
  cases hkk : ti.kind with
  | slice e' =>
    rw [hkk] at hkd
    obtain rfl := tk_slice hkd
    exact ⟨.int .i64 n, by simp [execOp, ho, resolve, invoke, builtin, Builtin.len_, hu, hA, goInt], by simp [R]⟩
  | _ => rw [hkk] at hk; simp [TK.elem?] at hk

/-- A builtin that looks at plain values alone. -/
def pureBuiltin (b : Builtin) (ts : Array TypeId) (args : Array Value) : Option (Sem Value) :=
  match b with
  | .len => some (Builtin.len_ ts 0 args)
  | .min => some (Builtin.min_ ts 0 args)
  | .max => some (Builtin.max_ ts 0 args)
  | _ => none
theorem Sound.builtin (b : Builtin) (xs : Array Operand) (ts : Array TypeId) (vs : List Value) (s : Sem Value) (z : Value) (hx : concL (xs.toList.map (evl σ)) = some vs) (hb : pureBuiltin b ts vs.toArray = some s)
    (hz : pureRun P s = some z) : Sound P σ (.call { callee := .builtin b, args := xs, argTypes := ts }) (.sc z) := by
  intro w0 p a w ρ o ho h
  have h3 := pureRun_run w hz
  have hv : xs.map a.eval = vs.toArray := by
    have : ∀ (l : List Operand) (us : List Value), concL (l.map (evl σ)) = some us → l.map a.eval = us := by
      intro l
      induction l with
      | nil => intro us hu; simp only [List.map_nil, concL, Option.some.injEq] at hu; simp [hu]
      | cons y l ih =>
        intro us hu
        simp only [List.map_cons, concL, Option.bind_eq_some_iff, Option.map_eq_some_iff] at hu
        obtain ⟨u, h1, us', h2, h4⟩ := hu
        rw [← h4, List.map_cons, ih _ h2, conc_spec h1 (h.evl y)]
    have e := this _ _ hx
    apply Array.toList_inj.1
    simpa using e
  refine ⟨z, ?_, by simp [R]⟩
  cases b <;> simp only [pureBuiltin, Option.some.injEq, reduceCtorEq] at hb <;> subst hb <;>
    simp only [execOp, ho, resolve, invoke, Go.builtin, Sem.run_bind, Sem.run_pure, Result.andThen_ok, hv] at h3 ⊢ <;> first
      | (rw [h3]; rfl)
      | (have e : ∀ t, Builtin.len_ ts t vs.toArray = Builtin.len_ ts 0 vs.toArray := fun _ => rfl
         rw [e, h3]; rfl)
      | (have e : ∀ t, Builtin.min_ ts t vs.toArray = Builtin.min_ ts 0 vs.toArray := fun _ => rfl
         rw [e, h3]; rfl)
      | (have e : ∀ t, Builtin.max_ ts t vs.toArray = Builtin.max_ ts 0 vs.toArray := fun _ => rfl
         rw [e, h3]; rfl)
end
end Go.Avm
