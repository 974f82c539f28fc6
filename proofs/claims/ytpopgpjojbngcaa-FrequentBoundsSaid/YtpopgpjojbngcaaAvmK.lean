/- The abstract machine, part K: a run of operations, reckoned. -/
import Derived.Test.YtpopgpjojbngcaaAvmJ
import Derived.Laws.BytesArg
namespace Go.Avm
set_option linter.unusedVariables false
set_option linter.unusedSimpArgs false
open Go.RowKit

def intV (op : BinOp) (k : IntKind) (a b : Int) : Option Value :=
  match op with
  | .add => some (.int k (k.wrap (a + b)))
  | .sub => some (.int k (k.wrap (a - b)))
  | .mul => some (.int k (k.wrap (a * b)))
  | .quo => if b = 0 then none else some (.int k (k.wrap (a.tdiv b)))
  | .rem => if b = 0 then none else some (.int k (a.tmod b))
  | .and => some (.int k (bits .and k a b))
  | .or => some (.int k (bits .or k a b))
  | .xor => some (.int k (bits .xor k a b))
  | .andNot => some (.int k (bits .andNot k a b))
  | .eql => some (.bool (a == b))
  | .neq => some (.bool (a != b))
  | .lss => some (.bool (decide (a < b)))
  | .leq => some (.bool (decide (a ≤ b)))
  | .gtr => some (.bool (decide (b < a)))
  | .geq => some (.bool (decide (b ≤ a)))
  | _ => none
def shV (op : BinOp) (k : IntKind) (a b : Int) : Option Value :=
  match op with
  | .shl => if b < 0 then none else some (.int k (k.wrap (a * 2 ^ (min b.toNat k.bits))))
  | .shr => if b < 0 then none else some (.int k (a.fdiv (2 ^ (min b.toNat k.bits))))
  | _ => none
def strV (op : BinOp) (a b : ByteArray) : Option Value :=
  match op with
  | .add => if ((a.size + b.size : Nat) : Int) > IntKind.i64.max then none else some (.string (a ++ b))
  | .eql => some (.bool (a.toList == b.toList))
  | .neq => some (.bool !(a.toList == b.toList))
  | .lss => some (.bool (Op.bytesLess a.toList b.toList))
  | .leq => some (.bool (Op.bytesLess a.toList b.toList || a.toList == b.toList))
  | .gtr => some (.bool !(Op.bytesLess a.toList b.toList || a.toList == b.toList))
  | .geq => some (.bool !(Op.bytesLess a.toList b.toList))
  | _ => none
def isShift : BinOp → Bool
  | .shl | .shr => true
  | _ => false
def binV (P : Program) (op : BinOp) (t : TypeId) (x y : Operand) (u v : Value) : Option Value :=
  match u, v with
  | .int k a, .int k' b => if isShift op then shV op k a b else if k = k' then intV op k a b else none
  | .string a, .string b => strV op a b
  | u, v => pureRun P (do eqGuard op t x y u v; Go.binOp op t u v)
theorem pureRun_pure {P : Program} {α : Type} (x : α) : pureRun P (pure x) = some x := rfl
theorem intV_spec {P : Program} {op : BinOp} {t : TypeId} {k : IntKind} {a b : Int} {z : Value} (h : intV op k a b = some z) (hs : isShift op = false) : pureRun P (Go.binOp op t (.int k a) (.int k b)) = some z := by
  cases op <;> simp only [intV, isShift, reduceCtorEq] at h hs
  case quo =>
    split at h
    · cases h
    · rename_i hb
      simp only [Option.some.injEq] at h
      subst h
      rw [binOp_quo]
      simp only [Op.intDiv, if_neg hb, pureRun_pure]
  case rem =>
    split at h
    · cases h
    · rename_i hb
      simp only [Option.some.injEq] at h
      subst h
      rw [binOp_rem]
      simp only [Op.intDiv, if_neg hb, pureRun_pure]
  case add => rw [binOp_add]; exact h
  case sub => rw [binOp_sub]; exact h
  case mul => rw [binOp_mul]; exact h
  case and => rw [binOp_and]; exact h
  case or => rw [binOp_or]; exact h
  case xor => rw [binOp_xor]; exact h
  case andNot => rw [binOp_andNot]; exact h
  case eql => rw [binOp_eql]; exact h
  case neq => rw [binOp_neq]; exact h
  case lss => rw [binOp_lss]; exact h
  case leq => rw [binOp_leq]; exact h
  case gtr => rw [binOp_gtr]; exact h
  case geq => rw [binOp_geq]; exact h
theorem shV_spec {P : Program} {op : BinOp} {t : TypeId} {k k' : IntKind} {a b : Int} {z : Value} (h : shV op k a b = some z) : pureRun P (Go.binOp op t (.int k a) (.int k' b)) = some z := by
  cases op <;> simp only [shV, reduceCtorEq] at h
  case shl =>
    split at h
    · cases h
    · rename_i hb
      rw [binOp_shl]
      simp only [Op.shift, if_neg hb, pureRun_pure]
      exact h
  case shr =>
    split at h
    · cases h
    · rename_i hb
      rw [binOp_shr]
      simp only [Op.shift, if_neg hb, pureRun_pure]
      exact h
theorem strV_spec {P : Program} {op : BinOp} {t : TypeId} {a b : ByteArray} {z : Value} (h : strV op a b = some z) : pureRun P (Go.binOp op t (.string a) (.string b)) = some z := by
  have e : Go.binOp op t (.string a) (.string b) = Op.stringOp op a b := by cases op <;> rfl
  rw [e]
  cases op <;> simp only [strV, reduceCtorEq] at h
  case add =>
    split at h
    · cases h
    · rename_i hb
      simp only [Op.stringOp, if_neg hb, pureRun_pure]
      exact h
  all_goals exact h
theorem binV_spec {P : Program} {op : BinOp} {t : TypeId} {x y : Operand} {u v z : Value} (h : binV P op t x y u v = some z) : pureRun P (do eqGuard op t x y u v; Go.binOp op t u v) = some z := by
  unfold binV at h
  split at h
  · rename_i k a k' b
    rw [eqGuard_at_int]
    show pureRun P (Go.binOp op t (.int k a) (.int k' b)) = some z
    split at h
    · exact shV_spec h
    · rename_i hs
      split at h
      · rename_i hk
        subst hk
        exact intV_spec h (by simpa using hs)
      · cases h
  · rename_i a b
    rw [eqGuard_at_string]
    exact strV_spec h
  · exact h

def unV (P : Program) (op : UnOp) (u : Value) : Option Value :=
  match op, u with
  | .not, .bool b => some (.bool !b)
  | .neg, .int k n => some (.int k (k.wrap (0 - n)))
  | op, u => pureRun P (Op.unary op u)
theorem unV_spec {P : Program} {op : UnOp} {u z : Value} (h : unV P op u = some z) : pureRun P (Op.unary op u) = some z := by
  unfold unV at h
  split at h <;> exact h
def convV (P : Program) (s d : TypeId) (u : Value) : Option Value :=
  match u with
  | .int _ n => match tiGet P s, tiGet P d with
    | some _, some td => match td.kind with
      | .int k => some (.int k (k.wrap n))
      | _ => none
    | _, _ => none
  | u => pureRun P (Go.convert s d u)
theorem pureRun_underlying {P : Program} {t : TypeId} {d : TypeDesc} (h : P.underlying t = some d) : pureRun P (underlying t) = some d := by
  show pureRun P (program >>= fun p => _) = _
  rw [pureRun_bind]
  show (pureRun P (match P.underlying t with | some d => pure d | none => stuck "no such type")) = _
  rw [h]; rfl
theorem convV_spec {P : Program} {s d : TypeId} {u z : Value} (h : convV P s d u = some z) : pureRun P (Go.convert s d u) = some z := by
  unfold convV at h
  split at h
  · rename_i k n
    split at h
    · rename_i ts td hs hd
      split at h
      · rename_i k' hk
        simp only [Option.some.injEq] at h
        subst h
        obtain ⟨_, ds, _, us, _, _, _, _⟩ := tiGet_spec hs
        obtain ⟨_, dd, _, ud, _, _, _, kd⟩ := tiGet_spec hd
        rw [hk] at kd
        have : dd = .int k' := by cases dd <;> simp [tkOf] at kd; subst kd; rfl
        subst this
        unfold Go.convert
        rw [pureRun_bind, pureRun_underlying us, Option.bind_some, pureRun_bind, pureRun_underlying ud, Option.bind_some]
        rfl
      · cases h
    · cases h
  · exact h

/-- The bytes of a slice as a string. -/
def byteOf : List D → Option Int
  | [.sc (.int .u8 z)] => some z
  | _ => none
def bytesV (P : Program) (s t : TypeId) (rows : List (List D)) : Option Value := (tiGet P s).bind fun si => (si.kind.elem?).bind fun e => (tiGet P e).bind fun ei => (tiGet P t).bind fun di => match si.kind, ei.kind, di.kind with
  | .slice _, .int .u8, .string => (mapO byteOf rows).map fun zs => .string (strOfNums zs)
  | _, _, _ => none
theorem byteOf_rows : ∀ {rows : List (List D)} {zs : List Int}, mapO byteOf rows = some zs → rows.flatten = zs.map (fun z => .sc (.int .u8 z)) ∧ rows.length = zs.length
  | [], zs, h => by simp only [mapO, Option.some.injEq] at h; subst h; simp
  | r :: rs, zs, h => by
    simp only [mapO, Option.bind_eq_some_iff, Option.map_eq_some_iff] at h
    obtain ⟨z, hz, zs', hzs, rfl⟩ := h
    obtain ⟨h1, h2⟩ := byteOf_rows hzs
    unfold byteOf at hz
    split at hz
    · simp only [Option.some.injEq] at hz
      subst hz
      simp [h1, h2]
    · cases hz
theorem RL_bytes {w : World} {st : Nat → Prop} {ρ : Nat → Option (Option Nat)} : ∀ {zs : List Int} {vs : List Value}, RL w st ρ (zs.map fun z => .sc (.int .u8 z)) vs → vs = zs.map (Value.int .u8)
  | [], _, h => by simpa [RL] using h
  | z :: zs, _, h => by
    simp only [List.map_cons, RL, R] at h
    obtain ⟨v, vs', rfl, rfl, h3⟩ := h
    simp [RL_bytes h3]
theorem Sound.bytes {P : Program} {σ : St} (s t : TypeId) (x : Operand) {rows : List (List D)} {z : Value} (hx : elemsD σ 1 (evl σ x) = some rows) (hz : bytesV P s t rows = some z) : Sound P σ (.convert s t x) (.sc z) := by
  intro w0 p a w ρ o ho h
  obtain ⟨X, c, hv, news, n1, n2, n3, n4, n5⟩ := elems_spec h hx (h.evl x)
  simp only [bytesV, Option.bind_eq_some_iff] at hz
  obtain ⟨si, hsi, e, he, ei, hei, di, hdi, hz⟩ := hz
  obtain ⟨_, ds, _, us, _, _, _, ks⟩ := tiGet_spec hsi
  obtain ⟨_, de, _, ue, _, _, _, ke⟩ := tiGet_spec hei
  obtain ⟨_, dd, _, ud, _, _, _, kd⟩ := tiGet_spec hdi
  split at hz
  · rename_i e' k1 k2 k3
    simp only [Option.map_eq_some_iff] at hz
    obtain ⟨zs, hzs, rfl⟩ := hz
    obtain ⟨f1, f2⟩ := byteOf_rows hzs
    have us' : P.underlying s = some (.slice e) := by
      rw [us]
      rw [k1] at ks he
      cases ds <;> simp_all [tkOf, TK.elem?]
    have ue' : P.underlying e = some (.int .u8) := by
      rw [ue]; rw [k2] at ke
      cases de <;> simp_all [tkOf]
    have ud' : P.underlying t = some .string := by
      rw [ud]; rw [k3] at kd
      cases dd <;> simp_all [tkOf]
    rw [f1] at n2
    have hn := RL_bytes n2
    refine ⟨.string (strOfNums zs), ?_, by simp [R]⟩
    have key : (Go.convert s t (.slice X rows.length c)).run P w = .ok (.string (strOfNums zs)) w := by
      rw [run_convert_bytes_string w s t e X _ c us' ue' ud']
      cases X with
      | none =>
        have : zs = [] := List.eq_nil_of_length_eq_zero (by
          rcases n5 with n5 | ⟨b, hb, _⟩
          · omega
          · cases hb)
        subst this
        simp [Conv.bytesToString]
        rfl
      | some b =>
        have hl : (loadCells b rows.length).run P w = .ok (zs.map (Value.int .u8)).toArray w := by
          have := run_loadCells_list (P := P) (w := w) b (zs.map (Value.int .u8)) (fun j v hj => by
            rcases n5 with n5 | ⟨b', hb, hc⟩
            · have : zs = [] := List.eq_nil_of_length_eq_zero (by omega)
              subst this; simp at hj
            · cases hb
              exact hc j v (by rw [hn]; exact hj))
          simpa [f2] using this
        rw [run_bytesToString w b _ c zs hl, foldl_push_bytes]
        simp [strOfNums, ByteArray.empty, ByteArray.emptyWithCapacity]
        rfl
    simp only [execOp, ho, hv]
    rw [Sem.run_bind, key]
    rfl
  · cases hz
/-- An address that is not nil. -/
def nilD : D → Option D
  | .ref o off => some (.ref o off)
  | .elt o k i off => some (.elt o k i off)
  | .ro cs => some (.ro cs)
  | _ => none
theorem Sound.nilCheck {P : Program} {σ : St} (x : Operand) {d : D} (hd : nilD (evl σ x) = some d) : Sound P σ (.nilCheck x) d := by
  intro w0 p a w ρ o ho h
  have h1 := h.evl x
  have key : ∀ g, a.eval x = .pointer (some g) → (execOp a.eval o).run P w = .ok (.value (a.eval x)) w := by
    intro g hg
    simp [execOp, ho, hg]
  unfold nilD at hd
  split at hd <;> (try cases hd)
  all_goals (rename_i he; rw [he] at h1)
  · have h2 := h1
    simp only [R] at h2
    obtain ⟨g, _, h3⟩ := h2
    exact ⟨_, key _ h3, h1⟩
  · have h2 := h1
    simp only [R] at h2
    obtain ⟨g, _, h3⟩ := h2
    exact ⟨_, key _ h3, h1⟩
  · have h2 := h1
    simp only [R] at h2
    obtain ⟨g, off, h3, _⟩ := h2
    exact ⟨_, key _ h3, h1⟩
/-- What an operation that only reads yields, reckoned. -/
def aval (P : Program) (σ : St) : Op → Option D
  | .move x => some (evl σ x)
  | .assign x => some (evl σ x)
  | .pick c x y => match evl σ c with
    | .sc (.bool b) => some (if b then evl σ x else evl σ y)
    | _ => none
  | .extract x i => match evl σ x with
    | .tup ds => ds[i]?
    | _ => none
  | .binOp op t x y _ => (conc (evl σ x)).bind fun u => (conc (evl σ y)).bind fun v => (binV P op t x y u v).map .sc
  | .unOp op _ x => (conc (evl σ x)).bind fun u => (unV P op u).map .sc
  | .convert s t x => match (elemsD σ 1 (evl σ x)).bind (bytesV P s t) with
    | some z => some (.sc z)
    | none => (conc (evl σ x)).bind fun u => (convV P s t u).map .sc
  | .index t x i => (conc (evl σ x)).bind fun u => (conc (evl σ i)).bind fun v => (pureRun P (Instr.index t u v)).map .sc
  | .field t x i => (tiGet P t).bind fun ti => (ti.kind.fields[i]?).bind fun f => (tiGet P f.2).bind fun fi => match evl σ x with
    | .agg cs => if f.1 + fi.size ≤ cs.length then mkD fi.kind.isAgg ((cs.drop f.1).take fi.size) else none
    | _ => none
  | .load t x => (tiGet P t).bind fun ti => (addrCells σ (evl σ x)).bind fun cs => if ti.size ≤ cs.length then mkD ti.kind.isAgg (cs.take ti.size) else none
  | .fieldAddr t x i => (tiGet P t).bind fun ti => (ti.kind.fields[i]?).bind fun f => (tiGet P f.2).bind fun fi => if fi.size ≠ 0 then addrPlus f.1 (evl σ x) else none
  | .indexAddr t x i => (tiGet P t).bind fun ti => (ti.kind.elem?).bind fun e => (tiGet P e).bind fun ei => match evl σ i with
    | .sc (.int _ n) => eltAddr ei.size n (evl σ x)
    | _ => none
  | .slice t x lo hi none => (tiGet P t).bind fun ti => (ti.kind.elem?).bind fun e => (tiGet P e).bind fun ei => (lenD (evl σ x)).bind fun len => (bnd σ 0 lo).bind fun l => (bnd σ len hi).bind fun hh => cutD ei.size l hh (evl σ x)
  | .build t parts => (tiGet P t).bind fun ti => (placesOf P ti.kind.fields).bind fun ps => match ti.kind with
    | .struct _ => (fillD (ps[·]?) (ti.zero.cells.toList.map .sc) (parts.toList.map fun x => (x.1, evl σ x.2))).map .agg
    | _ => none
  | .makeFunc (.func f) first caps => if first.toList = [] then some (.fn f (caps.toList.map (evl σ))) else none
  | .nilCheck x => nilD (evl σ x)
  | .call { callee := .builtin b, args := xs, argTypes := ts } => match b, xs.toList, ts.toList with
    | .len, [x], [t] => match lenD (evl σ x) with
      | some n => (tiGet P t).bind fun ti => (ti.kind.elem?).map fun _ => .sc (.int .i64 n)
      | none => (conc (evl σ x)).bind fun v => (pureRun P (Builtin.len_ #[t] 0 #[v])).map .sc
    | .min, _, _ => (concL (xs.toList.map (evl σ))).bind fun vs => (pureRun P (Builtin.min_ ts 0 vs.toArray)).map .sc
    | .max, _, _ => (concL (xs.toList.map (evl σ))).bind fun vs => (pureRun P (Builtin.max_ ts 0 vs.toArray)).map .sc
    | _, _, _ => none
  | _ => none

theorem arr1 {α : Type} {a : Array α} {x : α} (h : a.toList = [x]) : a = #[x] := by
  apply Array.toList_inj.1; simpa using h
theorem arr0 {α : Type} {a : Array α} (h : a.toList = []) : a = #[] := by
  apply Array.toList_inj.1; simpa using h

theorem aval_sound {P : Program} {σ : St} {op : Op} {d : D} (h : aval P σ op = some d) : Sound P σ op d := by
  unfold aval at h
  split at h
  · simp only [Option.some.injEq] at h; subst h; exact Sound.move _
  · simp only [Option.some.injEq] at h; subst h; exact Sound.assign _
  · split at h
    · rename_i hc; simp only [Option.some.injEq] at h; subst h; exact Sound.pick _ _ _ _ hc
    · cases h
  · split at h
    · rename_i hx; exact Sound.extract _ _ _ _ hx h
    · cases h
  · simp only [Option.bind_eq_some_iff, Option.map_eq_some_iff] at h
    obtain ⟨u, hu, v, hv, z, hz, rfl⟩ := h
    exact Sound.binOp _ _ _ _ _ _ _ _ hu hv (binV_spec hz)
  · simp only [Option.bind_eq_some_iff, Option.map_eq_some_iff] at h
    obtain ⟨u, hu, z, hz, rfl⟩ := h
    exact Sound.unOp _ _ _ _ _ hu (unV_spec hz)
  · split at h
    · rename_i z hz
      simp only [Option.some.injEq] at h
      subst h
      simp only [Option.bind_eq_some_iff] at hz
      obtain ⟨rows, h1, h2⟩ := hz
      exact Sound.bytes _ _ _ h1 h2
    · simp only [Option.bind_eq_some_iff, Option.map_eq_some_iff] at h
      obtain ⟨u, hu, z, hz, rfl⟩ := h
      exact Sound.convert _ _ _ _ _ hu (convV_spec hz)
  · simp only [Option.bind_eq_some_iff, Option.map_eq_some_iff] at h
    obtain ⟨u, hu, v, hv, z, hz, rfl⟩ := h
    exact Sound.index _ _ _ _ _ _ hu hv hz
  · simp only [Option.bind_eq_some_iff] at h
    obtain ⟨ti, ht, f, hf, fi, hfi, h⟩ := h
    split at h
    · rename_i cs hx
      split at h
      · rename_i hl; exact Sound.field _ _ _ ti fi cs f.1 f.2 d ht hf hfi hx hl h
      · cases h
    · cases h
  · simp only [Option.bind_eq_some_iff] at h
    obtain ⟨ti, ht, cs, hcs, h⟩ := h
    split at h
    · rename_i hl; exact Sound.load _ _ ti cs d ht hcs hl h
    · cases h
  · simp only [Option.bind_eq_some_iff] at h
    obtain ⟨ti, ht, f, hf, fi, hfi, h⟩ := h
    split at h
    · rename_i hn; exact Sound.fieldAddr _ _ _ ti fi f.1 f.2 d ht hf hfi hn h
    · cases h
  · simp only [Option.bind_eq_some_iff] at h
    obtain ⟨ti, ht, e, hk, ei, he, h⟩ := h
    split at h
    · rename_i hi; exact Sound.indexAddr _ _ _ ti ei e _ _ d ht hk he hi h
    · cases h
  · simp only [Option.bind_eq_some_iff] at h
    obtain ⟨ti, ht, e, hk, ei, he, len, hlen, l, hl, hh, hhi, h⟩ := h
    exact Sound.slice _ _ _ _ ti ei e len l hh d ht hk he hlen hl hhi h
  · simp only [Option.bind_eq_some_iff] at h
    obtain ⟨ti, ht, ps, hp, h⟩ := h
    split at h
    · rename_i fs hk
      simp only [Option.map_eq_some_iff] at h
      obtain ⟨cells, hc, rfl⟩ := h
      rw [hk] at hp
      exact Sound.build ht hk hp hc
    · cases h
  · split at h
    · rename_i hf
      simp only [Option.some.injEq] at h
      subst h
      rw [arr0 hf]
      exact Sound.makeFunc _ _
    · cases h
  · exact Sound.nilCheck _ h
  · split at h
    · rename_i x t hxs hts
      rw [arr1 hxs, arr1 hts]
      split at h
      · rename_i n hn
        simp only [Option.bind_eq_some_iff, Option.map_eq_some_iff] at h
        obtain ⟨ti, ht, e, hk, rfl⟩ := h
        exact Sound.len _ _ ti e n ht hk hn
      · simp only [Option.bind_eq_some_iff, Option.map_eq_some_iff] at h
        obtain ⟨v, hv, z, hz, rfl⟩ := h
        exact Sound.builtin .len #[x] #[t] [v] _ z (by simp [concL, hv]) rfl hz
    · simp only [Option.bind_eq_some_iff, Option.map_eq_some_iff] at h
      obtain ⟨vs, hv, z, hz, rfl⟩ := h
      exact Sound.builtin .min _ _ vs _ z hv rfl hz
    · simp only [Option.bind_eq_some_iff, Option.map_eq_some_iff] at h
      obtain ⟨vs, hv, z, hz, rfl⟩ := h
      exact Sound.builtin .max _ _ vs _ z hv rfl hz
    · cases h
  · cases h

theorem TriL.stepW {P : Program} {all : Array Oper} {Q : Exit → St → Prop} {σ σ' : St} {o : Oper} {rest : List Oper} (hw : aguard all σ o = some true) (h : Steps1 P σ o σ') (hn : TriL P all Q rest σ') : TriL P all Q (o :: rest) σ := by
  intro w0 p a w hr
  obtain ⟨v, w', h1, h2⟩ := h w0 p a w hr
  exact wpList_of_step (aguard_wanted hw hr) h1 (hn w0 p _ _ h2)
theorem TriL.skipW {P : Program} {all : Array Oper} {Q : Exit → St → Prop} {σ : St} {o : Oper} {rest : List Oper} (hw : aguard all σ o = some false) (hn : TriL P all Q rest (σ.put o.dst (.sc undef))) : TriL P all Q (o :: rest) σ := by
  intro w0 p a w hr
  have hy := aguard_wanted hw hr
  obtain ⟨ρ, hr⟩ := hr
  exact wpList_skip hy (hn w0 p _ _ ⟨ρ, hr.put o.dst (by simp [R])⟩)
def astep (P : Program) (all : Array Oper) (o : Oper) (σ : St) : Option St :=
  (aguard all σ o).bind fun g => if g then (aval P σ o.op).map (σ.put o.dst) else some (σ.put o.dst (.sc undef))
theorem TriL.astep {P : Program} {all : Array Oper} {Q : Exit → St → Prop} {σ σ' : St} {o : Oper} {rest : List Oper} (h : Avm.astep P all o σ = some σ') (hn : TriL P all Q rest σ') : TriL P all Q (o :: rest) σ := by
  simp only [Avm.astep, Option.bind_eq_some_iff] at h
  obtain ⟨g, hg, h⟩ := h
  cases g
  · simp only [Bool.false_eq_true, if_false, Option.some.injEq] at h
    subst h
    exact TriL.skipW hg hn
  · simp only [if_true, Option.map_eq_some_iff] at h
    obtain ⟨d, hd, rfl⟩ := h
    exact TriL.stepW hg (aval_sound hd).steps hn
def arun (P : Program) (all : Array Oper) : List Oper → St → Option St
  | [], σ => some σ
  | o :: l, σ => (astep P all o σ).bind (arun P all l)
theorem TriL.run {P : Program} {all : Array Oper} {Q : Exit → St → Prop} {σ' : St} : ∀ {l1 l2 : List Oper} {σ : St}, arun P all l1 σ = some σ' → TriL P all Q l2 σ' → TriL P all Q (l1 ++ l2) σ
  | [], _, _, h, hn => by simp only [arun, Option.some.injEq] at h; subst h; exact hn
  | o :: l, _, _, h, hn => by
    simp only [arun, Option.bind_eq_some_iff] at h
    obtain ⟨σ1, h1, h2⟩ := h
    exact TriL.astep h1 (TriL.run h2 hn)
theorem Tri.run {P : Program} {id : Nat} {l : List Oper} {Q : Exit → St → Prop} {σ σ' : St} (h : arun P l.toArray l σ = some σ') (hn : Q .normal σ') : Tri P (.region id l.toArray false) Q σ :=
  Tri.region (by have := TriL.run (l2 := []) (Q := Q) h (TriL.nil hn); simpa using this)
end Go.Avm
