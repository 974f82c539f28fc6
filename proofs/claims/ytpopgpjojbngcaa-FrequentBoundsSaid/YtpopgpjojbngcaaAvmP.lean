/- The abstract machine, part P: regions that draw their order and call functions by value. -/
import Derived.Test.YtpopgpjojbngcaaAvmO
import Derived.Orders
namespace Go.Avm
set_option linter.unusedVariables false
set_option linter.unusedSimpArgs false
open Go.RowKit

theorem evl_put {σ : St} {x : Option Nat} {u : D} {y : Operand} (h : ∀ d, x = some d → y ≠ .tmp d) : evl (σ.put x u) y = evl σ y := by
  cases x with
  | none => rfl
  | some d =>
    cases y with
    | tmp t =>
      have hne : d ≠ t := fun e => h d rfl (by rw [e])
      simp [evl, St.put, List.getD, List.getElem?_set_ne hne]
    | _ => rfl
theorem heap_put {σ : St} {x : Option Nat} {u : D} : (σ.put x u).heap = σ.heap := by cases x <;> rfl
theorem put_comm (σ : St) {x y : Option Nat} (v u : D) (h : ∀ d, x = some d → y ≠ some d) : (σ.put x v).put y u = (σ.put y u).put x v := by
  cases x with
  | none => rfl
  | some d =>
    cases y with
    | none => rfl
    | some e =>
      have hne : d ≠ e := fun he => h d rfl (by rw [he])
      simp only [St.put, St.mk.injEq, and_true]
      exact List.set_comm _ _ hne
theorem addrCells_congr {σ σ' : St} (h : σ'.heap = σ.heap) (d : D) : addrCells σ' d = addrCells σ d := by
  cases d <;> simp [addrCells, h]
theorem elemsD_congr {σ σ' : St} (h : σ'.heap = σ.heap) (k : Nat) (d : D) : elemsD σ' k d = elemsD σ k d := by
  unfold elemsD
  split <;> simp [h]
theorem bnd_congr {σ σ' : St} {n : Nat} {x : Option Operand} (h : ∀ y, x = some y → evl σ' y = evl σ y) : bnd σ' n x = bnd σ n x := by
  cases x with
  | none => rfl
  | some y => simp only [bnd, h y rfl]
theorem aval_congr {P : Program} {σ σ' : St} {op : Op} (hh : σ'.heap = σ.heap) (h : ∀ x ∈ op.operands, evl σ' x = evl σ x) : aval P σ' op = aval P σ op := by
  cases op
  case slice t x lo hi mx =>
    cases mx with
    | some m => rfl
    | none =>
      have h1 : evl σ' x = evl σ x := h x (by simp [Op.operands])
      have h2 : ∀ n, bnd σ' n lo = bnd σ n lo := fun n => bnd_congr fun y hy => h y (by simp [Op.operands, hy])
      have h3 : ∀ n, bnd σ' n hi = bnd σ n hi := fun n => bnd_congr fun y hy => h y (by simp [Op.operands, hy])
      simp only [aval, h1, h2, h3]
  case build t ps =>
    have : (ps.toList.map fun x => (x.1, evl σ' x.2)) = (ps.toList.map fun x => (x.1, evl σ x.2)) := List.map_congr_left fun x hx => by
      rw [h x.2 (by simp only [Op.operands, List.mem_toArray]; exact List.mem_map.2 ⟨x, hx, rfl⟩)]
    simp only [aval, this]
  case makeFunc f first caps =>
    cases f with
    | func f =>
      have : caps.toList.map (evl σ') = caps.toList.map (evl σ) := List.map_congr_left fun x hx => h x (by simp [Op.operands]; exact .inr (by simpa using hx))
      simp only [aval, this]
    | _ => rfl
  case call c =>
    obtain ⟨callee, args, ts⟩ := c
    cases callee with
    | builtin b =>
      have h1 : ∀ x ∈ args.toList, evl σ' x = evl σ x := fun x hx => h x (by simp [Op.operands, Call.operands]; simpa using hx)
      have hm : args.toList.map (evl σ') = args.toList.map (evl σ) := List.map_congr_left h1
      cases b
      case len =>
        simp only [aval]
        split
        · rename_i x t he ht
          rw [h1 _ (by rw [‹args.toList = _›]; simp)]
        all_goals simp_all
      all_goals (simp only [aval, hm])
    | _ => rfl
  all_goals (simp only [Op.operands] at h; simp only [aval]; try (simp_all [addrCells_congr hh, elemsD_congr hh]; done))

theorem mapO_byte : ∀ zs : List Int, mapO byteOf (zs.map fun z => [.sc (.int .u8 z)]) = some zs
  | [] => rfl
  | z :: zs => by simp only [List.map_cons, mapO, byteOf, Option.bind_some, mapO_byte zs, Option.map_some]
theorem MCalls.congr {P : Program} {f : FuncId} {ins : List Obj} {args : List D} {ret : D} {outs outs' : List Obj} (h : MCalls P f ins args ret outs) (ho : ∀ j, outs'.getD j .dead = outs.getD j .dead) : MCalls P f ins args ret outs' := by
  refine ⟨h.call, fun w st ρ vs hst hin hvs => (h.run w st ρ vs hst hin hvs).mono ?_⟩
  rintro e w' ⟨v, rfl, ρ', hb⟩
  have hs : ∀ g, stO w w' st (ownI ins ρ) ρ' outs g → stO w w' st (ownI ins ρ) ρ' outs' g := fun g hg => ⟨hg.1, fun j hj => hg.2 j (by rw [← ho]; exact hj)⟩
  refine ⟨v, rfl, ρ', ⟨hb.below, hb.keep, R.mono (fun _ _ _ => rfl) (fun _ _ hh => hh) hs hb.ret, fun j => ?_, fun j g hj => hb.fresh j g (by rw [← ho]; exact hj), fun j j' g hj hj' => hb.inj j j' g (by rw [← ho]; exact hj) (by rw [← ho]; exact hj')⟩⟩
  rw [ho]
  exact RO.mono (fun _ _ _ => rfl) (fun _ _ hh => hh) hs (fun _ _ => rfl) (hb.objs j)
/-- A call's own row, by value. -/
theorem MCalls.freeze {P : Program} {f : FuncId} {ins : List Obj} {args : List D} {ret : D} {outs outs' : List Obj} (h : MCalls P f ins args ret outs) (j k : Nat) (rows : List (List D)) (hj : outs.getD j .dead = .row k rows)
    (ho : ∀ i, outs'.getD i .dead = if i = j then .dead else (outs.getD i .dead).frz j k rows) : MCalls P f ins args (frzD j k rows ret) outs' := by
  refine ⟨h.call, fun w st ρ vs hst hin hvs => (h.run w st ρ vs hst hin hvs).mono ?_⟩
  rintro e w' ⟨v, rfl, ρ', hb⟩
  have hfd : ∀ x : Obj, x.frz j k rows ≠ .dead ↔ x ≠ .dead := by intro x; cases x <;> simp [Obj.frz]
  have live : ∀ i, outs'.getD i .dead ≠ .dead → i ≠ j ∧ outs.getD i .dead ≠ .dead := by
    intro i hi
    rw [ho] at hi
    by_cases e : i = j
    · simp [e] at hi
    · rw [if_neg e, hfd] at hi; exact ⟨e, hi⟩
  have hs : ∀ g, stO w w' st (ownI ins ρ) ρ' outs g → stO w w' st (ownI ins ρ) ρ' outs' g := fun g hg => ⟨hg.1, fun i hi => hg.2 i (live i hi).2⟩
  have hro := hb.objs j
  rw [hj] at hro
  have hv : ρ' j = some none → rows = [] := by
    intro e
    simp only [RO, e] at hro; exact hro
  have hr : ∀ g, ρ' j = some (some g) → stO w w' st (ownI ins ρ) ρ' outs' g ∧ RR w' (stO w w' st (ownI ins ρ) ρ' outs') k g 0 rows := by
    intro g e
    have hlt := hro.lt (by simp) e
    simp only [RO, e] at hro
    obtain ⟨cur, e', cap, r1, r2, r3, r4, r5⟩ := hro
    refine ⟨⟨?_, fun i hi e2 => ?_⟩, RR.mono (fun _ _ _ => rfl) (fun _ _ hh => hh) hs (fun _ => rfl) r5⟩
    · rcases hb.fresh j g (by rw [hj]; simp) e with h1 | h1
      · exact .inr (.inr ⟨h1, hlt⟩)
      · exact .inr (.inl h1)
    · obtain ⟨n1, l1⟩ := live i hi
      exact n1 (hb.inj i j g l1 (by rw [hj]; simp) e2 e)
  refine ⟨v, rfl, ρ', ⟨hb.below, hb.keep, R.frz hv hr (R.mono (fun _ _ _ => rfl) (fun _ _ hh => hh) hs hb.ret), fun i => ?_, fun i g hi => hb.fresh i g (live i hi).2, fun i i' g hi hi' => hb.inj i i' g (live i hi).2 (live i' hi').2⟩⟩
  rw [ho]
  by_cases e : i = j
  · simp [e, RO]
  · rw [if_neg e]
    have h1 := RO.mono (fun _ _ _ => rfl) (fun _ _ hh => hh) hs (fun _ _ => rfl) (hb.objs i)
    cases hx : outs.getD i .dead with
    | dead => simp [RO, Obj.frz]
    | row k' rows' => rw [hx] at h1; exact h1
    | box cs =>
      rw [hx] at h1
      simp only [RO, Obj.frz] at h1 ⊢
      obtain ⟨g, cur, e', r1, r2, r3⟩ := h1
      exact ⟨g, cur, e', r1, r2, RL.frz hv hr r3⟩
    | ext e' => rw [hx] at h1; exact h1
theorem ACalls.freeze {P : Program} {f : FuncId} {args : List D} {ret : D} {k : Nat} {rows : List (List D)} (h : ACalls P f args ret [.row k rows]) : ACalls P f args (frzD 0 k rows ret) [] :=
  MCalls.freeze h 0 k rows rfl (fun i => by cases i <;> simp [Obj.frz])

/-- What an operation yields by value. -/
inductive Val (P : Program) (all : Array Oper) (o : Oper) (σ : St) : D → Prop
  | skip : aguard all σ o = some false → Val P all o σ (.sc undef)
  | val {d : D} : aguard all σ o = some true → aval P σ o.op = some d → Val P all o σ d
  | call {f : FuncId} {caps args : List D} {x : Operand} {xs : Array Operand} {ts : Array TypeId} {ret : D} : aguard all σ o = some true → o.op = .call { callee := .value x, args := xs, argTypes := ts } →
      evl σ x = .fn f caps → ACalls P f args ret [] → ArgsOK σ [] (xs.toList.map (evl σ) ++ caps) args [] ret [] → ltD 0 ret = true → Val P all o σ (nmD [] ret)

theorem snapD_congr {σ σ' : St} (h : σ'.heap = σ.heap) (ids : List Nat) : ∀ n d, snapD σ' ids n d = snapD σ ids n d := by
  intro n
  induction n with
  | zero => intro d; rfl
  | succ n ih =>
    have hm : snapD σ' ids n = snapD σ ids n := funext ih
    intro d
    cases d <;> simp only [snapD, h, hm]
theorem argsOK_congr {σ σ' : St} (h : σ'.heap = σ.heap) {ds args : List D} {ret : D} {outs : List Obj} (ha : ArgsOK σ [] ds args [] ret outs) : ArgsOK σ' [] ds args [] ret outs := by
  rcases ha with ⟨ds', ys, h1, hle, h2, hlo⟩ | ⟨ds', ys, h1, hle, h2, hlo, h3⟩
  · exact .inl ⟨ds', ys, h1, hle, h2, hlo⟩
  · refine .inr ⟨ds', ys, ?_, hle, h2, hlo, h3⟩
    rw [show snapD σ' [] 4 = snapD σ [] 4 from funext (snapD_congr h [] 4)]
    exact h1
section
variable {P : Program} {all : Array Oper} {o : Oper} {σ : St} {d : D}
theorem aguard_put {x : Option Nat} {u : D} (h : ∀ t, x = some t → t ∉ o.looksAt all) : aguard all (σ.put x u) o = aguard all σ o := by
  unfold aguard
  cases hg : o.guard with
  | none => rfl
  | some gw =>
    obtain ⟨g, want⟩ := gw
    simp only
    cases ht : (all[g]?).bind (·.dst) with
    | none => rfl
    | some t =>
      simp only [Option.bind_some]
      have : (σ.put x u).slots.getD t .any = σ.slots.getD t .any := by
        have := evl_put (σ := σ) (x := x) (u := u) (y := .tmp t) (fun e he hy => h e he (by cases hy; simp [Oper.looksAt, hg, ht]))
        simpa [evl] using this
      rw [this]
theorem evl_looks {x : Option Nat} {u : D} (h : ∀ t, x = some t → t ∉ o.looksAt all) : ∀ y ∈ o.op.operands, evl (σ.put x u) y = evl σ y := fun y hy =>
  evl_put fun e he hye => h e he (by
    subst hye
    exact List.mem_append_left _ (List.mem_filterMap.2 ⟨.tmp e, by simpa using hy, rfl⟩))
theorem val_same {σ' : St} (hg : aguard all σ' o = aguard all σ o) (hh : σ'.heap = σ.heap) (he : ∀ y ∈ o.op.operands, evl σ' y = evl σ y) (h : Val P all o σ d) : Val P all o σ' d := by
  cases h with
  | skip h1 => exact .skip (by rw [hg]; exact h1)
  | val h1 h2 => exact .val (by rw [hg]; exact h1) (by rw [aval_congr hh he]; exact h2)
  | @call f caps args x xs ts ret h1 h2 h3 h4 h5 h6 =>
    have e1 : evl σ' x = evl σ x := he x (by rw [h2]; simp [Op.operands, Call.operands])
    have e2 : xs.toList.map (evl σ') = xs.toList.map (evl σ) := List.map_congr_left fun y hy => he y (by rw [h2]; simp [Op.operands, Call.operands]; exact .inr (by simpa using hy))
    exact .call (by rw [hg]; exact h1) h2 (by rw [e1]; exact h3) h4 (by rw [e2]; exact argsOK_congr hh h5) h6
theorem Val.to {x : Option Nat} {u : D} (hl : ∀ t, x = some t → t ∉ o.looksAt all) (h : Val P all o σ d) : Val P all o (σ.put x u) d :=
  val_same (aguard_put hl) heap_put (evl_looks hl) h
theorem Val.from {x : Option Nat} {u : D} (hl : ∀ t, x = some t → t ∉ o.looksAt all) (h : Val P all o (σ.put x u) d) : Val P all o σ d :=
  val_same (aguard_put hl).symm heap_put.symm (fun y hy => (evl_looks hl y hy).symm) h

theorem Val.wpOp (h : Val P all o σ d) {i : Nat} (hi : all[i]? = some o) {Q' : Exit → Act → World → Prop} {K : Act → World → Prop} {w0 : World} {p : Pm} {a : Act} {w : World} (hr : Rel w0 p σ a w)
    (hK : ∀ a' w', Rel w0 p (σ.put o.dst d) a' w' → K a' w') : wpOp P all Q' i K a w := by
  unfold Go.wpOp
  simp only [hi]
  cases h with
  | skip h1 =>
    rw [aguard_wanted h1 hr]
    simp only [Bool.false_eq_true, if_false]
    obtain ⟨ρ, hr⟩ := hr
    exact hK _ _ ⟨ρ, hr.put o.dst (by simp [R])⟩
  | val h1 h2 =>
    rw [aguard_wanted h1 hr]
    obtain ⟨ρ, hr⟩ := hr
    obtain ⟨v, hv, hR⟩ := aval_sound h2 w0 p a w ρ o rfl hr
    simp only [if_true]
    left
    simp only [Oper.wp, hv, Oper.upon]
    exact hK _ _ ⟨ρ, hr.put o.dst hR⟩
  | @call f caps args x xs ts ret h1 h2 h3 h4 h5 h6 =>
    rw [aguard_wanted h1 hr]
    obtain ⟨ρ, hr⟩ := hr
    have hx' := hr.evl x
    rw [h3] at hx'
    simp only [R] at hx'
    obtain ⟨vs, hf, hcaps⟩ := hx'
    have hrun := run_call (P := P) (w := w) h2 hf h4.call
    have hall := RL_append (RL_map_eval hr xs.toList) hcaps
    have has : (xs.map a.eval ++ vs) = (xs.toList.map a.eval ++ vs.toList).toArray := by
      apply Array.toList_inj.1; simp
    rw [has] at hrun
    simp only [if_true]
    left
    unfold Oper.wp
    rw [hrun, Oper.upon_enter]
    refine (Rel.call (dst := o.dst) (ins := []) (new := []) hr h4 h5 hall (by simp) rfl (by simp) (by simp) h6 (by simp)).mono ?_
    rintro e w' ⟨v, rfl, hv⟩
    exact hK _ _ hv
end

/-- Every order of a region's operations, by value. -/
def anyV (P : Program) (md : Region.Mode) (ops : Array Oper) (Q : St → Prop) : Nat → Array Bool → St → Prop
  | 0, listed, σ => Region.ready md ops listed = [] ∧ Q σ
  | fuel + 1, listed, σ => (Region.ready md ops listed = [] → Q σ) ∧
    ∀ i ∈ Region.ready md ops listed, ∃ o d, ops[i]? = some o ∧ Val P ops o σ d ∧ anyV P md ops Q fuel (listed.setIfInBounds i true) (σ.put o.dst d)
section
variable {P : Program} {md : Region.Mode} {ops : Array Oper} {Q : St → Prop}
theorem anyV_sound {Q' : Exit → Act → World → Prop} {w0 : World} {p : Pm} (hQ : ∀ σ a w, Q σ → Rel w0 p σ a w → Q' .normal a w) : ∀ (fuel : Nat) (listed : Array Bool) (σ : St) (a : Act) (w : World), anyV P md ops Q fuel listed σ → Rel w0 p σ a w →
    wpAny P md ops Q' fuel listed a w
  | 0, _, _, _, _, h, hr => ⟨h.1, hQ _ _ _ h.2 hr⟩
  | fuel + 1, listed, σ, a, w, h, hr => ⟨fun h0 => hQ _ _ _ (h.1 h0) hr, fun i hi => by
      obtain ⟨o, d, ho, hv, hn⟩ := h.2 i hi
      exact hv.wpOp ho hr fun a' w' hr' => anyV_sound hQ fuel _ _ a' w' hn hr'⟩
theorem anyV_first {i : Nat} {oi : Oper} {d : D} (hi : ops[i]? = some oi) : ∀ (fuel : Nat) (listed : Array Bool) (σ : St),
      (∀ j oj, ops[j]? = some oj → j ≠ i → listed.getD j true = false → (∀ e ∈ oj.after, Region.binds md e = true → e.on ≠ i) → oi.apart ops oj = true) →
      i ∈ Region.ready md ops listed → Val P ops oi σ d →
      anyV P md ops Q fuel (listed.setIfInBounds i true) (σ.put oi.dst d) → anyV P md ops Q (fuel + 1) listed σ := by
  intro fuel
  induction fuel with
  | zero =>
    intro listed σ _ hr hy H
    refine ⟨fun h => (by rw [h] at hr; cases hr), fun j hj => ?_⟩
    by_cases hji : j = i
    · subst hji; exact ⟨oi, d, hi, hy, H⟩
    · have := ready_mono hj hji
      rw [H.1] at this
      cases this
  | succ fuel ih =>
    intro listed σ hfree hr hy H
    refine ⟨fun h => (by rw [h] at hr; cases hr), fun j hj => ?_⟩
    by_cases hji : j = i
    · subst hji; exact ⟨oi, d, hi, hy, H⟩
    · obtain ⟨oj, u, hoj, h1, h2⟩ := H.2 j (ready_mono hj hji)
      obtain ⟨hjun, oj', hoj', hall⟩ := mem_ready.1 hj
      obtain rfl : oj = oj' := Option.some.inj (hoj.symm.trans hoj')
      have hnot : ∀ e ∈ oj.after, Region.binds md e = true → e.on ≠ i := fun e he hb heq => by
        have h1 := hall e he hb
        have h0 := (mem_ready.1 hr).1
        rw [heq] at h1
        rcases Nat.lt_or_ge i listed.size with h' | h'
        · simp [h'] at h0 h1; rw [h0] at h1; cases h1
        · simp [Array.getElem?_eq_none h'] at h1
      obtain ⟨p1, p2, p3⟩ := Oper.apart_spec (hfree j oj hoj hji hjun hnot)
      have hfree' : ∀ k ok, ops[k]? = some ok → k ≠ i → (listed.setIfInBounds j true).getD k true = false →
          (∀ e ∈ ok.after, Region.binds md e = true → e.on ≠ i) → oi.apart ops ok = true := fun k ok hk hki hun hno => by
        refine hfree k ok hk hki ?_ hno
        by_cases hjk : j = k
        · subst hjk; exact hjun
        · rw [getD_set_ne true hjk] at hun; exact hun
      refine ⟨oj, u, hoj, h1.from p1, ?_⟩
      refine ih (listed.setIfInBounds j true) (σ.put oj.dst u) hfree' (ready_mono hr (Ne.symm hji)) (hy.to p3) ?_
      rw [Array.setIfInBounds_comm _ _ hji, ← put_comm σ d u p2]
      exact h2
/-- The operations in their own order, by value. -/
def ListV (P : Program) (ops : Array Oper) (Q : St → Prop) : List Oper → St → Prop
  | [], σ => Q σ
  | o :: l, σ => ∃ d, Val P ops o σ d ∧ ListV P ops Q l (σ.put o.dst d)
theorem anyV_lex : ∀ (l : List Oper) (k : Nat) (listed : Array Bool) (σ : St), (∀ j, l[j]? = ops[k + j]?) → Region.lexFrom md ops l.length k listed = true → ListV P ops Q l σ → anyV P md ops Q l.length listed σ
  | [], _, _, _, _, hB, h => ⟨by simpa [Region.lexFrom] using hB, h⟩
  | o :: l, k, listed, σ, hl, hB, h => by
    have h0 : ops[k]? = some o := by simpa using (hl 0).symm
    simp only [List.length_cons, Region.lexFrom, Bool.and_eq_true] at hB
    obtain ⟨⟨hr, hf⟩, hB'⟩ := hB
    obtain ⟨d, hv, hn⟩ := h
    exact anyV_first h0 l.length listed σ (Region.free_spec h0 hf) (by simpa using hr) hv
      (anyV_lex l (k + 1) _ _ (fun j => by have := hl (j + 1); simpa [Nat.add_assoc, Nat.add_comm 1 j] using this) hB' hn)
theorem Tri.drawnV {id : Nat} {l : List Oper} {Q : Exit → St → Prop} {σ : St} (hm : P.follows .mixedOrders = true) (hB : Region.lexB .any l.toArray = true) (h : ListV P l.toArray (Q .normal) l σ) : Tri P (.region id l.toArray true) Q σ := by
  simp only [Region.lexB, Bool.and_eq_true] at hB
  rintro w0 p a w ⟨ρ, hr⟩
  refine wp_region_any hm ?_
  have := anyV_lex (md := .any) l 0 (Array.replicate l.toArray.size false) σ (by simp) (by simpa using hB.2) h
  exact anyV_sound (fun σ' a' w' hq hr' => ⟨σ', hq, hr'⟩) _ _ _ _ _ this ⟨ρ, hr.drew⟩
theorem ListV.run {l2 : List Oper} {σ' : St} : ∀ {l1 : List Oper} {σ : St}, arun P ops l1 σ = some σ' → ListV P ops Q l2 σ' → ListV P ops Q (l1 ++ l2) σ
  | [], _, h, hn => by simp only [arun, Option.some.injEq] at h; subst h; exact hn
  | o :: l, σ, h, hn => by
    simp only [arun, Option.bind_eq_some_iff] at h
    obtain ⟨σ1, h1, h2⟩ := h
    simp only [Avm.astep, Option.bind_eq_some_iff] at h1
    obtain ⟨g, hg, h1⟩ := h1
    cases g
    · simp only [Bool.false_eq_true, if_false, Option.some.injEq] at h1
      subst h1
      exact ⟨_, .skip hg, ListV.run h2 hn⟩
    · simp only [if_true, Option.map_eq_some_iff] at h1
      obtain ⟨d, hd, rfl⟩ := h1
      exact ⟨d, .val hg hd, ListV.run h2 hn⟩
theorem ListV.runN {l : List Oper} {σ σ' : St} (n : Nat) (h : arun P ops (l.take n) σ = some σ') (hn : ListV P ops Q (l.drop n) σ') : ListV P ops Q l σ := by
  have := ListV.run h hn
  rwa [List.take_append_drop] at this
theorem ListV.done {l : List Oper} {σ σ' : St} (h : arun P ops l σ = some σ') (hn : Q σ') : ListV P ops Q l σ := by
  have := ListV.run (l2 := []) h hn
  rwa [List.append_nil] at this
theorem ListV.call {o : Oper} {rest : List Oper} {σ : St} {f : FuncId} {x : Operand} {xs : Array Operand} {ts : Array TypeId} {caps args : List D} {ret : D} (hg : aguard ops σ o = some true)
    (ho : o.op = .call { callee := .value x, args := xs, argTypes := ts }) (hx : evl σ x = .fn f caps) (hc : ACalls P f args ret []) (hargs : ArgsOK σ [] (xs.toList.map (evl σ) ++ caps) args [] ret []) (hlt : ltD 0 ret = true)
    (hn : ListV P ops Q rest (σ.put o.dst (nmD [] ret))) : ListV P ops Q (o :: rest) σ :=
  ⟨_, .call hg ho hx hc hargs hlt, hn⟩
end
end Go.Avm
