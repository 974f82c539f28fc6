/- The abstract machine, part ZE: drawn regions by a plan told as data; shorter forms of what is asked at a return, a test, a case. -/
import Derived.Test.YtpopgpjojbngcaaAvmZD
namespace Go.Avm
set_option linter.unusedVariables false
set_option linter.unusedSimpArgs false
open Go.RowKit
/-- A plan for a drawn region: what is taken first (f: no heap; r: a load from what stays; o, q: a flag and what joins it), where all orders follow (a, with its branches b, ended by e), the end d. -/
inductive Pl
  | d
  | f (i : Nat) (p : Pl)
  | r (i : Nat) (p : Pl)
  | o (i j : Nat) (p : Pl)
  | q (i j : Nat) (p : Pl)
  | a (p : Pl)
  | b (i : Nat) (p s : Pl)
  | e
def Pl.heads : Pl → List Nat
  | .b i _ s => i :: s.heads
  | _ => []
def Pl.ok (ops : Array Oper) : Pl → Array Bool → Bool
  | .d, ls => (Region.ready .any ops ls).isEmpty
  | .f i p, ls => takeB ops ls i && p.ok ops (ls.setIfInBounds i true)
  | .r i p, ls => takeB ops ls i && p.ok ops (ls.setIfInBounds i true)
  | .o i j p, ls => takeB ops ls i && (takeB ops (ls.setIfInBounds i true) j && p.ok ops ((ls.setIfInBounds i true).setIfInBounds j true))
  | .q i j p, ls => takeB ops ls i && (takeB ops (ls.setIfInBounds i true) j && p.ok ops ((ls.setIfInBounds i true).setIfInBounds j true))
  | .a p, ls => Region.ready .any ops ls == p.heads && (!p.heads.isEmpty && p.ok ops ls)
  | .b i p s, ls => p.ok ops (ls.setIfInBounds i true) && s.ok ops ls
  | .e, _ => true
section
variable {P : Program} {ds : List (Option Nat)} {Q : Exit → St → Prop} {σ σ' : St} {op : Op} {ty ty' : TypeId} {pos pos' : String} {af af' : Array Edge} {i j t1 t2 t3 : Nat} {b b' : Bool} {ops : Array Oper} {K : St → Prop} {fuel : Nat} {listed : Array Bool} {p s : Pl} {dst : Option Nat} {g : Option (Nat × Bool)} {t : TypeId} {x : Operand}
def AnyP (P : Program) (ops : Array Oper) (K : St → Prop) (pl : Pl) (fuel : Nat) (listed : Array Bool) (σ : St) : Prop := pl.ok ops listed = true → AnyG P ops K fuel listed σ
def NextsP (P : Program) (ops : Array Oper) (ds : List (Option Nat)) (K : St → Prop) (pl : Pl) (fuel : Nat) (listed : Array Bool) (σ : St) : Prop := pl.ok ops listed = true → NextsG P ops ds K fuel listed σ pl.heads
theorem isAnyP (h : AnyP P ops K p fuel listed σ) : AnyP P ops K p fuel listed σ := h
theorem AnyP.F (hi : ops[i]? = some ⟨dst, op, ty, pos, af, g⟩) (hop : hfOp P σ op = true) (h : astepC P (dsOf ops) dst op g σ = some σ') (hn : AnyP P ops K p fuel (listed.setIfInBounds i true) σ') : AnyP P ops K (.f i p) (fuel + 1) listed σ := fun hk => by
  simp only [Pl.ok, Bool.and_eq_true] at hk
  exact AnyG.first i hi rfl hk.1 hop h (hn hk.2)
theorem AnyP.R (hi : ops[i]? = some ⟨dst, .load t x, ty, pos, af, g⟩) (hx : isRo (evl σ x) = true ∨ aguardC (dsOf ops) g σ = some false) (h : astepC P (dsOf ops) dst (.load t x) g σ = some σ') (hn : AnyP P ops K p fuel (listed.setIfInBounds i true) σ') : AnyP P ops K (.r i p) (fuel + 1) listed σ := fun hk => by
  simp only [Pl.ok, Bool.and_eq_true] at hk
  exact AnyG.ro i hi rfl hk.1 hx h (hn hk.2)
theorem AnyP.O {u : Nat} (hi : ops[i]? = some ⟨some t2, op, ty, pos, af, some (u, false)⟩) (hj : ops[j]? = some ⟨some t3, .pick (.tmp t1) (.const (.bool true)) (.tmp t2), ty', pos', af', none⟩) (hop : hfOp P σ op = true) (hs : gslot (dsOf ops) (some (u, false)) = some t1) (hb : evl σ (.tmp t1) = .sc (.bool b)) (hne : t1 ≠ t2) (hlt : t2 < σ.slots.length) (ho : aval P σ op = some (.sc (.bool b')))
    (hx : (σ.put (some t2) .any).put (some t3) (.sc (.bool (b || b'))) = σ') (hn : AnyP P ops K p fuel ((listed.setIfInBounds i true).setIfInBounds j true) σ') : AnyP P ops K (.o i j p) (fuel + 1 + 1) listed σ := fun hk => by
  simp only [Pl.ok, Bool.and_eq_true] at hk
  exact AnyG.or2 i j hi hj rfl hk.1 hk.2.1 hop hs hb hne hlt ho hx (hn hk.2.2)
theorem AnyP.Or {u : Nat} (hi : ops[i]? = some ⟨some t2, .load t x, ty, pos, af, some (u, false)⟩) (hj : ops[j]? = some ⟨some t3, .pick (.tmp t1) (.const (.bool true)) (.tmp t2), ty', pos', af', none⟩) (hro : isRo (evl σ x) = true) (hs : gslot (dsOf ops) (some (u, false)) = some t1) (hb : evl σ (.tmp t1) = .sc (.bool b)) (hne : t1 ≠ t2) (hlt : t2 < σ.slots.length) (ho : aval P σ (.load t x) = some (.sc (.bool b')))
    (hx : (σ.put (some t2) .any).put (some t3) (.sc (.bool (b || b'))) = σ') (hn : AnyP P ops K p fuel ((listed.setIfInBounds i true).setIfInBounds j true) σ') : AnyP P ops K (.q i j p) (fuel + 1 + 1) listed σ := fun hk => by
  simp only [Pl.ok, Bool.and_eq_true] at hk
  exact AnyG.or2r i j hi hj rfl hk.1 hk.2.1 hro hs hb hne hlt ho hx (hn hk.2.2)
theorem AnyP.A (h : NextsP P ops (dsOf ops) K p fuel listed σ) : AnyP P ops K (.a p) (fuel + 1) listed σ := fun hk => by
  simp only [Pl.ok, Bool.and_eq_true, beq_iff_eq, Bool.not_eq_true', List.isEmpty_eq_false_iff] at hk
  exact AnyG.all p.heads hk.1 hk.2.1 rfl (h hk.2.2)
theorem AnyP.D (h : K σ) : AnyP P ops K .d fuel listed σ := fun hk => AnyG.done (by simpa only [Pl.ok, List.isEmpty_iff] using hk) h
theorem NextsP.E : NextsP P ops ds K .e fuel listed σ := fun _ => NextsG.nil
theorem NextsP.B {o : Oper} (ho : ops[i]? = some o) (h : TriD P ds (fun e σ' => e = .normal ∧ AnyP P ops K p fuel (listed.setIfInBounds i true) σ') [o] σ) (hn : NextsP P ops ds K s fuel listed σ) : NextsP P ops ds K (.b i p s) fuel listed σ := fun hk => by
  simp only [Pl.ok, Bool.and_eq_true] at hk
  refine NextsG.cons ho ?_ (hn hk.2)
  have e : (fun (e : Exit) (σ' : St) => e = .normal ∧ AnyP P ops K p fuel (listed.setIfInBounds i true) σ') = (fun e σ' => e = .normal ∧ AnyG P ops K fuel (listed.setIfInBounds i true) σ') := by
    funext e σ'
    simp only [AnyP, hk.1, true_implies]
  rw [e] at h
  exact h
theorem TriD.nilP (h : AnyP P ops K p fuel listed σ) : TriD P ds (fun e σ' => e = .normal ∧ AnyP P ops K p fuel listed σ') [] σ := TriD.nil ⟨rfl, h⟩
theorem Tri.mixedP (id : Nat) {l : List Oper} {Q : Exit → St → Prop} (hm : P.follows .mixedOrders = true) (n : Nat) (hl : l.length = n) (pl : Pl) (hk : pl.ok l.toArray (Array.replicate n false) = true) (h : AnyP P l.toArray (Q .normal) pl n (Array.replicate n false) σ) : Tri P (.region id l.toArray true) Q σ :=
  Tri.mixedG id hm n hl (h hk)
end
attribute [irreducible] AnyP NextsP
/-- A case, its condition not yet made plain. -/
def Cv (c p : Prop) : Prop := c → p
theorem cvI {c p : Prop} (h : Cv c p) : c → p := h
theorem isCv {c p : Prop} (h : c → p) : Cv c p := h
/-- Flags made plain. -/
theorem bls : type_of% (And.intro @decide_eq_true_eq (And.intro @decide_eq_false_iff_not (And.intro @Bool.and_eq_true (And.intro @Bool.or_eq_true (And.intro @Bool.and_eq_false_iff (And.intro @Bool.or_eq_false_iff (And.intro @Bool.not_eq_true' (And.intro @Bool.not_eq_false' (And.intro @Bool.not_eq_eq_eq_not (And.intro @Bool.not_true (And.intro @Bool.not_false (And.intro @beq_iff_eq.{0} (And.intro @bne_iff_ne.{0} (And.intro @beq_eq_false_iff_ne.{0} (And.intro @bne_eq_false_iff_eq.{0} (And.intro @Int.not_lt (And.intro @Int.not_le @Decidable.not_not))))))))))))))))) := And.intro @decide_eq_true_eq (And.intro @decide_eq_false_iff_not (And.intro @Bool.and_eq_true (And.intro @Bool.or_eq_true (And.intro @Bool.and_eq_false_iff (And.intro @Bool.or_eq_false_iff (And.intro @Bool.not_eq_true' (And.intro @Bool.not_eq_false' (And.intro @Bool.not_eq_eq_eq_not (And.intro @Bool.not_true (And.intro @Bool.not_false (And.intro @beq_iff_eq.{0} (And.intro @bne_iff_ne.{0} (And.intro @beq_eq_false_iff_ne.{0} (And.intro @bne_eq_false_iff_eq.{0} (And.intro @Int.not_lt (And.intro @Int.not_le @Decidable.not_not))))))))))))))))
def exB : Exit → Bool
  | .normal => true
  | .ret => true
  | _ => false
theorem RetOK.q {P : Program} {fn : Func} {ins new : List Nat} {ret d d' : D} {xs outs : List Obj} {e : Exit} {σ : St} (he : exB e = true) (hd : retD P σ fn.results.toList = some d) (hn : dedupN ins (nmsD d) = new) (hnd : (ins ++ new).Nodup)
    (hr : renD (ins ++ new) d = some d') (ho : outsOf (ins ++ new) σ.heap (ins ++ new) = some xs) (hl : (ins ++ new).length = outs.length) (h : leQ d' ret ∧ leQOs xs outs) : RetOK P fn ins ret outs e σ :=
  RetOK.auto (by cases e <;> simp_all [exB]) hd hn hnd hr (leQ_spec h.1) ho hl (leQOs_spec h.2)
section
variable {P : Program} {ds : List (Option Nat)} {Q : Exit → St → Prop} {Qv : St → Prop} {σ σ' : St} {l : List Oper} {dst : Option Nat} {ty : TypeId} {pos : String} {af : Array Edge} {g : Option (Nat × Bool)} {f : FuncId} {x : Operand} {xs : Array Operand} {ts : Array TypeId} {caps args : List D} {ret : D} {K : St → Prop} {sn : Bool}
/-- A call whose callee and arguments are known, and what follows. -/
def CallK (P : Program) (ds : List (Option Nat)) (g : Option (Nat × Bool)) (σ : St) (dst : Option Nat) (f : FuncId) (args : List D) (sn : Bool) (K : St → Prop) : Prop :=
  ∃ new ret outs σ', ACalls P f args ret outs ∧ callR ds g σ dst [] new sn ret outs = some σ' ∧ K σ'
theorem CallK.c (new : List Nat) {outs : List Obj} (hc : ACalls P f args ret outs) (h : callR ds g σ dst [] new sn ret outs = some σ') (hn : K σ') : CallK P ds g σ dst f args sn K := ⟨new, ret, outs, σ', hc, h, hn⟩
theorem TriD.dE (hx : evl σ x = .fn f caps) (hargs : renL [] (xs.toList.map (evl σ) ++ caps) = some args) (h : CallK P ds g σ dst f args false (fun σ' => TriD P ds Q l σ')) : TriD P ds Q (⟨dst, .call { callee := .value x, args := xs, argTypes := ts }, ty, pos, af, g⟩ :: l) σ := by
  obtain ⟨new, ret, outs, σ', h1, h2, h3⟩ := h
  exact TriD.cE new hx h1 hargs h2 h3
theorem TriD.dS (hx : evl σ x = .fn f caps) (hargs : mapO (snapD σ [] 4) (xs.toList.map (evl σ) ++ caps) = some args) (h : CallK P ds g σ dst f args true (fun σ' => TriD P ds Q l σ')) : TriD P ds Q (⟨dst, .call { callee := .value x, args := xs, argTypes := ts }, ty, pos, af, g⟩ :: l) σ := by
  obtain ⟨new, ret, outs, σ', h1, h2, h3⟩ := h
  exact TriD.cS new hx h1 hargs h2 h3
/-- As CallK, in a region told by values. -/
def CallW (P : Program) (ds : List (Option Nat)) (g : Option (Nat × Bool)) (σ : St) (dst : Option Nat) (f : FuncId) (args : List D) (sn : Bool) (K : St → Prop) : Prop :=
  ∃ ret σ', ACalls P f args ret [] ∧ callV ds g σ dst sn ret = some σ' ∧ K σ'
theorem CallW.c (hc : ACalls P f args ret []) (h : callV ds g σ dst sn ret = some σ') (hn : K σ') : CallW P ds g σ dst f args sn K := ⟨ret, σ', hc, h, hn⟩
theorem ListD.dE (hx : evl σ x = .fn f caps) (hargs : renL [] (xs.toList.map (evl σ) ++ caps) = some args) (h : CallW P ds g σ dst f args false (fun σ' => ListD P ds Qv l σ')) : ListD P ds Qv (⟨dst, .call { callee := .value x, args := xs, argTypes := ts }, ty, pos, af, g⟩ :: l) σ := by
  obtain ⟨ret, σ', h1, h2, h3⟩ := h
  exact ListD.cE hx h1 hargs h2 h3
theorem ListD.dS (hx : evl σ x = .fn f caps) (hargs : mapO (snapD σ [] 4) (xs.toList.map (evl σ) ++ caps) = some args) (h : CallW P ds g σ dst f args true (fun σ' => ListD P ds Qv l σ')) : ListD P ds Qv (⟨dst, .call { callee := .value x, args := xs, argTypes := ts }, ty, pos, af, g⟩ :: l) σ := by
  obtain ⟨ret, σ', h1, h2, h3⟩ := h
  exact ListD.cS hx h1 hargs h2 h3
end
attribute [irreducible] CallK CallW
end Go.Avm
