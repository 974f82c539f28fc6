/- The abstract machine, parts K to X. -/
import Derived.Test.YteemiclhnfkekaaGreatZAvmP
import Derived.Laws.BytesArg
import Derived.StillTail
import Derived.OpenShut
import Derived.Orders
import Derived.ChangeArms
import Derived.WalkSpells
set_option linter.unusedSimpArgs false
set_option linter.unusedVariables false
namespace Go.eB
open Go.RowKit
def Kh (op:BinOp) (k:IntKind) (a b:Int):Option Value:=
 match op with
 | .add=>some (.int k (k.wrap (a+b)))
 | .sub=>some (.int k (k.wrap (a-b)))
 | .mul=>some (.int k (k.wrap (a*b)))
 | .quo=>if b=0 then none else some (.int k (k.wrap (a.tdiv b)))
 | .rem=>if b=0 then none else some (.int k (a.tmod b))
 | .and=>some (.int k (bits .and k a b))
 | .or=>some (.int k (bits .or k a b))
 | .xor=>some (.int k (bits .xor k a b))
 | .andNot=>some (.int k (bits .andNot k a b))
 | .eql=>some (.bool (a==b))
 | .neq=>some (.bool (a != b))
 | .lss=>some (.bool (decide (a<b)))
 | .leq=>some (.bool (decide (a<=b)))
 | .gtr=>some (.bool (decide (b<a)))
 | .geq=>some (.bool (decide (b<=a)))
 | _=>none
def SV (op:BinOp) (k:IntKind) (a b:Int):Option Value:=
 match op with
 | .shl=>if b<0 then none else some (.int k (k.wrap (a*2^(min b.toNat k.bits))))
 | .shr=>if b<0 then none else some (.int k (a.fdiv (2^(min b.toNat k.bits))))
 | _=>none
def Ki (op:BinOp) (a b:ByteArray):Option Value:=
 match op with
 | .add=>if ((a.size+b.size:Nat):Int)>IntKind.i64.max then none else some (.string (a++b))
 | .eql=>some (.bool (a.toList==b.toList))
 | .neq=>some (.bool !(a.toList==b.toList))
 | .lss=>some (.bool (Op.bytesLess a.toList b.toList))
 | .leq=>some (.bool (Op.bytesLess a.toList b.toList||a.toList==b.toList))
 | .gtr=>some (.bool !(Op.bytesLess a.toList b.toList||a.toList==b.toList))
 | .geq=>some (.bool !(Op.bytesLess a.toList b.toList))
 | _=>none
def wv:BinOp->Bool
 | .shl | .shr=>true
 | _=>false
def vV (P:Program) (op:BinOp) (t:TypeId) (x y:Operand) (u v:Value):Option Value:=
 match u,v with
 | .int k a, .int k' b=>if wv op then SV op k a b else if k=k' then Kh op k a b else none
 | .string a, .string b=>Ki op a b
 | u,v=>aQ P (do eqGuard op t x y u v;Go.binOp op t u v)
theorem cM {P:Program} {α:Type} (x:α):aQ P (pure x)=some x:=rfl
theorem Iq {P:Program} {op:BinOp} {t:TypeId} {k:IntKind} {a b:Int} {z:Value} (h:Kh op k a b=some z) (hs:wv op=false):aQ P (Go.binOp op t (.int k a) (.int k b))=some z:=by
 cases op<;>simp only[Kh,wv,reduceCtorEq] at h hs
 case quo=>
  split at h
  ·cases h
  ·rename_i hb;simp only[fD] at h;subst h;rw[binOp_quo];simp only[Op.intDiv,aE hb,cM]
 case rem=>
  split at h
  ·cases h
  ·rename_i hb;simp only[fD] at h;subst h;rw[binOp_rem];simp only[Op.intDiv,aE hb,cM]
 case add=>rw[binOp_add];exact h
 case sub=>rw[binOp_sub];exact h
 case mul=>rw[binOp_mul];exact h
 case and=>rw[binOp_and];exact h
 case or=>rw[binOp_or];exact h
 case xor=>rw[binOp_xor];exact h
 case andNot=>rw[binOp_andNot];exact h
 case eql=>rw[binOp_eql];exact h
 case neq=>rw[binOp_neq];exact h
 case lss=>rw[binOp_lss];exact h
 case leq=>rw[binOp_leq];exact h
 case gtr=>rw[binOp_gtr];exact h
 case geq=>rw[binOp_geq];exact h
theorem Kj {P:Program} {op:BinOp} {t:TypeId} {k k':IntKind} {a b:Int} {z:Value} (h:SV op k a b=some z):aQ P (Go.binOp op t (.int k a) (.int k' b))=some z:=by
 cases op<;>simp only[SV,reduceCtorEq] at h
 case shl=>
  split at h
  ·cases h
  ·rename_i hb;rw[binOp_shl];simp only[Op.shift,aE hb,cM];exact h
 case shr=>
  split at h
  ·cases h
  ·rename_i hb;rw[binOp_shr];simp only[Op.shift,aE hb,cM];exact h
theorem Ir {P:Program} {op:BinOp} {t:TypeId} {a b:ByteArray} {z:Value} (h:Ki op a b=some z):aQ P (Go.binOp op t (.string a) (.string b))=some z:=by
 have e:Go.binOp op t (.string a) (.string b)=Op.stringOp op a b:=by cases op<;>rfl
 rw[e];cases op<;>simp only[Ki,reduceCtorEq] at h
 case add=>
  split at h
  ·cases h
  ·rename_i hb;simp only[Op.stringOp,aE hb,cM];exact h
 all_goals exact h
theorem Ab {P:Program} {op:BinOp} {t:TypeId} {x y:Operand} {u v z:Value} (h:vV P op t x y u v=some z):aQ P (do eqGuard op t x y u v;Go.binOp op t u v)=some z:=by
 unfold vV at h
 split at h
 ·rename_i k a k' b;rw[eqGuard_at_int];show aQ P (Go.binOp op t (.int k a) (.int k' b))=some z
  split at h
  ·exact Kj h
  ·rename_i hs
   split at h
   ·rename_i hk;subst hk;exact Iq h (by simpa using hs)
   ·cases h
 ·rename_i a b;rw[eqGuard_at_string];exact Ir h
 ·exact h
def Vy (P:Program) (op:UnOp) (u:Value):Option Value:=
 match op,u with
 | .not, .bool b=>some (.bool !b)
 | .neg, .int k n=>some (.int k (k.wrap (0-n)))
 | op,u=>aQ P (Op.unary op u)
theorem CS {P:Program} {op:UnOp} {u z:Value} (h:Vy P op u=some z):aQ P (Op.unary op u)=some z:=by
 unfold Vy at h
 split at h<;>exact h
def CT (P:Program) (s d:TypeId) (u:Value):Option Value:=
 match u with
 | .int _ n=>match aA P s,aA P d with
   | some _,some td=>match td.kind with
     | .int k=>some (.int k (k.wrap n))
     | _=>none
   | _,_=>none
 | u=>aQ P (Go.convert s d u)
theorem cm {P:Program} {t:TypeId} {d:TypeDesc} (h:P.underlying t=some d):aQ P (underlying t)=some d:=by
 show aQ P (program >>= fun p=>_)=_;rw[bk]
 show (aQ P (match P.underlying t with|some d=>pure d|none=>stuck "no such type"))=_;rw[h];rfl
theorem w9 {P:Program} {s d:TypeId} {u z:Value} (h:CT P s d u=some z):aQ P (Go.convert s d u)=some z:=by
 unfold CT at h
 split at h
 ·rename_i k n
  split at h
  ·rename_i ts td hs hd
   split at h
   ·rename_i k' hk;simp only[fD] at h;subst h;obtain ⟨_,ds,_,us,_,_,_,_⟩:=cr hs;obtain ⟨_,dd,_,ud,_,_,_,kd⟩:=cr hd;rw[hk] at kd;have:dd = .int k':=by cases dd<;>simp[nD] at kd;subst kd;rfl
    subst this;unfold Go.convert;rw[bk,cm us,Option.bind_some,bk,cm ud,Option.bind_some];rfl
   ·cases h
  ·cases h
 ·exact h
def byteOf:List D->Option Int
 | [.sc (.int .u8 z)]=>some z
 | _=>none
def xb (P:Program) (s t:TypeId) (rows:List (List D)):Option Value:=(aA P s).bind fun si=>(si.kind.elem?).bind fun e=>(aA P e).bind fun ei=>(aA P t).bind fun di=>match si.kind,ei.kind,di.kind with
 | .slice _, .int .u8, .string=>(fZ byteOf rows).map fun zs=> .string (strOfNums zs)
 | _,_,_=>none
theorem vg:∀ {rows:List (List D)} {zs:List Int},fZ byteOf rows=some zs->rows.flatten=zs.map (fun z=> .sc (.int .u8 z))/\rows.length=zs.length
 | [],zs,h=>by simp only[fZ,fD] at h;subst h;simp
 | r::rs,zs,h=>by
   simp only[fZ,j3,ku] at h;obtain ⟨z,hz,zs',hzs,rfl⟩:=h;obtain ⟨h1,h2⟩:=vg hzs;unfold byteOf at hz
   split at hz
   ·simp only[fD] at hz;subst hz;simp[h1,h2]
   ·cases hz
theorem CU {w:World} {st:Nat->Prop} {ρ:Nat->Option (Option Nat)}:∀ {zs:List Int} {vs:List Value},RL w st ρ (zs.map fun z=> .sc (.int .u8 z)) vs->vs=zs.map (Value.int .u8)
 | [],_,h=>by simpa[RL] using h
 | z::zs,_,h=>by
   simp only[fk,RL,R] at h;obtain ⟨v,vs',rfl,rfl,h3⟩:=h;simp[CU h3]
theorem Sound.bytes {P:Program} {σ:St} (s t:TypeId) (x:Operand) {rows:List (List D)} {z:Value} (hx:iJ σ 1 (bh σ x)=some rows) (hz:xb P s t rows=some z):Sound P σ (.convert s t x) (.sc z):=by
 intro w0 p a w ρ o ho h;obtain ⟨X,c,hv,news,n1,n2,n3,n4,n5⟩:=ot h hx (h.bh x);simp only[xb,j3] at hz;obtain ⟨si,hsi,e,he,ei,QD,di,Y1,hz⟩:=hz;obtain ⟨_,ds,_,us,_,_,_,ks⟩:=cr hsi;obtain ⟨_,de,_,ue,_,_,_,ke⟩:=cr QD;obtain ⟨_,dd,_,ud,_,_,_,kd⟩:=cr Y1
 split at hz
 ·rename_i e' k1 k2 k3;simp only[ku] at hz;obtain ⟨zs,hzs,rfl⟩:=hz;obtain ⟨f1,f2⟩:=vg hzs
  have us':P.underlying s=some (.slice e):=by
   rw[us];rw[k1] at ks he;cases ds<;>simp_all[nD,TK.elem?]
  have Y2:P.underlying e=some (.int .u8):=by
   rw[ue];rw[k2] at ke;cases de<;>simp_all[nD]
  have Y3:P.underlying t=some .string:=by
   rw[ud];rw[k3] at kd;cases dd<;>simp_all[nD]
  rw[f1] at n2;have hn:=CU n2;refine ⟨.string (strOfNums zs),?_,by simp[R]⟩
  have key:(Go.convert s t (.slice X rows.length c)).run P w = .ok (.string (strOfNums zs)) w:=by
   rw[run_convert_bytes_string w s t e X _ c us' Y2 Y3];cases X with
   | none=>
     have:zs=[]:=uc (by
      rcases n5 with n5|⟨b,hb,_⟩
      ·omega
      ·cases hb)
     subst this;simp[Conv.bytesToString];rfl
   | some b=>
     have hl:(loadCells b rows.length).run P w = .ok (zs.map (Value.int .u8)).toArray w:=by
      have:=run_loadCells_list (P:=P) (w:=w) b (zs.map (Value.int .u8)) (fun j v hj=>by
       rcases n5 with n5|⟨b',hb,hc⟩
       ·have:zs=[]:=uc (by omega);subst this;simp at hj
       ·cases hb
        exact hc j v (by rw[hn];exact hj))
      simpa[f2] using this
     rw[run_bytesToString w b _ c zs hl,foldl_push_bytes];simp[strOfNums,ByteArray.empty,ByteArray.emptyWithCapacity];rfl
  simp only[execOp,ho,hv];rw[Sem.run_bind,key];rfl
 ·cases hz
def Iu:D->Option D
 | .ref o off=>some (.ref o off)
 | .jN o k i off=>some (.jN o k i off)
 | .ro cs=>some (.ro cs)
 | _=>none
theorem Sound.nilCheck {P:Program} {σ:St} (x:Operand) {d:D} (hd:Iu (bh σ x)=some d):Sound P σ (.nilCheck x) d:=by
 intro w0 p a w ρ o ho h;have h1:=h.bh x
 have key:∀ g,a.eval x = .pointer (some g)->(execOp a.eval o).run P w = .ok (.value (a.eval x)) w:=by
  intro g hg;simp[execOp,ho,hg]
 unfold Iu at hd
 split at hd<;>(try cases hd);all_goals(rename_i he;rw[he] at h1)
 ·have h2:=h1;simp only[R] at h2;obtain ⟨g,_,h3⟩:=h2;exact ⟨_,key _ h3,h1⟩
 ·have h2:=h1;simp only[R] at h2;obtain ⟨g,_,h3⟩:=h2;exact ⟨_,key _ h3,h1⟩
 ·have h2:=h1;simp only[R] at h2;obtain ⟨g,off,h3,_⟩:=h2;exact ⟨_,key _ h3,h1⟩
def gS (P:Program) (σ:St):Op->Option D
 | .move x=>some (bh σ x)
 | .assign x=>some (bh σ x)
 | .pick c x y=>match bh σ c with
   | .sc (.bool b)=>some (if b then bh σ x else bh σ y)
   | _=>none
 | .extract x i=>match bh σ x with
   | .cT ds=>ds[i]?
   | _=>none
 | .binOp op t x y _=>(oh (bh σ x)).bind fun u=>(oh (bh σ y)).bind fun v=>(vV P op t x y u v).map .sc
 | .unOp op _ x=>(oh (bh σ x)).bind fun u=>(Vy P op u).map .sc
 | .convert s t x=>match (iJ σ 1 (bh σ x)).bind (xb P s t) with
   | some z=>some (.sc z)
   | none=>(oh (bh σ x)).bind fun u=>(CT P s t u).map .sc
 | .index t x i=>(oh (bh σ x)).bind fun u=>(oh (bh σ i)).bind fun v=>(aQ P (Instr.index t u v)).map .sc
 | .field t x i=>(aA P t).bind fun ti=>(ti.kind.fields[i]?).bind fun f=>(aA P f.2).bind fun fi=>match bh σ x with
   | .agg cs=>if f.1+fi.size<=cs.length then ML fi.kind.isAgg ((cs.drop f.1).take fi.size) else none
   | _=>none
 | .load t x=>(aA P t).bind fun ti=>(fX σ (bh σ x)).bind fun cs=>if ti.size<=cs.length then ML ti.kind.isAgg (cs.take ti.size) else none
 | .fieldAddr t x i=>(aA P t).bind fun ti=>(ti.kind.fields[i]?).bind fun f=>(aA P f.2).bind fun fi=>if fi.size≠0 then jO f.1 (bh σ x) else none
 | .indexAddr t x i=>(aA P t).bind fun ti=>(ti.kind.elem?).bind fun e=>(aA P e).bind fun ei=>match bh σ i with
   | .sc (.int _ n)=>qw ei.size n (bh σ x)
   | _=>none
 | .slice t x lo hi none=>(aA P t).bind fun ti=>(ti.kind.elem?).bind fun e=>(aA P e).bind fun ei=>(lW (bh σ x)).bind fun len=>(yO σ 0 lo).bind fun l=>(yO σ len hi).bind fun hh=>Ik ei.size l hh (bh σ x)
 | .build t parts=>(aA P t).bind fun ti=>(placesOf P ti.kind.fields).bind fun ps=>match ti.kind with
   | .struct _=>(nK (ps[·]?) (ti.zero.cells.toList.map .sc) (parts.toList.map fun x=>(x.1,bh σ x.2))).map .agg
   | _=>none
 | .makeFunc (.func f) first caps=>if first.toList=[] then some (.fn f (caps.toList.map (bh σ))) else none
 | .nilCheck x=>Iu (bh σ x)
 | .call { callee:= .builtin b,args:=xs,argTypes:=ts }=>match b,xs.toList,ts.toList with
   | .len,[x],[t]=>match lW (bh σ x) with
     | some n=>(aA P t).bind fun ti=>(ti.kind.elem?).map fun _=> .sc (.int .i64 n)
     | none=>(oh (bh σ x)).bind fun v=>(aQ P (Builtin.len_ #[t] 0 #[v])).map .sc
   | .min,_,_=>(nE (xs.toList.map (bh σ))).bind fun vs=>(aQ P (Builtin.min_ ts 0 vs.toArray)).map .sc
   | .max,_,_=>(nE (xs.toList.map (bh σ))).bind fun vs=>(aQ P (Builtin.max_ ts 0 vs.toArray)).map .sc
   | _,_,_=>none
 | _=>none
theorem Np {α:Type} {a:Array α} {x:α} (h:a.toList=[x]):a = #[x]:=by
 apply Ig.1;simpa using h
theorem V1 {α:Type} {a:Array α} (h:a.toList=[]):a = #[]:=by
 apply Ig.1;simpa using h
theorem jx {P:Program} {σ:St} {op:Op} {d:D} (h:gS P σ op=some d):Sound P σ op d:=by
 unfold gS at h
 split at h
 ·simp only[fD] at h;subst h;exact Sound.move _
 ·simp only[fD] at h;subst h;exact Sound.assign _
 ·split at h
  ·rename_i hc;simp only[fD] at h;subst h;exact Sound.pick _ _ _ _ hc
  ·cases h
 ·split at h
  ·rename_i hx;exact Sound.extract _ _ _ _ hx h
  ·cases h
 ·simp only[j3,ku] at h;obtain ⟨u,hu,v,hv,z,hz,rfl⟩:=h;exact Sound.binOp _ _ _ _ _ _ _ _ hu hv (Ab hz)
 ·simp only[j3,ku] at h;obtain ⟨u,hu,z,hz,rfl⟩:=h;exact Sound.unOp _ _ _ _ _ hu (CS hz)
 ·split at h
  ·rename_i z hz;simp only[fD] at h;subst h;simp only[j3] at hz;obtain ⟨rows,h1,h2⟩:=hz;exact Sound.bytes _ _ _ h1 h2
  ·simp only[j3,ku] at h;obtain ⟨u,hu,z,hz,rfl⟩:=h;exact Sound.convert _ _ _ _ _ hu (w9 hz)
 ·simp only[j3,ku] at h;obtain ⟨u,hu,v,hv,z,hz,rfl⟩:=h;exact Sound.index _ _ _ _ _ _ hu hv hz
 ·simp only[j3] at h;obtain ⟨ti,ht,f,hf,fi,nW,h⟩:=h
  split at h
  ·rename_i cs hx
   split at h
   ·rename_i hl;exact Sound.field _ _ _ ti fi cs f.1 f.2 d ht hf nW hx hl h
   ·cases h
  ·cases h
 ·simp only[j3] at h;obtain ⟨ti,ht,cs,hcs,h⟩:=h
  split at h
  ·rename_i hl;exact Sound.load _ _ ti cs d ht hcs hl h
  ·cases h
 ·simp only[j3] at h;obtain ⟨ti,ht,f,hf,fi,nW,h⟩:=h
  split at h
  ·rename_i hn;exact Sound.fieldAddr _ _ _ ti fi f.1 f.2 d ht hf nW hn h
  ·cases h
 ·simp only[j3] at h;obtain ⟨ti,ht,e,hk,ei,he,h⟩:=h
  split at h
  ·rename_i hi;exact Sound.indexAddr _ _ _ ti ei e _ _ d ht hk he hi h
  ·cases h
 ·simp only[j3] at h;obtain ⟨ti,ht,e,hk,ei,he,len,hlen,l,hl,hh,hhi,h⟩:=h;exact Sound.slice _ _ _ _ ti ei e len l hh d ht hk he hlen hl hhi h
 ·simp only[j3] at h;obtain ⟨ti,ht,ps,hp,h⟩:=h
  split at h
  ·rename_i fs hk;simp only[ku] at h;obtain ⟨cells,hc,rfl⟩:=h;rw[hk] at hp;exact Sound.build ht hk hp hc
  ·cases h
 ·split at h
  ·rename_i hf;simp only[fD] at h;subst h;rw[V1 hf];exact Sound.makeFunc _ _
  ·cases h
 ·exact Sound.nilCheck _ h
 ·split at h
  ·rename_i x t hxs hts;rw[Np hxs,Np hts]
   split at h
   ·rename_i n hn;simp only[j3,ku] at h;obtain ⟨ti,ht,e,hk,rfl⟩:=h;exact Sound.len _ _ ti e n ht hk hn
   ·simp only[j3,ku] at h;obtain ⟨v,hv,z,hz,rfl⟩:=h;exact Sound.builtin .len #[x] #[t] [v] _ z (by simp[nE,hv]) rfl hz
  ·simp only[j3,ku] at h;obtain ⟨vs,hv,z,hz,rfl⟩:=h;exact Sound.builtin .min _ _ vs _ z hv rfl hz
  ·simp only[j3,ku] at h;obtain ⟨vs,hv,z,hz,rfl⟩:=h;exact Sound.builtin .max _ _ vs _ z hv rfl hz
  ·cases h
 ·cases h
theorem dH.oZ {P:Program} {all:Array Oper} {Q:Exit->St->Prop} {σ σ':St} {o:Oper} {rest:List Oper} (hw:ij all σ o=some true) (h:cP P σ o σ') (hn:dH P all Q rest σ'):dH P all Q (o::rest) σ:=by
 intro w0 p a w hr;obtain ⟨v,w',h1,h2⟩:=h w0 p a w hr;exact bp (aT hw hr) h1 (hn w0 p _ _ h2)
theorem dH.Py {P:Program} {all:Array Oper} {Q:Exit->St->Prop} {σ:St} {o:Oper} {rest:List Oper} (hw:ij all σ o=some false) (hn:dH P all Q rest (σ.put o.dst (.sc undef))):dH P all Q (o::rest) σ:=by
 intro w0 p a w hr;have hy:=aT hw hr;obtain ⟨ρ,hr⟩:=hr;exact wpList_skip hy (hn w0 p _ _ ⟨ρ,hr.put o.dst (by simp[R])⟩)
def sU (P:Program) (all:Array Oper) (o:Oper) (σ:St):Option St:=
 (ij all σ o).bind fun g=>if g then (gS P σ o.op).map (σ.put o.dst) else some (σ.put o.dst (.sc undef))
theorem dH.sU {P:Program} {all:Array Oper} {Q:Exit->St->Prop} {σ σ':St} {o:Oper} {rest:List Oper} (h:eB.sU P all o σ=some σ') (hn:dH P all Q rest σ'):dH P all Q (o::rest) σ:=by
 simp only[eB.sU,j3] at h;obtain ⟨g,hg,h⟩:=h;cases g
 ·simp only[pT,jd,fD] at h;subst h;exact dH.Py hg hn
 ·simp only[jg,ku] at h;obtain ⟨d,hd,rfl⟩:=h;exact dH.oZ hg (jx hd).steps hn
def pK (P:Program) (all:Array Oper):List Oper->St->Option St
 | [],σ=>some σ
 | o::l,σ=>(sU P all o σ).bind (pK P all l)
theorem dH.run {P:Program} {all:Array Oper} {Q:Exit->St->Prop} {σ':St}:∀ {l1 l2:List Oper} {σ:St},pK P all l1 σ=some σ'->dH P all Q l2 σ'->dH P all Q (l1++l2) σ
 | [],_,_,h,hn=>by simp only[pK,fD] at h;subst h;exact hn
 | o::l,_,_,h,hn=>by
   simp only[pK,j3] at h;obtain ⟨σ1,h1,h2⟩:=h;exact dH.sU h1 (dH.run h2 hn)
theorem ay.run {P:Program} {id:Nat} {l:List Oper} {Q:Exit->St->Prop} {σ σ':St} (h:pK P l.toArray l σ=some σ') (hn:Q .normal σ'):ay P (.region id l.toArray false) Q σ:=
 ay.region (by have:=dH.run (l2:=[]) (Q:=Q) h (dH.nil hn);simpa using this)
theorem ox {P:Program} {all:Array Oper} {w0:World} {p:Pm} {w:World} {ρ:Nm} {K:Act->Prop}:∀ {l:List Oper} {σ σ':St} {a:Act},pK P all l σ=some σ'->aU w0 p σ a w ρ->
  (∀ a',aU w0 p σ' a' w ρ->K a')->wpStill P all w K l a
 | [],σ,σ',a,h,hr,hK=>by
   simp only[pK,fD] at h;subst h;exact hK a hr
 | o::l,σ,σ',a,h,hr,hK=>by
   simp only[pK,j3] at h;obtain ⟨σ1,h1,h2⟩:=h;simp only[eB.sU,j3] at h1;obtain ⟨g,hg,h1⟩:=h1;have SW:Region.wanted o (yielded all a.tmps)=g:=aT hg ⟨ρ,hr⟩;unfold wpStill;rw[SW];cases g
   ·simp only[pT,jd,fD] at h1 ⊢;subst h1;exact ox h2 (hr.put o.dst (by simp[R])) hK
   ·simp only[jg,ku] at h1 ⊢;obtain ⟨d,hd,rfl⟩:=h1;obtain ⟨v,hv,hR⟩:=jx hd w0 p a w ρ o rfl hr;unfold Oper.still;rw[hv,Oper.stillUpon_value];exact ox h2 (hr.put o.dst hR) hK
theorem ay.drawn {P:Program} {id:Nat} {l:List Oper} {Q:Exit->St->Prop} {σ σ':St} (hm:P.follows .mixedOrders=true) (hB:Region.lexB .any l.toArray=true) (h:pK P l.toArray l σ=some σ') (hn:Q .normal σ'):
  ay P (.region id l.toArray true) Q σ:=by
 rintro w0 p a w ⟨ρ,hr⟩;exact wp_region_still_lit hm hB (ox h hr.drew fun a' hr'=>⟨σ',hn,ρ,hr'⟩)
theorem dH.runN {P:Program} {all:Array Oper} {Q:Exit->St->Prop} {l:List Oper} {σ σ':St} (n:Nat) (h:pK P all (l.take n) σ=some σ') (hn:dH P all Q (l.drop n) σ'):dH P all Q l σ:=by
 have:=dH.run h hn
 rwa [JS] at this
theorem dH.done {P:Program} {all:Array Oper} {Q:Exit->St->Prop} {l:List Oper} {σ σ':St} (h:pK P all l σ=some σ') (hn:Q .normal σ'):dH P all Q l σ:=by
 have:=dH.run (l2:=[]) h (dH.nil hn)
 rwa [yM] at this
theorem cZ.to {σ σ':St} (bs:List Bool) (h:({ σ with slots:=ve bs σ.slots }:St)=σ'):∀ w0 p a w,Rel w0 p σ a w->Rel w0 p σ' a w:=by
 intro w0 p a w hr;rw[<- h];exact cZ.mask σ bs w0 p a w hr
theorem QE {P:Program} {ts:Array TypeId} {ty:TypeId} {k k':IntKind} {x y:Int}:aQ P (Builtin.min_ ts ty [Value.int k x,Value.int k' y].toArray)=some (.int k (if y<x then y else x)):=rfl
theorem QF {P:Program} {ts:Array TypeId} {ty:TypeId} {k k':IntKind} {x y:Int}:aQ P (Builtin.max_ ts ty [Value.int k x,Value.int k' y].toArray)=some (.int k (if x<y then y else x)):=rfl
end Go.eB
namespace Go.eB
open Go.RowKit Go.ChangeShapes Go.WideShapes Go.ChangeAt
section
variable {H:Type} {enc:TypeId×Value->H} {P:Program}
theorem Ac (hl:laidOutB P=true) {W W':World} (hb:Below W.heap.size W W'):∀ {ts:List TypeId} {vs:List Value} {ds:List (DataW H)} {ps:List MemPlace},(∀ t∈ts,P.readableRec t=true/\t<P.types.size)->
  DataW.TrodAll enc P W 0 (fun _=>true) true ts vs ds ps->(∀ x∈ps,x.block<W.heap.size)->DataW.TrodAll enc P W' 0 (fun b=>decide (b<W.heap.size)) true ts vs ds ps
 | [],vs,ds,ps,_,h,_=>by
   obtain ⟨rfl,rfl,rfl⟩:=trodAll_nil h;exact trodAll_mk0
 | t::ts,vs,ds,ps,hr,h,hlt=>by
   obtain ⟨v,vs',d,ds',p,q,rfl,rfl,rfl,h1,h2⟩:=trodAll_cons h;obtain ⟨r1,r2⟩:=hr t (by simp);exact trodAll_cons_mk (Below.trod hl r1 r2 h1 hb (fun x hx=>hlt x (by simp[hx]))) (Ac hl hb (fun t' ht'=>hr t' (by simp[ht'])) h2 (fun x hx=>hlt x (by simp[hx])))
theorem Kk {f:Func} {s:ChangeSpec} {W W':World} {args:Array Value} {ds gs:List (DataW H)} {before:List MemPlace} {tb:TypeId} (hW:DataW.Whole enc P f.params.toList s.vars false W args.toList ds gs before) (hvars:s.vars=[])
  (hl:laidOutB P=true) (hr:f.params.toList.all (fun t=>P.readableRec t&&decide (t<P.types.size))=true) (hs:∀ gs',gs'=[]->s.fn H (ds++gs')={ results:=[.lit (.bool true)],args:=ds }) (hres:f.resultTypes = #[tb]) (htb:P.underlying tb=some .bool)
  (hb:Below W.heap.size W W'):s.post enc P f false true false false W args (.bool true) W':=by
 have hlt:=hW.lt;have V2:=hW;obtain ⟨p,q,hA,hV,rfl,hz,hn⟩:=hW
 have Vz:gs=[]/\q=[]:=by
  rw[hvars] at hV;cases gs with
  | nil=>simp only[DataW.TrodVars] at hV;exact ⟨rfl,hV⟩
  | cons x xs=>simp[DataW.TrodVars] at hV
 obtain ⟨rfl,rfl⟩:=Vz;have Kl:=hs [] rfl;have hargs:=Ac hl hb (fun t ht=>by have:=yN.1 hr t ht;simpa using this) hA (fun x hx=>hlt x (by simp[hx]));refine ⟨ds,[],p++[],[],p,[],V2,?_,?_,?_,World.keptBut_mono (fun x hx=>⟨hx,Or.inr (Or.inl (by simpa using hx))⟩) (hb.frame (· ∈p++[])),fun h=>by cases h⟩
 ·rw[Kl,hres];exact trodAll_mk1 (shut_bool htb true)
 ·rw[Kl];exact hargs
 ·rw[Kl,hvars];rfl
theorem Km {f:FuncId} {fn:Func} {s:ChangeSpec} {W:World} {args:Array Value} {ds gs:List (DataW H)} {before:List MemPlace} {tb:TypeId} {xs:List D} (hW:DataW.Whole enc P fn.params.toList s.vars false W args.toList ds gs before) (hvars:s.vars=[])
  (hl:laidOutB P=true) (hr:fn.params.toList.all (fun t=>P.readableRec t&&decide (t<P.types.size))=true) (hs:∀ gs',gs'=[]->s.fn H (ds++gs')={ results:=[.lit (.bool true)],args:=ds }) (hres:fn.resultTypes = #[tb]) (htb:P.underlying tb=some .bool)
  (hx:RL W (fun g=>g<W.heap.size) (fun _=>none) xs args.toList) (hc:ak P f xs (.sc (.bool true)) []):Calls P f args W fun e W'=> ∃ v,e = .returned v/\s.post enc P fn false true false false W args v W':=by
 have h:=hc.run W _ YN args.toList (fun g hg=>hg) ⟨fun j=>by simp[RO],fun j j' g h=>by simp at h,fun j g h=>by simp at h,fun j g h=>by simp at h⟩ hx;rw[Array.toArray_toList] at h;refine h.mono ?_;rintro e W' ⟨v,rfl,ρ,ho⟩;have SX:=ho.ret;simp only[R] at SX;subst SX;exact ⟨_,rfl,Kk hW hvars hl hr hs hres htb ⟨ho.below.os,ho.below.tape,ho.below.output,ho.below.size,fun k hk=>ho.below.block k hk (by rintro ⟨j,hj,_⟩;simp at hj)⟩⟩
theorem G4 {W:World} {base:Nat} {t:TypeId} {k:IntKind} {v:Value} {d:DataW H} {ps:List MemPlace} (ht:P.underlying t=some (.int k)) (hv:Value.okWide P W .any base t v) (h:DataW.Trod enc P W 0 (fun _=>true) true t v d ps):
  ∃ n,R W (fun g=>g<W.heap.size) (fun _=>none) (.sc (.int k n)) v/\(Lit.int k n).wf=true:=by
 obtain ⟨n,rfl,_,_,hw⟩:=open_int ht hv h;exact ⟨n,by simp[R],hw⟩
theorem Kn {W:World} {base:Nat} {t e:TypeId} {k:IntKind} {v:Value} {d:DataW H} {ps:List MemPlace} (ht:P.underlying t=some (.slice e)) (he:P.underlying e=some (.int k)) (hc:P.cellsOf e=1)
  (hv:Value.okWide P W .any base t v) (h:DataW.Trod enc P W 0 (fun _=>true) true t v d ps):
  ∃ zs:List Int,R W (fun g=>g<W.heap.size) (fun _=>none) (.sl 1 (zs.map fun z=>[.sc (.int k z)])) v/\(∀ z∈zs,(Lit.int k z).wf=true)/\zs.length<=maxLen:=by
 obtain ⟨A,n,c,rfl⟩:=okWide_slice ht hv;obtain ⟨fuel,hf⟩:=h;rcases open_ints ht he hc hf with ⟨h1,_⟩|⟨a,len,cap,zs,h1,_,h2,h3,h4,_,h5,h6⟩
 ·have e:Value.slice A n c = .slice none 0 0:=by simpa[Value.cells] using h1
  rw[e];exact ⟨[],by simp only[R];exact ⟨none,0,rfl,by simp,ek _, .inl rfl⟩,by simp,ek _⟩
 ·have e:Value.slice A n c = .slice (some a) len cap:=by simpa[Value.cells] using h1
  rw[e];have hlz:len<=zs.length:=by rw[h4];split<;>omega
  have hl:(zs.take len).length=len:=by rw[cw];omega
  refine ⟨zs.take len,?_,fun z hz=>h6 z (zR hz),by omega⟩;simp only[R,dD,hl];refine ⟨some a,cap,rfl,h2,h3,?_⟩;by_cases h0:len=0
  ·left;simp[h0]
  ·right;have hc0:=h5 0 (by omega);obtain ⟨g,off,spot⟩:=a
   have SY:spot=none:=by
    cases spot with
    | none=>rfl
    | some x=>simp[Addr.add,World.cell?] at hc0;split at hc0<;>simp at hc0
   subst SY
   have hlt:g<W.heap.size:=by
    have:=World.block_lt_of_cell? W _ hc0;rw[Addr.add_lit] at this;exact this
   refine ⟨g,off,rfl,hlt,?_⟩
   have key:∀ (l:List Int) (i:Nat),(∀ j z,l[j]? = some z->W.cell? ⟨g,off+i+j,none⟩=some (.int k z))->RR W (fun g=>g<W.heap.size) 1 g (off+i) (l.map fun z=>[.sc (.int k z)]):=by
    intro l
    induction l with
    | nil=>intro i _;simp[RR]
    | cons z l ih=>
      intro i hl;simp only[fk,RR,RC];refine ⟨rfl,⟨⟨_,by simpa using hl 0 z (by simp),rfl,by simp[R]⟩,trivial⟩,?_⟩
      have:=ih (i+1) (fun j z' hj=>by
       have:=hl (j+1) z' (by simpa using hj)
       rwa [show off+i+(j+1)=off+(i+1)+j by omega] at this)
      rwa [show off+(i+1)=off+i+1 by omega] at this
   have:=key (zs.take len) 0 (fun j z hj=>by
    rw[JG] at hj
    split at hj
    ·have h7:=h5 j (by omega);rw[Addr.add_lit] at h7;simp only[List.getD,hj,Option.getD_some] at h7;simpa using h7
    ·cases hj)
   simpa using this
end
end Go.eB
namespace Go.eB
open Go.RowKit
def pZ:Op->Bool
 | .box .. | .alloc _ | .buildSlice .. | .makeSlice .. | .store .. =>true
 | .call { callee:= .builtin .append, .. }=>true
 | _=>false
def St.BE (σ:St) (d:Nat) (x:Obj) (v:D):St:=St.put { σ.bF [d] with heap:=aG (σ.bF [d]).heap d x } (some d) v
def CW (z:Value) (n:Nat):List D:=(List.replicate n (z.cells.toList.map .sc)).flatten
theorem Ko {z:Value} {k:Nat} (h:z.cells.size=k):∀ n,CW z n=jB z (n*k):=by
 intro n
 induction n with
 | zero=>simp[CW,jB]
 | succ n ih=>
   have h1:jB z ((n+1)*k)=jB z (n*k)++z.cells.toList.map .sc:=by
    simp only[jB,sN,Qu,List.range_add,vN,H7]
    congr 1
    apply MD;intro i;simp only[wR];by_cases hi:i<k
    ·rw[List.getElem?_range hi];have hi':i<z.cells.size:=by omega
     simp only[Option.map_some,Function.comp_apply,h,Nat.mul_add_mod_self_right,Nat.mod_eq_of_lt hi];rw[Nb z.cells i hi',oe,Pf hi'];rfl
    ·rw[GU (by simp;omega),oe,Sz (by omega)];rfl
   rw[h1, <- ih];simp[CW,List.replicate_succ']
def BF (P:Program) (σ:St) (o:Oper):Option St:=
 match o.op,o.dst with
 | .box _ x,some d=>if hfree σ.heap d then (cellsD (bh σ x)).map fun cs=>σ.BE d (.box (og d cs)) (.ref d 0) else none
 | .alloc t,some d=>if hfree σ.heap d then (aA P t).map fun ti=>σ.BE d (.box (ti.zero.cells.toList.map .sc)) (.ref d 0) else none
 | .buildSlice t n parts,some d=>if hfree σ.heap d then (aA P t).bind fun ti=>(ti.kind.elem?).bind fun e=>(aA P e).bind fun ei=>
   if n<=16777216/\n*ei.size<=16777216 then if ei.zero.cells.size=ei.size then (nK (fun i=>some (i*ei.size,ei.size)) (CW ei.zero n) (parts.toList.map fun x=>(x.1,bh σ x.2))).bind fun cells=>
    if cells.length=n*ei.size/\cells.all qP=true/\jA cells=true then some (σ.BE d (.row ei.size (chunks ei.size n cells)) (.cW d ei.size 0 n)) else none else none
   else none
   else none
 | .makeSlice t lx cx,some d=>if hfree σ.heap d then (aA P t).bind fun ti=>(ti.kind.elem?).bind fun e=>(aA P e).bind fun ei=>match bh σ lx,bh σ cx with
   | .sc (.int _ l), .sc (.int _ c)=>if 0<=l/\l<=c/\ei.bytes*c.toNat<=281474976710656/\c<=9223372036854775807 then
     if ei.zero.cells.size=ei.size/\0<ei.size/\ei.zero.cells.toList.all (·.oneCell')=true then some (σ.BE d (.row ei.size (List.replicate c.toNat (ei.zero.cells.toList.map .sc))) (.cW d ei.size 0 l.toNat)) else none
     else none
   | _,_=>none
   else none
 | .store t ax vx,dst=>(aA P t).bind fun ti=>(cellsD (bh σ vx)).bind fun vs=>if vs.length=ti.size then (ur σ vs (bh σ ax)).map fun x=>St.put { σ with heap:=aG σ.heap x.1 x.2 } dst (.sc undef) else none
 | .call { callee:= .builtin .append,args:=xs,argTypes:=ts },some d=>match xs.toList,ts.toList with
   | [s,x],[t,t']=>if hfree σ.heap d=true/\t=t' then (aA P t).bind fun ti=>(ti.kind.elem?).bind fun e=>(aA P e).bind fun ei=>(Fj σ ei.size (bh σ s)).bind fun sr=>(iJ σ ei.size (bh σ x)).bind fun es=>
     if (sr.2.length+es.length)*ei.bytes<=140737488355328 then
      if ei.zero.cells.size=ei.size/\ei.zero.cells.toList.all (·.oneCell')=true/\0<ei.bytes then some (σ.CQ sr.1 d ei.size (sr.2++es)) else none
     else none
     else none
   | _,_=>none
 | _,_=>none
theorem SZ {α:Type} {a:Array α} {x y:α} (h:a.toList=[x,y]):a = #[x,y]:=by
 apply Ig.1;simpa using h
theorem Fl {P:Program} {σ σ':St} {o:Oper} (h:BF P σ o=some σ'):cP P σ o σ':=by
 unfold BF at h
 split at h
 ·rename_i t x d ho hd
  split at h
  ·rename_i hh;simp only[ku] at h;obtain ⟨cs,hcs,rfl⟩:=h;exact cP.box ho hd hh hcs
  ·cases h
 ·rename_i t d ho hd
  split at h
  ·rename_i hh;simp only[ku] at h;obtain ⟨ti,Nq,rfl⟩:=h;exact cP.alloc ho hd hh Nq
  ·cases h
 ·rename_i t n parts d ho hd
  split at h
  ·rename_i hh;simp only[j3] at h;obtain ⟨ti,Nq,e,he,ei,QD,h⟩:=h
   split at h
   ·rename_i hn
    split at h
    case isFalse=>cases h
    rename_i hzs;simp only[j3] at h;obtain ⟨cells,hc,h⟩:=h;rw[Ko hzs] at hc
    split at h
    ·rename_i Pz;simp only[fD] at h;subst h;exact cP.buildSlice ho hd hh Nq he QD hn.1 hn.2 hc Pz.1 Pz.2.1 Pz.2.2
    ·cases h
   ·cases h
  ·cases h
 ·rename_i t lx cx d ho hd
  split at h
  ·rename_i hh;simp only[j3] at h;obtain ⟨ti,Nq,e,he,ei,QD,h⟩:=h
   split at h
   ·rename_i kl l kc c hl hc
    split at h
    ·rename_i hn;obtain ⟨h0,hlc,hb,h63⟩:=hn
     split at h
     ·rename_i hz;simp only[fD] at h;subst h;exact cP.makeSlice (l:=l.toNat) (c:=c.toNat) ho hd hh Nq he QD (by rw[hl];congr;omega) (by rw[hc];congr;omega) (by omega) hb (by omega) hz.1 hz.2.1 hz.2.2
     ·cases h
    ·cases h
   ·cases h
  ·cases h
 ·rename_i t ax vx ho;simp only[j3] at h;obtain ⟨ti,Nq,vs,hvs,h⟩:=h
  split at h
  ·rename_i hl;simp only[ku] at h;obtain ⟨x,hx,rfl⟩:=h;exact cP.store ho Nq hvs hl hx
  ·cases h
 ·rename_i xs ts d ho hd
  split at h
  ·rename_i s x t t' hxs hts
   split at h
   ·rename_i hh;obtain ⟨hh,rfl⟩:=hh;simp only[j3] at h;obtain ⟨ti,Nq,e,he,ei,QD,sr,QG,es,Y4,h⟩:=h
    split at h
    ·rename_i hb
     split at h
     ·rename_i hz;simp only[fD] at h;subst h;exact cP.append (by rw[ho,SZ hxs,SZ hts]) hd Nq he QD hz.1 hz.2.1 hz.2.2 hh QG Y4 hb
     ·cases h
    ·cases h
   ·cases h
  ·cases h
 ·cases h
def sW (P:Program) (all:Array Oper) (o:Oper) (σ:St):Option St:=
 (ij all σ o).bind fun g=>if g then (if pZ o.op then BF P σ o else (gS P σ o.op).map (σ.put o.dst)) else some (σ.put o.dst (.sc undef))
theorem dH.sW {P:Program} {all:Array Oper} {Q:Exit->St->Prop} {σ σ':St} {o:Oper} {rest:List Oper} (h:eB.sW P all o σ=some σ') (hn:dH P all Q rest σ'):dH P all Q (o::rest) σ:=by
 simp only[eB.sW,j3] at h;obtain ⟨g,hg,h⟩:=h;cases g
 ·simp only[pT,jd,fD] at h;subst h;exact dH.Py hg hn
 ·simp only[jg] at h;by_cases he:pZ o.op=true
  ·simp only[he,jg] at h;exact dH.oZ hg (Fl h) hn
  ·simp only[he,pT,jd,ku] at h;obtain ⟨d,hd,rfl⟩:=h;exact dH.oZ hg (jx hd).steps hn
def xd (P:Program) (all:Array Oper):List Oper->St->Option St
 | [],σ=>some σ
 | o::l,σ=>(sW P all o σ).bind (xd P all l)
theorem dH.xd {P:Program} {all:Array Oper} {Q:Exit->St->Prop} {σ':St}:∀ {l1 l2:List Oper} {σ:St},eB.xd P all l1 σ=some σ'->dH P all Q l2 σ'->dH P all Q (l1++l2) σ
 | [],_,_,h,hn=>by simp only[eB.xd,fD] at h;subst h;exact hn
 | o::l,_,_,h,hn=>by
   simp only[eB.xd,j3] at h;obtain ⟨σ1,h1,h2⟩:=h;exact dH.sW h1 (dH.xd h2 hn)
theorem dH.S0 {P:Program} {all:Array Oper} {Q:Exit->St->Prop} {l:List Oper} {σ σ':St} (h:eB.xd P all l σ=some σ') (hn:Q .normal σ'):dH P all Q l σ:=by
 have:=dH.xd (l2:=[]) h (dH.nil hn)
 rwa [yM] at this
theorem ay.xd {P:Program} {id:Nat} {l:List Oper} {Q:Exit->St->Prop} {σ σ':St} (h:eB.xd P l.toArray l σ=some σ') (hn:Q .normal σ'):ay P (.region id l.toArray false) Q σ:=
 ay.region (dH.S0 h hn)
theorem Fm (k:IntKind) (z:Int):(Value.int k z).cells = #[.int k z]:=rfl
theorem CX (b:Bool):(Value.bool b).cells = #[.bool b]:=rfl
theorem y8 (b:ByteArray):(Value.string b).cells = #[.string b]:=rfl
theorem Fo:(Value.slice none 0 0).cells = #[.slice none 0 0]:=rfl
theorem Nr (k:IntKind) (z:Int):(Value.int k z).oneCell'=true:=rfl
theorem Kp (b:Bool):(Value.bool b).oneCell'=true:=rfl
theorem Fp (b:ByteArray):(Value.string b).oneCell'=true:=rfl
theorem Ns:(Value.slice none 0 0).oneCell'=true:=rfl
mutual
def mS:D->Bool
 | .any | .sc _ | .ref _ _ | .jN _ _ _ _ | .cW _ _ _ _ | .mp _=>true
 | .agg cs | .cT cs | .fn _ cs=>o6 cs
 | .sl _ rows=>rows.isEmpty
 | .ro _=>false
def o6:List D->Bool
 | []=>true
 | d::ds=>mS d&&o6 ds
end
mutual
theorem rN {w:World} {st st':Nat->Prop} {ρ:Nat->Option (Option Nat)}:∀ {d:D} {v:Value},mS d=true->R w st ρ d v->R w st' ρ d v
 | .any,_,_,_=>by simp[R]
 | .sc _,_,_,h=>by simpa[R] using h
 | .ref _ _,_,_,h=>by simpa[R] using h
 | .mp _,_,_,h=>by simpa[R] using h
 | .jN _ _ _ _,_,_,h=>by simpa[R] using h
 | .cW _ _ _ _,_,_,h=>by simpa[R] using h
 | .agg _,_,hf,h=>by
   simp only[R] at h ⊢;obtain ⟨vs,h1,h2⟩:=h;exact ⟨vs,h1,lZ (by simpa[mS] using hf) h2⟩
 | .cT _,_,hf,h=>by
   simp only[R] at h ⊢;obtain ⟨vs,h1,h2⟩:=h;exact ⟨vs,h1,lZ (by simpa[mS] using hf) h2⟩
 | .fn _ _,_,hf,h=>by
   simp only[R] at h ⊢;obtain ⟨vs,h1,h2⟩:=h;exact ⟨vs,h1,lZ (by simpa[mS] using hf) h2⟩
 | .sl _ rows,_,hf,h=>by
   simp only[R] at h ⊢;obtain ⟨a,c,h1,h2,h3,h4⟩:=h;have:rows=[]:=by simpa[mS] using hf
   exact ⟨a,c,h1,h2,h3, .inl this⟩
 | .ro _,_,hf,_=>by simp[mS] at hf
theorem lZ {w:World} {st st':Nat->Prop} {ρ:Nat->Option (Option Nat)}:∀ {ds:List D} {vs:List Value},o6 ds=true->RL w st ρ ds vs->RL w st' ρ ds vs
 | [],_,_,h=>by simpa[RL] using h
 | d::ds,_,hf,h=>by
   simp only[o6,jj] at hf;simp only[RL] at h ⊢;obtain ⟨v,vs',h1,h2,h3⟩:=h;exact ⟨v,vs',h1,rN hf.1 h2,lZ hf.2 h3⟩
end
theorem xg {w:World} {st st':Nat->Prop} {g:Nat}:∀ {cs:List D} {off:Nat},o6 cs=true->RC w st g off cs->RC w st' g off cs
 | [],_,_,h=>by simp[RC]
 | d::ds,_,hf,h=>by
   simp only[o6,jj] at hf;simp only[RC] at h ⊢;obtain ⟨⟨v,h1,h2,h3⟩,h4⟩:=h;exact ⟨⟨v,h1,h2,rN hf.1 h3⟩,xg hf.2 h4⟩
theorem xh {w:World} {st st':Nat->Prop} {k g:Nat}:∀ {rows:List (List D)} {off:Nat},rows.all o6=true->RR w st k g off rows->RR w st' k g off rows
 | [],_,_,h=>by simp[RR]
 | r::rs,_,hf,h=>by
   simp only[List.all_cons,jj] at hf;simp only[RR] at h ⊢;exact ⟨h.1,xg hf.1 h.2.1,xh hf.2 h.2.2⟩
def Ad:Obj->Bool
 | .dead=>true
 | .row _ rows=>rows.all o6
 | .box cs=>o6 cs
 | .ext _=>false
theorem G5 {ret:D} {outs:List Obj} (h:mS ret=true) (ho:outs.all Ad=true):Flat ret outs:=by
 refine ⟨fun _ _ _ _ _ hr=>rN h hr,fun x hm w st st' ρ j hr=>?_⟩;have hf:Ad x=true:=yN.1 ho x hm;cases x with
 | dead=>simp[RO]
 | row k rows=>
   simp only[RO] at hr ⊢
   split at hr
   ·exact hr
   ·exact hr
   ·obtain ⟨cur,e,cap,r1,r2,r3,r4,r5⟩:=hr;exact ⟨cur,e,cap,r1,r2,r3,r4,xh hf r5⟩
 | box cs=>
   simp only[RO] at hr ⊢;obtain ⟨g,cur,e,r1,r2,r3⟩:=hr;exact ⟨g,cur,e,r1,r2,lZ hf r3⟩
 | ext e=>simp[Ad] at hf
theorem G6 {σ:St} {x:Option Nat} {u:D} {y:Operand} (h:∀ d,x=some d->y≠ .tmp d):bh (σ.put x u) y=bh σ y:=by
 cases x with
 | none=>rfl
 | some d=>
   cases y with
   | tmp t=>
     have hne:d≠t:=fun e=>h d rfl (by rw[e]);simp[bh,St.put,List.getD,ua hne]
   | _=>rfl
theorem CY {σ:St} {x:Option Nat} {u:D}:(σ.put x u).heap=σ.heap:=by cases x<;>rfl
theorem put_comm (σ:St) {x y:Option Nat} (v u:D) (h:∀ d,x=some d->y≠some d):(σ.put x v).put y u=(σ.put y u).put x v:=by
 cases x with
 | none=>rfl
 | some d=>
   cases y with
   | none=>rfl
   | some e=>
     have hne:d≠e:=fun he=>h d rfl (by rw[he]);simp only[St.put,St.mk.injEq,and_true];exact List.set_comm _ _ hne
theorem vW {σ σ':St} (h:σ'.heap=σ.heap) (d:D):fX σ' d=fX σ d:=by
 cases d<;>simp[fX,h]
theorem BG {σ σ':St} (h:σ'.heap=σ.heap) (k:Nat) (d:D):iJ σ' k d=iJ σ k d:=by
 unfold iJ
 split<;>simp[h]
theorem Ae {σ σ':St} {n:Nat} {x:Option Operand} (h:∀ y,x=some y->bh σ' y=bh σ y):yO σ' n x=yO σ n x:=by
 cases x with
 | none=>rfl
 | some y=>simp only[yO,h y rfl]
theorem Fq {P:Program} {σ σ':St} {op:Op} (hh:σ'.heap=σ.heap) (h:∀ x∈op.operands,bh σ' x=bh σ x):gS P σ' op=gS P σ op:=by
 cases op
 case slice t x lo hi mx=>
  cases mx with
  | some m=>rfl
  | none=>
    have h1:bh σ' x=bh σ x:=h x (by simp[Op.operands]);have h2:∀ n,yO σ' n lo=yO σ n lo:=fun n=>Ae fun y hy=>h y (by simp[Op.operands,hy]);have h3:∀ n,yO σ' n hi=yO σ n hi:=fun n=>Ae fun y hy=>h y (by simp[Op.operands,hy]);simp only[gS,h1,h2,h3]
 case build t ps=>
  have:(ps.toList.map fun x=>(x.1,bh σ' x.2))=(ps.toList.map fun x=>(x.1,bh σ x.2)):=Pe fun x hx=>by
   rw[h x.2 (by simp only[Op.operands,List.mem_toArray];exact qq.2 ⟨x,hx,rfl⟩)]
  simp only[gS,this]
 case makeFunc f first caps=>
  cases f with
  | func f=>
    have:caps.toList.map (bh σ')=caps.toList.map (bh σ):=Pe fun x hx=>h x (by simp[Op.operands];exact .inr (by simpa using hx));simp only[gS,this]
  | _=>rfl
 case call c=>
  obtain ⟨callee,args,ts⟩:=c;cases callee with
  | builtin b=>
    have h1:∀ x∈args.toList,bh σ' x=bh σ x:=fun x hx=>h x (by simp[Op.operands,Call.operands];simpa using hx);have hm:args.toList.map (bh σ')=args.toList.map (bh σ):=Pe h1;cases b
    case len=>
     simp only[gS]
     split
     ·rename_i x t he ht;rw[h1 _ (by rw[‹args.toList=_›];simp)]
     all_goals simp_all
    all_goals(simp only[gS,hm])
  | _=>rfl
 all_goals(simp only[Op.operands] at h;simp only[gS];try(simp_all[vW hh,BG hh];done))
theorem Af:∀ zs:List Int,fZ byteOf (zs.map fun z=>[.sc (.int .u8 z)])=some zs
 | []=>rfl
 | z::zs=>by simp only[fk,fZ,byteOf,Option.bind_some,Af zs,Option.map_some]
theorem aF.congr {P:Program} {f:FuncId} {ins:List Obj} {args:List D} {ret:D} {outs outs':List Obj} (h:aF P f ins args ret outs) (ho:∀ j,outs'.getD j .dead=outs.getD j .dead):aF P f ins args ret outs':=by
 refine ⟨h.call,fun w st ρ vs hst hin hvs=>(h.run w st ρ vs hst hin hvs).mono ?_⟩;rintro e w' ⟨v,rfl,ρ',hb⟩;have hs:∀ g,JZ w w' st (mL ins ρ) ρ' outs g->JZ w w' st (mL ins ρ) ρ' outs' g:=fun g hg=>⟨hg.1,fun j hj=>hg.2 j (by rw[<- ho];exact hj)⟩
 refine ⟨v,rfl,ρ',⟨hb.below,hb.keep,R.mono (fun _ _ _=>rfl) (fun _ _ hh=>hh) hs hb.ret,fun j=>?_,fun j g hj=>hb.fresh j g (by rw[<- ho];exact hj),fun j j' g hj hj'=>hb.inj j j' g (by rw[<- ho];exact hj) (by rw[<- ho];exact hj'),fun j g hj=>hb.hlt j g (by rw[<- ho];exact hj)⟩⟩;rw[ho];exact RO.mono (fun _ _ _=>rfl) (fun _ _ hh=>hh) hs (fun _ _=>rfl) (hb.objs j)
theorem aF.freeze {P:Program} {f:FuncId} {ins:List Obj} {args:List D} {ret:D} {outs outs':List Obj} (h:aF P f ins args ret outs) (j k:Nat) (rows:List (List D)) (hj:outs.getD j .dead = .row k rows)
  (ho:∀ i,outs'.getD i .dead=if i=j then .dead else (outs.getD i .dead).gu j k rows):aF P f ins args (j6 j k rows ret) outs':=by
 refine ⟨h.call,fun w st ρ vs hst hin hvs=>(h.run w st ρ vs hst hin hvs).mono ?_⟩;rintro e w' ⟨v,rfl,ρ',hb⟩;have Px:∀ x:Obj,x.gu j k rows≠ .dead↔x≠ .dead:=by intro x;cases x<;>simp[Obj.gu]
 have live:∀ i,outs'.getD i .dead≠ .dead->i≠j/\outs.getD i .dead≠ .dead:=by
  intro i hi;rw[ho] at hi;by_cases e:i=j
  ·simp[e] at hi
  ·rw[aE e,Px] at hi;exact ⟨e,hi⟩
 have hs:∀ g,JZ w w' st (mL ins ρ) ρ' outs g->JZ w w' st (mL ins ρ) ρ' outs' g:=fun g hg=>⟨hg.1,fun i hi=>hg.2 i (live i hi).2⟩
 have hro:=hb.objs j;rw[hj] at hro
 have hv:ρ' j=some none->rows=[]:=by
  intro e;simp only[RO,e] at hro;exact hro
 have hr:∀ g,ρ' j=some (some g)->JZ w w' st (mL ins ρ) ρ' outs' g/\RR w' (JZ w w' st (mL ins ρ) ρ' outs') k g 0 rows:=by
  intro g e;have hlt:=hro.lt (by simp) e;simp only[RO,e] at hro;obtain ⟨cur,e',cap,r1,r2,r3,r4,r5⟩:=hro;refine ⟨⟨?_,fun i hi e2=>?_⟩,RR.mono (fun _ _ _=>rfl) (fun _ _ hh=>hh) hs (fun _=>rfl) r5⟩
  ·rcases hb.fresh j g (by rw[hj];simp) (.inl e) with h1|h1
   ·exact .inr (.inr ⟨h1,hlt⟩)
   ·exact .inr (.inl h1)
  ·obtain ⟨n1,l1⟩:=live i hi;exact n1 (hb.inj i j g l1 (by rw[hj];simp) e2 (.inl e))
 refine ⟨v,rfl,ρ',⟨hb.below,hb.keep,R.gu hv hr (R.mono (fun _ _ _=>rfl) (fun _ _ hh=>hh) hs hb.ret),fun i=>?_,fun i g hi=>hb.fresh i g (live i hi).2,fun i i' g hi hi'=>hb.inj i i' g (live i hi).2 (live i' hi').2,fun i g hi=>hb.hlt i g (live i hi).2⟩⟩;rw[ho];by_cases e:i=j
 ·simp[e,RO]
 ·rw[aE e];have h1:=RO.mono (fun _ _ _=>rfl) (fun _ _ hh=>hh) hs (fun _ _=>rfl) (hb.objs i);cases hx:outs.getD i .dead with
  | dead=>simp[RO,Obj.gu]
  | row k' eu=>rw[hx] at h1;exact h1
  | box cs=>
    rw[hx] at h1;simp only[RO,Obj.gu] at h1 ⊢;obtain ⟨g,cur,e',r1,r2,r3⟩:=h1;exact ⟨g,cur,e',r1,r2,RL.gu hv hr r3⟩
  | ext e'=>rw[hx] at h1;exact h1
theorem ak.freeze {P:Program} {f:FuncId} {args:List D} {ret:D} {k:Nat} {rows:List (List D)} (h:ak P f args ret [.row k rows]):ak P f args (j6 0 k rows ret) []:=
 aF.freeze h 0 k rows rfl (fun i=>by cases i<;>simp[Obj.gu])
inductive Val (P:Program) (all:Array Oper) (o:Oper) (σ:St):D->Prop
 | skip:ij all σ o=some false->Val P all o σ (.sc undef)
 | val {d:D}:ij all σ o=some true->gS P σ o.op=some d->Val P all o σ d
 | call {f:FuncId} {caps args:List D} {x:Operand} {xs:Array Operand} {ts:Array TypeId} {ret:D}:ij all σ o=some true->o.op = .call { callee:= .value x,args:=xs,argTypes:=ts }->
   bh σ x = .fn f caps->ak P f args ret []->oq σ [] (xs.toList.map (bh σ)++caps) args [] ret []->vS 0 ret=true->Val P all o σ (CH [] ret)
theorem CZ {σ σ':St} (h:σ'.heap=σ.heap) (ids:List Nat):∀ n d,ef σ' ids n d=ef σ ids n d:=by
 intro n
 induction n with
 | zero=>intro d;rfl
 | succ n ih=>
   have hm:ef σ' ids n=ef σ ids n:=funext ih;intro d;cases d<;>simp only[ef,h,hm]
theorem BH {σ σ':St} (h:σ'.heap=σ.heap) {ds args:List D} {ret:D} {outs:List Obj} (ha:oq σ [] ds args [] ret outs):oq σ' [] ds args [] ret outs:=by
 rcases ha with ⟨ds',ys,h1,hle,h2,hlo⟩|⟨ds',ys,h1,hle,h2,hlo,h3⟩
 ·exact .inl ⟨ds',ys,h1,hle,h2,hlo⟩
 ·refine .inr ⟨ds',ys,?_,hle,h2,hlo,h3⟩;rw[show ef σ' [] 4=ef σ [] 4 from funext (CZ h [] 4)];exact h1
section
variable {P:Program} {all:Array Oper} {o:Oper} {σ:St} {d:D}
theorem xj {x:Option Nat} {u:D} (h:∀ t,x=some t->t∉o.looksAt all):ij all (σ.put x u) o=ij all σ o:=by
 unfold ij;cases hg:o.guard with
 | none=>rfl
 | some gw=>
   obtain ⟨g,want⟩:=gw;simp only;cases ht:(all[g]?).bind (·.dst) with
   | none=>rfl
   | some t=>
     simp only[Option.bind_some]
     have:(σ.put x u).slots.getD t .any=σ.slots.getD t .any:=by
      have:=G6 (σ:=σ) (x:=x) (u:=u) (y:= .tmp t) (fun e he hy=>h e he (by cases hy;simp[Oper.looksAt,hg,ht]));simpa[bh] using this
     rw[this]
theorem Ag {x:Option Nat} {u:D} (h:∀ t,x=some t->t∉o.looksAt all):∀ y∈o.op.operands,bh (σ.put x u) y=bh σ y:=fun y hy=>
 G6 fun e he Y5=>h e he (by
  subst Y5
  exact List.mem_append_left _ (List.mem_filterMap.2 ⟨.tmp e,by simpa using hy,rfl⟩))
theorem C0 {σ':St} (hg:ij all σ' o=ij all σ o) (hh:σ'.heap=σ.heap) (he:∀ y∈o.op.operands,bh σ' y=bh σ y) (h:Val P all o σ d):Val P all o σ' d:=by
 cases h with
 | skip h1=>exact .skip (by rw[hg];exact h1)
 | val h1 h2=>exact .val (by rw[hg];exact h1) (by rw[Fq hh he];exact h2)
 | @call f caps args x xs ts ret h1 h2 h3 h4 h5 h6=>
   have e1:bh σ' x=bh σ x:=he x (by rw[h2];simp[Op.operands,Call.operands]);have e2:xs.toList.map (bh σ')=xs.toList.map (bh σ):=Pe fun y hy=>he y (by rw[h2];simp[Op.operands,Call.operands];exact .inr (by simpa using hy));exact .call (by rw[hg];exact h1) h2 (by rw[e1];exact h3) h4 (by rw[e2];exact BH hh h5) h6
theorem Val.to {x:Option Nat} {u:D} (hl:∀ t,x=some t->t∉o.looksAt all) (h:Val P all o σ d):Val P all o (σ.put x u) d:=
 C0 (xj hl) CY (Ag hl) h
theorem Val.from {x:Option Nat} {u:D} (hl:∀ t,x=some t->t∉o.looksAt all) (h:Val P all o (σ.put x u) d):Val P all o σ d:=
 C0 (xj hl).symm CY.symm (fun y hy=>(Ag hl y hy).symm) h
theorem Val.wpOp (h:Val P all o σ d) {i:Nat} (hi:all[i]? = some o) {Q':Exit->Act->World->Prop} {K:Act->World->Prop} {w0:World} {p:Pm} {a:Act} {w:World} (hr:Rel w0 p σ a w)
  (hK:∀ a' w',Rel w0 p (σ.put o.dst d) a' w'->K a' w'):wpOp P all Q' i K a w:=by
 unfold Go.wpOp;simp only[hi];cases h with
 | skip h1=>
   rw[aT h1 hr];simp only[pT,jd];obtain ⟨ρ,hr⟩:=hr;exact hK _ _ ⟨ρ,hr.put o.dst (by simp[R])⟩
 | val h1 h2=>
   rw[aT h1 hr];obtain ⟨ρ,hr⟩:=hr;obtain ⟨v,hv,hR⟩:=jx h2 w0 p a w ρ o rfl hr;simp only[jg];left;simp only[Oper.wp,hv,Oper.upon];exact hK _ _ ⟨ρ,hr.put o.dst hR⟩
 | @call f caps args x xs ts ret h1 h2 h3 h4 h5 h6=>
   rw[aT h1 hr];obtain ⟨ρ,hr⟩:=hr;have hx':=hr.bh x;rw[h3] at hx';simp only[R] at hx';obtain ⟨vs,hf,CM⟩:=hx';have hrun:=wY (P:=P) (w:=w) h2 hf h4.call;have hall:=iG (mR hr xs.toList) CM
   have has:(xs.map a.eval++vs)=(xs.toList.map a.eval++vs.toList).toArray:=by
    apply Ig.1;simp
   rw[has] at hrun;simp only[jg];left;unfold Oper.wp;rw[hrun,Oper.upon_enter];refine (Rel.call (dst:=o.dst) (ins:=[]) (new:=[]) hr h4 h5 hall (by simp) rfl (by simp) (by simp) h6 (by simp)).mono ?_;rintro e w' ⟨v,rfl,hv⟩;exact hK _ _ hv
end
def Kq (P:Program) (md:Region.Mode) (ops:Array Oper) (Q:St->Prop):Nat->Array Bool->St->Prop
 | 0,listed,σ=>Region.ready md ops listed=[]/\Q σ
 | fuel+1,listed,σ=>(Region.ready md ops listed=[]->Q σ)/\
   ∀ i∈Region.ready md ops listed,∃ o d,ops[i]? = some o/\Val P ops o σ d/\Kq P md ops Q fuel (listed.setIfInBounds i true) (σ.put o.dst d)
section
variable {P:Program} {md:Region.Mode} {ops:Array Oper} {Q:St->Prop}
theorem xk {Q':Exit->Act->World->Prop} {w0:World} {p:Pm} (hQ:∀ σ a w,Q σ->Rel w0 p σ a w->Q' .normal a w):∀ (fuel:Nat) (listed:Array Bool) (σ:St) (a:Act) (w:World),Kq P md ops Q fuel listed σ->Rel w0 p σ a w->
  wpAny P md ops Q' fuel listed a w
 | 0,_,_,_,_,h,hr=>⟨h.1,hQ _ _ _ h.2 hr⟩
 | fuel+1,listed,σ,a,w,h,hr=>⟨fun h0=>hQ _ _ _ (h.1 h0) hr,fun i hi=>by
   obtain ⟨o,d,ho,hv,hn⟩:=h.2 i hi
   exact hv.wpOp ho hr fun a' w' hr'=>xk hQ fuel _ _ a' w' hn hr'⟩
theorem Fs {i:Nat} {oi:Oper} {d:D} (hi:ops[i]? = some oi):∀ (fuel:Nat) (listed:Array Bool) (σ:St),
   (∀ j oj,ops[j]? = some oj->j≠i->listed.getD j true=false->(∀ e∈oj.after,Region.binds md e=true->e.on≠i)->oi.apart ops oj=true)->
   i∈Region.ready md ops listed->Val P ops oi σ d->
   Kq P md ops Q fuel (listed.setIfInBounds i true) (σ.put oi.dst d)->Kq P md ops Q (fuel+1) listed σ:=by
 intro fuel
 induction fuel with
 | zero=>
   intro listed σ _ hr hy H;refine ⟨fun h=>(by rw[h] at hr;cases hr),fun j hj=>?_⟩;by_cases hji:j=i
   ·subst hji;exact ⟨oi,d,hi,hy,H⟩
   ·have:=ready_mono hj hji;rw[H.1] at this;cases this
 | succ fuel ih=>
   intro listed σ hfree hr hy H;refine ⟨fun h=>(by rw[h] at hr;cases hr),fun j hj=>?_⟩;by_cases hji:j=i
   ·subst hji;exact ⟨oi,d,hi,hy,H⟩
   ·obtain ⟨oj,u,Nh,h1,h2⟩:=H.2 j (ready_mono hj hji);obtain ⟨S1,Y6,V3,hall⟩:=mem_ready.1 hj;obtain rfl:oj=Y6:=Option.some.inj (Nh.symm.trans V3)
    have hnot:∀ e∈oj.after,Region.binds md e=true->e.on≠i:=fun e he hb heq=>by
     have h1:=hall e he hb;have h0:=(mem_ready.1 hr).1;rw[heq] at h1;rcases Pt i listed.size with h'|h'
     ·simp[h'] at h0 h1;rw[h0] at h1;cases h1
     ·simp[Sz h'] at h1
    obtain ⟨p1,p2,p3⟩:=Oper.apart_spec (hfree j oj Nh hji S1 hnot)
    have QH:∀ k ok,ops[k]? = some ok->k≠i->(listed.setIfInBounds j true).getD k true=false->
      (∀ e∈ok.after,Region.binds md e=true->e.on≠i)->oi.apart ops ok=true:=fun k ok hk hki hun hno=>by
     refine hfree k ok hk hki ?_ hno;by_cases hjk:j=k
     ·subst hjk;exact S1
     ·rw[getD_set_ne true hjk] at hun;exact hun
    refine ⟨oj,u,Nh,h1.from p1,?_⟩;refine ih (listed.setIfInBounds j true) (σ.put oj.dst u) QH (ready_mono hr (sF hji)) (hy.to p3) ?_;rw[Array.setIfInBounds_comm _ _ hji, <- put_comm σ d u p2];exact h2
def jk (P:Program) (ops:Array Oper) (Q:St->Prop):List Oper->St->Prop
 | [],σ=>Q σ
 | o::l,σ=> ∃ d,Val P ops o σ d/\jk P ops Q l (σ.put o.dst d)
theorem C1:∀ (l:List Oper) (k:Nat) (listed:Array Bool) (σ:St),(∀ j,l[j]? = ops[k+j]?)->Region.lexFrom md ops l.length k listed=true->jk P ops Q l σ->Kq P md ops Q l.length listed σ
 | [],_,_,_,_,hB,h=>⟨by simpa[Region.lexFrom] using hB,h⟩
 | o::l,k,listed,σ,hl,hB,h=>by
   have h0:ops[k]? = some o:=by simpa using (hl 0).symm
   simp only[List.length_cons,Region.lexFrom,jj] at hB;obtain ⟨⟨hr,hf⟩,Y7⟩:=hB;obtain ⟨d,hv,hn⟩:=h
   exact Fs h0 l.length listed σ (Region.free_spec h0 hf) (by simpa using hr) hv
    (C1 l (k+1) _ _ (fun j=>by have:=hl (j+1);simpa[Nat.add_assoc,Nat.add_comm 1 j] using this) Y7 hn)
theorem ay.QI {id:Nat} {l:List Oper} {Q:Exit->St->Prop} {σ:St} (hm:P.follows .mixedOrders=true) (hB:Region.lexB .any l.toArray=true) (h:jk P l.toArray (Q .normal) l σ):ay P (.region id l.toArray true) Q σ:=by
 simp only[Region.lexB,jj] at hB;rintro w0 p a w ⟨ρ,hr⟩;refine wp_region_any hm ?_;have:=C1 (md:= .any) l 0 (Array.replicate l.toArray.size false) σ (by simp) (by simpa using hB.2) h;exact xk (fun σ' a' w' hq hr'=>⟨σ',hq,hr'⟩) _ _ _ _ _ this ⟨ρ,hr.drew⟩
theorem jk.run {l2:List Oper} {σ':St}:∀ {l1:List Oper} {σ:St},pK P ops l1 σ=some σ'->jk P ops Q l2 σ'->jk P ops Q (l1++l2) σ
 | [],_,h,hn=>by simp only[pK,fD] at h;subst h;exact hn
 | o::l,σ,h,hn=>by
   simp only[pK,j3] at h;obtain ⟨σ1,h1,h2⟩:=h;simp only[eB.sU,j3] at h1;obtain ⟨g,hg,h1⟩:=h1;cases g
   ·simp only[pT,jd,fD] at h1;subst h1;exact ⟨_, .skip hg,jk.run h2 hn⟩
   ·simp only[jg,ku] at h1;obtain ⟨d,hd,rfl⟩:=h1;exact ⟨d, .val hg hd,jk.run h2 hn⟩
theorem jk.runN {l:List Oper} {σ σ':St} (n:Nat) (h:pK P ops (l.take n) σ=some σ') (hn:jk P ops Q (l.drop n) σ'):jk P ops Q l σ:=by
 have:=jk.run h hn
 rwa [JS] at this
theorem jk.done {l:List Oper} {σ σ':St} (h:pK P ops l σ=some σ') (hn:Q σ'):jk P ops Q l σ:=by
 have:=jk.run (l2:=[]) h hn
 rwa [yM] at this
theorem jk.call {o:Oper} {rest:List Oper} {σ:St} {f:FuncId} {x:Operand} {xs:Array Operand} {ts:Array TypeId} {caps args:List D} {ret:D} (hg:ij ops σ o=some true)
  (ho:o.op = .call { callee:= .value x,args:=xs,argTypes:=ts }) (hx:bh σ x = .fn f caps) (hc:ak P f args ret []) (hargs:oq σ [] (xs.toList.map (bh σ)++caps) args [] ret []) (hlt:vS 0 ret=true)
  (hn:jk P ops Q rest (σ.put o.dst (CH [] ret))):jk P ops Q (o::rest) σ:=
 ⟨_, .call hg ho hx hc hargs hlt,hn⟩
end
end Go.eB
namespace Go.eB
open Go.RowKit Go.ChangeShapes Go.WideShapes Go.ChangeAt
inductive C where
 | bool|int (k:IntKind)|str|sl (row:List C)
mutual
def Y8:C->D->Prop
 | .bool,d=> ∃ b,d = .sc (.bool b)
 | .int k,d=> ∃ n,d = .sc (.int k n)/\(Lit.int k n).wf=true
 | .str,d=> ∃ s:ByteArray,d = .sc (.string s)/\s.size<=maxLen
 | .sl r,d=> ∃ rows,d = .sl r.length rows/\rows.length<=maxLen/\∀ row∈rows,V4 r row
def V4:List C->List D->Prop
 | [],ds=>ds=[]
 | c::cs,ds=> ∃ d ds',ds=d::ds'/\Y8 c d/\V4 cs ds'
end
def Kr (P:Program) (g:TypeId->Option (List C)):List Field->Nat->Option (List C)
 | [],_=>some []
 | f::fs,off=>(g f.type).bind fun r=>if f.offset=off/\r.length=P.cellsOf f.type then (Kr P g fs (off+r.length)).map (r ++ ·) else none
def S2 (P:Program):Nat->TypeId->Option (List C)
 | 0,_=>none
 | n+1,t=>match P.underlying t with
   | some .bool=>some [.bool]
   | some (.int k)=>some [.int k]
   | some .string=>some [.str]
   | some (.slice e)=>(S2 P n e).bind fun r=>if r.length=P.cellsOf e/\0<r.length then some [.sl r] else none
   | some (.struct fs)=>(Kr P (S2 P n) fs.toList 0).bind fun r=>if r.length=P.cellsOf t then some r else none
   | _=>none
section
variable {H:Type} {enc:TypeId×Value->H} {P:Program} {w:World} {spare:Nat->Bool} {held:Bool}
abbrev Yh (w:World) (r:List C) (cs:List Value):Prop:= ∃ ds,RL w (fun g=>g<w.heap.size) (fun _=>none) ds cs/\V4 r ds/\∀ v∈cs,v.oneCell'=true
end
end Go.eB
namespace Go.eB
open Go.RowKit
attribute [go_sem] CW List.replicate_succ List.replicate_zero List.flatten_cons List.flatten_nil List.size_toArray List.idxOf_cons cond_true cond_false Nat.zero_mul Nat.zero_le Bz iw Iu Ng J5 iJ xb Af xd sW pZ BF St.BE St.CQ uo Fj ur
 splice chunks nK cellsD qP wW jA placesOf fZ jB ec pK
 sU ij gS bh R1 St.put oh nE vV wv
 Vy lW qw fX jO ML Ik yO TK.isAgg TK.elem? TK.fields
 Option.bind_some Option.map_some Option.bind_none Option.map_none List.set_cons_succ List.set_cons_zero List.getD_cons_succ Po List.getElem?_cons_succ List.getElem?_cons_zero Pj List.getElem?_cons_succ List.getElem?_cons_zero List.getElem_toArray
 dc jg jd pT decide_true decide_false CF EL JT Bool.not_true Bool.not_false ne_eq
 not_true not_false_iff List.length_cons List.length_nil List.take_succ_cons List.take_zero List.drop_succ_cons Pr List.drop_nil List.take_nil List.toList_toArray JH
 List.map_nil and_true true_and and_self QE QF az aG kz og rI Obj.kz
 St.kill St.bF St.sQ oW hfree CJ wu mS o6 Ad List.isEmpty_nil St.gu j6 nj Obj.gu y7 um iu pI jQ ef lX oY CN CH Fc vS J0 List.all_cons List.all_nil nX Bool.and_self
 dD List.nil_append yM List.cons_append
theorem cZ.drop {σ σ':St} (o:Nat) (bs:List Bool) (h:({ σ.kill o with slots:=ve bs (σ.kill o).slots }:St)=σ'):cZ σ σ':=
 cZ.trans (cZ.kill σ o) (cZ.to bs h)
theorem Nt (a b:Int):(a==b)=decide (a=b):=by
 by_cases h:a=b<;>simp[h]
theorem Nu (a b:Int):(a != b)=decide (a≠b):=by
 by_cases h:a=b<;>simp[h,bne]
inductive xm:List (Nat×Obj)->List (Nat×Obj)->Prop
 | nil:xm [] []
 | cons {o:Nat} {x y:Obj} {h k:List (Nat×Obj)}:CG x y->xm h k->xm ((o,x)::h) ((o,y)::k)
theorem xm.refl:∀ h:List (Nat×Obj),xm h h
 | []=> .nil
 | (_,x)::h=> .cons (.refl x) (xm.refl h)
theorem xm.get:∀ {h k:List (Nat×Obj)} (o:Nat),xm h k->CG (az h o) (az k o)
 | _,_,_, .nil=> .refl _
 | _,_,o, .cons (o:=p) h1 h2=>by
   by_cases e:p=o
   ·simpa[az,e] using h1
   ·simpa[az,e] using xm.get o h2
theorem aU.le {w0:World} {p:Pm} {σ σ':St} {a:Act} {w:World} {ρ:Nm} (h:aU w0 p σ a w ρ) (hs:j4 σ.slots σ'.slots) (hh:xm σ.heap σ'.heap):aU w0 p σ' a w ρ:=by
 have hl:∀ o,az σ'.heap o≠ .dead->az σ.heap o≠ .dead:=fun o ho=>(hh.get o).live ho;have hst:∀ g,bO p σ.heap ρ w g->bO p σ'.heap ρ w g:=fun g hg=>⟨hg.1,hg.2.1,fun o ho=>hg.2.2 o (hl o ho)⟩
 exact ⟨h.open_,h.defers,RL.le hs (RL.mono (fun _ _ _=>rfl) (fun _ _ hh=>hh) hst h.slots),fun o=>RO.le (hh.get o) (RO.mono (fun _ _ _=>rfl) (fun _ _ hh=>hh) hst (fun _ _=>rfl) (h.objs o)),
  fun o o' g h1 h2=>h.inj o o' g (hl o h1) (hl o' h2),fun o g h1=>h.fresh o g (hl o h1),fun o g h1=>h.hlt o g (hl o h1),h.below,h.kf⟩
theorem cZ.le {σ σ':St} (hs:j4 σ.slots σ'.slots) (hh:xm σ.heap σ'.heap):cZ σ σ':=fun _ _ _ _ ⟨ρ,h⟩=>⟨ρ,h.le hs hh⟩
theorem cZ.PA {s t:List D} {h k:List (Nat×Obj)} (hs:j4 s t) (hh:xm h k):cZ { slots:=s,heap:=h } { slots:=t,heap:=k }:=cZ.le hs hh
def BJ:List (Nat×D)->List D->List D
 | [],s=>s
 | (i,d)::l,s=>BJ l (s.set i d)
def Ks:List (Nat×Obj)->List (Nat×Obj)->List (Nat×Obj)
 | [],h=>h
 | (o,x)::l,h=>Ks l (aG h o x)
def o7 (N:St->Prop) (Q:Exit->St->Prop):Exit->St->Prop
 | .normal,σ=>N σ
 | e,σ=>Q e σ
theorem ay.sX {P:Program} {Q:Exit->St->Prop} {s:List D} {h:List (Nat×Obj)} {τ:Type} {c:Code} (l:τ->List (Nat×D)) (m:τ->List (Nat×Obj)) (I:τ->Prop) (μ:τ->Nat) (t0:τ) (h0:I t0)
  {s':τ->List D} {h':τ->List (Nat×Obj)} (es:∀ t,BJ (l t) s=s' t) (eh:∀ t,Ks (m t) h=h' t) (hs:j4 s (s' t0)) (hh:xm h (h' t0))
  (hb:∀ t,I t->ay P c (o7 (fun σ'=> ∃ t',I t'/\μ t'<μ t/\j4 σ'.slots (s' t')/\xm σ'.heap (h' t')) Q) { slots:=s' t,heap:=h' t }):ay P (.loop c) Q { slots:=s,heap:=h }:=by
 refine ay.loop (fun t=>{ slots:=s' t,heap:=h' t }) I μ t0 h0 (cZ.PA hs hh) (fun t ht=>ay.mono (hb t ht) ?_);intro e σ' hq;cases e with
 | normal=>
   obtain ⟨t',h1,h2,h3,h4⟩:=hq;exact ⟨t',h1,h2,cZ.le h3 h4⟩
 | _=>exact hq
theorem aF.le {P:Program} {f:FuncId} {ins:List Obj} {args:List D} {ret S3:D} {outs outs':List Obj} (h:aF P f ins args ret outs) (hr:nY ret S3) (ho:∀ j,CG (outs.getD j .dead) (outs'.getD j .dead)):aF P f ins args S3 outs':=by
 refine ⟨h.call,fun w st ρ vs hst hin hvs=>(h.run w st ρ vs hst hin hvs).mono ?_⟩;rintro e w' ⟨v,rfl,ρ',hb⟩;have hs:∀ g,JZ w w' st (mL ins ρ) ρ' outs g->JZ w w' st (mL ins ρ) ρ' outs' g:=fun g hg=>⟨hg.1,fun j hj=>hg.2 j ((ho j).live hj)⟩
 exact ⟨v,rfl,ρ',⟨hb.below,hb.keep,R.le hr (R.mono (fun _ _ _=>rfl) (fun _ _ hh=>hh) hs hb.ret),fun j=>RO.le (ho j) (RO.mono (fun _ _ _=>rfl) (fun _ _ hh=>hh) hs (fun _ _=>rfl) (hb.objs j)),
  fun j g hj=>hb.fresh j g ((ho j).live hj),fun j j' g hj hj'=>hb.inj j j' g ((ho j).live hj) ((ho j').live hj'),fun j g hj=>hb.hlt j g ((ho j).live hj)⟩⟩
theorem aF.args {P:Program} {f:FuncId} {ins:List Obj} {args args':List D} {ret:D} {outs:List Obj} (h:aF P f ins args ret outs) (ha:j4 args' args):aF P f ins args' ret outs:=
 ⟨h.call,fun w st ρ vs hst hin hvs=>h.run w st ρ vs hst hin (RL.le ha hvs)⟩
theorem aB {P:Program} {fn:Func} {ids:List Nat} {ret:D} {outs:List Obj} {e:Exit} {σ:St} (h:aC P fn ids ret outs e σ):aC P fn ids ret outs e σ:=h
theorem kG {τ:Type} {I:τ->Prop} {μ:τ->Nat} {t:τ} {s:List D} {h:List (Nat×Obj)} {s':τ->List D} {h':τ->List (Nat×Obj)} (t':τ) (hs:j4 s (s' t')) (hh:xm h (h' t')) (hI:I t') (hm:μ t'<μ t):
  ∃ t',I t'/\μ t'<μ t/\j4 (St.mk s h).slots (s' t')/\xm (St.mk s h).heap (h' t'):=⟨t',hI,hm,hs,hh⟩
mutual
def BL:D->List Nat
 | .ref o _ | .jN o _ _ _ | .cW o _ _ _ | .mp o=>[o]
 | .agg cs | .cT cs | .fn _ cs=>uv cs
 | _=>[]
def uv:List D->List Nat
 | []=>[]
 | d::ds=>let l:=uv ds;BL d++l
end
def jy (seen:List Nat):List Nat->List Nat
 | []=>[]
 | o::os=>if o∈seen then jy seen os else o::jy (o::seen) os
theorem aC.auto {P:Program} {fn:Func} {ins new:List Nat} {ret d d':D} {xs outs:List Obj} {e:Exit} {σ:St} (he:e = .normal\/e = .ret) (hd:iw P σ fn.results.toList=some d) (hn:jy ins (BL d)=new) (qX:(ins++new).Nodup)
  (hr:um (ins++new) d=some d') (hl:nY d' ret) (ho:lX (ins++new) σ.heap (ins++new)=some xs) (_:(ins++new).length=outs.length) (hlo:j5 xs outs):aC P fn ins ret outs e σ:=
 ⟨σ,fun _ _ _ _ h=>h,he,new,d,qX,hd,⟨d',hr,hl⟩,xs,ho,hlo⟩
theorem aC.imp {P:Program} {fn:Func} {ids:List Nat} {ret:D} {outs:List Obj} {e:Exit} {σ σ':St} (hi:cZ σ σ') (h:aC P fn ids ret outs e σ'):aC P fn ids ret outs e σ:=by
 obtain ⟨σ2,h1,h2⟩:=h;exact ⟨σ2,fun w0 p a w hr=>h1 w0 p a w (hi w0 p a w hr),h2⟩
theorem aC.fT {P:Program} {fn:Func} {ids:List Nat} {ret:D} {outs:List Obj} {e:Exit} {σ σ':St} (t d k:Nat) (ht:σ.slots[t]? = some (.sc (.slice none 0 0))) (hh:hfree σ.heap d=true) (he:St.put { σ.bF [d] with heap:=aG (σ.bF [d]).heap d (.row k []) } (some t) (.cW d k 0 0)=σ')
  (h:aC P fn ids ret outs e σ'):aC P fn ids ret outs e σ:=aC.imp (by subst he;exact cZ.fT σ t d k ht hh) h
theorem aC.gu {P:Program} {fn:Func} {ids:List Nat} {ret:D} {outs:List Obj} {e:Exit} {σ σ':St} (o:Nat) {k:Nat} {rows:List (List D)} (hg:az σ.heap o = .row k rows) (he:σ.gu o k rows=σ') (h:aC P fn ids ret outs e σ'):aC P fn ids ret outs e σ:=
 aC.imp (by subst he;exact cZ.freeze σ o k rows hg) h
theorem cg {P:Program} {Q:Exit->St->Prop} {σ:St} {c:Operand} {x y:Code} (h:ay P (.cond c x y) Q σ):ay P (.cond c x y) Q σ:=h
def bq (ds:List (Option Nat)) (g:Option (Nat×Bool)) (σ:St):Option Bool:=
 match g with
 | none=>some true
 | some (j,want)=>((ds[j]?).bind id).bind fun t=>gB want (σ.slots.getD t .any)
def nk (P:Program) (ds:List (Option Nat)) (dst:Option Nat) (op:Op) (g:Option (Nat×Bool)) (σ:St):Option St:=
 (bq ds g σ).bind fun b=>if b then (if pZ op then BF P σ ⟨dst,op,0, "", #[],none⟩ else (gS P σ op).map (σ.put dst)) else some (σ.put dst (.sc undef))
def fK (P:Program) (ds:List (Option Nat)) (dst:Option Nat) (op:Op) (g:Option (Nat×Bool)) (σ:St):Option St:=
 (bq ds g σ).bind fun b=>if b then (gS P σ op).map (σ.put dst) else some (σ.put dst (.sc undef))
theorem bV {all:Array Oper} {ds:List (Option Nat)} (h:all.toList.map (·.dst)=ds) (o:Oper) (σ:St):ij all σ o=bq ds o.guard σ:=by
 unfold ij bq;cases hg:o.guard with
 | none=>rfl
 | some x=>
   obtain ⟨j,want⟩:=x;simp only
   have:(all[j]?).bind (·.dst)=(ds[j]?).bind id:=by
    rw[<- h,wR,oe];cases all[j]?<;>rfl
   rw[this]
theorem Nv {P:Program} {all:Array Oper} {ds:List (Option Nat)} (h:all.toList.map (·.dst)=ds) {dst:Option Nat} {op:Op} {ty:TypeId} {pos:String} {af:Array Edge} {g:Option (Nat×Bool)} (σ:St):
  sW P all ⟨dst,op,ty,pos,af,g⟩ σ=nk P ds dst op g σ:=by
 have he:BF P σ ⟨dst,op,ty,pos,af,g⟩=BF P σ ⟨dst,op,0, "", #[],none⟩:=rfl;simp only[sW,nk,bV h,he]
def ah (P:Program) (ds:List (Option Nat)) (Q:Exit->St->Prop) (l:List Oper) (σ:St):Prop:= ∀ all:Array Oper,all.toList.map (·.dst)=ds->dH P all Q l σ
def bz (P:Program) (ds:List (Option Nat)) (Q:St->Prop) (l:List Oper) (σ:St):Prop:= ∀ all:Array Oper,all.toList.map (·.dst)=ds->jk P all Q l σ
section
variable {P:Program} {ds:List (Option Nat)} {Q:Exit->St->Prop} {Qv:St->Prop} {σ σ':St} {l:List Oper} {dst:Option Nat} {op:Op} {ty:TypeId} {pos:String} {af:Array Edge} {g:Option (Nat×Bool)}
theorem ay.bE {id:Nat} (hd:l.map (·.dst)=ds) (h:ah P ds Q l σ):ay P (.region id l.toArray false) Q σ:=ay.region (h _ (by simpa using hd))
theorem ay.iK {id:Nat} (hm:P.follows .mixedOrders=true) (hB:Region.lexB .any l.toArray=true) (hd:l.map (·.dst)=ds) (h:bz P ds (Q .normal) l σ):ay P (.region id l.toArray true) Q σ:=ay.QI hm hB (h _ (by simpa using hd))
theorem ah.nil (h:Q .normal σ):ah P ds Q [] σ:=fun _ _=>dH.nil h
theorem bz.nil (h:Qv σ):bz P ds Qv [] σ:=fun _ _=>h
theorem au {o:Oper} (h:ah P ds Q (o::l) σ):ah P ds Q (o::l) σ:=h
theorem gD {o:Oper} (h:bz P ds Qv (o::l) σ):bz P ds Qv (o::l) σ:=h
theorem ah.step (h:nk P ds dst op g σ=some σ') (hn:ah P ds Q l σ'):ah P ds Q (⟨dst,op,ty,pos,af,g⟩::l) σ:=
 fun all ha=>dH.sW (by rw[Nv ha];exact h) (hn all ha)
theorem bz.step (h:fK P ds dst op g σ=some σ') (hn:bz P ds Qv l σ'):bz P ds Qv (⟨dst,op,ty,pos,af,g⟩::l) σ:=
 fun all ha=>jk.run (l1:=[_]) (by
  simp only[pK,sU,bV ha];simp only[fK] at h
  rw[h];rfl) (hn all ha)
theorem ah.call {f:FuncId} {x:Operand} {xs:Array Operand} {ts:Array TypeId} {caps args:List D} {objs:List Obj} {ret:D} {outs:List Obj} (ins new:List Nat)
  (hg:bq ds g σ=some true) (hx:bh σ x = .fn f caps) (hc:aF P f objs args ret outs)
  (hargs:oq σ ins (xs.toList.map (bh σ)++caps) args objs ret outs)
  (hn:(ins++new).Nodup) (hlen:(ins++new).length=outs.length) (hh:(ins++new).all (ec σ.heap)=true) (hnew:new.all (fun o=>decide (o<1000))=true) (hlt:vS outs.length ret=true) (hlo:outs.all (wu outs.length)=true)
  (he:σ.sQ dst ins new ret outs=σ') (hnext:ah P ds Q l σ'):ah P ds Q (⟨dst, .call { callee:= .value x,args:=xs,argTypes:=ts },ty,pos,af,g⟩::l) σ:=
 fun all ha=>dH.call ins new (by rw[bV ha];exact hg) rfl hx hc hargs hn hlen hh hnew hlt hlo (by subst he;exact hnext all ha)
theorem bz.call {f:FuncId} {x:Operand} {xs:Array Operand} {ts:Array TypeId} {caps args:List D} {ret:D}
  (hg:bq ds g σ=some true) (hx:bh σ x = .fn f caps) (hc:ak P f args ret []) (hargs:oq σ [] (xs.toList.map (bh σ)++caps) args [] ret []) (hlt:vS 0 ret=true)
  (he:σ.put dst (CH [] ret)=σ') (hn:bz P ds Qv l σ'):bz P ds Qv (⟨dst, .call { callee:= .value x,args:=xs,argTypes:=ts },ty,pos,af,g⟩::l) σ:=
 fun all ha=>jk.call (by rw[bV ha];exact hg) rfl hx hc hargs hlt (by subst he;exact hn all ha)
theorem ah.vh {f:FuncId} {x:Operand} {xs:Array Operand} {ts:Array TypeId} {caps args:List D} {objs:List Obj} {ret:D} {outs:List Obj} (ins new:List Nat)
  (hg:bq ds g σ=some true) (hx:bh σ x = .fn f caps) (hc:aF P f objs args ret outs)
  (hargs:iu ins (xs.toList.map (bh σ)++caps)=some args) (sY:jQ σ (iu ins) ins=some objs)
  (hn:(ins++new).Nodup) (hlen:(ins++new).length=outs.length) (hh:(ins++new).all (ec σ.heap)=true) (hnew:new.all (fun o=>decide (o<1000))=true) (hlt:vS outs.length ret=true) (hlo:outs.all (wu outs.length)=true)
  (he:σ.sQ dst ins new ret outs=σ') (hnext:ah P ds Q l σ'):ah P ds Q (⟨dst, .call { callee:= .value x,args:=xs,argTypes:=ts },ty,pos,af,g⟩::l) σ:=
 ah.call ins new hg hx hc (.inl ⟨_,_,hargs,j4.refl _,sY,j5.refl _⟩) hn hlen hh hnew hlt hlo he hnext
theorem ah.Kt {f:FuncId} {x:Operand} {xs:Array Operand} {ts:Array TypeId} {caps args args':List D} {objs PD:List Obj} {ret:D} {outs:List Obj} (ins new:List Nat)
  (hg:bq ds g σ=some true) (hx:bh σ x = .fn f caps) (hc:aF P f objs args ret outs)
  (hargs:fZ (ef σ ins 4) (xs.toList.map (bh σ)++caps)=some args') (hle:j4 args' args) (sY:jQ σ (fZ (ef σ ins 4)) ins=some PD) (J9:j5 PD objs) (w5:Flat ret outs)
  (hn:(ins++new).Nodup) (hlen:(ins++new).length=outs.length) (hh:(ins++new).all (ec σ.heap)=true) (hnew:new.all (fun o=>decide (o<1000))=true) (hlt:vS outs.length ret=true) (hlo:outs.all (wu outs.length)=true)
  (he:σ.sQ dst ins new ret outs=σ') (hnext:ah P ds Q l σ'):ah P ds Q (⟨dst, .call { callee:= .value x,args:=xs,argTypes:=ts },ty,pos,af,g⟩::l) σ:=
 ah.call ins new hg hx hc (.inr ⟨_,_,hargs,hle,sY,J9,w5⟩) hn hlen hh hnew hlt hlo he hnext
theorem bz.vh {f:FuncId} {x:Operand} {xs:Array Operand} {ts:Array TypeId} {caps args:List D} {ret:D}
  (hg:bq ds g σ=some true) (hx:bh σ x = .fn f caps) (hc:ak P f args ret []) (hargs:iu [] (xs.toList.map (bh σ)++caps)=some args) (hlt:vS 0 ret=true)
  (he:σ.put dst (CH [] ret)=σ') (hn:bz P ds Qv l σ'):bz P ds Qv (⟨dst, .call { callee:= .value x,args:=xs,argTypes:=ts },ty,pos,af,g⟩::l) σ:=
 bz.call hg hx hc (.inl ⟨_,_,hargs,j4.refl _,rfl,j5.refl _⟩) hlt he hn
theorem bz.Kt {f:FuncId} {x:Operand} {xs:Array Operand} {ts:Array TypeId} {caps args:List D} {ret:D}
  (hg:bq ds g σ=some true) (hx:bh σ x = .fn f caps) (hc:ak P f args ret []) (hargs:fZ (ef σ [] 4) (xs.toList.map (bh σ)++caps)=some args) (w5:Flat ret []) (hlt:vS 0 ret=true)
  (he:σ.put dst (CH [] ret)=σ') (hn:bz P ds Qv l σ'):bz P ds Qv (⟨dst, .call { callee:= .value x,args:=xs,argTypes:=ts },ty,pos,af,g⟩::l) σ:=
 bz.call hg hx hc (.inr ⟨_,_,hargs,j4.refl _,rfl,j5.refl _,w5⟩) hlt he hn
theorem ah.gu (o:Nat) {k:Nat} {rows:List (List D)} (hg:az σ.heap o = .row k rows) (he:σ.gu o k rows=σ') (hn:ah P ds Q l σ'):ah P ds Q l σ:=
 fun all ha=>dH.imp (cZ.freeze σ o k rows hg) (by subst he;exact hn all ha)
theorem ay.gu {c:Code} (o:Nat) {k:Nat} {rows:List (List D)} (hg:az σ.heap o = .row k rows) (he:σ.gu o k rows=σ') (hn:ay P c Q σ'):ay P c Q σ:=by subst he;exact ay.imp (cZ.freeze σ o k rows hg) hn
theorem ay.fT {c:Code} (t d k:Nat) (ht:σ.slots[t]? = some (.sc (.slice none 0 0))) (hh:hfree σ.heap d=true) (he:St.put { σ.bF [d] with heap:=aG (σ.bF [d]).heap d (.row k []) } (some t) (.cW d k 0 0)=σ') (hn:ay P c Q σ'):ay P c Q σ:=by
 subst he;exact ay.imp (cZ.fT σ t d k ht hh) hn
end
theorem cy {P:Program} {ds:List (Option Nat)} {Q:Exit->St->Prop} {σ:St} {l:List Oper} {dst:Option Nat} {x:Operand} {xs:Array Operand} {ts:Array TypeId} {ty:TypeId} {pos:String} {af:Array Edge} {g:Option (Nat×Bool)} (h:ah P ds Q (⟨dst,.call { callee:= .value x,args:=xs,argTypes:=ts },ty,pos,af,g⟩::l) σ):ah P ds Q (⟨dst,.call { callee:= .value x,args:=xs,argTypes:=ts },ty,pos,af,g⟩::l) σ:=h
theorem lI {P:Program} {ds:List (Option Nat)} {Q:St->Prop} {σ:St} {l:List Oper} {dst:Option Nat} {x:Operand} {xs:Array Operand} {ts:Array TypeId} {ty:TypeId} {pos:String} {af:Array Edge} {g:Option (Nat×Bool)} (h:bz P ds Q (⟨dst,.call { callee:= .value x,args:=xs,argTypes:=ts },ty,pos,af,g⟩::l) σ):bz P ds Q (⟨dst,.call { callee:= .value x,args:=xs,argTypes:=ts },ty,pos,af,g⟩::l) σ:=h
theorem br {P:Program} {Q:Exit->St->Prop} {σ:St} {id:Nat} {a:Array Oper} (h:ay P (.region id a true) Q σ):ay P (.region id a true) Q σ:=h
def kY (ds:List (Option Nat)) (g:Option (Nat×Bool)):Option Nat:=
 match g with
 | none=>none
 | some (j,_)=>(ds[j]?).bind id
theorem jC {σ:St} {t:Nat} {b:Bool} (h:σ.slots.getD t .any = .sc (.bool b)):σ.put (some t) (.sc (.bool b))=σ:=by
 have:σ.slots.set t (.sc (.bool b))=σ.slots:=by
  apply MD;intro i;by_cases e:t=i
  ·subst e;simp only[List.getD] at h;cases hx:σ.slots[t]? with
   | none=>rw[hx] at h;simp at h
   | some d=>
     rw[hx] at h;simp only[Option.getD_some] at h;rw[uf (jM.1 hx).1,h]
  ·rw[ua e]
 simp[St.put,this]
def NL (_:Bool):Prop:=True
theorem Iv {b:Bool}:NL b:=True.intro
theorem Iw:NL true:=True.intro
theorem Ix:NL false:=True.intro
theorem ah.iM {P:Program} {ds:List (Option Nat)} {Q:Exit->St->Prop} {σ:St} {l:List Oper} {dst:Option Nat} {op:Op} {ty:TypeId} {pos:String} {af:Array Edge} {g:Option (Nat×Bool)} {b:Bool} {t:Nat} (ht:kY ds g=some t) (hb:σ.slots.getD t .any = .sc (.bool b)) (_hl:NL b)
  (h1:b=true->ah P ds Q (⟨dst,op,ty,pos,af,g⟩::l) (σ.put (some t) (.sc (.bool true)))) (h2:b=false->ah P ds Q (⟨dst,op,ty,pos,af,g⟩::l) (σ.put (some t) (.sc (.bool false)))):ah P ds Q (⟨dst,op,ty,pos,af,g⟩::l) σ:=by
 cases b
 ·have:=h2 rfl;rwa [jC hb] at this
 ·have:=h1 rfl;rwa [jC hb] at this
theorem bz.iM {P:Program} {ds:List (Option Nat)} {Q:St->Prop} {σ:St} {l:List Oper} {dst:Option Nat} {op:Op} {ty:TypeId} {pos:String} {af:Array Edge} {g:Option (Nat×Bool)} {b:Bool} {t:Nat} (ht:kY ds g=some t) (hb:σ.slots.getD t .any = .sc (.bool b)) (_hl:NL b)
  (h1:b=true->bz P ds Q (⟨dst,op,ty,pos,af,g⟩::l) (σ.put (some t) (.sc (.bool true)))) (h2:b=false->bz P ds Q (⟨dst,op,ty,pos,af,g⟩::l) (σ.put (some t) (.sc (.bool false)))):bz P ds Q (⟨dst,op,ty,pos,af,g⟩::l) σ:=by
 cases b
 ·have:=h2 rfl;rwa [jC hb] at this
 ·have:=h1 rfl;rwa [jC hb] at this
section
variable {P:Program} {y:Code} {Q:Exit->St->Prop} {σ:St} {id id':Nat} {N:St->Prop}
theorem bG (h:ay P y Q σ):GY P y Q .normal σ:=h
theorem eC (h:Q .ret σ):GY P y Q .ret σ:=h
theorem iN (h:Q (.exit id) σ):GY P y Q (.exit id) σ:=h
theorem dg (h:Q .normal σ):nC id Q .normal σ:=h
theorem c8 (h:Q .ret σ):nC id Q .ret σ:=h
theorem eT (h:Q .normal σ):nC id Q (.exit id) σ:=by simpa[nC] using h
theorem gn (h:N σ):o7 N Q .normal σ:=h
theorem jT (h:Q .ret σ):o7 N Q .ret σ:=h
theorem jU (h:Q (.exit id) σ):o7 N Q (.exit id) σ:=h
theorem dP {f:FuncId} {fn:Func} {c:Code} {ins:List Obj} {args:List D} {ret:D} {outs:List Obj} (ids keys:List Nat) (hf:P.funcs[f]? = some fn) (hb:fn.body=some c)
  (CO:∀ as w,(callFunc f as).run P w = .ok (.enter f as) w) (rM:ids.length=ins.length) (hge:ids.all (fun o=>decide (1000<=o))=true) (qX:ids.Nodup) (hla:J0 ins.length args=true) (vM:ins.all (wu ins.length)=true)
  {s:List D} {h:List (Nat×Obj)} {n:Nat} (hn:fn.ntmps=n) (hs:Fc ids args++List.replicate (n-args.length) (.sc undef)=s) (hh:oY ids ins keys=h)
  (ht:ay P c (aC P fn ids ret outs) { slots:=s,heap:=h }):aF P f ins args ret outs:=by
 subst hn hs hh;exact aF.dP ids keys hf hb CO rM hge qX hla vM ht
end
theorem aH {α:Type} {l:List α} {k:Nat} {x:α} (h:l[k]? = some x):l.drop k=x::l.drop (k+1):=by
 obtain ⟨h1,h2⟩:=jM.1 h;rw[List.drop_eq_getElem_cons h1,h2]
theorem aZ {α:Type} {l:List α} {k:Nat} (h:k<l.length):∃ x,l[k]? = some x:=⟨_,rF h⟩
theorem get_map {α β:Type} {l:List α} {k:Nat} {x:α} (f:α->β) (h:l[k]? = some x):(l.map f)[k]? = some (f x):=by
 rw[wR,h];rfl
attribute [go_sem] BL uv jy List.mem_cons List.not_mem_nil or_false false_or bq nk fK id kY BJ Ks Fm CX y8 Fo Nr Kp Fp Ns Int.toNat_natCast Nat.one_mul Int.le_refl Nat.zero_add Nt Nu
def Y9 (P:Program) (fn:Func) (ids:List Nat) {τ:Type} (I:τ->Prop) (ret:τ->D) (outs:τ->List Obj) (e:Exit) (σ:St):Prop:= ∃ t,I t/\aC P fn ids (ret t) (outs t) e σ
theorem aU.QJ {w0:World} {p:Pm} {σ:St} {a:Act} {w:World} {ρ:Nm} (h:aU w0 p σ a w ρ) {h':List (Nat×Obj)} (e:∀ o,az h' o=az σ.heap o):aU w0 p { σ with heap:=h' } a w ρ:=by
 have hst:∀ g,bO p σ.heap ρ w g->bO p h' ρ w g:=fun g hg=>⟨hg.1,hg.2.1,fun o ho=>hg.2.2 o (by rw[<- e];exact ho)⟩
 refine ⟨h.open_,h.defers,RL.mono (fun _ _ _=>rfl) (fun _ _ hh=>hh) hst h.slots,fun o=>?_,fun o o' g h1 h2=>?_,fun o g h1=>?_,fun o g h1=>?_,h.below,h.kf⟩
 ·show RO _ _ _ o (az h' o);rw[e];exact RO.mono (fun _ _ _=>rfl) (fun _ _ hh=>hh) hst (fun _ _=>rfl) (h.objs o)
 ·have pJ:az h' o≠ .dead:=h1;have Yi:az h' o'≠ .dead:=h2;rw[e] at pJ Yi;exact h.inj o o' g pJ Yi
 ·have pJ:az h' o≠ .dead:=h1;rw[e] at pJ;exact h.fresh o g pJ
 ·have pJ:az h' o≠ .dead:=h1;rw[e] at pJ;exact h.hlt o g pJ
theorem uw {k:Nat}:∀ {rows:List (List D)} (n:Nat),(∀ r∈rows,r.length=k)->(rows.take n).flatten=rows.flatten.take (n*k)
 | [],n,_=>by simp
 | r::rs,0,_=>by simp
 | r::rs,n+1,h=>by
   have h1:r.length=k:=h r (by simp);rw[List.take_succ_cons,List.flatten_cons,List.flatten_cons,uw n (fun x hx=>h x (by simp[hx])),sN,Qu,List.take_append,h1,lu (show r.length<=n*k+k by omega)]
   congr 2;omega
theorem Ah {k:Nat}:∀ {rows:List (List D)} (n:Nat),(∀ r∈rows,r.length=k)->(rows.drop n).flatten=rows.flatten.drop (n*k)
 | [],n,_=>by simp
 | r::rs,0,_=>by simp
 | r::rs,n+1,h=>by
   have h1:r.length=k:=h r (by simp);rw[List.drop_succ_cons,List.flatten_cons,Ah n (fun x hx=>h x (by simp[hx])),sN,Qu,List.drop_append,h1,j9 (show r.length<=n*k+k by omega),List.nil_append]
   congr 1;omega
theorem C2 {k:Nat} {rows xs:List (List D)} (n:Nat) (h:∀ r∈rows,r.length=k) (hx:xs.flatten.length=xs.length*k):(splice rows n xs).flatten=splice rows.flatten (n*k) xs.flatten:=by
 unfold splice;rw[Pd,Pd,uw n h,Ah _ h,hx,sN]
section
variable {P:Program} {w0:World} {p:Pm} {σ:St} {a:Act} {w:World} {ρ:Nm}
theorem aU.ux (h:aU w0 p σ a w ρ) {o g k n:Nat} {rows xs:List (List D)} {cur:Array Value} {e:TypeId} {news:List Value} (hrow:az σ.heap o = .row k rows) (hρ:ρ o=some (some g)) (nF:w.heap[g]? = some (.cells cur e (0,0)))
  (n1:news.length=xs.length*k) (n2:RL w (bO p σ.heap ρ w) (fun _=>none) xs.flatten news) (n3:∀ u∈news,u.oneCell'=true) (n4:∀ r∈xs,r.length=k) (hfit:n+xs.length<=rows.length):
  n*k+news.length<=cur.size/\aU w0 p { σ with heap:=aG σ.heap o (.row k (splice rows n xs)) } a (w.setRow g (splice cur.toList (n*k) news).toArray) ρ:=by
 have hro:=h.objs o;rw[hrow] at hro;simp only[RO,hρ] at hro;obtain ⟨cur',e',cap,r1,r2,r3,r4,r5⟩:=hro;rw[nF] at r1;simp only[fD,Obj.cells.injEq] at r1;obtain ⟨rfl,rfl,_⟩:=r1
 have hle:n*k+news.length<=cur.size:=by
  rw[n1,r2.size, <- sN];exact M8 _ (by omega)
 refine ⟨hle,?_⟩;have hle':n*k+news.length<=cur.toList.length:=by rw[Array.length_toList];exact hle
 have hsize:(splice cur.toList (n*k) news).toArray.size=cur.size:=by rw[zS,fU hle',Array.length_toList]
 refine h.Vv (o:=o) (g:=g) (cur:=cur) (cur':=(splice cur.toList (n*k) news).toArray) (e:=e) (by rw[hrow];simp) hρ nF hsize (by simp) (fun st hst=>?_)
 have hc:∀ b q,bO p σ.heap ρ w b->(w.setRow g (splice cur.toList (n*k) news).toArray).cell? ⟨b,q,none⟩=w.cell? ⟨b,q,none⟩:=by
  intro b q hb;refine World.cell?_of_block (w:=w) (a:=⟨b,q,none⟩) (setRow_other w g b _ ?_);rintro rfl;exact hb.2.2 o (by rw[hrow];simp) (.inl hρ)
 have hsh:∀ b n',Sh w b n'->Sh (w.setRow g (splice cur.toList (n*k) news).toArray) b n':=by
  intro b n' hh;by_cases e':b=g
  ·subst e';obtain ⟨c,e2,s1,s2⟩:=hh;rw[nF] at s1;simp only[fD,Obj.cells.injEq] at s1;exact ⟨_,e,setRow_heap w b cur _ e (0,0) nF,by rw[hsize,s1.1,s2]⟩
  ·exact ct (setRow_other w g b _ e') hh
 obtain ⟨olds,o1,o2,o3,o4,o5⟩:=qy r5;simp only[RO,hρ];refine ⟨_,e,cap,setRow_heap w g cur _ e (0,0) nF,⟨by rw[hsize];exact r2.size,fun v hv=>?_⟩,r3,by rw[fU hfit];exact r4,?_⟩
 ·simp only[splice,lS] at hv;rcases hv with (hv|hv)|hv
  ·exact r2.one v (zR hv)
  ·exact n3 v hv
  ·exact r2.one v (E8 hv)
 ·have pP:xs.flatten.length=xs.length*k:=by rw[<- dF n2,n1]
  have holds:n*k+news.length<=olds.length:=by rw[n1,o1, <- sN];exact M8 _ (by omega)
  refine lY (vs:=splice olds (n*k) news) (fun r hr=>?_) ?_ (fun v hv=>?_) (fun j v hj=>?_)
  ·simp only[splice,lS] at hr;rcases hr with (hr|hr)|hr
   ·exact o4 r (zR hr)
   ·exact n4 r hr
   ·exact o4 r (E8 hr)
  ·rw[C2 n o4 pP];have:=qz (off:=n*k) (RL.mono hc hsh hst o2) (RL.mono hc hsh hst n2);exact this
  ·simp only[splice,lS] at hv;rcases hv with (hv|hv)|hv
   ·exact o3 v (zR hv)
   ·exact n3 v hv
   ·exact o3 v (E8 hv)
  ·rw[kO,cell_of_row _ g j _ _ (0,0) (setRow_heap w g cur _ e (0,0) nF),Pj,kF hle'];rw[kF holds] at hj
   split
   ·rename_i hc1
    rwa [bC hc1] at hj
   ·rename_i hc1;rw[aE hc1] at hj;have:=o5 j v hj
    rwa [kO,cell_of_row w g j cur e (0,0) nF, <- oe] at this
theorem aU.qA (h:aU w0 p σ a w ρ) {o k:Nat} {rows eu:List (List D)} (hrow:az σ.heap o = .row k rows) (e:eu=rows):aU w0 p { σ with heap:=aG σ.heap o (.row k eu) } a w ρ:=by
 refine h.QJ fun o'=>?_;by_cases e':o'=o
 ·subst e';rw[aX (cC (by rw[hrow];simp)),hrow,e]
 ·rw[aM e']
theorem qQ (size n m:Nat) (X:Option Addr) (c:Nat) (news:List Value) (hl:news.length=n*size) (hX:n=0\/∃ b,X=some b/\∀ j v,news[j]? = some v->w.cell? (b.add j)=some v):
  (Builtin.firstCells size n (.slice X m c)).run P w = .ok news.toArray w:=by
 have:=iy (P:=P) (w:=w) size n X c news hl hX;cases X<;>simpa[Builtin.firstCells] using this
theorem Ft {k:Nat} {es:List (List D)} {news:List Value} (m:Nat) (h1:news.length=es.length*k) (h2:RL w (bO p σ.heap ρ w) (fun _=>none) es.flatten news) (h4:∀ r∈es,r.length=k) (hm:m<=es.length):
  (news.take (m*k)).length=m*k/\RL w (bO p σ.heap ρ w) (fun _=>none) (es.take m).flatten (news.take (m*k)):=by
 refine ⟨?_,?_⟩
 ·rw[cw,h1];exact SG (M8 _ hm)
 ·rw[uw m h4];exact mP _ h2
theorem cP.copy {o:Oper} {s x:Operand} {t t' e:TypeId} {ti ei:TI} {q k off len m:Nat} {rows es:List (List D)} (ho:o.op = .call { callee:= .builtin .copy,args:= #[s,x],argTypes:= #[t,t'] })
  (ht:aA P t=some ti) (hk:ti.kind.elem? = some e) (he:aA P e=some ei) (hks:ei.size=k) (hs:bh σ s = .cW q k off len) (hrow:az σ.heap q = .row k rows) (hx:iJ σ k (bh σ x)=some es) (hm:min es.length len=m) (hfit:off+m<=rows.length):
  cP P σ o (St.put { σ with heap:=aG σ.heap q (.row k (splice rows off (es.take m))) } o.dst (.sc (.int .i64 m))):=by
 rintro w0 p a w ⟨ρ,h⟩;have hu:=eV ht hk;obtain ⟨_,hsz,_⟩:=ej he w;obtain ⟨X,c,mM,news,n1,n2,n3,n4,n5⟩:=ot h hx (h.bh x);have hme:m<=es.length:=by omega
 obtain ⟨l1,l2⟩:=Ft (σ:=σ) (w:=w) m n1 n2 n4 hme
 have Ku:(Builtin.firstCells ei.size m (.slice X es.length c)).run P w = .ok (news.take (m*k)).toArray w:=by
  refine qQ ei.size m es.length X c _ (by rw[hks];exact l1) ?_;rcases n5 with n5|⟨b,rfl,n5⟩
  ·left;omega
  ·right;refine ⟨b,rfl,fun j v hj=>n5 j v ?_⟩;rw[JG] at hj
   split at hj
   ·exact hj
   ·cases hj
 have hs':=h.bh s;rw[hs] at hs';simp only[R] at hs';have hmin:Nat.min es.length len=m:=hm
 have fin:∀ A c' w' ρ',a.eval s = .slice A len c'->((match A with|some b=>storeCells b (news.take (m*k))|none=>pure ()):Sem Unit).run P w = .ok () w'->aU w0 p { σ with heap:=aG σ.heap q (.row k (splice rows off (es.take m))) } a w' ρ'->
   ∃ v w',((execOp a.eval o).run P w = .ok (.value v) w'\/(v=undef/\(execOp a.eval o).run P w = .ok .skip w'))/\Rel w0 p (St.put { σ with heap:=aG σ.heap q (.row k (splice rows off (es.take m))) } o.dst (.sc (.int .i64 m))) (a.put o.dst v) w':=by
  intro A c' w' ρ' e1 e2 e3;refine ⟨.int .i64 m,w', .inl ?_,ρ',e3.put o.dst (by simp[R])⟩;cases A with
  | none=>
    simp only[Sem.run_pure,Result.ok.injEq,true_and] at e2;subst e2;simp[execOp,ho,resolve,invoke,builtin,Builtin.copy_,run_underlying hu,hsz,e1,mM,Builtin.lenOf,hmin,Ku,goInt]
  | some b=>
    simp[execOp,ho,resolve,invoke,builtin,Builtin.copy_,run_underlying hu,hsz,e1,mM,Builtin.lenOf,hmin,Ku,goInt,e2]
 rcases hs' with ⟨e1,rfl,rfl,A,e4⟩|⟨g,cap,A,e1,e2,e3,e4,e5,e6⟩
 ·have hm0:m=0:=by omega
  subst hm0;refine fin A 0 w ρ e4 ?_ (h.qA hrow (by simp[splice]));cases A<;>simp[storeCells]
 ·have hro:=h.objs q;rw[hrow] at hro;simp only[RO,e1] at hro;obtain ⟨cur,e',cap',r1,r2,r3,r4,r5⟩:=hro;by_cases hm0:m=0
  ·subst hm0;refine fin A _ w ρ e5 ?_ (h.qA hrow (by simp[splice]));cases A<;>simp[storeCells]
  ·have hA:=e6 (by omega);obtain ⟨f1,f2⟩:=h.ux (n:=off) (xs:=es.take m) (news:=news.take (m*k)) hrow e1 r1 (by rw[l1,cw,SG hme]) l2 (fun u hu=>n3 u (zR hu)) (fun r hr=>n4 r (zR hr)) (by rw[cw,SG hme];exact hfit);refine fin A _ _ ρ e5 ?_ f2;subst hA;have:=run_storeCells_at P g (off*k) e' (news.take (m*k)) 0 cur w r1 (by simpa using f1) (fun u hu=>n3 u (zR hu));simpa[splice] using this
theorem cP.uy {o:Oper} {s x:Operand} {t e:TypeId} {ti ei:TI} {q k n:Nat} {rows es:List (List D)} (ho:o.op = .call { callee:= .builtin .append,args:= #[s,x],argTypes:= #[t,t] })
  (ht:aA P t=some ti) (hk:ti.kind.elem? = some e) (he:aA P e=some ei) (hks:ei.size=k) (yQ:0<k) (qZ:ei.zero.cells.toList.all (·.oneCell')=true) (hb0:0<ei.bytes) (hs:bh σ s = .cW q k 0 n) (hrow:az σ.heap q = .row k rows) (hx:iJ σ k (bh σ x)=some es) (hfit:n+es.length<=rows.length) (hb:rows.length*ei.bytes<=140737488355328):
  cP P σ o (St.put { σ with heap:=aG σ.heap q (.row k (splice rows n es)) } o.dst (.cW q k 0 (n+es.length))):=by
 rintro w0 p a w ⟨ρ,h⟩;have hu:=eV ht hk;obtain ⟨ie,de,Fk,R5,y1,y2,y3,y4⟩:=cr he;obtain ⟨X,c,mM,news,n1,n2,n3,n4,n5⟩:=ot h hx (h.bh x)
 have kg:∀ A sLen sCap v w',a.eval s = .slice A sLen sCap->(Builtin.append_ #[t,t] o.type #[.slice A sLen sCap, .slice X es.length c]).run P w = .ok v w'->(execOp a.eval o).run P w = .ok (.value v) w':=by
  intro A sLen sCap v w' h1 h2;simp[execOp,ho,resolve,invoke,builtin,h1,mM,h2]
 have hs':=h.bh s;have QK:=hs';rw[hs] at hs';simp only[R] at hs';rcases hs' with ⟨e1,_,rfl,A,e4⟩|⟨g,cap,A,e1,e2,e3,e4,e5,e6⟩
 ·have hro:=h.objs q;rw[hrow] at hro;simp only[RO,e1] at hro;subst hro;have V5:es=[]:=uc (by simpa using hfit);subst V5;have hall:=gR (P:=P) (w:=w) t o.type e ie ei.zero hu Fk y3 A 0 0 [] (by simp) (iU _) (.inl rfl) X 0 c [] (by simp) (.inl rfl) (by simp) (by omega) (by unfold maxLen;omega) (by simp) (fun v hv=>yN.1 qZ v hv) (by simp);rcases hall with ⟨_,g2⟩|⟨g1,_⟩|⟨g1,_⟩
  ·refine ⟨_,w, .inl (kg A 0 0 _ w e4 g2),ρ,?_⟩;refine (h.qA hrow (by simp[splice])).put o.dst ?_;simp only[R];exact .inl ⟨e1,trivial,rfl,A,rfl⟩
  ·omega
  ·omega
 ·have hro:=h.objs q;rw[hrow] at hro;simp only[RO,e1] at hro;obtain ⟨cur,e',cap',r1,r2,r3,r4,r5⟩:=hro;simp only[kO,Nat.sub_zero,MH] at e3 e5 e6
  have S4:cap*k=cap'*k:=by
   obtain ⟨c2,V0,s1,s2⟩:=e2;rw[r1] at s1;simp only[fD,Obj.cells.injEq] at s1;rw[<- s2, <- s1.1,r2.size]
  by_cases h0:es.length=0
  ·have V5:es=[]:=uc h0;subst V5;have hn0:news=[]:=uc (by simpa using n1);subst hn0
   have g2:(Builtin.append_ #[t,t] o.type #[.slice A n cap, .slice X 0 c]).run P w = .ok (.slice A n cap) w:=by
    have hf:=iy (P:=P) (w:=w) ie.size 0 X c [] (by simp) (.inl rfl);cases A<;>simp[Builtin.append_,run_underlying hu,sizeOf,typeInfo,Fk,Builtin.lenOf,hf,e3,storeCells]
   refine ⟨_,w, .inl (kg A n cap _ w e5 (by simpa using g2)),ρ,?_⟩;refine (h.qA hrow (by simp[splice])).put o.dst ?_;rw[hs] at QK;rw[e5] at QK
   exact R.mono (fun _ _ _=>rfl) (fun _ _ hh=>hh) (fun b hb=>⟨hb.1,hb.2.1,fun o' ho'=>hb.2.2 o' (fun hd=>ho' (by
    by_cases eq:o'=q
    ·subst eq;rw[hrow] at hd;cases hd
    ·rw[aM eq,hd]))⟩) QK
  ·have lE:cap=cap':=RQ yQ S4;subst lE;obtain ⟨olds,o1,o2,o3,o4,o5⟩:=qy r5;have hA:=e6 (by omega);subst hA;have hnk:(olds.take (n*k)).length=n*k:=by rw[cw,o1];exact SG (M8 _ (by omega))
   obtain ⟨f1,f2⟩:=h.ux (n:=n) (xs:=es) (news:=news) hrow e1 r1 n1 n2 n3 n4 hfit
   have R6:(n+es.length)*ie.bytes<=140737488355328:=by
    rw[y2];exact JU (M8 _ hfit) hb
   have h63:n+es.length<=maxLen:=by omega
   have hall:=gR (P:=P) (w:=w) t o.type e ie ei.zero hu Fk y3 (some ⟨g,0,none⟩) n cap (olds.take (n*k)) (by rw[y1,hks];exact hnk) e3
    (by
     by_cases hn0:n=0
     ·exact .inl hn0
     ·refine .inr ⟨_,rfl,fun j v hj=>?_⟩;rw[Addr.add_lit,kO];rw[JG] at hj
      split at hj
      ·have:=o5 j v hj;rwa [kO] at this
      ·cases hj)
    X es.length c news (by rw[y1,hks];exact n1) n5 n3 (fun _ _=>⟨g,0,cur,e',rfl,r1,by rw[y1,hks,kO];exact f1⟩) h63 R6 (fun v hv=>yN.1 qZ v hv) (fun v hv=>o3 v (zR hv))
   rcases hall with ⟨g1,_⟩|⟨_,_,g',q',cur',e'',g3,g4,g5,g6⟩|⟨_,g1,_⟩
   ·exact absurd g1 h0
   ·simp only[fD,Addr.mk.injEq] at g3;obtain ⟨rfl,rfl,_⟩:=g3;rw[r1] at g4;simp only[fD,Obj.cells.injEq] at g4;obtain ⟨rfl,rfl,_⟩:=g4;refine ⟨_,_, .inl (kg _ n cap _ _ e5 g6),ρ,?_⟩;have hw:(cur.toList.take (0+n*ie.size)++news++cur.toList.drop (0+n*ie.size+news.length))=splice cur.toList (n*k) news:=by simp only[y1,hks,kO,splice]
    rw[hw];refine f2.put o.dst ?_;simp only[R]
    have hsize:(splice cur.toList (n*k) news).toArray.size=cur.size:=by
     rw[zS,fU (by rw[Array.length_toList];exact f1),Array.length_toList]
    refine .inr ⟨g,cap,some ⟨g,0,none⟩,e1,?_,by omega,e4,by simp,fun _=>by simp⟩;obtain ⟨c2,V0,s1,s2⟩:=e2;rw[r1] at s1;simp only[fD,Obj.cells.injEq] at s1;exact ⟨_,e',setRow_heap w g cur _ e' (0,0) r1,by rw[hsize,s1.1,s2]⟩
   ·omega
theorem p5 {z:Array Value}:∀ n,(Builtin.zeroCells z n).toList=(List.replicate n z.toList).flatten:=by
 intro n
 induction n with
 | zero=>simp[Builtin.zeroCells]
 | succ n ih=>
   have h1:(Builtin.zeroCells z (n+1)).toList=(Builtin.zeroCells z n).toList++z.toList:=by
    simp only[Builtin.zeroCells,Qs,Array.toList_range,sN,Qu,List.range_add,vN,H7]
    congr 1
    apply MD;intro i;simp only[wR,List.getElem?_range'];by_cases hi:i<z.size
    ·rw[List.getElem?_range hi];simp only[Option.map_some,Function.comp_apply,Nat.mul_add_mod_self_right,Nat.mod_eq_of_lt hi];rw[Nb z i hi,oe,Pf hi]
    ·rw[GU (by simp;omega),oe,Sz (by omega)];rfl
   rw[h1,ih,List.replicate_succ',Pd];simp
theorem cP.clear {o:Oper} {s:Operand} {t e:TypeId} {ti ei:TI} {q k off len:Nat} {rows:List (List D)} (ho:o.op = .call { callee:= .builtin .clear,args:= #[s],argTypes:= #[t] }) (hd:o.dst=none)
  (ht:aA P t=some ti) (hk:ti.kind.elem? = some e) (he:aA P e=some ei) (hks:ei.size=k) (hzs:ei.zero.cells.size=ei.size) (qZ:ei.zero.cells.toList.all (·.oneCell')=true) (hs:bh σ s = .cW q k off len) (hrow:az σ.heap q = .row k rows) (hfit:off+len<=rows.length):
  cP P σ o { σ with heap:=aG σ.heap q (.row k (splice rows off (List.replicate len (ei.zero.cells.toList.map .sc)))) }:=by
 rintro w0 p a w ⟨ρ,h⟩;have hu:=eV ht hk;obtain ⟨_,_,_,Za,_⟩:=ej he w;have hs':=h.bh s;rw[hs] at hs';simp only[R] at hs';have S5:∀ v∈ei.zero.cells.toList,v.oneCell'=true:=fun v hv=>yN.1 qZ v hv;rcases hs' with ⟨e1,rfl,rfl,A,e4⟩|⟨g,cap,A,e1,e2,e3,e4,e5,e6⟩
 ·refine ⟨.tuple #[],w, .inl ?_,ρ,?_⟩
  ·cases A<;>simp[execOp,ho,resolve,invoke,builtin,Builtin.clear_,run_underlying hu,e4]
  ·rw[hd];exact h.qA hrow (by simp[splice])
 ·have hro:=h.objs q;rw[hrow] at hro;simp only[RO,e1] at hro;obtain ⟨cur,e',cap',r1,r2,r3,r4,r5⟩:=hro;by_cases h0:len=0
  ·subst h0;refine ⟨.tuple #[],w, .inl ?_,ρ,?_⟩
   ·cases A<;>simp[execOp,ho,resolve,invoke,builtin,Builtin.clear_,run_underlying hu,e5]
   ·rw[hd];exact h.qA hrow (by simp[splice])
  ·have hA:=e6 (by omega);subst hA;have hl:(Builtin.zeroCells ei.zero.cells len).toList.length=len*k:=by rw[Array.length_toList,size_zeroCells,hzs,hks]
   obtain ⟨f1,f2⟩:=h.ux (n:=off) (xs:=List.replicate len (ei.zero.cells.toList.map .sc)) (news:=(Builtin.zeroCells ei.zero.cells len).toList) hrow e1 r1 (by rw[hl,dx])
    (by
     rw[p5]
     have:(List.replicate len (ei.zero.cells.toList.map D.sc)).flatten=((List.replicate len ei.zero.cells.toList).flatten).map D.sc:=by
      rw[List.map_flatten,List.map_replicate]
     rw[this]
     exact pU _)
    (iH S5) (fun r hr=>by rw[(List.mem_replicate.1 hr).2];simp[hzs,hks]) (by rw[dx];exact hfit)
   refine ⟨.tuple #[],_, .inl ?_,ρ,by rw[hd];exact f2⟩;have:=run_storeCells_at P g (off*k) e' (Builtin.zeroCells ei.zero.cells len).toList 0 cur w r1 (by simpa using f1) (iH S5);obtain ⟨len',rfl⟩:∃ n,len=n+1:=⟨len-1,by omega⟩
   simp only[Nat.add_zero] at this;simp[execOp,ho,resolve,invoke,builtin,Builtin.clear_,run_underlying hu,e5,Za,this,splice]
theorem C4 {x:Operand} {t e:TypeId} {ti:TI} {n:Nat} (h:aU w0 p σ a w ρ) (ht:aA P t=some ti) (hk:ti.kind.elem? = some e) (hx:lW (bh σ x)=some n):
  ∃ b:Bool,(b=true->n=0)/\(∀ o:Oper,o.op = .binOp .eql t x (.const (.slice none 0 0)) t->(execOp a.eval o).run P w = .ok (.value (.bool b)) w)/\(∀ o:Oper,o.op = .binOp .neq t x (.const (.slice none 0 0)) t->(execOp a.eval o).run P w = .ok (.value (.bool !b)) w):=by
 have hu:=eV ht hk;have h1:=h.bh x
 have u0:∃ A c,a.eval x = .slice A n c/\(A=none->n=0):=by
  cases hx':bh σ x with
  | sl k rows=>
    rw[hx'] at h1 hx;simp only[lW,fD] at hx;simp only[R] at h1;obtain ⟨A,c,e1,_,_,e4⟩:=h1;refine ⟨A,c,by rw[e1,hx],fun hA=>?_⟩;rcases e4 with e4|⟨g,off,e4,_⟩
    ·rw[<- hx,e4];rfl
    ·rw[hA] at e4;cases e4
  | cW o k off len=>
    rw[hx'] at h1 hx;simp only[lW,fD] at hx;subst hx;simp only[R] at h1;rcases h1 with ⟨_,_,e3,A,e4⟩|⟨g,cap,A,_,_,e3,_,e5,e6⟩
    ·exact ⟨A,0,by rw[e4,e3],fun _=>e3⟩
    ·refine ⟨A,_,e5,fun hA=>?_⟩;by_cases h0:off<cap
     ·rw[hA] at e6;cases e6 h0
     ·omega
  | any|sc|agg|ro|ref|jN|cT|fn|mp=>rw[hx'] at hx;simp[lW] at hx
 obtain ⟨A,c,hA,hn⟩:=u0;refine ⟨A.isNone,fun hb=>hn (by cases A<;>simp_all),fun o ho=>?_,fun o ho=>?_⟩
 ·have hg:∀ y:Operand,eqGuard .eql t x y (.slice A n c) (.slice none 0 0)=pure ():=fun y=>rfl;have:=Lib.run_eql_slice_nil (P:=P) w t e A n c 0 0 hu;have he:a.eval (.const (.slice none 0 0)) = .slice none 0 0:=rfl;simp[execOp,ho,hA,he,hg,this]
 ·have hg:∀ y:Operand,eqGuard .neq t x y (.slice A n c) (.slice none 0 0)=pure ():=fun y=>rfl;have:=run_neq_slice_nil_any (P:=P) w t e A n c 0 0 hu;have he:a.eval (.const (.slice none 0 0)) = .slice none 0 0:=rfl;simp[execOp,ho,hA,he,hg,this]
end
theorem Rel.PE {P:Program} {σ:St} {w0:World} {p:Pm} {a:Act} {w:World} {ρ:Nm} (hr:aU w0 p σ a w ρ) {f:FuncId} {ds args:List D} {vs:List Value} {xs:List Obj} {τ:Type} {I:τ->Prop} {ret:τ->D} {outs:τ->List Obj} {ins new:List Nat} {dst:Option Nat} (b:Bool)
  (hc:wX P f xs args I ret outs) (hargs:if b then iu ins ds=some args/\jQ σ (iu ins) ins=some xs else fZ (ef σ ins 4) ds=some args/\jQ σ (fZ (ef σ ins 4)) ins=some xs/\∀ t,I t->Flat (ret t) (outs t)) (hvs:RL w (bO p σ.heap ρ w) ρ ds vs)
  (hn:(ins++new).Nodup) (hlen:∀ t,(ins++new).length=(outs t).length) (hh:(ins++new).all (ec σ.heap)=true) (hnew:new.all (fun o=>decide (o<1000))=true) (hlt:∀ t,vS (outs t).length (ret t)=true) (hlo:∀ t,(outs t).all (wu (outs t).length)=true):
  Calls P f vs.toArray w fun e w'=> ∃ v,e = .returned v/\∃ t,I t/\Rel w0 p (σ.sQ dst ins new (ret t) (outs t)) (a.put dst v) w':=by
 have MO:∀ o∈ins++new,ec σ.heap o=true:=fun o ho=>by simpa using yN.1 hh o ho
 have CL:∀ o∈new,o<1000:=fun o ho=>by have:=yN.1 hnew o ho;simpa using this
 have hni:ins.Nodup:=(List.nodup_append.1 hn).1;cases b
 ·simp only[pT,jd] at hargs;obtain ⟨h1,h2,h3⟩:=hargs;have pP:=kE h2;have hok:=sR (st:=J6 p σ ρ ins w) hr hni h2 uk (fun o g ho hl e hs=>hs.2.2 o ho hl e) (fun cs cs' vs hcs hvs=>iq (qx hr 4) hcs hvs);refine (hc.run w (J6 p σ ρ ins w) _ vs (fun g hg=>hg.2.1) hok (iq (qx hr 4) h1 hvs)).mono ?_;rintro e w' ⟨t,hI,v,rfl,ρ',ho⟩;exact ⟨v,rfl,t,hI,hr.call pP.1 (fun j hj hd=>(je (pP.2 j hj)).1 hd) ho hn (hlen t) MO CL (hlt t) (hlo t) (.inr (h3 t hI))⟩
 ·simp only[jg] at hargs;obtain ⟨h1,h2⟩:=hargs;have pP:=kE h2;have hρ:∀ o,o∈ins->ni ρ ins (ins.idxOf o)=ρ o:=fun o ho=>nH ho;have hok:=sR (st:=bO p σ.heap ρ w) hr hni h2 (fun g hg=>hg) (fun o g _ hl e hs=>hs.2.2 o hl e) (fun cs cs' vs hcs hvs=>RL.vU hρ hcs hvs);refine (hc.run w (bO p σ.heap ρ w) _ vs (fun g hg=>hg.2.1) hok (RL.vU hρ h1 hvs)).mono ?_;rintro e w' ⟨t,hI,v,rfl,ρ',ho⟩;exact ⟨v,rfl,t,hI,hr.call pP.1 (fun j hj hd=>(je (pP.2 j hj)).1 hd) ho hn (hlen t) MO CL (hlt t) (hlo t) (.inl fun g hg=>hg)⟩
section
variable {P:Program} {ds:List (Option Nat)} {Q:Exit->St->Prop} {σ σ':St} {l:List Oper} {dst:Option Nat} {ty:TypeId} {pos:String} {af:Array Edge} {g:Option (Nat×Bool)}
theorem ah.PE {f:FuncId} {x:Operand} {xs:Array Operand} {ts:Array TypeId} {caps args:List D} {objs:List Obj} {τ:Type} {I:τ->Prop} {ret:τ->D} {outs:τ->List Obj} (b:Bool) (ins new:List Nat)
  (hg:bq ds g σ=some true) (hx:bh σ x = .fn f caps) (hc:wX P f objs args I ret outs)
  (hargs:if b then iu ins (xs.toList.map (bh σ)++caps)=some args/\jQ σ (iu ins) ins=some objs else fZ (ef σ ins 4) (xs.toList.map (bh σ)++caps)=some args/\jQ σ (fZ (ef σ ins 4)) ins=some objs/\∀ t,I t->Flat (ret t) (outs t))
  (hn:(ins++new).Nodup) (hlen:∀ t,(ins++new).length=(outs t).length) (hh:(ins++new).all (ec σ.heap)=true) (hnew:new.all (fun o=>decide (o<1000))=true) (hlt:∀ t,vS (outs t).length (ret t)=true) (hlo:∀ t,(outs t).all (wu (outs t).length)=true)
  (hnext:∀ t,I t->ah P ds Q l (σ.sQ dst ins new (ret t) (outs t))):ah P ds Q (⟨dst, .call { callee:= .value x,args:=xs,argTypes:=ts },ty,pos,af,g⟩::l) σ:=by
 intro all ha w0 p a w hr;have hw:=aT (all:=all) (o:=⟨dst, .call { callee:= .value x,args:=xs,argTypes:=ts },ty,pos,af,g⟩) (by rw[bV ha];exact hg) hr;obtain ⟨ρ,hr⟩:=hr;have hx':=hr.bh x;rw[hx] at hx';simp only[R] at hx';obtain ⟨vs,hf,CM⟩:=hx';have hrun:=wY (P:=P) (w:=w) (o:=⟨dst, .call { callee:= .value x,args:=xs,argTypes:=ts },ty,pos,af,g⟩) rfl hf hc.call;have hall:=iG (mR hr xs.toList) CM
 have has:(xs.map a.eval++vs)=(xs.toList.map a.eval++vs.toList).toArray:=by
  apply Ig.1;simp
 rw[has] at hrun;exact pY hw hrun (Rel.PE (dst:=dst) hr b hc hargs hall hn hlen hh hnew hlt hlo) (fun v w' ⟨t,hI,hv⟩=>hnext t hI all ha w0 p _ _ hv)
theorem ah.norm (h:σ=σ') (hn:ah P ds Q l σ'):ah P ds Q l σ:=by subst h;exact hn
theorem ay.norm {c:Code} (h:σ=σ') (hn:ay P c Q σ'):ay P c Q σ:=by subst h;exact hn
theorem ah.Kv {x:Operand} {t e:TypeId} {ti:TI} {n:Nat} (hg:bq ds g σ=some true) (ht:aA P t=some ti) (hk:ti.kind.elem? = some e) (hx:lW (bh σ x)=some n)
  (hn:∀ b:Bool,(b=true->n=0)->ah P ds Q l (σ.put dst (.sc (.bool b)))):ah P ds Q (⟨dst, .binOp .eql t x (.const (.slice none 0 0)) t,ty,pos,af,g⟩::l) σ:=by
 intro all ha w0 p a w hr;have hw:=aT (all:=all) (o:=⟨dst, .binOp .eql t x (.const (.slice none 0 0)) t,ty,pos,af,g⟩) (by rw[bV ha];exact hg) hr;obtain ⟨ρ,hr⟩:=hr;obtain ⟨b,hb,h1,_⟩:=C4 hr ht hk hx;exact bp hw (.inl (h1 _ rfl)) (hn b hb all ha w0 p _ _ ⟨ρ,hr.put dst (by simp[R])⟩)
theorem ah.copy {s x:Operand} {t t' e:TypeId} {ti ei:TI} {q k off len m:Nat} {rows es:List (List D)} (hg:bq ds g σ=some true)
  (ht:aA P t=some ti) (hk:ti.kind.elem? = some e) (he:aA P e=some ei) (hks:ei.size=k) (hs:bh σ s = .cW q k off len) (hrow:az σ.heap q = .row k rows) (hx:iJ σ k (bh σ x)=some es) (hm:min es.length len=m) (hfit:off+m<=rows.length)
  (hn:ah P ds Q l (St.put { σ with heap:=aG σ.heap q (.row k (splice rows off (es.take m))) } dst (.sc (.int .i64 m)))):ah P ds Q (⟨dst, .call { callee:= .builtin .copy,args:= #[s,x],argTypes:= #[t,t'] },ty,pos,af,g⟩::l) σ:=
 fun all ha=>dH.oZ (by rw[bV ha];exact hg) (cP.copy rfl ht hk he hks hs hrow hx hm hfit) (hn all ha)
theorem ah.uy {s x:Operand} {t e:TypeId} {ti ei:TI} {q k n:Nat} {rows es:List (List D)} (hg:bq ds g σ=some true)
  (ht:aA P t=some ti) (hk:ti.kind.elem? = some e) (he:aA P e=some ei) (hks:ei.size=k) (yQ:0<k) (qZ:ei.zero.cells.toList.all (·.oneCell')=true) (hb0:0<ei.bytes) (hs:bh σ s = .cW q k 0 n) (hrow:az σ.heap q = .row k rows) (hx:iJ σ k (bh σ x)=some es) (hfit:n+es.length<=rows.length) (hb:rows.length*ei.bytes<=140737488355328)
  (hn:ah P ds Q l (St.put { σ with heap:=aG σ.heap q (.row k (splice rows n es)) } dst (.cW q k 0 (n+es.length)))):ah P ds Q (⟨dst, .call { callee:= .builtin .append,args:= #[s,x],argTypes:= #[t,t] },ty,pos,af,g⟩::l) σ:=
 fun all ha=>dH.oZ (by rw[bV ha];exact hg) (cP.uy rfl ht hk he hks yQ qZ hb0 hs hrow hx hfit hb) (hn all ha)
theorem ah.clear {s:Operand} {t e:TypeId} {ti ei:TI} {q k off len:Nat} {rows:List (List D)} (hg:bq ds g σ=some true)
  (ht:aA P t=some ti) (hk:ti.kind.elem? = some e) (he:aA P e=some ei) (hks:ei.size=k) (hzs:ei.zero.cells.size=ei.size) (qZ:ei.zero.cells.toList.all (·.oneCell')=true) (hs:bh σ s = .cW q k off len) (hrow:az σ.heap q = .row k rows) (hfit:off+len<=rows.length)
  (hn:ah P ds Q l { σ with heap:=aG σ.heap q (.row k (splice rows off (List.replicate len (ei.zero.cells.toList.map .sc)))) }):ah P ds Q (⟨none, .call { callee:= .builtin .clear,args:= #[s],argTypes:= #[t] },ty,pos,af,g⟩::l) σ:=
 fun all ha=>dH.oZ (by rw[bV ha];exact hg) (cP.clear rfl rfl ht hk he hks hzs qZ hs hrow hfit) (hn all ha)
end
theorem Fu (k:Nat):((k:Int)-1).toNat=k-1:=by omega
theorem Fv (k:Nat):((k:Int)+1).toNat=k+1:=by omega
theorem fB {α β:Type} (f:α->β) (l:List α):(l.map f).take l.length=l.map f:=lu (by rw[dD];exact iU _)
theorem Kw {α:Type} (l:List α):l.take l.length=l:=Na
theorem C5 {α:Type} {l:List α} {k:Nat} {x:α} (h:l[k]? = some x):l.take (k+1)=l.take k++[x]:=by
 rw[HY,h];rfl
attribute [go_sem] Nat.le_refl List.length_set List.map_set fB Kw Fu Fv
theorem i5 (x:Int) (n:Nat) (h:n<=62):bits .and .i64 x ((2^n-1:Nat):Int)=x%((2^n:Nat):Int):=by
 have hp:(2^n:Nat)<=2^62:=Nat.pow_le_pow_right (by omega) h;have h62:(2^62:Nat)=4611686018427387904:=by decide
 have h0:0<(2^n:Nat):=Nat.pow_pos (by omega)
 have hd:((2^n:Nat):Int) ∣ 18446744073709551616:=by
  have:(2^n:Nat) ∣ 2^64:=Nat.pow_dvd_pow 2 (by omega);have Zb:(2^64:Nat)=18446744073709551616:=by decide
  rw[Zb] at this;exact Int.natCast_dvd_natCast.2 this
 have key:((BitVec.ofInt 64 x &&& BitVec.ofInt 64 ((2^n-1:Nat):Int)).toNat:Int)=x%((2^n:Nat):Int):=by
  rw[BitVec.toNat_and,BitVec.toNat_ofInt,BitVec.toNat_ofInt]
  have e1:(((2^n-1:Nat):Int)%((2^64:Nat):Int)).toNat=2^n-1:=by
   rw[Int.emod_eq_of_lt (by omega) (by have:(2^64:Nat)=18446744073709551616:=by decide
                                       rw[this];omega)]
   omega
  rw[e1,Nat.and_two_pow_sub_one_eq_mod];have hx:0<=x%((2^64:Nat):Int):=Int.emod_nonneg _ (by decide);rw[Int.natCast_emod,Int.toNat_of_nonneg hx];exact Int.emod_emod_of_dvd x hd
 have hw:bits .and .i64 x ((2^n-1:Nat):Int)=IntKind.i64.wrap ((BitVec.ofInt 64 x &&& BitVec.ofInt 64 ((2^n-1:Nat):Int)).toNat:Int):=rfl;rw[hw,key];have h1:=Int.emod_nonneg x (show ((2^n:Nat):Int)≠0 by omega);have h2:=Int.emod_lt_of_pos x (show (0:Int)<((2^n:Nat):Int) by omega);exact IntWalk.i64_in _ ⟨by omega,by omega⟩
theorem and_1 (x:Int):bits .and .i64 x 1=x%2:=i5 x 1 (by omega)
theorem and_3 (x:Int):bits .and .i64 x 3=x%4:=i5 x 2 (by omega)
theorem S6 (x:Int):bits .and .i64 x 7=x%8:=i5 x 3 (by omega)
theorem QL (x:Int):bits .and .i64 x 15=x%16:=i5 x 4 (by omega)
theorem QM (x:Int):bits .and .i64 x 31=x%32:=i5 x 5 (by omega)
theorem QN (x:Int):bits .and .i64 x 63=x%64:=i5 x 6 (by omega)
theorem Nw (x:Int):bits .and .i64 x 127=x%128:=i5 x 7 (by omega)
theorem Nx (x:Int):bits .and .i64 x 255=x%256:=i5 x 8 (by omega)
theorem Ny (x:Int):bits .and .i64 x 4095=x%4096:=i5 x 12 (by omega)
theorem Kx (x:Int):bits .and .i64 x 65535=x%65536:=i5 x 16 (by omega)
theorem Fw (x:Int):bits .and .i64 x 16777215=x%16777216:=i5 x 24 (by omega)
section
variable {P:Program} {ds:List (Option Nat)} {Q:Exit->St->Prop} {σ:St} {l:List Oper} {dst:Option Nat} {ty:TypeId} {pos:String} {af:Array Edge} {g:Option (Nat×Bool)} {x:Operand} {t:TypeId} {xs:Array Operand} {ts:Array TypeId}
theorem BM (h:ah P ds Q (⟨dst, .binOp .eql t x (.const (.slice none 0 0)) t,ty,pos,af,g⟩::l) σ):ah P ds Q (⟨dst, .binOp .eql t x (.const (.slice none 0 0)) t,ty,pos,af,g⟩::l) σ:=h
theorem Ky (h:ah P ds Q (⟨dst, .call { callee:= .builtin .copy,args:=xs,argTypes:=ts },ty,pos,af,g⟩::l) σ):ah P ds Q (⟨dst, .call { callee:= .builtin .copy,args:=xs,argTypes:=ts },ty,pos,af,g⟩::l) σ:=h
theorem G7 (h:ah P ds Q (⟨dst, .call { callee:= .builtin .clear,args:=xs,argTypes:=ts },ty,pos,af,g⟩::l) σ):ah P ds Q (⟨dst, .call { callee:= .builtin .clear,args:=xs,argTypes:=ts },ty,pos,af,g⟩::l) σ:=h
theorem nM (h:ah P ds Q (⟨dst, .call { callee:= .builtin .append,args:=xs,argTypes:=ts },ty,pos,af,g⟩::l) σ):ah P ds Q (⟨dst, .call { callee:= .builtin .append,args:=xs,argTypes:=ts },ty,pos,af,g⟩::l) σ:=h
end
theorem y9 {P:Program} {t:TypeId} (h:P.underlying t=some .bool) (x y:Operand) (a b:Bool):vV P .eql t x y (.bool a) (.bool b)=some (.bool (a==b)):=by
 show aQ P (do eqGuard .eql t x y (.bool a) (.bool b);Go.binOp .eql t (.bool a) (.bool b))=_;have hg:eqGuard .eql t x y (.bool a) (.bool b)=pure ():=rfl;have hb:Go.binOp .eql t (.bool a) (.bool b)=(do let r <- Op.equal t (.bool a) (.bool b);pure (.bool r)):=rfl;rw[hg,bk,hb];show (aQ P (do let r <- Op.equal t (.bool a) (.bool b);pure (Value.bool r)))=_;rw[bk]
 have he:aQ P (Op.equal t (.bool a) (.bool b))=some (a==b):=by
  show aQ P (Op.equalIn (9999+1) t (.bool a) (.bool b))=_;unfold Op.equalIn;rw[bk,cm h];rfl
 rw[he];rfl
theorem za {P:Program} {t:TypeId} (h:P.underlying t=some .bool) (x y:Operand) (a b:Bool):vV P .neq t x y (.bool a) (.bool b)=some (.bool (!(a==b))):=by
 show aQ P (do eqGuard .neq t x y (.bool a) (.bool b);Go.binOp .neq t (.bool a) (.bool b))=_;have hg:eqGuard .neq t x y (.bool a) (.bool b)=pure ():=rfl;have hb:Go.binOp .neq t (.bool a) (.bool b)=(do let r <- Op.equal t (.bool a) (.bool b);pure (.bool !r)):=rfl;rw[hg,bk,hb];show (aQ P (do let r <- Op.equal t (.bool a) (.bool b);pure (Value.bool !r)))=_;rw[bk]
 have he:aQ P (Op.equal t (.bool a) (.bool b))=some (a==b):=by
  show aQ P (Op.equalIn (9999+1) t (.bool a) (.bool b))=_;unfold Op.equalIn;rw[bk,cm h];rfl
 rw[he];rfl
theorem Kz:IntKind.i64.bits=64:=rfl
theorem KA:IntKind.u64.bits=64:=rfl
theorem Nz:IntKind.u8.bits=8:=rfl
theorem KB:IntKind.u32.bits=32:=rfl
theorem KC:IntKind.i32.bits=32:=rfl
theorem C6 {a b:Int} (h:0<=a):a.tdiv b=a/b:=Int.tdiv_eq_ediv_of_nonneg h
theorem C7 {a b:Int} (h:0<=a):a.tmod b=a%b:=Int.tmod_eq_emod_of_nonneg h
attribute [go_sem] and_1 and_3 S6 QL QM QN Nw Nx Ny Kx Fw Kz KA Nz KB KC Nat.min_def
def dn (P:Program) {α:Type} (s:Sem α):Prop:= ∀ w a w1,s.run P w = .ok a w1->w1=w/\∀ w',s.run P w' = .ok a w'
section
variable {P:Program} {α β:Type}
theorem dn.kj (a:α):dn P (pure a:Sem α):=fun w b w1 h=>by
 simp only[Sem.run_pure,Result.ok.injEq] at h;obtain ⟨rfl,rfl⟩:=h;exact ⟨rfl,fun w'=>by simp⟩
theorem dn.lF {x:Sem α} {f:α->Sem β} (hx:dn P x) (hf:∀ a,dn P (f a)):dn P (x >>= f):=fun w b w2 h=>by
 rw[Sem.run_bind] at h;cases hr:x.run P w with
 | ok a w1=>
   rw[hr,Result.andThen_ok] at h;obtain ⟨rfl,h1⟩:=hx w a w1 hr;obtain ⟨rfl,h2⟩:=hf a _ _ _ h;exact ⟨rfl,fun w'=>by rw[Sem.run_bind,h1 w',Result.andThen_ok];exact h2 w'⟩
 | halt e w1=>rw[hr] at h;cases h
def jl (P:Program) {α:Type} (s:Sem α):Prop:= ∀ w a w1,s.run P w≠ .ok a w1
theorem dn.never {s:Sem α} (h:jl P s):dn P s:=fun w a w1 he=>absurd he (h w a w1)
theorem jl.kZ (x:Halt):jl P (.halt x:Sem α):=fun w a w1 h=>by cases h
theorem jl.lF {x:Sem α} {f:α->Sem β} (hf:∀ a,jl P (f a)):jl P (x >>= f):=fun w b w2 h=>by
 rw[Sem.run_bind] at h;cases hr:x.run P w with
 | ok a w1=>rw[hr,Result.andThen_ok] at h;exact hf a _ _ _ h
 | halt e w1=>rw[hr] at h;cases h
theorem jl.bounds (k:IntKind) (x y:Int) (c:BoundsCode):jl P (boundsPanic k x y c:Sem α):=by
 unfold boundsPanic;dsimp only
 split<;>exact jl.lF fun s=>jl.lF fun p=>jl.kZ _
theorem dn.kZ (x:Halt):dn P (.halt x:Sem α):= .never (jl.kZ x)
theorem dn.C8:dn P program:=fun w a w1 h=>by
 have e:∀ w,(program:Sem Program).run P w = .ok P w:=fun _=>rfl;rw[e,Result.ok.injEq] at h;obtain ⟨rfl,rfl⟩:=h;exact ⟨rfl,e⟩
theorem dn.jD (t:TypeId):dn P (underlying t):=by
 unfold underlying;exact dn.lF dn.C8 fun p=>by split;exact dn.kj _;exact dn.kZ _
theorem dn.Iy (t:TypeId):dn P (typeInfo t):=by
 unfold typeInfo;exact dn.lF dn.C8 fun p=>by split;exact dn.kj _;exact dn.kZ _
theorem dn.qB (t:TypeId):dn P (sizeOf t):=dn.lF (dn.Iy t) fun _=>dn.kj _
theorem dn.l5 (v:Value):dn P (asIntOf v):=by
 unfold asIntOf;split
 ·exact dn.kj _
 ·exact dn.kZ _
 ·exact dn.kZ _
theorem dn.sZ (v:Value):dn P (asBool v):=by
 unfold asBool;split
 ·exact dn.kj _
 ·exact dn.kZ _
theorem dn.qC (v:Value):dn P (Instr.sureAddr v):=by
 unfold Instr.sureAddr;split
 ·exact dn.kj _
 ·exact dn.kZ _
theorem dn.jE (x:Value) (y:Nat) (c:BoundsCode):dn P (Instr.sliceBound x y c):=by
 unfold Instr.sliceBound;refine dn.lF (dn.l5 x) fun ki=>?_
 split
 split
 ·exact dn.kj _
 ·exact dn.never (jl.bounds _ _ _ _)
theorem dn.jW (b:Bool) (n c:Nat) (lo hi mx:Option Value):dn P (Instr.sliceBounds b n c lo hi mx):=by
 unfold Instr.sliceBounds;dsimp only
 repeat'(first|exact dn.kj _|exact dn.kZ _|exact dn.jE _ _ _|exact dn.jD _|exact dn.qB _|exact dn.l5 _|exact dn.sZ _|exact dn.qC _|exact dn.never (jl.bounds _ _ _ _)|refine dn.lF ?_ (fun _=>?_)|split)
theorem dn.KD (v:Value):dn P (asAddr v):=by
 unfold asAddr;split
 ·exact dn.kj _
 ·unfold runtimePanic;exact dn.never (jl.lF fun p=>jl.kZ _)
 ·exact dn.kZ _
theorem dn.QO (t:TypeId) (x:Value) (lo hi mx:Option Value):dn P (Instr.slice t x lo hi mx):=by
 unfold Instr.slice;dsimp only
 repeat'(first|exact dn.kj _|exact dn.kZ _|exact dn.jE _ _ _|exact dn.jD _|exact dn.qB _|exact dn.l5 _|exact dn.KD _|exact dn.qC _|exact dn.jW _ _ _ _ _ _|exact dn.never (jl.bounds _ _ _ _)|refine dn.lF ?_ (fun _=>?_)|split)
theorem dn.KE (t:TypeId) (x:Value) (lo hi mx:Option Value):dn P (Instr.sliceAt t x lo hi mx):=by
 unfold Instr.sliceAt;dsimp only
 repeat'(first|exact dn.kj _|exact dn.kZ _|exact dn.jE _ _ _|exact dn.jD _|exact dn.qB _|exact dn.l5 _|exact dn.QO _ _ _ _ _|exact dn.qC _|exact dn.jW _ _ _ _ _ _|exact dn.never (jl.bounds _ _ _ _)|refine dn.lF ?_ (fun _=>?_)|split)
theorem dn.KF (t:TypeId) (x i:Value):dn P (Instr.indexAt t x i):=by
 unfold Instr.indexAt;dsimp only
 repeat'(first|exact dn.kj _|exact dn.kZ _|exact dn.jE _ _ _|exact dn.jD _|exact dn.qB _|exact dn.l5 _|exact dn.sZ _|exact dn.qC _|exact dn.jW _ _ _ _ _ _|exact dn.never (jl.bounds _ _ _ _)|refine dn.lF ?_ (fun _=>?_)|split)
theorem dn.KG (x:Value) (i:Nat):dn P (Instr.extract x i):=by
 unfold Instr.extract
 repeat'(first|exact dn.kj _|exact dn.kZ _|exact dn.jE _ _ _|exact dn.jD _|exact dn.qB _|exact dn.l5 _|exact dn.sZ _|exact dn.qC _|exact dn.jW _ _ _ _ _ _|exact dn.never (jl.bounds _ _ _ _)|refine dn.lF ?_ (fun _=>?_)|split)
theorem dn.Iz (f:Fn) (a b:Array Value):dn P (Instr.makeFunc f a b):=by
 unfold Instr.makeFunc
 repeat'(first|exact dn.kj _|exact dn.kZ _|exact dn.jE _ _ _|exact dn.jD _|exact dn.qB _|exact dn.l5 _|exact dn.sZ _|exact dn.qC _|exact dn.jW _ _ _ _ _ _|exact dn.never (jl.bounds _ _ _ _)|refine dn.lF ?_ (fun _=>?_)|split)
end
def zb (P:Program) (σ:St):Op->Bool
 | .move _ | .assign _ | .pick .. | .extract .. | .slice .. | .makeFunc .. | .indexAddr .. | .fieldAddr .. | .binOp .. | .unOp .. =>true
 | .convert s t x=>((iJ σ 1 (bh σ x)).bind (xb P s t)).isNone
 | .call { callee:= .builtin .len, .. }=>true
 | _=>false
section
variable {P:Program} {σ:St}
theorem xo {t:TypeId} {i off:Nat} {ti fi:TI} {ft:TypeId} (ht:aA P t=some ti) (hi:ti.kind.fields[i]? = some (off,ft)) (hf:aA P ft=some fi) (hn:fi.size≠0) (g q:Nat) (w:World):
  (Instr.fieldAt t (.pointer (some ⟨g,q,none⟩)) i).run P w = .ok (.pointer (some ⟨g,q+off,none⟩)) w:=by
 obtain ⟨⟨dt,hu,hk⟩,_⟩:=ej ht w;cases hkk:ti.kind with
 | struct fs=>
   rw[hkk] at hk hi;obtain ⟨F,rfl,hF⟩:=qv hk;obtain ⟨f,pH,mK,R2⟩:=wV hF hi;obtain ⟨_,hsz,_,_,_⟩:=ej hf w;simp[Instr.fieldAt,hu,pH,Instr.sureAddr,fieldPlace,R2,hsz,hn,mK,Addr.add_lit]
 | _=>rw[hkk] at hi;simp[TK.fields] at hi
theorem BN {w0:World} {p:Pm} {a:Act} {w:World} {ρ:Nm} {x:Operand} {n:Nat} {d:D} (h:aU w0 p σ a w ρ) (hd:jO n (bh σ x)=some d):∃ g q,a.eval x = .pointer (some ⟨g,q,none⟩):=by
 have h1:=h.bh x;cases hx:bh σ x<;>rw[hx] at hd h1<;>simp only[jO,reduceCtorEq] at hd<;>simp only[R] at h1
 ·obtain ⟨g,q,e1,_⟩:=h1;exact ⟨g,q,e1⟩
 ·obtain ⟨g,_,e2⟩:=h1;exact ⟨g,_,e2⟩
 ·obtain ⟨g,_,e2⟩:=h1;exact ⟨g,_,e2⟩
theorem Fx {w0:World} {p:Pm} {a:Act} {w:World} {ρ:Nm} {x:Operand} {n:Nat} (h:aU w0 p σ a w ρ) (hn:lW (bh σ x)=some n):∃ A c,a.eval x = .slice A n c:=by
 have h1:=h.bh x;cases hx:bh σ x with
 | sl k rows=>
   rw[hx] at h1 hn;simp only[lW,fD] at hn;simp only[R] at h1;obtain ⟨A,c,e1,_⟩:=h1;exact ⟨A,c,by rw[e1,hn]⟩
 | cW o k off len=>
   rw[hx] at h1 hn;simp only[lW,fD] at hn;subst hn;simp only[R] at h1;rcases h1 with ⟨_,_,e3,A,e4⟩|⟨g,cap,A,_,_,_,_,e5,_⟩
   ·exact ⟨A,0,by rw[e4,e3]⟩
   ·exact ⟨A,_,e5⟩
 | any|sc|agg|ro|ref|jN|cT|fn|mp=>rw[hx] at hn;simp[lW] at hn
theorem dn.BO {s:Sem Value} (h:dn P s):dn P (do pure (Next.value (<- s))):=dn.lF h fun _=>dn.kj _
theorem dn.oy {s:Sem Next} {v:Value} (h:∀ w,s.run P w = .ok (.value v) w):dn P s:=fun w a w1 he=>by
 rw[h w,Result.ok.injEq] at he;obtain ⟨rfl,rfl⟩:=he;exact ⟨rfl,h⟩
theorem C9 {op:Op} {d:D} (hop:zb P σ op=true) (h:gS P σ op=some d) {w0:World} {p:Pm} {a:Act} {w:World} {ρ:Nm} {o:Oper} (ho:o.op=op) (hr:aU w0 p σ a w ρ):
  dn P (execOp a.eval o):=by
 cases op with
 | move x=>simp only[execOp,ho];exact dn.kj _
 | assign x=>simp only[execOp,ho];exact dn.kj _
 | pick c x y=>simp only[execOp,ho];exact dn.lF (dn.sZ _) fun b=>dn.kj _
 | extract x i=>simp only[execOp,ho];exact dn.BO (dn.KG _ _)
 | slice t x lo hi mx=>simp only[execOp,ho];exact dn.BO (dn.KE _ _ _ _ _)
 | makeFunc f l c=>simp only[execOp,ho];exact dn.BO (dn.Iz _ _ _)
 | indexAddr t x i=>simp only[execOp,ho];exact dn.BO (dn.KF _ _ _)
 | fieldAddr t x i=>
   simp only[gS,j3] at h;obtain ⟨ti,ht,⟨off,ft⟩,hi,fi,hf,h⟩:=h
   split at h
   ·rename_i hn;obtain ⟨g,q,hp⟩:=BN hr h;refine dn.oy (v:= .pointer (some ⟨g,q+off,none⟩)) fun w'=>?_;simp only[execOp,ho,hp,Sem.run_bind,xo ht hi hf hn,Result.andThen_ok,Sem.run_pure]
   ·cases h
 | binOp op t x y ty=>
   simp only[gS,j3,ku] at h;obtain ⟨u,hu,v,hv,z,hz,rfl⟩:=h;have h1:=fW hu (hr.bh x);have h2:=fW hv (hr.bh y);refine dn.oy (v:=z) fun w'=>?_;have h3:=fA w' (Ab hz);simp only[execOp,ho,h1,h2,Sem.run_bind,Sem.run_pure] at h3 ⊢;rw[h3];rfl
 | unOp op t x=>
   simp only[gS,j3,ku] at h;obtain ⟨u,hu,z,hz,rfl⟩:=h;have h1:=fW hu (hr.bh x);refine dn.oy (v:=z) fun w'=>?_;have h3:=fA w' (CS hz);simp only[execOp,ho,h1,Sem.run_bind,Sem.run_pure];rw[h3];rfl
 | convert s t x=>
   simp only[zb,Option.isNone_iff_eq_none] at hop;simp only[gS,hop,j3,ku] at h;obtain ⟨u,hu,z,hz,rfl⟩:=h;have h1:=fW hu (hr.bh x);refine dn.oy (v:=z) fun w'=>?_;have h3:=fA w' (w9 hz);simp only[execOp,ho,h1,Sem.run_bind,Sem.run_pure];rw[h3];rfl
 | call c=>
   obtain ⟨f,xs,ts⟩:=c;cases f<;>simp only[zb,reduceCtorEq,pT] at hop;rename_i b;cases b<;>simp only[reduceCtorEq,pT] at hop;simp only[gS] at h
   split at h
   ·rename_i x t hxs hts;have V6:=Np hxs;have V7:=Np hts;subst V6 V7
    split at h
    ·rename_i n hn;obtain ⟨A,c,hA⟩:=Fx hr hn;simp only[j3,ku] at h;obtain ⟨ti,ht,e,he,rfl⟩:=h;refine dn.oy (v:= .int .i64 n) fun w'=>?_;obtain ⟨⟨dt,hu,zW⟩,_⟩:=ej ht w';cases hkk:ti.kind with
     | slice e'=>
       rw[hkk] at zW;obtain rfl:=iY zW;simp[execOp,ho,resolve,invoke,builtin,Builtin.len_,hu,hA,goInt]
     | _=>rw[hkk] at he;simp[TK.elem?] at he
    ·simp only[j3,ku] at h;obtain ⟨v,hv,z,hz,rfl⟩:=h;have h1:=fW hv (hr.bh _);refine dn.oy (v:=z) fun w'=>?_;have h3:=fA w' hz;have e:∀ u t',Builtin.len_ #[u] t' #[v]=Builtin.len_ #[u] 0 #[v]:=fun _ _=>rfl;simp only[execOp,ho,resolve,invoke,Go.builtin,Sem.run_bind,Sem.run_pure,Result.andThen_ok,List.map_toArray,fk,eN,h1,e];rw[h3];rfl
   all_goals first|cases h|(simp_all;done)
 | _=>simp[zb] at hop
theorem Oper.Ai {o:Oper} {a:Act} {w:World} {K:Act->World->Prop} {Q1 Q2:Exit->Act->World->Prop} (hq:∀ e a w,Q1 e a w->Q2 e a w) (h:o.wp P a w K Q1):o.wp P a w K Q2:=by
 unfold Oper.wp at *;generalize (execOp a.eval o).run P w=r at *;cases r with
 | ok n w'=>
   cases n<;>simp only[Oper.upon] at h ⊢<;>first
    | exact h
    | exact Calls.mono h (fun e w'' he=>by
      cases e with
      | returned v=>exact he
      | panicked c=>exact hq _ _ _ he
      | outgrown=>obtain ⟨a,w,h3⟩:=he;exact ⟨a,w,hq _ _ _ h3⟩)
 | halt x w'=>cases x<;>simp only[Oper.upon] at h ⊢<;>first|exact h|exact hq _ _ _ h
theorem p6 {ops:Array Oper} {Q1 Q2:Exit->Act->World->Prop} (hq:∀ e a w,Q1 e a w->Q2 e a w):∀ (fuel:Nat) (listed:Array Bool) (a:Act) (w:World),wpAny P .any ops Q1 fuel listed a w->wpAny P .any ops Q2 fuel listed a w
 | 0,_,_,_,h=>⟨h.1,hq _ _ _ h.2⟩
 | fuel+1,listed,a,w,h=>⟨fun h0=>hq _ _ _ (h.1 h0),fun i hi=>by
   have h1:=wpOp_mono (fun a' w' h'=>p6 hq fuel _ a' w' h') (h.2 i hi);unfold wpOp at h1 ⊢
   split
   ·rename_i h0;simpa[h0] using h1
   ·rename_i o ho;simp only[ho] at h1
    split
    ·rename_i hw;rw[bC hw] at h1;exact h1.imp (fun h2=>Oper.Ai hq h2) (fun h2=>⟨h2.1,by obtain ⟨a,w,h3⟩:=h2.2;exact ⟨a,w,hq _ _ _ h3⟩⟩)
    ·rename_i hw;rw[aE hw] at h1
     exact h1⟩
def zc (P:Program) (ops:Array Oper) (K:St->Prop) (fuel:Nat) (listed:Array Bool) (σ:St):Prop:=
 ∀ w0 p a w,Rel w0 p σ a w->wpAny P .any ops (fun e a' w'=>e = .normal/\∃ σ',K σ'/\Rel w0 p σ' a' w') fuel listed a w
variable {ops:Array Oper} {K:St->Prop} {fuel:Nat} {listed:Array Bool} {ds:List (Option Nat)}
theorem zc.done (hr:Region.ready .any ops listed=[]) (h:K σ):zc P ops K fuel listed σ:=fun w0 p a w i4=>wpAny_done hr ⟨rfl,σ,h,i4⟩ fuel
def i7 (ops:Array Oper) (listed:Array Bool) (i:Nat):Bool:=Region.noSelect ops&&Region.free .any ops listed i&&(Region.ready .any ops listed).contains i
theorem zc.first (i:Nat) {dst:Option Nat} {op:Op} {ty:TypeId} {pos:String} {af:Array Edge} {g:Option (Nat×Bool)} {σ':St} (hi:ops[i]? = some ⟨dst,op,ty,pos,af,g⟩) (hd:ops.toList.map (·.dst)=ds) (ht:i7 ops listed i=true) (hop:zb P σ op=true) (h:fK P ds dst op g σ=some σ')
  (hn:zc P ops K fuel (listed.setIfInBounds i true) σ'):zc P ops K (fuel+1) listed σ:=by
 simp only[i7,jj] at ht;obtain ⟨⟨t1,t2⟩,t3⟩:=ht;rintro w0 p a w i4;have KH:=i4;simp only[fK,j3] at h;obtain ⟨b,hb,h⟩:=h;rw[<- bV hd ⟨dst,op,ty,pos,af,g⟩ σ] at hb;have hw:=aT hb i4;obtain ⟨ρ,hr⟩:=i4;cases b
 ·simp only[pT,jd,fD] at h;subst h;exact wpAny_take hi t1 t2 t3 (fun c a w ⟨h1,_⟩=>by cases h1) (.inr ⟨hw,rfl⟩) (hn w0 p _ w ⟨ρ,hr.put dst (by simp[R])⟩)
 ·simp only[jg,ku] at h;obtain ⟨d,hd',rfl⟩:=h;obtain ⟨v,hv,hR⟩:=jx hd' w0 p a w ρ ⟨dst,op,ty,pos,af,g⟩ rfl hr;have hno:=(C9 hop hd' (o:=⟨dst,op,ty,pos,af,g⟩) rfl hr) w _ _ hv;exact wpAny_take hi t1 t2 t3 (fun c a w ⟨h1,_⟩=>by cases h1) (.inl ⟨hw,hno.2⟩) (hn w0 p _ w ⟨ρ,hr.put dst hR⟩)
def PF (P:Program) (ops:Array Oper) (ds:List (Option Nat)) (K:St->Prop) (fuel:Nat) (listed:Array Bool) (σ:St) (i:Nat):Prop:=
 ∃ o,ops[i]? = some o/\ah P ds (fun e σ'=>e = .normal/\zc P ops K fuel (listed.setIfInBounds i true) σ') [o] σ
def oz (P:Program) (ops:Array Oper) (ds:List (Option Nat)) (K:St->Prop) (fuel:Nat) (listed:Array Bool) (σ:St):List Nat->Prop
 | []=>True
 | i::l=>PF P ops ds K fuel listed σ i/\oz P ops ds K fuel listed σ l
theorem oz.all:∀ {l:List Nat},oz P ops ds K fuel listed σ l->∀ i∈l,PF P ops ds K fuel listed σ i
 | _::l,h,i,hi=>by
   rcases lp.1 hi with rfl|hi
   ·exact h.1
   ·exact h.2.all i hi
theorem zc.all (rs:List Nat) (hr:Region.ready .any ops listed=rs) (hne:rs≠[]) (hd:ops.toList.map (·.dst)=ds) (h:oz P ops ds K fuel listed σ rs):zc P ops K (fuel+1) listed σ:=by
 intro w0 p a w i4;refine wpAny_all hr hne fun i hi=>?_;obtain ⟨o,ho,ht⟩:=h.all i hi;have hl:=ht ops hd w0 p a w i4;unfold wpOp;simp only[ho];simp only[wpList] at hl
 split
 ·rename_i hw;rw[bC hw] at hl;rcases hl with hl|⟨h1,h2⟩
  ·left;unfold Oper.wp at hl ⊢;generalize (execOp a.eval o).run P w=r at *;cases r with
   | ok n w'=>
     cases n<;>simp only[Oper.upon] at hl ⊢<;>first
      | (obtain ⟨σ',⟨_,h3⟩,h4⟩:=hl;exact h3 _ _ _ _ h4)
      | exact Calls.mono hl (fun e w'' he=>by
        cases e with
        | returned v=>obtain ⟨σ',⟨_,h3⟩,h4⟩:=he;exact h3 _ _ _ _ h4
        | panicked c=>obtain ⟨σ',⟨h3,_⟩,_⟩:=he;cases h3
        | outgrown=>obtain ⟨_,_,σ',⟨h3,_⟩,_⟩:=he;cases h3)
      | exact Rows.mono hl (fun v w'' he=>by obtain ⟨σ',⟨_,h3⟩,h4⟩:=he;exact h3 _ _ _ _ h4)
      | exact hl
   | halt x w'=>cases x<;>simp only[Oper.upon] at hl ⊢<;>first|exact hl|(obtain ⟨σ',⟨h3,_⟩,_⟩:=hl;cases h3)
  ·obtain ⟨_,_,σ',⟨h3,_⟩,_⟩:=h2;cases h3
 ·rename_i hw;rw[aE hw] at hl;obtain ⟨σ',⟨_,h3⟩,h4⟩:=hl;exact h3 _ _ _ _ h4
theorem oz.nil:oz P ops ds K fuel listed σ []:=trivial
theorem oz.cons {i:Nat} {rs:List Nat} {o:Oper} (ho:ops[i]? = some o) (h:ah P ds (fun e σ'=>e = .normal/\zc P ops K fuel (listed.setIfInBounds i true) σ') [o] σ) (hn:oz P ops ds K fuel listed σ rs):oz P ops ds K fuel listed σ (i::rs):=⟨⟨o,ho,h⟩,hn⟩
theorem ay.mixed (id:Nat) {l:List Oper} {Q:Exit->St->Prop} (hm:P.follows .mixedOrders=true) (n:Nat) (hl:l.length=n) (h:zc P l.toArray (Q .normal) n (Array.replicate n false) σ):ay P (.region id l.toArray true) Q σ:=by
 rintro w0 p a w ⟨ρ,hr⟩;refine wp_region_any hm ?_;subst hl;refine p6 ?_ _ _ _ _ (h w0 p a _ ⟨ρ,hr.drew⟩);rintro e a' w' ⟨rfl,h2⟩;exact h2
end
end Go.eB
