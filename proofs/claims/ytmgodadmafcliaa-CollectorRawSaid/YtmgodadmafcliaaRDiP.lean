/- Directory: what its functions compute (plain). -/
import Derived.Test.YtmgodadmafcliaaRBl
set_option linter.unusedSimpArgs false
set_option linter.unusedVariables false
namespace Go.Proofs.Ytmgodadmafcliaa
open Go.RowKit Go.Avm
structure Bd where
 name:ByteArray
 obj:Int
 frm:Int
 to:Int
 deriving DecidableEq
def rowBd (b:Bd):List D:=[.sc (.string b.name), .sc (.int .i64 b.obj), .sc (.int .i64 b.frm), .sc (.int .i64 b.to)]
def bytesS (s:ByteArray):List Int:=s.data.toList.map fun b=>(b.toNat:Int)
theorem bytesS_len (s:ByteArray):(bytesS s).length=s.size:=by
 rw [bytesS,List.length_map,Array.length_toList];rfl
theorem bytesS_range {s:ByteArray} {i:Nat} {z:Int} (h:(bytesS s)[i]? = some z):0≤z∧z≤255:=by
 obtain ⟨x,_,rfl⟩:=List.mem_map.1 (List.mem_of_getElem? h)
 have:=x.toNat_lt
 omega
def lowC (c:Int):Bool:=decide (97≤c)&&decide (c≤122)
def digC (c:Int):Bool:=decide (48≤c)&&decide (c≤57)
def chrOk (c:Int):Bool:=lowC c||digC c||c==45||c==46
def nameOk (s:ByteArray):Bool:=decide (1≤(s.size:Int))&&decide ((s.size:Int)≤16)&&((bytesS s)[0]?).any lowC&&(bytesS s).all chrOk
def holdsB (f t c:Int):Bool:=decide (f≤c)&&(decide (c<t)||t==0)
def eqN (x y:ByteArray):Bool:=x.toList==y.toList
def ltN (x y:ByteArray):Bool:=Op.bytesLess x.toList y.toList
def badB (b:Bd):Int:=if nameOk b.name=false then 6 else if b.obj<1∨b.frm<1∨b.to<0 then 5 else if b.to≠0∧b.to≤b.frm then 19 else 0
def badP (a b:Bd):Bool:=ltN b.name a.name||(eqN b.name a.name&&(decide (b.frm≤a.frm)||a.to==0||decide (b.frm<a.to)))
def valid1 (prev:Option Bd):List Bd→Int
 | []=>0
 | b::l=>if badB b≠0 then badB b else if prev.any (fun a=>badP a b)=true then 19 else valid1 (some b) l
def ovB (a b:Bd):Bool:=(a.to==0||decide (b.frm<a.to))&&(b.to==0||decide (a.frm<b.to))
def dupB (l:List Bd):List Bd→Nat→Bool
 | [],_=>false
 | b::m,i=>(l.take i).any (fun a=>a.obj==b.obj&&ovB a b)||dupB l m (i+1)
def validB (l:List Bd):Int:=if valid1 none l≠0 then valid1 none l else if dupB l l 0=true then 9 else 0
def lateB (c:Int) (l:List Bd):Bool:=l.any fun b=>decide (c<b.frm)||decide (c<b.to)
def openP (n:ByteArray) (b:Bd):Bool:=eqN b.name n&&b.to==0
def idxB (p:Bd→Bool):List Bd→Nat→Int
 | [],_=> -1
 | b::l,i=>if p b=true then (i:Int) else idxB p l (i+1)
def openB (n:ByteArray) (l:List Bd):Int:=idxB (openP n) l 0
def ltB (x b:Bd):Bool:=ltN x.name b.name||(eqN x.name b.name&&decide (x.frm<b.frm))
def placeB (b:Bd):List Bd→Nat
 | []=>0
 | x::l=>if ltB x b=true then placeB b l+1 else 0
def addB (b:Bd) (l:List Bd):List Bd:=l.take (placeB b l)++[b]++l.drop (placeB b l)
def bindB (l:List Bd) (n:ByteArray) (o c:Int):List Bd×Int:=
 if validB l≠0 then ([],validB l) else if nameOk n=false then ([],6) else if o<1∨c<1 then ([],5) else if lateB c l=true then ([],19) else
 if l.any (fun b=>b.to==0&&(eqN b.name n||b.obj==o))=true then ([],9) else (addB ⟨n,o,c,0⟩ l,0)
def bdAt (l:List Bd) (i:Int):Bd:=(l[i.toNat]?).getD ⟨.empty,0,0,0⟩
def endB (l:List Bd) (i c:Int):List Bd:=l.set i.toNat ⟨(bdAt l i).name,(bdAt l i).obj,(bdAt l i).frm,c⟩
def unbindB (l:List Bd) (n:ByteArray) (c:Int):List Bd×Int:=
 if validB l≠0 then ([],validB l) else if nameOk n=false then ([],6) else if c<1 then ([],5) else if lateB c l=true then ([],19) else
 if openB n l<0 then ([],8) else if c≤(bdAt l (openB n l)).frm then ([],19) else (endB l (openB n l) c,0)
def renameB (l:List Bd) (n m:ByteArray) (c:Int):List Bd×Int:=
 if validB l≠0 then ([],validB l) else if nameOk n=false∨nameOk m=false then ([],6) else if c<1 then ([],5) else if lateB c l=true then ([],19) else
 if openB n l<0 then ([],8) else if 0≤openB m l then ([],9) else if c≤(bdAt l (openB n l)).frm then ([],19) else (addB ⟨m,(bdAt l (openB n l)).obj,c,0⟩ (endB l (openB n l) c),0)
def lookB (n:ByteArray) (c:Int):List Bd→Int×Bool
 | []=>(0,false)
 | b::l=>if (eqN b.name n&&holdsB b.frm b.to c)=true then (b.obj,true) else lookB n c l
end Go.Proofs.Ytmgodadmafcliaa
