/- The facts about the types of the program that the machine asks. -/
import Derived.Test.YteemiclhnfkekaaGreatRows
import Derived.Test.YteemiclhnfkekaaGreatZAvmX
set_option linter.unusedSimpArgs false
set_option linter.unusedVariables false
set_option maxRecDepth 100000
namespace Go.Proofs.YteemiclhnfkekaaGreat
open Go.RowKit Go.eB Go.Proofs.Tryz
theorem ti1:aA prog 1=some ⟨1,8, .nilFunc, .func⟩:=by kernel_rfl
theorem ti2:aA prog 2=some ⟨1,8, .int .i64 0, .int .i64⟩:=by kernel_rfl
theorem Zw:aA prog 3=some ⟨1,8, .int .i64 0, .int .i64⟩:=by kernel_rfl
theorem Zx:aA prog 4=some ⟨1,1, .bool false, .bool⟩:=by kernel_rfl
theorem Zy:aA prog 5=some ⟨1,1, .int .u8 0, .int .u8⟩:=by kernel_rfl
theorem Zz:aA prog 6=some ⟨1,1, .int .u8 0, .int .u8⟩:=by kernel_rfl
theorem ZA:aA prog 7=some ⟨4,24, .agg #[.int .i64 0, .int .i64 0, .bool false, .int .u8 0], .struct [(0,2),(1,3),(2,4),(3,6)]⟩:=by kernel_rfl
theorem ZB:aA prog 8=some ⟨4,24, .agg #[.int .i64 0, .int .i64 0, .bool false, .int .u8 0], .struct [(0,2),(1,3),(2,4),(3,6)]⟩:=by kernel_rfl
theorem ZC:aA prog 9=some ⟨1,16, .string ByteArray.empty, .string⟩:=by kernel_rfl
theorem WY:aA prog 10=some ⟨1,16, .string ByteArray.empty, .string⟩:=by kernel_rfl
theorem WZ:aA prog 11=some ⟨1,16, .string ByteArray.empty, .string⟩:=by kernel_rfl
theorem W0:aA prog 12=some ⟨1,8, .int .u64 0, .int .u64⟩:=by kernel_rfl
theorem W1:aA prog 13=some ⟨2,24, .agg #[.string ByteArray.empty, .int .u64 0], .struct [(0,9),(1,12)]⟩:=by kernel_rfl
theorem W2:aA prog 14=some ⟨2,24, .agg #[.string ByteArray.empty, .int .u64 0], .struct [(0,9),(1,12)]⟩:=by kernel_rfl
theorem W3:aA prog 15=some ⟨1,8, .pointer none, .ptr 263⟩:=by kernel_rfl
theorem W4:aA prog 16=some ⟨1,8, .pointer none, .ptr 266⟩:=by kernel_rfl
theorem W5:aA prog 17=some ⟨1,8, .pointer none, .ptr 274⟩:=by kernel_rfl
theorem W6:aA prog 19=some ⟨1,8, .agg #[.pointer none], .struct [(0,17)]⟩:=by kernel_rfl
theorem W7:aA prog 20=some ⟨1,16, .nilIface, .other⟩:=by kernel_rfl
theorem W8:aA prog 21=some ⟨1,4, .int .i32 0, .int .i32⟩:=by kernel_rfl
theorem W9:aA prog 22=some ⟨1,24, .slice none 0 0, .slice 3⟩:=by kernel_rfl
theorem Xa:aA prog 23=some ⟨1,8, .pointer none, .ptr 86⟩:=by kernel_rfl
theorem Xb:aA prog 25=some ⟨7,56, .agg #[.int .i64 0, .int .i64 0, .int .i64 0, .int .i64 0, .int .i64 0, .int .i64 0, .int .i64 0], .struct [(0,3),(1,3),(2,3),(3,3),(4,3),(5,3),(6,3)]⟩:=by kernel_rfl
theorem Xc:aA prog 26=some ⟨1,24, .slice none 0 0, .slice 116⟩:=by kernel_rfl
theorem Xd:aA prog 27=some ⟨1,24, .slice none 0 0, .slice 125⟩:=by kernel_rfl
theorem Xe:aA prog 28=some ⟨1,24, .slice none 0 0, .slice 95⟩:=by kernel_rfl
theorem Xf:aA prog 29=some ⟨1,24, .slice none 0 0, .slice 153⟩:=by kernel_rfl
theorem Xg:aA prog 30=some ⟨2,32, .agg #[.int .i64 0, .slice none 0 0], .struct [(0,3),(1,29)]⟩:=by kernel_rfl
theorem Xh:aA prog 31=some ⟨2,32, .agg #[.int .i64 0, .slice none 0 0], .struct [(0,3),(1,29)]⟩:=by kernel_rfl
theorem Xi:aA prog 32=some ⟨14,176,.agg #[.int .i64 0,.int .i64 0,.int .i64 0,.int .i64 0,.int .i64 0,.int .i64 0,.int .i64 0,.int .i64 0,.int .i64 0,.slice none 0 0,.slice none 0 0,.slice none 0 0,.int .i64 0,.slice none 0 0],.struct [(0,25),(7,3),(8,3),(9,26),(10,27),(11,28),(12,31)]⟩:=by kernel_rfl
theorem Xj:aA prog 33=some ⟨14,176,.agg #[.int .i64 0,.int .i64 0,.int .i64 0,.int .i64 0,.int .i64 0,.int .i64 0,.int .i64 0,.int .i64 0,.int .i64 0,.slice none 0 0,.slice none 0 0,.slice none 0 0,.int .i64 0,.slice none 0 0],.struct [(0,25),(7,3),(8,3),(9,26),(10,27),(11,28),(12,31)]⟩:=by kernel_rfl
theorem Xk:aA prog 38=some ⟨1,8, .int .u64 0, .int .u64⟩:=by kernel_rfl
theorem Xl:aA prog 40=some ⟨1,8, .nilFunc, .func⟩:=by kernel_rfl
theorem Xm:aA prog 41=some ⟨1,8, .int .i64 0, .int .i64⟩:=by kernel_rfl
theorem Xn:aA prog 46=some ⟨1,8, .nilFunc, .func⟩:=by kernel_rfl
theorem Xo:aA prog 47=some ⟨1,24, .slice none 0 0, .slice 9⟩:=by kernel_rfl
theorem Xp:aA prog 49=some ⟨1,8, .nilFunc, .func⟩:=by kernel_rfl
theorem Xq:aA prog 50=some ⟨1,8, .nilFunc, .func⟩:=by kernel_rfl
theorem Xr:aA prog 51=some ⟨1,24, .slice none 0 0, .slice 5⟩:=by kernel_rfl
theorem Xt:aA prog 53=some ⟨1,8, .nilFunc, .func⟩:=by kernel_rfl
theorem Xu:aA prog 54=some ⟨1,8, .nilFunc, .func⟩:=by kernel_rfl
theorem Xv:aA prog 56=some ⟨1,8, .nilFunc, .func⟩:=by kernel_rfl
theorem Xw:aA prog 57=some ⟨1,8, .nilFunc, .func⟩:=by kernel_rfl
theorem Xx:aA prog 60=some ⟨1,8, .nilFunc, .func⟩:=by kernel_rfl
theorem Xy:aA prog 61=some ⟨1,8, .nilFunc, .func⟩:=by kernel_rfl
theorem Xz:aA prog 63=some ⟨5,104, .agg #[.int .i64 0, .slice none 0 0, .slice none 0 0, .slice none 0 0, .slice none 0 0], .struct [(0,3),(1,26),(2,27),(3,28),(4,29)]⟩:=by kernel_rfl
theorem XA:aA prog 64=some ⟨5,104, .agg #[.int .i64 0, .slice none 0 0, .slice none 0 0, .slice none 0 0, .slice none 0 0], .struct [(0,3),(1,26),(2,27),(3,28),(4,29)]⟩:=by kernel_rfl
theorem XB:aA prog 65=some ⟨1,8, .nilFunc, .func⟩:=by kernel_rfl
theorem XC:aA prog 83=some ⟨1,8, .map none, .map 3 114⟩:=by kernel_rfl
theorem XD:aA prog 84=some ⟨1,8, .pointer none, .ptr 186⟩:=by kernel_rfl
theorem XE:aA prog 86=some ⟨13,136,.agg #[.int .i64 0,.int .i64 0,.int .i64 0,.int .i64 0,.int .i64 0,.int .i64 0,.int .i64 0,.int .i64 0,.map none,.int .i64 0,.slice none 0 0,.slice none 0 0,.pointer none],.struct [(0,25),(7,3),(8,83),(9,3),(10,27),(11,28),(12,84)]⟩:=by kernel_rfl
theorem XF:aA prog 95=some ⟨2,16, .agg #[.int .i64 0, .int .i64 0], .struct [(0,3),(1,3)]⟩:=by kernel_rfl
theorem XG:aA prog 97=some ⟨1,8, .nilFunc, .func⟩:=by kernel_rfl
theorem XH:aA prog 98=some ⟨1,24, .slice none 0 0, .slice 101⟩:=by kernel_rfl
theorem XI:aA prog 99=some ⟨1,8, .nilFunc, .func⟩:=by kernel_rfl
theorem T1:aA prog 100=some ⟨2,16, .agg #[.int .i64 0, .int .i64 0], .struct [(0,3),(1,3)]⟩:=by kernel_rfl
theorem T2:aA prog 101=some ⟨2,16, .agg #[.int .i64 0, .int .i64 0], .struct [(0,3),(1,3)]⟩:=by kernel_rfl
theorem T3:aA prog 105=some ⟨4,48, .agg #[.int .i64 0, .int .i64 0, .int .i64 0, .slice none 0 0], .struct [(0,3),(1,3),(2,3),(3,22)]⟩:=by kernel_rfl
theorem T4:aA prog 109=some ⟨1,24, .slice none 0 0, .slice 51⟩:=by kernel_rfl
theorem T5:aA prog 114=some ⟨1,24, .slice none 0 0, .slice 105⟩:=by kernel_rfl
theorem T6:aA prog 116=some ⟨2,32, .agg #[.int .i64 0, .slice none 0 0], .struct [(0,3),(1,114)]⟩:=by kernel_rfl
theorem T7:aA prog 122=some ⟨1,8, .nilFunc, .func⟩:=by kernel_rfl
theorem T8:aA prog 125=some ⟨4,40, .agg #[.string ByteArray.empty, .int .i64 0, .int .i64 0, .int .i64 0], .struct [(0,9),(1,3),(2,3),(3,3)]⟩:=by kernel_rfl
theorem T9:aA prog 141=some ⟨1,24, .slice none 0 0, .slice 4⟩:=by kernel_rfl
theorem Ua:aA prog 153=some ⟨3,40, .agg #[.int .i64 0, .int .i64 0, .slice none 0 0], .struct [(0,3),(1,3),(2,51)]⟩:=by kernel_rfl
theorem Ub:aA prog 154=some ⟨1,8, .nilFunc, .func⟩:=by kernel_rfl
theorem Uc:aA prog 165=some ⟨1,24, .slice none 0 0, .slice 169⟩:=by kernel_rfl
theorem Ud:aA prog 169=some ⟨5,56, .agg #[.int .i64 0, .int .i64 0, .int .i64 0, .int .i64 0, .slice none 0 0], .struct [(0,3),(1,105)]⟩:=by kernel_rfl
theorem Ue:aA prog 184=some ⟨1,8, .map none, .map 3 189⟩:=by kernel_rfl
theorem Uf:aA prog 186=some ⟨2,16, .agg #[.int .i64 0, .map none], .struct [(0,3),(1,184)]⟩:=by kernel_rfl
theorem Ug:aA prog 189=some ⟨1,8, .pointer none, .ptr 153⟩:=by kernel_rfl
theorem Uh:aA prog 193=some ⟨1,16, .complex .f64 0 0, .other⟩:=by kernel_rfl
theorem Ui:aA prog 195=some ⟨1,8, .float .f64 0, .other⟩:=by kernel_rfl
theorem Uj:aA prog 200=some ⟨1,8, .nilFunc, .func⟩:=by kernel_rfl
theorem Uk:aA prog 212=some ⟨1,8, .nilFunc, .func⟩:=by kernel_rfl
theorem Ul:aA prog 219=some ⟨2,16, .agg #[.int .i64 0, .int .i64 0], .struct [(0,3),(1,3)]⟩:=by kernel_rfl
theorem Um:aA prog 222=some ⟨1,8, .nilFunc, .func⟩:=by kernel_rfl
theorem Un:aA prog 226=some ⟨1,8, .int .i64 0, .int .i64⟩:=by kernel_rfl
theorem Uo:aA prog 232=some ⟨1,4, .int .u32 0, .int .u32⟩:=by kernel_rfl
theorem Up:aA prog 234=some ⟨1,8, .int .u64 0, .int .u64⟩:=by kernel_rfl
theorem Uq:aA prog 246=some ⟨1,8, .int .u64 0, .int .u64⟩:=by kernel_rfl
theorem Ur:aA prog 250=some ⟨1,8, .pointer none, .ptr 3⟩:=by kernel_rfl
theorem Us:aA prog 256=some ⟨1,8, .pointer none, .ptr 246⟩:=by kernel_rfl
theorem Ut:aA prog 263=some ⟨4,40, .agg #[.pointer none, .pointer none, .pointer none, .string ByteArray.empty], .struct [(0,17),(1,17),(2,17),(3,9)]⟩:=by kernel_rfl
theorem Uu:aA prog 264=some ⟨0,0, .agg #[], .array 0 16⟩:=by kernel_rfl
theorem Uv:aA prog 266=some ⟨0,0, .agg #[], .struct [(0,264)]⟩:=by kernel_rfl
theorem Uw:aA prog 267=some ⟨1,1, .int .u8 0, .int .u8⟩:=by kernel_rfl
theorem Ux:aA prog 268=some ⟨1,1, .int .u8 0, .int .u8⟩:=by kernel_rfl
theorem Uy:aA prog 269=some ⟨1,8, .nilFunc, .func⟩:=by kernel_rfl
theorem Uz:aA prog 270=some ⟨1,8, .pointer none, .ptr 5⟩:=by kernel_rfl
theorem UA:aA prog 271=some ⟨1,4, .int .i32 0, .int .i32⟩:=by kernel_rfl
theorem UC:aA prog 272=some ⟨1,4, .int .i32 0, .int .i32⟩:=by kernel_rfl
theorem UD:aA prog 274=some ⟨11,48,.agg #[.int .u64 0,.int .u64 0,.int .u32 0,.int .u8 0,.int .u8 0,.int .u8 0,.int .u8 0,.nilFunc,.pointer none,.int .i32 0,.int .i32 0],.struct [(0,12),(1,12),(2,232),(3,267),(4,5),(5,5),(6,268),(7,269),(8,270),(9,271),(10,272)]⟩:=by kernel_rfl
attribute [go_sem] ti1 ti2 Zw Zx Zy Zz ZA ZB ZC WY WZ W0 W1 W2 W3 W4 W5 W6 W7 W8 W9 Xa Xb Xc Xd Xe Xf Xg Xh Xi Xj Xk Xl Xm Xn Xo Xp Xq Xr Xt Xu Xv Xw Xx Xy Xz XA XB XC XD XE XF XG XH XI T1 T2 T3 T4 T5 T6 T7 T8 T9 Ua Ub Uc Ud Ue Uf Ug Uh Ui Uj Uk Ul Um Un Uo Up Uq Ur Us Ut Uu Uv Uw Ux Uy Uz UA UC UD
theorem call10:∀ xs w,(callFunc 10 xs).run prog w = .ok (.enter 10 xs) w:=fun _ _=>by kernel_rfl
theorem call14:∀ xs w,(callFunc 14 xs).run prog w = .ok (.enter 14 xs) w:=fun _ _=>by kernel_rfl
theorem call29:∀ xs w,(callFunc 29 xs).run prog w = .ok (.enter 29 xs) w:=fun _ _=>by kernel_rfl
theorem call47:∀ xs w,(callFunc 47 xs).run prog w = .ok (.enter 47 xs) w:=fun _ _=>by kernel_rfl
theorem call72:∀ xs w,(callFunc 72 xs).run prog w = .ok (.enter 72 xs) w:=fun _ _=>by kernel_rfl
theorem call73:∀ xs w,(callFunc 73 xs).run prog w = .ok (.enter 73 xs) w:=fun _ _=>by kernel_rfl
theorem call76:∀ xs w,(callFunc 76 xs).run prog w = .ok (.enter 76 xs) w:=fun _ _=>by kernel_rfl
theorem call87:∀ xs w,(callFunc 87 xs).run prog w = .ok (.enter 87 xs) w:=fun _ _=>by kernel_rfl
theorem call93:∀ xs w,(callFunc 93 xs).run prog w = .ok (.enter 93 xs) w:=fun _ _=>by kernel_rfl
theorem call121:∀ xs w,(callFunc 121 xs).run prog w = .ok (.enter 121 xs) w:=fun _ _=>by kernel_rfl
theorem call136:∀ xs w,(callFunc 136 xs).run prog w = .ok (.enter 136 xs) w:=fun _ _=>by kernel_rfl
theorem call137:∀ xs w,(callFunc 137 xs).run prog w = .ok (.enter 137 xs) w:=fun _ _=>by kernel_rfl
theorem call152:∀ xs w,(callFunc 152 xs).run prog w = .ok (.enter 152 xs) w:=fun _ _=>by kernel_rfl
theorem call173:∀ xs w,(callFunc 173 xs).run prog w = .ok (.enter 173 xs) w:=fun _ _=>by kernel_rfl
theorem IX (a b:Bool):aQ prog ((pure ():Sem Unit) >>= fun _=>Go.binOp .eql 4 (.bool a) (.bool b))=some (.bool (a==b)):=y9 underlying4 (.tmp 0) (.tmp 0) a b
theorem IY (a b:Bool):aQ prog ((pure ():Sem Unit) >>= fun _=>Go.binOp .neq 4 (.bool a) (.bool b))=some (.bool (!(a==b))):=za underlying4 (.tmp 0) (.tmp 0) a b
attribute [go_sem] IX IY
theorem P9 (x y:Operand) (a0:Int) (a1:Int) (b0:Int) (b1:Int):vV prog .eql 95 x y (.agg #[.int .i64 a0,.int .i64 a1]) (.agg #[.int .i64 b0,.int .i64 b1])=some (.bool ((a0==b0)&&((a1==b1)&&true)))/\vV prog .neq 95 x y (.agg #[.int .i64 a0,.int .i64 a1]) (.agg #[.int .i64 b0,.int .i64 b1])=some (.bool (!((a0==b0)&&((a1==b1)&&true)))):=Dd underlying95 (by kernel_rfl) (by kernel_rfl) (iI (by decide) (eD underlying3 rfl rfl) (eD underlying3 rfl rfl) (fQ underlying3) (iI (by decide) (eD underlying3 rfl rfl) (eD underlying3 rfl rfl) (fQ underlying3) s0))
theorem UE (x y:Operand) (a0:Int) (a1:Int) (b0:Int) (b1:Int):aQ prog (do eqGuard .eql 95 x y (.agg #[.int .i64 a0,.int .i64 a1]) (.agg #[.int .i64 b0,.int .i64 b1]);Go.binOp .eql 95 (.agg #[.int .i64 a0,.int .i64 a1]) (.agg #[.int .i64 b0,.int .i64 b1]))=some (.bool ((a0==b0)&&((a1==b1)&&true))):=(P9 x y a0 a1 b0 b1).1
theorem UF (x y:Operand) (a0:Int) (a1:Int) (b0:Int) (b1:Int):aQ prog (do eqGuard .neq 95 x y (.agg #[.int .i64 a0,.int .i64 a1]) (.agg #[.int .i64 b0,.int .i64 b1]);Go.binOp .neq 95 (.agg #[.int .i64 a0,.int .i64 a1]) (.agg #[.int .i64 b0,.int .i64 b1]))=some (.bool (!((a0==b0)&&((a1==b1)&&true)))):=(P9 x y a0 a1 b0 b1).2
attribute [go_sem] UE UF
theorem Lw (x y:Operand) (a0:ByteArray) (a1:Int) (a2:Int) (a3:Int) (b0:ByteArray) (b1:Int) (b2:Int) (b3:Int):vV prog .eql 125 x y (.agg #[.string a0,.int .i64 a1,.int .i64 a2,.int .i64 a3]) (.agg #[.string b0,.int .i64 b1,.int .i64 b2,.int .i64 b3])=some (.bool ((a0.toList==b0.toList)&&((a1==b1)&&((a2==b2)&&((a3==b3)&&true)))))/\vV prog .neq 125 x y (.agg #[.string a0,.int .i64 a1,.int .i64 a2,.int .i64 a3]) (.agg #[.string b0,.int .i64 b1,.int .i64 b2,.int .i64 b3])=some (.bool (!((a0.toList==b0.toList)&&((a1==b1)&&((a2==b2)&&((a3==b3)&&true)))))):=Dd underlying125 (by kernel_rfl) (by kernel_rfl) (iI (by decide) (eD underlying9 rfl rfl) (eD underlying9 rfl rfl) (oB underlying9) (iI (by decide) (eD underlying3 rfl rfl) (eD underlying3 rfl rfl) (fQ underlying3) (iI (by decide) (eD underlying3 rfl rfl) (eD underlying3 rfl rfl) (fQ underlying3) (iI (by decide) (eD underlying3 rfl rfl) (eD underlying3 rfl rfl) (fQ underlying3) s0))))
theorem Rs (x y:Operand) (a0:ByteArray) (a1:Int) (a2:Int) (a3:Int) (b0:ByteArray) (b1:Int) (b2:Int) (b3:Int):aQ prog (do eqGuard .eql 125 x y (.agg #[.string a0,.int .i64 a1,.int .i64 a2,.int .i64 a3]) (.agg #[.string b0,.int .i64 b1,.int .i64 b2,.int .i64 b3]);Go.binOp .eql 125 (.agg #[.string a0,.int .i64 a1,.int .i64 a2,.int .i64 a3]) (.agg #[.string b0,.int .i64 b1,.int .i64 b2,.int .i64 b3]))=some (.bool ((a0.toList==b0.toList)&&((a1==b1)&&((a2==b2)&&((a3==b3)&&true))))):=(Lw x y a0 a1 a2 a3 b0 b1 b2 b3).1
theorem Rt (x y:Operand) (a0:ByteArray) (a1:Int) (a2:Int) (a3:Int) (b0:ByteArray) (b1:Int) (b2:Int) (b3:Int):aQ prog (do eqGuard .neq 125 x y (.agg #[.string a0,.int .i64 a1,.int .i64 a2,.int .i64 a3]) (.agg #[.string b0,.int .i64 b1,.int .i64 b2,.int .i64 b3]);Go.binOp .neq 125 (.agg #[.string a0,.int .i64 a1,.int .i64 a2,.int .i64 a3]) (.agg #[.string b0,.int .i64 b1,.int .i64 b2,.int .i64 b3]))=some (.bool (!((a0.toList==b0.toList)&&((a1==b1)&&((a2==b2)&&((a3==b3)&&true)))))):=(Lw x y a0 a1 a2 a3 b0 b1 b2 b3).2
attribute [go_sem] Rs Rt
theorem Ou (s:ByteArray):aQ prog (Builtin.len_ #[9] 0 #[.string s])=some (.int .i64 s.size):=by
 show aQ prog (underlying 9 >>= _)=_;rw[bk,cm underlying9];rfl
attribute [go_sem] Ou
theorem mix:prog.follows .mixedOrders=true:=by kernel_rfl
theorem nP:∀ x:List UInt8,Op.bytesLess x x=false
 | []=>rfl
 | a::x=>by
   have h:¬ a<a:=by rw[Vq];omega
   simp[Op.bytesLess,h,nP x]
theorem qg:∀ {x y z:List UInt8},Op.bytesLess x y=true->Op.bytesLess y z=true->Op.bytesLess x z=true
 | _,[],_,h,_=>by cases ‹List UInt8›<;>simp[Op.bytesLess] at h
 | _,_::_,[],_,h=>by simp[Op.bytesLess] at h
 | [],_::_,_::_,_,_=>rfl
 | a::x,b::y,c::z,h,g=>by
   simp only[Op.bytesLess,vP,jj,pQ,nX] at h g ⊢;rcases h with h|⟨h,h'⟩
   ·rcases g with g|⟨g,g'⟩
    ·left;rw[Vq] at h g ⊢;omega
    ·subst g;exact Or.inl h
   ·subst h;rcases g with g|⟨g,g'⟩
    ·exact Or.inl g
    ·exact Or.inr ⟨g,qg h' g'⟩
theorem mc:∀ x y:List UInt8,Op.bytesLess x y=true\/x=y\/Op.bytesLess y x=true
 | [],[]=>Or.inr (Or.inl rfl)
 | [],_::_=>Or.inl rfl
 | _::_,[]=>Or.inr (Or.inr rfl)
 | a::x,b::y=>by
   simp only[Op.bytesLess,vP,jj,pQ,nX,Pq];rcases SF a.toNat b.toNat with h|h|h
   ·exact Or.inl (Or.inl (Vq.2 h))
   ·have e:a=b:=UInt8.toNat_inj.1 h;subst e;rcases mc x y with h|h|h
    ·exact Or.inl (Or.inr ⟨rfl,h⟩)
    ·exact Or.inr (Or.inl ⟨rfl,h⟩)
    ·exact Or.inr (Or.inr (Or.inr ⟨rfl,h⟩))
   ·exact Or.inr (Or.inr (Or.inl (Vq.2 h)))
theorem tr {x y:List UInt8} (h:Op.bytesLess x y=true):Op.bytesLess y x=false:=by
 cases hh:Op.bytesLess y x with
 | false=>rfl
 | true=>have:=qg h hh;rw[nP] at this;cases this
theorem Lx {x y:List UInt8} (h:Op.bytesLess x y=true):x≠y:=fun e=>by subst e;rw[nP] at h;cases h
theorem uH {x y:List UInt8} (h:Op.bytesLess y x=false) (hn:x≠y):Op.bytesLess x y=true:=by
 rcases mc x y with h'|h'|h'
 ·exact h'
 ·exact absurd h' hn
 ·rw[h] at h';cases h'
structure Bd where
 name:ByteArray
 obj:Int
 eo:Int
 to:Int
 deriving DecidableEq
def ag (b:Bd):List D:=[.sc (.string b.name), .sc (.int .i64 b.obj), .sc (.int .i64 b.eo), .sc (.int .i64 b.to)]
def i9 (s:ByteArray):List Int:=s.data.toList.map fun b=>(b.toNat:Int)
theorem xM (s:ByteArray):(i9 s).length=s.size:=by
 rw[i9,dD,Array.length_toList];rfl
def uI (c:Int):Bool:=decide (97<=c)&&decide (c<=122)
def IZ (c:Int):Bool:=decide (48<=c)&&decide (c<=57)
def tu (c:Int):Bool:=uI c||IZ c||c==45||c==46
def bM (s:ByteArray):Bool:=decide (1<=(s.size:Int))&&decide ((s.size:Int)<=16)&&((i9 s)[0]?).any uI&&(i9 s).all tu
def eX (f t c:Int):Bool:=decide (f<=c)&&(decide (c<t)||t==0)
def lq (x y:ByteArray):Bool:=x.toList==y.toList
def ri (x y:ByteArray):Bool:=Op.bytesLess x.toList y.toList
def jZ (b:Bd):Int:=if bM b.name=false then 6 else if b.obj<1\/b.eo<1\/b.to<0 then 5 else if b.to≠0/\b.to<=b.eo then 19 else 0
def vY (a b:Bd):Bool:=ri b.name a.name||(lq b.name a.name&&(decide (b.eo<=a.eo)||a.to==0||decide (b.eo<a.to)))
def gT (prev:Option Bd):List Bd->Int
 | []=>0
 | b::l=>if jZ b≠0 then jZ b else if prev.any (fun a=>vY a b)=true then 19 else gT (some b) l
def xN (a b:Bd):Bool:=(a.to==0||decide (b.eo<a.to))&&(b.to==0||decide (a.eo<b.to))
def rX (l:List Bd):List Bd->Nat->Bool
 | [],_=>false
 | b::m,i=>(l.take i).any (fun a=>a.obj==b.obj&&xN a b)||rX l m (i+1)
def dh (l:List Bd):Int:=if gT none l≠0 then gT none l else if rX l l 0=true then 9 else 0
def jm (c:Int) (l:List Bd):Bool:=l.any fun b=>decide (c<b.eo)||decide (c<b.to)
def gP (n:ByteArray) (b:Bd):Bool:=lq b.name n&&b.to==0
def k7 (p:Bd->Bool):List Bd->Nat->Int
 | [],_=> -1
 | b::l,i=>if p b=true then (i:Int) else k7 p l (i+1)
def ew (n:ByteArray) (l:List Bd):Int:=k7 (gP n) l 0
def pq (x b:Bd):Bool:=ri x.name b.name||(lq x.name b.name&&decide (x.eo<b.eo))
def eY (b:Bd):List Bd->Nat
 | []=>0
 | x::l=>if pq x b=true then eY b l+1 else 0
def lB (b:Bd) (l:List Bd):List Bd:=l.take (eY b l)++[b]++l.drop (eY b l)
def dw (l:List Bd) (n:ByteArray) (o c:Int):List Bd×Int:=
 if dh l≠0 then ([],dh l) else if bM n=false then ([],6) else if o<1\/c<1 then ([],5) else if jm c l=true then ([],19) else
 if l.any (fun b=>b.to==0&&(lq b.name n||b.obj==o))=true then ([],9) else (lB ⟨n,o,c,0⟩ l,0)
def zl (l:List Bd) (i:Int):Bd:=(l[i.toNat]?).getD ⟨.empty,0,0,0⟩
def vZ (l:List Bd) (i c:Int):List Bd:=l.set i.toNat ⟨(zl l i).name,(zl l i).obj,(zl l i).eo,c⟩
def bI (l:List Bd) (n:ByteArray) (c:Int):List Bd×Int:=
 if dh l≠0 then ([],dh l) else if bM n=false then ([],6) else if c<1 then ([],5) else if jm c l=true then ([],19) else
 if ew n l<0 then ([],8) else if c<=(zl l (ew n l)).eo then ([],19) else (vZ l (ew n l) c,0)
def bH (l:List Bd) (n m:ByteArray) (c:Int):List Bd×Int:=
 if dh l≠0 then ([],dh l) else if bM n=false\/bM m=false then ([],6) else if c<1 then ([],5) else if jm c l=true then ([],19) else
 if ew n l<0 then ([],8) else if 0<=ew m l then ([],9) else if c<=(zl l (ew n l)).eo then ([],19) else (lB ⟨m,(zl l (ew n l)).obj,c,0⟩ (vZ l (ew n l) c),0)
def b9 (n:ByteArray) (c:Int):List Bd->Int×Bool
 | []=>(0,false)
 | b::l=>if (lq b.name n&&eX b.eo b.to c)=true then (b.obj,true) else b9 n c l
set_option maxHeartbeats 3200000
theorem Ov {s:ByteArray} {i:Nat} {z:Int} (h:(i9 s)[i]? = some z):∃ b:UInt8,s[i]? = some b/\z=(b.toNat:Int):=by
 rw[i9,wR] at h;cases hb:s.data.toList[i]? with
 | none=>rw[hb] at h;simp at h
 | some b=>
   rw[hb] at h;simp only[Option.map_some,fD] at h;have hlt:=(jM.1 hb).1;refine ⟨b,?_,h.symm⟩;rw[Array.length_toList] at hlt;have h2:i<s.size:=hlt;rw[getElem?_pos s i h2];rw[oe,Pf hlt] at hb;exact hb
theorem qF {s:ByteArray} {i z:Int} (h0:0<=i) (h:(i9 s)[i.toNat]? = some z):aQ prog (Instr.index 9 (.string s) (.int .i64 i))=some (.int .u8 z):=by
 obtain ⟨b,hb,rfl⟩:=Ov h;have hu:aQ prog (underlying 9)=some .string:=cm underlying9;unfold Instr.index;simp only[asIntOf,bk,cM,Option.bind_some,hu,h0,jg,hb]
theorem rY {c:Int}:ak prog 150 [.sc (.int .u8 c)] (.sc (.bool (uI c))) []:=by
 unfold uI;refine bR [] [] [.tmp 2] func150 (by kernel_rfl) ntmps150 rfl rfl rfl ⟨rfl,rfl⟩ (by simp(disch:=omega)only[seval,go_sem,cI,List.replicate,l_2,l_1];rfl) ?_
 ((repeat'(first|(with_reducible refine cB ?_;intro hc;(try simp only[fG,reduceCtorEq] at hc);(try(exfalso;omega)))|simp only[seval,go_sem]|((with_reducible refine au ?_);((with_reducible first|refine ah.step (by simp only[seval,go_sem];rfl) ?_|refine ah.step (by simp(disch:=omega)only[seval,go_sem,cI];rfl) ?_);refine dI (st:=[7]) ?_))|(with_reducible first|refine aV (st:=[7]) ?_|refine ai (by simp(disch:=omega)only[seval,go_sem,cI];rfl) ?_|refine dV ?_|refine And.intro ?_ ?_))))
 all_goals(try(first|rfl|(simp;omega)|(simp_all;done)|(simp_all;omega)))
theorem FM {c:Int}:ak prog 151 [.sc (.int .u8 c)] (.sc (.bool (IZ c))) []:=by
 unfold IZ;refine bR [] [] [.tmp 2] func151 (by kernel_rfl) ntmps151 rfl rfl rfl ⟨rfl,rfl⟩ (by simp(disch:=omega)only[seval,go_sem,cI,List.replicate,l_2,l_1];rfl) ?_
 ((repeat'(first|(with_reducible refine cB ?_;intro hc;(try simp only[fG,reduceCtorEq] at hc);(try(exfalso;omega)))|simp only[seval,go_sem]|((with_reducible refine au ?_);((with_reducible first|refine ah.step (by simp only[seval,go_sem];rfl) ?_|refine ah.step (by simp(disch:=omega)only[seval,go_sem,cI];rfl) ?_);refine dI (st:=[7]) ?_))|(with_reducible first|refine aV (st:=[7]) ?_|refine ai (by simp(disch:=omega)only[seval,go_sem,cI];rfl) ?_|refine dV ?_|refine And.intro ?_ ?_))))
 all_goals(try(first|rfl|(simp;omega)|(simp_all;done)|(simp_all;omega)))
theorem rZ {c a b:Int}:ak prog 171 [.sc (.int .u8 c), .sc (.int .u8 a), .sc (.int .u8 b)] (.sc (.bool (decide (a<=c)&&decide (c<=b)))) []:=by
 refine bR [] [] [.tmp 6] func171 (by kernel_rfl) ntmps171 rfl rfl rfl ⟨rfl,rfl⟩ (by simp(disch:=omega)only[seval,go_sem,cI,List.replicate,l_2,l_1];rfl) ?_
 ((repeat'(first|(with_reducible refine cB ?_;intro hc;(try simp only[fG,reduceCtorEq] at hc);(try(exfalso;omega)))|simp only[seval,go_sem]|((with_reducible refine au ?_);((with_reducible first|refine ah.step (by simp only[seval,go_sem];rfl) ?_|refine ah.step (by simp(disch:=omega)only[seval,go_sem,cI];rfl) ?_);refine dI (st:=[13]) ?_))|(with_reducible first|refine aV (st:=[13]) ?_|refine ai (by simp(disch:=omega)only[seval,go_sem,cI];rfl) ?_|refine dV ?_|refine And.intro ?_ ?_))))
 all_goals(try(first|rfl|(simp;omega)|(simp_all;done)|(simp_all;omega)))
theorem mU {n:ByteArray} {o f t c:Int}:ak prog 135 [.agg [.sc (.string n),i6 o,i6 f,i6 t],i6 c] (.sc (.bool (eX f t c))) []:=by
 unfold eX;refine bR [] [2] [.tmp 4] func135 (by kernel_rfl) ntmps135 rfl rfl rfl ⟨rfl,rfl⟩ (by simp(disch:=omega)only[seval,go_sem,cI,List.replicate,l_2,l_1];rfl) ?_
 ((repeat'(first|(with_reducible refine cB ?_;intro hc;(try simp only[fG,reduceCtorEq] at hc);(try(exfalso;omega)))|simp only[seval,go_sem]|((with_reducible refine au ?_);((with_reducible first|refine ah.step (by simp only[seval,go_sem];rfl) ?_|refine ah.step (by simp(disch:=omega)only[seval,go_sem,cI];rfl) ?_);refine dI (st:=[17,18]) ?_))|(with_reducible first|refine aV (st:=[17,18]) ?_|refine ai (by simp(disch:=omega)only[seval,go_sem,cI];rfl) ?_|refine dV ?_|refine And.intro ?_ ?_))))
 all_goals(try(first|rfl|(simp;omega)|(simp_all;done)|(simp_all;omega)))
theorem iA {f t c:Int}:ak prog 77 [i6 f,i6 t,i6 c] (.sc (.bool (eX f t c))) []:=by
 unfold eX;refine bR [] [] [.tmp 6] func77 (by kernel_rfl) ntmps77 rfl rfl rfl ⟨rfl,rfl⟩ (by simp(disch:=omega)only[seval,go_sem,cI,List.replicate,l_2,l_1];rfl) ?_
 ((repeat'(first|(with_reducible refine cB ?_;intro hc;(try simp only[fG,reduceCtorEq] at hc);(try(exfalso;omega)))|simp only[seval,go_sem]|((with_reducible refine au ?_);((with_reducible first|refine ah.step (by simp only[seval,go_sem];rfl) ?_|refine ah.step (by simp(disch:=omega)only[seval,go_sem,cI];rfl) ?_);refine dI (st:=[16,17]) ?_))|(with_reducible first|refine aV (st:=[16,17]) ?_|refine ai (by simp(disch:=omega)only[seval,go_sem,cI];rfl) ?_|refine dV ?_|refine And.intro ?_ ?_))))
 all_goals(try(first|rfl|(simp;omega)|(simp_all;done)|(simp_all;omega)))
theorem zm {a b:Bd}:ak prog 198 [.agg (ag a), .agg (ag b)] (.sc (.bool (xN a b))) []:=by
 unfold xN;simp only[ag];refine bR [] [2,3] [.tmp 4] func198 (by kernel_rfl) ntmps198 rfl rfl rfl ⟨rfl,rfl⟩ (by simp(disch:=omega)only[seval,go_sem,cI,List.replicate,l_2,l_1];rfl) ?_
 ((repeat'(first|(with_reducible refine cB ?_;intro hc;(try simp only[fG,reduceCtorEq] at hc);(try(exfalso;omega)))|simp only[seval,go_sem]|((with_reducible refine au ?_);((with_reducible first|refine ah.step (by simp only[seval,go_sem];rfl) ?_|refine ah.step (by simp(disch:=omega)only[seval,go_sem,cI];rfl) ?_);refine dI (st:=[13,24,25]) ?_))|(with_reducible first|refine aV (st:=[13,24,25]) ?_|refine ai (by simp(disch:=omega)only[seval,go_sem,cI];rfl) ?_|refine dV ?_|refine And.intro ?_ ?_))))
 all_goals(try(first|rfl|(simp;omega)|(simp_all;done)|(simp_all;omega)))
theorem tv {s:ByteArray} (h:s.size<1\/16<s.size):bM s=false:=by
 unfold bM;rcases h with h|h
 ·rw[Ii (by omega)];rfl
 ·rw[Ii (p:=(s.size:Int)<=16) (by omega)];simp
theorem cY {s:ByteArray}:ak prog 82 [.sc (.string s)] (.sc (.bool (bM s))) []:=by
 by_cases h1:s.size<1\/16<s.size
 ·rw[tv h1];by_cases h2:s.size<1
  ·refine bR [] [16,28,32] [.tmp 2] func82 (by kernel_rfl) ntmps82 rfl rfl rfl ⟨rfl,rfl⟩ (by simp(disch:=omega)only[seval,go_sem,cI,List.replicate,l_2,l_1];rfl) ?_;((repeat'(first|simp only[seval,go_sem]|(with_reducible refine aV (st:=[]) ?_)|(with_reducible refine ai (by simp(disch:=omega)only[seval,go_sem,cI];rfl) ?_))))
  ·refine bR [] [16,28,32] [.tmp 2] func82 (by kernel_rfl) ntmps82 rfl rfl rfl ⟨rfl,rfl⟩ (by simp(disch:=omega)only[seval,go_sem,cI,List.replicate,l_2,l_1];rfl) ?_;((repeat'(first|simp only[seval,go_sem]|(with_reducible refine aV (st:=[]) ?_)|(with_reducible refine ai (by simp(disch:=omega)only[seval,go_sem,cI];rfl) ?_))))
 have hsz:=xM s;obtain ⟨z,hz⟩:=aZ (l:=i9 s) (k:=0) (by omega);have hi:=qF (s:=s) (i:=0) (by omega) hz
 have e:bM s=(uI z&&(i9 s).all tu):=by
  unfold bM;rw[GX (by omega),GX (by omega),hz];rfl
 rw[e];cases h3:uI z with
 | false=>
   simp only[JT];refine bR [] [16,28,32] [.tmp 2] func82 (by kernel_rfl) ntmps82 rfl rfl rfl ⟨rfl,rfl⟩ (by simp(disch:=omega)only[seval,go_sem,cI,List.replicate,l_2,l_1];rfl) ?_;((repeat'(first|simp only[seval,go_sem,hi,h3]|((with_reducible refine bJ ?_);refine aq.c (rY) ?_)|(with_reducible first|refine aD (st:=[]) ?_|refine aV (st:=[]) ?_|refine ai (by simp(disch:=omega)only[seval,go_sem,cI,hi,h3];rfl) ?_))))
 | true=>
   simp only[CF];refine bR [] [16,28,32] [.tmp 2] func82 (by kernel_rfl) ntmps82 rfl rfl rfl ⟨rfl,rfl⟩ (by simp(disch:=omega)only[seval,go_sem,cI,List.replicate,l_2,l_1];rfl) ?_;((repeat'(first|simp only[seval,go_sem,hi,h3]|((with_reducible refine bJ ?_);refine aq.c (rY) ?_)|(with_reducible first|refine aD (st:=[]) ?_|refine aV (st:=[]) ?_|refine ai (by simp(disch:=omega)only[seval,go_sem,cI,hi,h3];rfl) ?_))));(with_reducible refine ay.cX (fun (k:Nat)=>[(21,i6 k)]++aN 2 3++aN 22 22) (fun (k:Nat)=>[(28,.dead),(32,.dead)]) (fun (k:Nat)=>k<=s.size/\((i9 s).drop k).all tu=(i9 s).all tu) (fun (k:Nat)=>s.size-k) (0) (⟨ek _,rfl⟩) (by intro _;simp(disch:=omega)only[seval,go_sem,cI];rfl) (by simp only[seval,go_sem]) (fun k hI=>?_));obtain ⟨hk,hf⟩:=hI;by_cases hlt:k<s.size
   ·obtain ⟨y,hy⟩:=aZ (l:=i9 s) (k:=k) (by omega);have UG:=qF (s:=s) (i:=k) (by omega) hy;rw[aH hy,List.all_cons,tu] at hf;cases c1:uI y<;>cases c2:IZ y<;>cases c3:(y==45)<;>cases c4:(y==46)<;>simp only[c1,c2,c3,c4,Bool.or_false,Bool.or_true,wo,Cm,JT,CF] at hf<;>simp only[nX,yX,ne_eq] at c3 c4;all_goals(try(exfalso;omega))
    all_goals((repeat'(first|simp only[seval,go_sem,UG,c1,c2]|((with_reducible refine bJ ?_);first|refine aq.c (rY) ?_|refine aq.c (FM) ?_)|(with_reducible first|refine aD (st:=[]) ?_|refine aV (st:=[]) ?_|refine ai (by simp(disch:=omega)only[seval,go_sem,cI,UG,c1,c2];rfl) ?_)))<;>(try((with_reducible assumption))))
    all_goals(try(refine aP (k+1) (by simp only[seval,go_sem];first|((repeat'(with_reducible apply And.intro))<;>first|rfl)) ?_ ?_<;>(try(omega))))
    all_goals(try(first|(exfalso;omega)|exact ⟨by omega,hf⟩|(exact hf)|(exact hf.symm)))
   ·rw[j9 (by omega)] at hf;rw[<- hf];((repeat'(first|simp only[seval,go_sem]|(with_reducible refine aV (st:=[]) ?_)|(with_reducible refine ai (by simp(disch:=omega)only[seval,go_sem,cI];rfl) ?_))))
theorem cD {s:ByteArray}:ak prog 112 [.sc (.string s)] (.sc (.bool (bM s))) []:=by
 by_cases h1:s.size<1\/16<s.size
 ·rw[tv h1];by_cases h2:s.size<1
  ·refine bR [] [15,27,33] [.tmp 2] func112 (by kernel_rfl) ntmps112 rfl rfl rfl ⟨rfl,rfl⟩ (by simp(disch:=omega)only[seval,go_sem,cI,List.replicate,l_2,l_1];rfl) ?_;((repeat'(first|simp only[seval,go_sem]|(with_reducible refine aV (st:=[]) ?_)|(with_reducible refine ai (by simp(disch:=omega)only[seval,go_sem,cI];rfl) ?_))))
  ·refine bR [] [15,27,33] [.tmp 2] func112 (by kernel_rfl) ntmps112 rfl rfl rfl ⟨rfl,rfl⟩ (by simp(disch:=omega)only[seval,go_sem,cI,List.replicate,l_2,l_1];rfl) ?_;((repeat'(first|simp only[seval,go_sem]|(with_reducible refine aV (st:=[]) ?_)|(with_reducible refine ai (by simp(disch:=omega)only[seval,go_sem,cI];rfl) ?_))))
 have hsz:=xM s;obtain ⟨z,hz⟩:=aZ (l:=i9 s) (k:=0) (by omega);have hi:=qF (s:=s) (i:=0) (by omega) hz
 have e:bM s=(uI z&&(i9 s).all tu):=by
  unfold bM;rw[GX (by omega),GX (by omega),hz];rfl
 rw[e];cases h3:uI z with
 | false=>
   simp only[JT];unfold uI at h3;refine bR [] [15,27,33] [.tmp 2] func112 (by kernel_rfl) ntmps112 rfl rfl rfl ⟨rfl,rfl⟩ (by simp(disch:=omega)only[seval,go_sem,cI,List.replicate,l_2,l_1];rfl) ?_;((repeat'(first|simp only[seval,go_sem,hi,h3]|((with_reducible refine bJ ?_);refine aq.c (rZ) ?_)|(with_reducible first|refine aD (st:=[]) ?_|refine aV (st:=[]) ?_|refine ai (by simp(disch:=omega)only[seval,go_sem,cI,hi,h3];rfl) ?_))))
 | true=>
   simp only[CF];unfold uI at h3;refine bR [] [15,27,33] [.tmp 2] func112 (by kernel_rfl) ntmps112 rfl rfl rfl ⟨rfl,rfl⟩ (by simp(disch:=omega)only[seval,go_sem,cI,List.replicate,l_2,l_1];rfl) ?_;((repeat'(first|simp only[seval,go_sem,hi,h3]|((with_reducible refine bJ ?_);refine aq.c (rZ) ?_)|(with_reducible first|refine aD (st:=[]) ?_|refine aV (st:=[]) ?_|refine ai (by simp(disch:=omega)only[seval,go_sem,cI,hi,h3];rfl) ?_))));(with_reducible refine ay.cX (fun (k:Nat)=>[(3,i6 k),(2,.any)]++aN 18 30) (fun (k:Nat)=>[(27,.dead),(33,.dead)]) (fun (k:Nat)=>k<=s.size/\((i9 s).drop k).all tu=(i9 s).all tu) (fun (k:Nat)=>s.size-k) (0) (⟨ek _,rfl⟩) (by intro _;simp(disch:=omega)only[seval,go_sem,cI];rfl) (by simp only[seval,go_sem]) (fun k hI=>?_));obtain ⟨hk,hf⟩:=hI;by_cases hlt:k<s.size
   ·obtain ⟨y,hy⟩:=aZ (l:=i9 s) (k:=k) (by omega);have UG:=qF (s:=s) (i:=k) (by omega) hy;rw[aH hy,List.all_cons,tu] at hf;cases c1:uI y<;>cases c2:IZ y<;>cases c3:(y==45)<;>cases c4:(y==46)<;>simp only[c1,c2,c3,c4,Bool.or_false,Bool.or_true,wo,Cm,JT,CF] at hf<;>simp only[nX,yX,ne_eq] at c3 c4;all_goals(try(exfalso;omega))
    all_goals unfold uI at c1
    all_goals unfold IZ at c2
    all_goals((repeat'(first|simp only[seval,go_sem,UG,c1,c2]|((with_reducible refine bJ ?_);refine aq.c (rZ) ?_)|(with_reducible first|refine aD (st:=[]) ?_|refine aV (st:=[]) ?_|refine ai (by simp(disch:=omega)only[seval,go_sem,cI,UG,c1,c2];rfl) ?_)))<;>(try((with_reducible assumption))))
    all_goals(try(refine aP (k+1) (by simp only[seval,go_sem];first|((repeat'(with_reducible apply And.intro))<;>first|rfl)) ?_ ?_<;>(try(omega))))
    all_goals(try(first|(exfalso;omega)|exact ⟨by omega,hf⟩|(exact hf)|(exact hf.symm)))
   ·rw[j9 (by omega)] at hf;rw[<- hf];((repeat'(first|simp only[seval,go_sem]|(with_reducible refine aV (st:=[]) ?_)|(with_reducible refine ai (by simp(disch:=omega)only[seval,go_sem,cI];rfl) ?_))))
end Go.Proofs.YteemiclhnfkekaaGreat
