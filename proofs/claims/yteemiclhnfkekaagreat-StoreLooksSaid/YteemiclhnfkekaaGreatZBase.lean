/- The facts about the types of the program that the machine asks. -/
import Derived.Test.YteemiclhnfkekaaGreatRows
import Derived.Test.YteemiclhnfkekaaGreatZAvmR
set_option linter.unusedSimpArgs false
set_option linter.unusedVariables false
set_option maxRecDepth 100000
namespace Go.Proofs.YteemiclhnfkekaaGreat
open Go.RowKit Go.fe Tryz
theorem ti1:aA prog 1=some ⟨1,8, .nilFunc, .func⟩:=by kernel_rfl
theorem ti2:aA prog 2=some ⟨1,8, .int .i64 0, .int .i64⟩:=by kernel_rfl
theorem Zw:aA prog 3=some ⟨1,8, .int .i64 0, .int .i64⟩:=by kernel_rfl
theorem Zx:aA prog 4=some ⟨1,1, .bool false, .bool⟩:=by kernel_rfl
theorem Zy:aA prog 5=some ⟨1,1, .int .u8 0, .int .u8⟩:=by kernel_rfl
theorem Zz:aA prog 6=some ⟨1,1, .int .u8 0, .int .u8⟩:=by kernel_rfl
theorem ZA:aA prog 7=some ⟨4,24, .agg #[.int .i64 0, .int .i64 0, .bool false, .int .u8 0], .struct [(0,2),(1,3),(2,4),(3,6)]⟩:=by kernel_rfl
theorem ZB:aA prog 8=some ⟨4,24, .agg #[.int .i64 0, .int .i64 0, .bool false, .int .u8 0], .struct [(0,2),(1,3),(2,4),(3,6)]⟩:=by kernel_rfl
theorem ZC:aA prog 9=some ⟨1,16, .string ByteArray.empty, .string⟩:=by kernel_rfl
theorem WV:aA prog 10=some ⟨1,16, .string ByteArray.empty, .string⟩:=by kernel_rfl
theorem WW:aA prog 11=some ⟨1,16, .string ByteArray.empty, .string⟩:=by kernel_rfl
theorem WX:aA prog 12=some ⟨1,8, .int .u64 0, .int .u64⟩:=by kernel_rfl
theorem WY:aA prog 13=some ⟨2,24, .agg #[.string ByteArray.empty, .int .u64 0], .struct [(0,9),(1,12)]⟩:=by kernel_rfl
theorem WZ:aA prog 14=some ⟨2,24, .agg #[.string ByteArray.empty, .int .u64 0], .struct [(0,9),(1,12)]⟩:=by kernel_rfl
theorem W0:aA prog 15=some ⟨1,8, .pointer none, .ptr 263⟩:=by kernel_rfl
theorem W1:aA prog 16=some ⟨1,8, .pointer none, .ptr 266⟩:=by kernel_rfl
theorem W2:aA prog 17=some ⟨1,8, .pointer none, .ptr 274⟩:=by kernel_rfl
theorem W3:aA prog 19=some ⟨1,8, .agg #[.pointer none], .struct [(0,17)]⟩:=by kernel_rfl
theorem W4:aA prog 20=some ⟨1,16, .nilIface, .other⟩:=by kernel_rfl
theorem W5:aA prog 21=some ⟨1,4, .int .i32 0, .int .i32⟩:=by kernel_rfl
theorem W6:aA prog 22=some ⟨1,24, .slice none 0 0, .slice 3⟩:=by kernel_rfl
theorem W7:aA prog 23=some ⟨1,8, .pointer none, .ptr 86⟩:=by kernel_rfl
theorem W8:aA prog 25=some ⟨7,56, .agg #[.int .i64 0, .int .i64 0, .int .i64 0, .int .i64 0, .int .i64 0, .int .i64 0, .int .i64 0], .struct [(0,3),(1,3),(2,3),(3,3),(4,3),(5,3),(6,3)]⟩:=by kernel_rfl
theorem W9:aA prog 26=some ⟨1,24, .slice none 0 0, .slice 116⟩:=by kernel_rfl
theorem Xa:aA prog 27=some ⟨1,24, .slice none 0 0, .slice 125⟩:=by kernel_rfl
theorem Xb:aA prog 28=some ⟨1,24, .slice none 0 0, .slice 95⟩:=by kernel_rfl
theorem Xc:aA prog 29=some ⟨1,24, .slice none 0 0, .slice 153⟩:=by kernel_rfl
theorem Xd:aA prog 30=some ⟨2,32, .agg #[.int .i64 0, .slice none 0 0], .struct [(0,3),(1,29)]⟩:=by kernel_rfl
theorem Xe:aA prog 31=some ⟨2,32, .agg #[.int .i64 0, .slice none 0 0], .struct [(0,3),(1,29)]⟩:=by kernel_rfl
theorem Xf:aA prog 32=some ⟨14,176,.agg #[.int .i64 0,.int .i64 0,.int .i64 0,.int .i64 0,.int .i64 0,.int .i64 0,.int .i64 0,.int .i64 0,.int .i64 0,.slice none 0 0,.slice none 0 0,.slice none 0 0,.int .i64 0,.slice none 0 0],.struct [(0,25),(7,3),(8,3),(9,26),(10,27),(11,28),(12,31)]⟩:=by kernel_rfl
theorem Xg:aA prog 33=some ⟨14,176,.agg #[.int .i64 0,.int .i64 0,.int .i64 0,.int .i64 0,.int .i64 0,.int .i64 0,.int .i64 0,.int .i64 0,.int .i64 0,.slice none 0 0,.slice none 0 0,.slice none 0 0,.int .i64 0,.slice none 0 0],.struct [(0,25),(7,3),(8,3),(9,26),(10,27),(11,28),(12,31)]⟩:=by kernel_rfl
theorem Xh:aA prog 38=some ⟨1,8, .int .u64 0, .int .u64⟩:=by kernel_rfl
theorem Xi:aA prog 40=some ⟨1,8, .nilFunc, .func⟩:=by kernel_rfl
theorem Xj:aA prog 41=some ⟨1,8, .int .i64 0, .int .i64⟩:=by kernel_rfl
theorem Xk:aA prog 46=some ⟨1,8, .nilFunc, .func⟩:=by kernel_rfl
theorem Xl:aA prog 47=some ⟨1,24, .slice none 0 0, .slice 9⟩:=by kernel_rfl
theorem Xm:aA prog 49=some ⟨1,8, .nilFunc, .func⟩:=by kernel_rfl
theorem Xn:aA prog 50=some ⟨1,8, .nilFunc, .func⟩:=by kernel_rfl
theorem Xo:aA prog 51=some ⟨1,24, .slice none 0 0, .slice 5⟩:=by kernel_rfl
theorem Xp:aA prog 53=some ⟨1,8, .nilFunc, .func⟩:=by kernel_rfl
theorem Xq:aA prog 54=some ⟨1,8, .nilFunc, .func⟩:=by kernel_rfl
theorem Xr:aA prog 56=some ⟨1,8, .nilFunc, .func⟩:=by kernel_rfl
theorem Xt:aA prog 57=some ⟨1,8, .nilFunc, .func⟩:=by kernel_rfl
theorem Xu:aA prog 60=some ⟨1,8, .nilFunc, .func⟩:=by kernel_rfl
theorem Xv:aA prog 61=some ⟨1,8, .nilFunc, .func⟩:=by kernel_rfl
theorem Xw:aA prog 63=some ⟨5,104, .agg #[.int .i64 0, .slice none 0 0, .slice none 0 0, .slice none 0 0, .slice none 0 0], .struct [(0,3),(1,26),(2,27),(3,28),(4,29)]⟩:=by kernel_rfl
theorem Xx:aA prog 64=some ⟨5,104, .agg #[.int .i64 0, .slice none 0 0, .slice none 0 0, .slice none 0 0, .slice none 0 0], .struct [(0,3),(1,26),(2,27),(3,28),(4,29)]⟩:=by kernel_rfl
theorem Xy:aA prog 65=some ⟨1,8, .nilFunc, .func⟩:=by kernel_rfl
theorem Xz:aA prog 83=some ⟨1,8, .map none, .map 3 114⟩:=by kernel_rfl
theorem XA:aA prog 84=some ⟨1,8, .pointer none, .ptr 186⟩:=by kernel_rfl
theorem XB:aA prog 86=some ⟨13,136,.agg #[.int .i64 0,.int .i64 0,.int .i64 0,.int .i64 0,.int .i64 0,.int .i64 0,.int .i64 0,.int .i64 0,.map none,.int .i64 0,.slice none 0 0,.slice none 0 0,.pointer none],.struct [(0,25),(7,3),(8,83),(9,3),(10,27),(11,28),(12,84)]⟩:=by kernel_rfl
theorem XC:aA prog 95=some ⟨2,16, .agg #[.int .i64 0, .int .i64 0], .struct [(0,3),(1,3)]⟩:=by kernel_rfl
theorem XD:aA prog 97=some ⟨1,8, .nilFunc, .func⟩:=by kernel_rfl
theorem XE:aA prog 98=some ⟨1,24, .slice none 0 0, .slice 101⟩:=by kernel_rfl
theorem XF:aA prog 99=some ⟨1,8, .nilFunc, .func⟩:=by kernel_rfl
theorem T6:aA prog 100=some ⟨2,16, .agg #[.int .i64 0, .int .i64 0], .struct [(0,3),(1,3)]⟩:=by kernel_rfl
theorem T7:aA prog 101=some ⟨2,16, .agg #[.int .i64 0, .int .i64 0], .struct [(0,3),(1,3)]⟩:=by kernel_rfl
theorem T8:aA prog 105=some ⟨4,48, .agg #[.int .i64 0, .int .i64 0, .int .i64 0, .slice none 0 0], .struct [(0,3),(1,3),(2,3),(3,22)]⟩:=by kernel_rfl
theorem T9:aA prog 109=some ⟨1,24, .slice none 0 0, .slice 51⟩:=by kernel_rfl
theorem Ua:aA prog 114=some ⟨1,24, .slice none 0 0, .slice 105⟩:=by kernel_rfl
theorem Ub:aA prog 116=some ⟨2,32, .agg #[.int .i64 0, .slice none 0 0], .struct [(0,3),(1,114)]⟩:=by kernel_rfl
theorem Uc:aA prog 122=some ⟨1,8, .nilFunc, .func⟩:=by kernel_rfl
theorem Ud:aA prog 125=some ⟨4,40, .agg #[.string ByteArray.empty, .int .i64 0, .int .i64 0, .int .i64 0], .struct [(0,9),(1,3),(2,3),(3,3)]⟩:=by kernel_rfl
theorem Ue:aA prog 141=some ⟨1,24, .slice none 0 0, .slice 4⟩:=by kernel_rfl
theorem Uf:aA prog 153=some ⟨3,40, .agg #[.int .i64 0, .int .i64 0, .slice none 0 0], .struct [(0,3),(1,3),(2,51)]⟩:=by kernel_rfl
theorem Ug:aA prog 154=some ⟨1,8, .nilFunc, .func⟩:=by kernel_rfl
theorem Uh:aA prog 165=some ⟨1,24, .slice none 0 0, .slice 169⟩:=by kernel_rfl
theorem Ui:aA prog 169=some ⟨5,56, .agg #[.int .i64 0, .int .i64 0, .int .i64 0, .int .i64 0, .slice none 0 0], .struct [(0,3),(1,105)]⟩:=by kernel_rfl
theorem Uj:aA prog 184=some ⟨1,8, .map none, .map 3 189⟩:=by kernel_rfl
theorem Uk:aA prog 186=some ⟨2,16, .agg #[.int .i64 0, .map none], .struct [(0,3),(1,184)]⟩:=by kernel_rfl
theorem Ul:aA prog 189=some ⟨1,8, .pointer none, .ptr 153⟩:=by kernel_rfl
theorem Um:aA prog 193=some ⟨1,16, .complex .f64 0 0, .other⟩:=by kernel_rfl
theorem Un:aA prog 195=some ⟨1,8, .float .f64 0, .other⟩:=by kernel_rfl
theorem Uo:aA prog 200=some ⟨1,8, .nilFunc, .func⟩:=by kernel_rfl
theorem Up:aA prog 212=some ⟨1,8, .nilFunc, .func⟩:=by kernel_rfl
theorem Uq:aA prog 219=some ⟨2,16, .agg #[.int .i64 0, .int .i64 0], .struct [(0,3),(1,3)]⟩:=by kernel_rfl
theorem Ur:aA prog 222=some ⟨1,8, .nilFunc, .func⟩:=by kernel_rfl
theorem Us:aA prog 226=some ⟨1,8, .int .i64 0, .int .i64⟩:=by kernel_rfl
theorem Ut:aA prog 232=some ⟨1,4, .int .u32 0, .int .u32⟩:=by kernel_rfl
theorem Uu:aA prog 234=some ⟨1,8, .int .u64 0, .int .u64⟩:=by kernel_rfl
theorem Uv:aA prog 246=some ⟨1,8, .int .u64 0, .int .u64⟩:=by kernel_rfl
theorem Uw:aA prog 250=some ⟨1,8, .pointer none, .ptr 3⟩:=by kernel_rfl
theorem Ux:aA prog 256=some ⟨1,8, .pointer none, .ptr 246⟩:=by kernel_rfl
theorem Uy:aA prog 263=some ⟨4,40, .agg #[.pointer none, .pointer none, .pointer none, .string ByteArray.empty], .struct [(0,17),(1,17),(2,17),(3,9)]⟩:=by kernel_rfl
theorem Uz:aA prog 264=some ⟨0,0, .agg #[], .array 0 16⟩:=by kernel_rfl
theorem UA:aA prog 266=some ⟨0,0, .agg #[], .struct [(0,264)]⟩:=by kernel_rfl
theorem UC:aA prog 267=some ⟨1,1, .int .u8 0, .int .u8⟩:=by kernel_rfl
theorem UD:aA prog 268=some ⟨1,1, .int .u8 0, .int .u8⟩:=by kernel_rfl
theorem UE:aA prog 269=some ⟨1,8, .nilFunc, .func⟩:=by kernel_rfl
theorem UF:aA prog 270=some ⟨1,8, .pointer none, .ptr 5⟩:=by kernel_rfl
theorem UG:aA prog 271=some ⟨1,4, .int .i32 0, .int .i32⟩:=by kernel_rfl
theorem UH:aA prog 272=some ⟨1,4, .int .i32 0, .int .i32⟩:=by kernel_rfl
theorem UI:aA prog 274=some ⟨11,48,.agg #[.int .u64 0,.int .u64 0,.int .u32 0,.int .u8 0,.int .u8 0,.int .u8 0,.int .u8 0,.nilFunc,.pointer none,.int .i32 0,.int .i32 0],.struct [(0,12),(1,12),(2,232),(3,267),(4,5),(5,5),(6,268),(7,269),(8,270),(9,271),(10,272)]⟩:=by kernel_rfl
attribute [go_sem] ti1 ti2 Zw Zx Zy Zz ZA ZB ZC WV WW WX WY WZ W0 W1 W2 W3 W4 W5 W6 W7 W8 W9 Xa Xb Xc Xd Xe Xf Xg Xh Xi Xj Xk Xl Xm Xn Xo Xp Xq Xr Xt Xu Xv Xw Xx Xy Xz XA XB XC XD XE XF T6 T7 T8 T9 Ua Ub Uc Ud Ue Uf Ug Uh Ui Uj Uk Ul Um Un Uo Up Uq Ur Us Ut Uu Uv Uw Ux Uy Uz UA UC UD UE UF UG UH UI
theorem call10:∀ xs w,(callFunc 10 xs).run prog w = .ok (.enter 10 xs) w:=fun _ _=>by kernel_rfl
theorem call14:∀ xs w,(callFunc 14 xs).run prog w = .ok (.enter 14 xs) w:=fun _ _=>by kernel_rfl
theorem call29:∀ xs w,(callFunc 29 xs).run prog w = .ok (.enter 29 xs) w:=fun _ _=>by kernel_rfl
theorem call47:∀ xs w,(callFunc 47 xs).run prog w = .ok (.enter 47 xs) w:=fun _ _=>by kernel_rfl
theorem call72:∀ xs w,(callFunc 72 xs).run prog w = .ok (.enter 72 xs) w:=fun _ _=>by kernel_rfl
theorem call73:∀ xs w,(callFunc 73 xs).run prog w = .ok (.enter 73 xs) w:=fun _ _=>by kernel_rfl
theorem call76:∀ xs w,(callFunc 76 xs).run prog w = .ok (.enter 76 xs) w:=fun _ _=>by kernel_rfl
theorem call87:∀ xs w,(callFunc 87 xs).run prog w = .ok (.enter 87 xs) w:=fun _ _=>by kernel_rfl
theorem call93:∀ xs w,(callFunc 93 xs).run prog w = .ok (.enter 93 xs) w:=fun _ _=>by kernel_rfl
theorem call121:∀ xs w,(callFunc 121 xs).run prog w = .ok (.enter 121 xs) w:=fun _ _=>by kernel_rfl
theorem call136:∀ xs w,(callFunc 136 xs).run prog w = .ok (.enter 136 xs) w:=fun _ _=>by kernel_rfl
theorem call137:∀ xs w,(callFunc 137 xs).run prog w = .ok (.enter 137 xs) w:=fun _ _=>by kernel_rfl
theorem call152:∀ xs w,(callFunc 152 xs).run prog w = .ok (.enter 152 xs) w:=fun _ _=>by kernel_rfl
theorem call173:∀ xs w,(callFunc 173 xs).run prog w = .ok (.enter 173 xs) w:=fun _ _=>by kernel_rfl
theorem IL (a b:Bool):aQ prog ((pure ():Sem Unit) >>= fun _=>Go.binOp .eql 4 (.bool a) (.bool b))=some (.bool (a==b)):=zf underlying4 (.tmp 0) (.tmp 0) a b
theorem IP (a b:Bool):aQ prog ((pure ():Sem Unit) >>= fun _=>Go.binOp .neq 4 (.bool a) (.bool b))=some (.bool (!(a==b))):=zg underlying4 (.tmp 0) (.tmp 0) a b
attribute [go_sem] IL IP
theorem Qc (x y:Operand) (a0:Int) (a1:Int) (b0:Int) (b1:Int):vU prog .eql 95 x y (.agg #[.int .i64 a0,.int .i64 a1]) (.agg #[.int .i64 b0,.int .i64 b1])=some (.bool ((a0==b0)&&((a1==b1)&&true)))/\vU prog .neq 95 x y (.agg #[.int .i64 a0,.int .i64 a1]) (.agg #[.int .i64 b0,.int .i64 b1])=some (.bool (!((a0==b0)&&((a1==b1)&&true)))):=C8 underlying95 (by kernel_rfl) (by kernel_rfl) (iI (by decide) (eC underlying3 rfl rfl) (eC underlying3 rfl rfl) (fP underlying3) (iI (by decide) (eC underlying3 rfl rfl) (eC underlying3 rfl rfl) (fP underlying3) sX))
theorem UJ (x y:Operand) (a0:Int) (a1:Int) (b0:Int) (b1:Int):aQ prog (do eqGuard .eql 95 x y (.agg #[.int .i64 a0,.int .i64 a1]) (.agg #[.int .i64 b0,.int .i64 b1]);Go.binOp .eql 95 (.agg #[.int .i64 a0,.int .i64 a1]) (.agg #[.int .i64 b0,.int .i64 b1]))=some (.bool ((a0==b0)&&((a1==b1)&&true))):=(Qc x y a0 a1 b0 b1).1
theorem UK (x y:Operand) (a0:Int) (a1:Int) (b0:Int) (b1:Int):aQ prog (do eqGuard .neq 95 x y (.agg #[.int .i64 a0,.int .i64 a1]) (.agg #[.int .i64 b0,.int .i64 b1]);Go.binOp .neq 95 (.agg #[.int .i64 a0,.int .i64 a1]) (.agg #[.int .i64 b0,.int .i64 b1]))=some (.bool (!((a0==b0)&&((a1==b1)&&true)))):=(Qc x y a0 a1 b0 b1).2
attribute [go_sem] UJ UK
theorem LH (x y:Operand) (a0:ByteArray) (a1:Int) (a2:Int) (a3:Int) (b0:ByteArray) (b1:Int) (b2:Int) (b3:Int):vU prog .eql 125 x y (.agg #[.string a0,.int .i64 a1,.int .i64 a2,.int .i64 a3]) (.agg #[.string b0,.int .i64 b1,.int .i64 b2,.int .i64 b3])=some (.bool ((a0.toList==b0.toList)&&((a1==b1)&&((a2==b2)&&((a3==b3)&&true)))))/\vU prog .neq 125 x y (.agg #[.string a0,.int .i64 a1,.int .i64 a2,.int .i64 a3]) (.agg #[.string b0,.int .i64 b1,.int .i64 b2,.int .i64 b3])=some (.bool (!((a0.toList==b0.toList)&&((a1==b1)&&((a2==b2)&&((a3==b3)&&true)))))):=C8 underlying125 (by kernel_rfl) (by kernel_rfl) (iI (by decide) (eC underlying9 rfl rfl) (eC underlying9 rfl rfl) (ov underlying9) (iI (by decide) (eC underlying3 rfl rfl) (eC underlying3 rfl rfl) (fP underlying3) (iI (by decide) (eC underlying3 rfl rfl) (eC underlying3 rfl rfl) (fP underlying3) (iI (by decide) (eC underlying3 rfl rfl) (eC underlying3 rfl rfl) (fP underlying3) sX))))
theorem Rv (x y:Operand) (a0:ByteArray) (a1:Int) (a2:Int) (a3:Int) (b0:ByteArray) (b1:Int) (b2:Int) (b3:Int):aQ prog (do eqGuard .eql 125 x y (.agg #[.string a0,.int .i64 a1,.int .i64 a2,.int .i64 a3]) (.agg #[.string b0,.int .i64 b1,.int .i64 b2,.int .i64 b3]);Go.binOp .eql 125 (.agg #[.string a0,.int .i64 a1,.int .i64 a2,.int .i64 a3]) (.agg #[.string b0,.int .i64 b1,.int .i64 b2,.int .i64 b3]))=some (.bool ((a0.toList==b0.toList)&&((a1==b1)&&((a2==b2)&&((a3==b3)&&true))))):=(LH x y a0 a1 a2 a3 b0 b1 b2 b3).1
theorem Rw (x y:Operand) (a0:ByteArray) (a1:Int) (a2:Int) (a3:Int) (b0:ByteArray) (b1:Int) (b2:Int) (b3:Int):aQ prog (do eqGuard .neq 125 x y (.agg #[.string a0,.int .i64 a1,.int .i64 a2,.int .i64 a3]) (.agg #[.string b0,.int .i64 b1,.int .i64 b2,.int .i64 b3]);Go.binOp .neq 125 (.agg #[.string a0,.int .i64 a1,.int .i64 a2,.int .i64 a3]) (.agg #[.string b0,.int .i64 b1,.int .i64 b2,.int .i64 b3]))=some (.bool (!((a0.toList==b0.toList)&&((a1==b1)&&((a2==b2)&&((a3==b3)&&true)))))):=(LH x y a0 a1 a2 a3 b0 b1 b2 b3).2
attribute [go_sem] Rv Rw
theorem Ov (s:ByteArray):aQ prog (Builtin.len_ #[9] 0 #[.string s])=some (.int .i64 s.size):=by
 show aQ prog (underlying 9 >>= _)=_;rw[bk,cm underlying9];rfl
attribute [go_sem] Ov
theorem mix:prog.follows .mixedOrders=true:=by kernel_rfl
end Go.Proofs.YteemiclhnfkekaaGreat
