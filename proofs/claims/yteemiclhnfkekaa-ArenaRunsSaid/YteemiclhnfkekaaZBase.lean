/- The facts about the types of the program that the machine asks. -/
import Derived.Test.YteemiclhnfkekaaRows
import Derived.Test.YteemiclhnfkekaaZAvmR
import Derived.Test.YteemiclhnfkekaaZAvmU
set_option linter.unusedSimpArgs false
set_option linter.unusedVariables false
namespace Go.Proofs.Yteemiclhnfkekaa
open Go.RowKit Go.Avm
theorem ti1:tiGet Try.prog 1=some ⟨1,8, .nilFunc, .func⟩:=by kernel_rfl
theorem ti2:tiGet Try.prog 2=some ⟨1,8, .int .i64 0, .int .i64⟩:=by kernel_rfl
theorem ti3:tiGet Try.prog 3=some ⟨1,8, .int .i64 0, .int .i64⟩:=by kernel_rfl
theorem ti4:tiGet Try.prog 4=some ⟨1,1, .bool false, .bool⟩:=by kernel_rfl
theorem ti5:tiGet Try.prog 5=some ⟨1,1, .int .u8 0, .int .u8⟩:=by kernel_rfl
theorem ti6:tiGet Try.prog 6=some ⟨1,1, .int .u8 0, .int .u8⟩:=by kernel_rfl
theorem ti7:tiGet Try.prog 7=some ⟨4,24, .agg #[.int .i64 0, .int .i64 0, .bool false, .int .u8 0], .struct [(0,2),(1,3),(2,4),(3,6)]⟩:=by kernel_rfl
theorem ti8:tiGet Try.prog 8=some ⟨4,24, .agg #[.int .i64 0, .int .i64 0, .bool false, .int .u8 0], .struct [(0,2),(1,3),(2,4),(3,6)]⟩:=by kernel_rfl
theorem ti9:tiGet Try.prog 9=some ⟨1,16, .string ByteArray.empty, .string⟩:=by kernel_rfl
theorem ti10:tiGet Try.prog 10=some ⟨1,16, .string ByteArray.empty, .string⟩:=by kernel_rfl
theorem ti11:tiGet Try.prog 11=some ⟨1,16, .string ByteArray.empty, .string⟩:=by kernel_rfl
theorem ti12:tiGet Try.prog 12=some ⟨1,8, .int .u64 0, .int .u64⟩:=by kernel_rfl
theorem ti13:tiGet Try.prog 13=some ⟨2,24, .agg #[.string ByteArray.empty, .int .u64 0], .struct [(0,9),(1,12)]⟩:=by kernel_rfl
theorem ti14:tiGet Try.prog 14=some ⟨2,24, .agg #[.string ByteArray.empty, .int .u64 0], .struct [(0,9),(1,12)]⟩:=by kernel_rfl
theorem ti15:tiGet Try.prog 15=some ⟨1,8, .pointer none, .ptr 167⟩:=by kernel_rfl
theorem ti16:tiGet Try.prog 16=some ⟨1,8, .pointer none, .ptr 170⟩:=by kernel_rfl
theorem ti17:tiGet Try.prog 17=some ⟨1,8, .pointer none, .ptr 178⟩:=by kernel_rfl
theorem ti18:tiGet Try.prog 18=some ⟨1,8, .agg #[.pointer none], .struct [(0,17)]⟩:=by kernel_rfl
theorem ti19:tiGet Try.prog 19=some ⟨1,8, .agg #[.pointer none], .struct [(0,17)]⟩:=by kernel_rfl
theorem ti20:tiGet Try.prog 20=some ⟨1,16, .nilIface, .other⟩:=by kernel_rfl
theorem ti21:tiGet Try.prog 21=some ⟨1,4, .int .i32 0, .int .i32⟩:=by kernel_rfl
theorem ti22:tiGet Try.prog 22=some ⟨1,24, .slice none 0 0, .slice 3⟩:=by kernel_rfl
theorem ti23:tiGet Try.prog 23=some ⟨1,8, .pointer none, .ptr 68⟩:=by kernel_rfl
theorem ti24:tiGet Try.prog 24=some ⟨1,8, .int .i64 0, .int .i64⟩:=by kernel_rfl
theorem ti26:tiGet Try.prog 26=some ⟨1,8, .nilFunc, .func⟩:=by kernel_rfl
theorem ti27:tiGet Try.prog 27=some ⟨1,8, .nilFunc, .func⟩:=by kernel_rfl
theorem ti28:tiGet Try.prog 28=some ⟨1,8, .nilFunc, .func⟩:=by kernel_rfl
theorem ti30:tiGet Try.prog 30=some ⟨1,8, .nilFunc, .func⟩:=by kernel_rfl
theorem ti31:tiGet Try.prog 31=some ⟨1,24, .slice none 0 0, .slice 5⟩:=by kernel_rfl
theorem ti32:tiGet Try.prog 32=some ⟨1,8, .nilFunc, .func⟩:=by kernel_rfl
theorem ti33:tiGet Try.prog 33=some ⟨1,8, .nilFunc, .func⟩:=by kernel_rfl
theorem ti35:tiGet Try.prog 35=some ⟨1,8, .nilFunc, .func⟩:=by kernel_rfl
theorem ti36:tiGet Try.prog 36=some ⟨1,8, .nilFunc, .func⟩:=by kernel_rfl
theorem ti37:tiGet Try.prog 37=some ⟨1,8, .nilFunc, .func⟩:=by kernel_rfl
theorem ti39:tiGet Try.prog 39=some ⟨1,8, .nilFunc, .func⟩:=by kernel_rfl
theorem ti40:tiGet Try.prog 40=some ⟨1,24, .slice none 0 0, .slice 43⟩:=by kernel_rfl
theorem ti41:tiGet Try.prog 41=some ⟨1,8, .nilFunc, .func⟩:=by kernel_rfl
theorem ti42:tiGet Try.prog 42=some ⟨3,40, .agg #[.int .i64 0, .int .i64 0, .slice none 0 0], .struct [(0,3),(1,3),(2,31)]⟩:=by kernel_rfl
theorem ti43:tiGet Try.prog 43=some ⟨3,40, .agg #[.int .i64 0, .int .i64 0, .slice none 0 0], .struct [(0,3),(1,3),(2,31)]⟩:=by kernel_rfl
theorem ti44:tiGet Try.prog 44=some ⟨2,32, .agg #[.int .i64 0, .slice none 0 0], .struct [(0,3),(1,40)]⟩:=by kernel_rfl
theorem ti45:tiGet Try.prog 45=some ⟨2,32, .agg #[.int .i64 0, .slice none 0 0], .struct [(0,3),(1,40)]⟩:=by kernel_rfl
theorem ti46:tiGet Try.prog 46=some ⟨1,8, .int .u64 0, .int .u64⟩:=by kernel_rfl
theorem ti48:tiGet Try.prog 48=some ⟨1,8, .nilFunc, .func⟩:=by kernel_rfl
theorem ti50:tiGet Try.prog 50=some ⟨1,8, .nilFunc, .func⟩:=by kernel_rfl
theorem ti52:tiGet Try.prog 52=some ⟨1,8, .nilFunc, .func⟩:=by kernel_rfl
theorem ti53:tiGet Try.prog 53=some ⟨1,8, .nilFunc, .func⟩:=by kernel_rfl
theorem ti54:tiGet Try.prog 54=some ⟨1,8, .nilFunc, .func⟩:=by kernel_rfl
theorem ti55:tiGet Try.prog 55=some ⟨1,8, .nilFunc, .func⟩:=by kernel_rfl
theorem ti56:tiGet Try.prog 56=some ⟨7,56, .agg #[.int .i64 0, .int .i64 0, .int .i64 0, .int .i64 0, .int .i64 0, .int .i64 0, .int .i64 0], .struct [(0,3),(1,3),(2,3),(3,3),(4,3),(5,3),(6,3)]⟩:=by kernel_rfl
theorem ti57:tiGet Try.prog 57=some ⟨7,56, .agg #[.int .i64 0, .int .i64 0, .int .i64 0, .int .i64 0, .int .i64 0, .int .i64 0, .int .i64 0], .struct [(0,3),(1,3),(2,3),(3,3),(4,3),(5,3),(6,3)]⟩:=by kernel_rfl
theorem ti58:tiGet Try.prog 58=some ⟨1,8, .nilFunc, .func⟩:=by kernel_rfl
theorem ti59:tiGet Try.prog 59=some ⟨1,8, .nilFunc, .func⟩:=by kernel_rfl
theorem ti60:tiGet Try.prog 60=some ⟨1,8, .pointer none, .ptr 77⟩:=by kernel_rfl
theorem ti62:tiGet Try.prog 62=some ⟨1,8, .nilFunc, .func⟩:=by kernel_rfl
theorem ti63:tiGet Try.prog 63=some ⟨1,8, .nilFunc, .func⟩:=by kernel_rfl
theorem ti64:tiGet Try.prog 64=some ⟨1,8, .nilFunc, .func⟩:=by kernel_rfl
theorem ti65:tiGet Try.prog 65=some ⟨1,8, .nilFunc, .func⟩:=by kernel_rfl
theorem ti66:tiGet Try.prog 66=some ⟨1,8, .map none, .map 3 69⟩:=by kernel_rfl
theorem ti67:tiGet Try.prog 67=some ⟨2,16, .agg #[.int .i64 0, .map none], .struct [(0,3),(1,66)]⟩:=by kernel_rfl
theorem ti68:tiGet Try.prog 68=some ⟨2,16, .agg #[.int .i64 0, .map none], .struct [(0,3),(1,66)]⟩:=by kernel_rfl
theorem ti69:tiGet Try.prog 69=some ⟨1,8, .pointer none, .ptr 43⟩:=by kernel_rfl
theorem ti70:tiGet Try.prog 70=some ⟨1,8, .nilFunc, .func⟩:=by kernel_rfl
theorem ti71:tiGet Try.prog 71=some ⟨1,8, .nilFunc, .func⟩:=by kernel_rfl
theorem ti72:tiGet Try.prog 72=some ⟨1,8, .nilFunc, .func⟩:=by kernel_rfl
theorem ti73:tiGet Try.prog 73=some ⟨1,8, .map none, .map 3 87⟩:=by kernel_rfl
theorem ti74:tiGet Try.prog 74=some ⟨1,24, .slice none 0 0, .slice 108⟩:=by kernel_rfl
theorem ti75:tiGet Try.prog 75=some ⟨1,24, .slice none 0 0, .slice 155⟩:=by kernel_rfl
theorem ti76:tiGet Try.prog 76=some ⟨13,136,.agg #[.int .i64 0,.int .i64 0,.int .i64 0,.int .i64 0,.int .i64 0,.int .i64 0,.int .i64 0,.int .i64 0,.map none,.int .i64 0,.slice none 0 0,.slice none 0 0,.pointer none],.struct [(0,57),(7,3),(8,73),(9,3),(10,74),(11,75),(12,23)]⟩:=by kernel_rfl
theorem ti77:tiGet Try.prog 77=some ⟨13,136,.agg #[.int .i64 0,.int .i64 0,.int .i64 0,.int .i64 0,.int .i64 0,.int .i64 0,.int .i64 0,.int .i64 0,.map none,.int .i64 0,.slice none 0 0,.slice none 0 0,.pointer none],.struct [(0,57),(7,3),(8,73),(9,3),(10,74),(11,75),(12,23)]⟩:=by kernel_rfl
theorem ti78:tiGet Try.prog 78=some ⟨1,8, .nilFunc, .func⟩:=by kernel_rfl
theorem ti79:tiGet Try.prog 79=some ⟨1,24, .slice none 0 0, .slice 31⟩:=by kernel_rfl
theorem ti81:tiGet Try.prog 81=some ⟨1,8, .nilFunc, .func⟩:=by kernel_rfl
theorem ti82:tiGet Try.prog 82=some ⟨1,8, .nilFunc, .func⟩:=by kernel_rfl
theorem ti83:tiGet Try.prog 83=some ⟨1,24, .slice none 0 0, .slice 9⟩:=by kernel_rfl
theorem ti84:tiGet Try.prog 84=some ⟨1,8, .nilFunc, .func⟩:=by kernel_rfl
theorem ti85:tiGet Try.prog 85=some ⟨4,48, .agg #[.int .i64 0, .int .i64 0, .int .i64 0, .slice none 0 0], .struct [(0,3),(1,3),(2,3),(3,22)]⟩:=by kernel_rfl
theorem ti86:tiGet Try.prog 86=some ⟨4,48, .agg #[.int .i64 0, .int .i64 0, .int .i64 0, .slice none 0 0], .struct [(0,3),(1,3),(2,3),(3,22)]⟩:=by kernel_rfl
theorem ti87:tiGet Try.prog 87=some ⟨1,24, .slice none 0 0, .slice 86⟩:=by kernel_rfl
theorem ti89:tiGet Try.prog 89=some ⟨1,8, .nilFunc, .func⟩:=by kernel_rfl
theorem ti91:tiGet Try.prog 91=some ⟨1,8, .nilFunc, .func⟩:=by kernel_rfl
theorem ti92:tiGet Try.prog 92=some ⟨1,24, .slice none 0 0, .slice 4⟩:=by kernel_rfl
theorem ti93:tiGet Try.prog 93=some ⟨1,8, .nilFunc, .func⟩:=by kernel_rfl
theorem ti94:tiGet Try.prog 94=some ⟨1,8, .nilFunc, .func⟩:=by kernel_rfl
theorem ti96:tiGet Try.prog 96=some ⟨1,8, .nilFunc, .func⟩:=by kernel_rfl
theorem ti97:tiGet Try.prog 97=some ⟨1,8, .nilFunc, .func⟩:=by kernel_rfl
theorem ti98:tiGet Try.prog 98=some ⟨1,8, .nilFunc, .func⟩:=by kernel_rfl
theorem ti99:tiGet Try.prog 99=some ⟨1,8, .nilFunc, .func⟩:=by kernel_rfl
theorem ti100:tiGet Try.prog 100=some ⟨1,8, .nilFunc, .func⟩:=by kernel_rfl
theorem ti101:tiGet Try.prog 101=some ⟨1,16, .complex .f64 0 0, .other⟩:=by kernel_rfl
theorem ti102:tiGet Try.prog 102=some ⟨1,8, .nilFunc, .func⟩:=by kernel_rfl
theorem ti103:tiGet Try.prog 103=some ⟨1,8, .float .f64 0, .other⟩:=by kernel_rfl
theorem ti104:tiGet Try.prog 104=some ⟨1,8, .nilFunc, .func⟩:=by kernel_rfl
theorem ti106:tiGet Try.prog 106=some ⟨1,8, .nilFunc, .func⟩:=by kernel_rfl
theorem ti107:tiGet Try.prog 107=some ⟨4,40, .agg #[.string ByteArray.empty, .int .i64 0, .int .i64 0, .int .i64 0], .struct [(0,9),(1,3),(2,3),(3,3)]⟩:=by kernel_rfl
theorem ti108:tiGet Try.prog 108=some ⟨4,40, .agg #[.string ByteArray.empty, .int .i64 0, .int .i64 0, .int .i64 0], .struct [(0,9),(1,3),(2,3),(3,3)]⟩:=by kernel_rfl
theorem ti109:tiGet Try.prog 109=some ⟨1,8, .nilFunc, .func⟩:=by kernel_rfl
theorem ti110:tiGet Try.prog 110=some ⟨1,8, .nilFunc, .func⟩:=by kernel_rfl
theorem ti111:tiGet Try.prog 111=some ⟨1,8, .nilFunc, .func⟩:=by kernel_rfl
theorem ti112:tiGet Try.prog 112=some ⟨1,8, .nilFunc, .func⟩:=by kernel_rfl
theorem ti113:tiGet Try.prog 113=some ⟨1,8, .nilFunc, .func⟩:=by kernel_rfl
theorem ti114:tiGet Try.prog 114=some ⟨1,8, .nilFunc, .func⟩:=by kernel_rfl
theorem ti115:tiGet Try.prog 115=some ⟨1,8, .nilFunc, .func⟩:=by kernel_rfl
theorem ti116:tiGet Try.prog 116=some ⟨1,8, .nilFunc, .func⟩:=by kernel_rfl
theorem ti117:tiGet Try.prog 117=some ⟨1,8, .nilFunc, .func⟩:=by kernel_rfl
theorem ti118:tiGet Try.prog 118=some ⟨1,8, .nilFunc, .func⟩:=by kernel_rfl
theorem ti119:tiGet Try.prog 119=some ⟨1,8, .nilFunc, .func⟩:=by kernel_rfl
theorem ti120:tiGet Try.prog 120=some ⟨1,8, .nilFunc, .func⟩:=by kernel_rfl
theorem ti121:tiGet Try.prog 121=some ⟨1,8, .pointer none, .ptr 86⟩:=by kernel_rfl
theorem ti122:tiGet Try.prog 122=some ⟨1,8, .nilFunc, .func⟩:=by kernel_rfl
theorem ti123:tiGet Try.prog 123=some ⟨1,8, .nilFunc, .func⟩:=by kernel_rfl
theorem ti124:tiGet Try.prog 124=some ⟨1,8, .int .i64 0, .int .i64⟩:=by kernel_rfl
theorem ti126:tiGet Try.prog 126=some ⟨1,8, .nilFunc, .func⟩:=by kernel_rfl
theorem ti127:tiGet Try.prog 127=some ⟨1,8, .nilFunc, .func⟩:=by kernel_rfl
theorem ti128:tiGet Try.prog 128=some ⟨1,8, .nilFunc, .func⟩:=by kernel_rfl
theorem ti129:tiGet Try.prog 129=some ⟨1,8, .nilFunc, .func⟩:=by kernel_rfl
theorem ti130:tiGet Try.prog 130=some ⟨1,8, .nilFunc, .func⟩:=by kernel_rfl
theorem ti131:tiGet Try.prog 131=some ⟨1,4, .int .u32 0, .int .u32⟩:=by kernel_rfl
theorem ti132:tiGet Try.prog 132=some ⟨1,8, .nilFunc, .func⟩:=by kernel_rfl
theorem ti133:tiGet Try.prog 133=some ⟨1,8, .int .u64 0, .int .u64⟩:=by kernel_rfl
theorem ti134:tiGet Try.prog 134=some ⟨1,8, .nilFunc, .func⟩:=by kernel_rfl
theorem ti135:tiGet Try.prog 135=some ⟨1,8, .nilFunc, .func⟩:=by kernel_rfl
theorem ti136:tiGet Try.prog 136=some ⟨1,8, .nilFunc, .func⟩:=by kernel_rfl
theorem ti137:tiGet Try.prog 137=some ⟨1,8, .nilFunc, .func⟩:=by kernel_rfl
theorem ti138:tiGet Try.prog 138=some ⟨1,8, .nilFunc, .func⟩:=by kernel_rfl
theorem ti139:tiGet Try.prog 139=some ⟨1,8, .int .u64 0, .int .u64⟩:=by kernel_rfl
theorem ti140:tiGet Try.prog 140=some ⟨1,8, .nilFunc, .func⟩:=by kernel_rfl
theorem ti141:tiGet Try.prog 141=some ⟨1,8, .nilFunc, .func⟩:=by kernel_rfl
theorem ti142:tiGet Try.prog 142=some ⟨1,8, .nilFunc, .func⟩:=by kernel_rfl
theorem ti143:tiGet Try.prog 143=some ⟨1,8, .pointer none, .ptr 3⟩:=by kernel_rfl
theorem ti144:tiGet Try.prog 144=some ⟨1,8, .nilFunc, .func⟩:=by kernel_rfl
theorem ti145:tiGet Try.prog 145=some ⟨1,8, .nilFunc, .func⟩:=by kernel_rfl
theorem ti146:tiGet Try.prog 146=some ⟨1,8, .nilFunc, .func⟩:=by kernel_rfl
theorem ti147:tiGet Try.prog 147=some ⟨1,8, .nilFunc, .func⟩:=by kernel_rfl
theorem ti148:tiGet Try.prog 148=some ⟨1,8, .nilFunc, .func⟩:=by kernel_rfl
theorem ti149:tiGet Try.prog 149=some ⟨1,8, .nilFunc, .func⟩:=by kernel_rfl
theorem ti150:tiGet Try.prog 150=some ⟨1,8, .nilFunc, .func⟩:=by kernel_rfl
theorem ti151:tiGet Try.prog 151=some ⟨1,8, .nilFunc, .func⟩:=by kernel_rfl
theorem ti152:tiGet Try.prog 152=some ⟨1,8, .nilFunc, .func⟩:=by kernel_rfl
theorem ti153:tiGet Try.prog 153=some ⟨1,8, .nilFunc, .func⟩:=by kernel_rfl
theorem ti154:tiGet Try.prog 154=some ⟨2,16, .agg #[.int .i64 0, .int .i64 0], .struct [(0,3),(1,3)]⟩:=by kernel_rfl
theorem ti155:tiGet Try.prog 155=some ⟨2,16, .agg #[.int .i64 0, .int .i64 0], .struct [(0,3),(1,3)]⟩:=by kernel_rfl
theorem ti156:tiGet Try.prog 156=some ⟨1,8, .nilFunc, .func⟩:=by kernel_rfl
theorem ti157:tiGet Try.prog 157=some ⟨1,8, .pointer none, .ptr 139⟩:=by kernel_rfl
theorem ti159:tiGet Try.prog 159=some ⟨1,8, .nilFunc, .func⟩:=by kernel_rfl
theorem ti160:tiGet Try.prog 160=some ⟨1,8, .nilFunc, .func⟩:=by kernel_rfl
theorem ti161:tiGet Try.prog 161=some ⟨1,8, .nilFunc, .func⟩:=by kernel_rfl
theorem ti162:tiGet Try.prog 162=some ⟨1,8, .nilFunc, .func⟩:=by kernel_rfl
theorem ti163:tiGet Try.prog 163=some ⟨1,8, .nilFunc, .func⟩:=by kernel_rfl
theorem ti164:tiGet Try.prog 164=some ⟨1,8, .nilFunc, .func⟩:=by kernel_rfl
theorem ti165:tiGet Try.prog 165=some ⟨1,8, .nilFunc, .func⟩:=by kernel_rfl
theorem ti166:tiGet Try.prog 166=some ⟨4,40, .agg #[.pointer none, .pointer none, .pointer none, .string ByteArray.empty], .struct [(0,17),(1,17),(2,17),(3,9)]⟩:=by kernel_rfl
theorem ti167:tiGet Try.prog 167=some ⟨4,40, .agg #[.pointer none, .pointer none, .pointer none, .string ByteArray.empty], .struct [(0,17),(1,17),(2,17),(3,9)]⟩:=by kernel_rfl
theorem ti168:tiGet Try.prog 168=some ⟨0,0, .agg #[], .array 0 16⟩:=by kernel_rfl
theorem ti169:tiGet Try.prog 169=some ⟨0,0, .agg #[], .struct [(0,168)]⟩:=by kernel_rfl
theorem ti170:tiGet Try.prog 170=some ⟨0,0, .agg #[], .struct [(0,168)]⟩:=by kernel_rfl
theorem ti171:tiGet Try.prog 171=some ⟨1,1, .int .u8 0, .int .u8⟩:=by kernel_rfl
theorem ti172:tiGet Try.prog 172=some ⟨1,1, .int .u8 0, .int .u8⟩:=by kernel_rfl
theorem ti173:tiGet Try.prog 173=some ⟨1,8, .nilFunc, .func⟩:=by kernel_rfl
theorem ti174:tiGet Try.prog 174=some ⟨1,8, .pointer none, .ptr 5⟩:=by kernel_rfl
theorem ti175:tiGet Try.prog 175=some ⟨1,4, .int .i32 0, .int .i32⟩:=by kernel_rfl
theorem ti176:tiGet Try.prog 176=some ⟨1,4, .int .i32 0, .int .i32⟩:=by kernel_rfl
theorem ti177:tiGet Try.prog 177=some ⟨11,48,.agg #[.int .u64 0,.int .u64 0,.int .u32 0,.int .u8 0,.int .u8 0,.int .u8 0,.int .u8 0,.nilFunc,.pointer none,.int .i32 0,.int .i32 0],.struct [(0,12),(1,12),(2,131),(3,171),(4,5),(5,5),(6,172),(7,173),(8,174),(9,175),(10,176)]⟩:=by kernel_rfl
theorem ti178:tiGet Try.prog 178=some ⟨11,48,.agg #[.int .u64 0,.int .u64 0,.int .u32 0,.int .u8 0,.int .u8 0,.int .u8 0,.int .u8 0,.nilFunc,.pointer none,.int .i32 0,.int .i32 0],.struct [(0,12),(1,12),(2,131),(3,171),(4,5),(5,5),(6,172),(7,173),(8,174),(9,175),(10,176)]⟩:=by kernel_rfl
theorem ti179:tiGet Try.prog 179=some ⟨1,8, .pointer none, .other⟩:=by kernel_rfl
attribute [go_sem] ti1 ti2 ti3 ti4 ti5 ti6 ti7 ti8 ti9 ti10 ti11 ti12 ti13 ti14 ti15 ti16 ti17 ti18 ti19 ti20 ti21 ti22 ti23 ti24 ti26 ti27 ti28 ti30 ti31 ti32 ti33 ti35 ti36 ti37 ti39 ti40 ti41 ti42 ti43 ti44 ti45 ti46 ti48 ti50 ti52 ti53 ti54 ti55 ti56 ti57 ti58 ti59 ti60 ti62 ti63 ti64 ti65 ti66 ti67 ti68 ti69 ti70 ti71 ti72 ti73 ti74 ti75 ti76 ti77 ti78 ti79 ti81 ti82 ti83 ti84 ti85 ti86 ti87 ti89 ti91 ti92 ti93 ti94 ti96 ti97 ti98 ti99 ti100 ti101 ti102 ti103 ti104 ti106 ti107 ti108 ti109 ti110 ti111 ti112 ti113 ti114 ti115 ti116 ti117 ti118 ti119 ti120 ti121 ti122 ti123 ti124 ti126 ti127 ti128 ti129 ti130 ti131 ti132 ti133 ti134 ti135 ti136 ti137 ti138 ti139 ti140 ti141 ti142 ti143 ti144 ti145 ti146 ti147 ti148 ti149 ti150 ti151 ti152 ti153 ti154 ti155 ti156 ti157 ti159 ti160 ti161 ti162 ti163 ti164 ti165 ti166 ti167 ti168 ti169 ti170 ti171 ti172 ti173 ti174 ti175 ti176 ti177 ti178 ti179
theorem call3: ∀ xs w,(callFunc 3 xs).run Try.prog w = .ok (.enter 3 xs) w:=fun _ _=>by kernel_rfl
theorem call4: ∀ xs w,(callFunc 4 xs).run Try.prog w = .ok (.enter 4 xs) w:=fun _ _=>by kernel_rfl
theorem call6: ∀ xs w,(callFunc 6 xs).run Try.prog w = .ok (.enter 6 xs) w:=fun _ _=>by kernel_rfl
theorem call9: ∀ xs w,(callFunc 9 xs).run Try.prog w = .ok (.enter 9 xs) w:=fun _ _=>by kernel_rfl
theorem call10: ∀ xs w,(callFunc 10 xs).run Try.prog w = .ok (.enter 10 xs) w:=fun _ _=>by kernel_rfl
theorem call11: ∀ xs w,(callFunc 11 xs).run Try.prog w = .ok (.enter 11 xs) w:=fun _ _=>by kernel_rfl
theorem call12: ∀ xs w,(callFunc 12 xs).run Try.prog w = .ok (.enter 12 xs) w:=fun _ _=>by kernel_rfl
theorem call13: ∀ xs w,(callFunc 13 xs).run Try.prog w = .ok (.enter 13 xs) w:=fun _ _=>by kernel_rfl
theorem call14: ∀ xs w,(callFunc 14 xs).run Try.prog w = .ok (.enter 14 xs) w:=fun _ _=>by kernel_rfl
theorem call15: ∀ xs w,(callFunc 15 xs).run Try.prog w = .ok (.enter 15 xs) w:=fun _ _=>by kernel_rfl
theorem call16: ∀ xs w,(callFunc 16 xs).run Try.prog w = .ok (.enter 16 xs) w:=fun _ _=>by kernel_rfl
theorem call17: ∀ xs w,(callFunc 17 xs).run Try.prog w = .ok (.enter 17 xs) w:=fun _ _=>by kernel_rfl
theorem call18: ∀ xs w,(callFunc 18 xs).run Try.prog w = .ok (.enter 18 xs) w:=fun _ _=>by kernel_rfl
theorem call19: ∀ xs w,(callFunc 19 xs).run Try.prog w = .ok (.enter 19 xs) w:=fun _ _=>by kernel_rfl
theorem call20: ∀ xs w,(callFunc 20 xs).run Try.prog w = .ok (.enter 20 xs) w:=fun _ _=>by kernel_rfl
theorem call21: ∀ xs w,(callFunc 21 xs).run Try.prog w = .ok (.enter 21 xs) w:=fun _ _=>by kernel_rfl
theorem call22: ∀ xs w,(callFunc 22 xs).run Try.prog w = .ok (.enter 22 xs) w:=fun _ _=>by kernel_rfl
theorem call32: ∀ xs w,(callFunc 32 xs).run Try.prog w = .ok (.enter 32 xs) w:=fun _ _=>by kernel_rfl
theorem call33: ∀ xs w,(callFunc 33 xs).run Try.prog w = .ok (.enter 33 xs) w:=fun _ _=>by kernel_rfl
theorem bool_eql' (a b:Bool):pureRun Try.prog ((pure ():Sem Unit) >>= fun _=>Go.binOp .eql 4 (.bool a) (.bool b))=some (.bool (a==b)):=binV_bool_eql Try.underlying4 (.tmp 0) (.tmp 0) a b
theorem bool_neq' (a b:Bool):pureRun Try.prog ((pure ():Sem Unit) >>= fun _=>Go.binOp .neq 4 (.bool a) (.bool b))=some (.bool (!(a==b))):=binV_bool_neq Try.underlying4 (.tmp 0) (.tmp 0) a b
attribute [go_sem] bool_eql' bool_neq'

theorem len_str (s:ByteArray):pureRun Try.prog (Builtin.len_ #[9] 0 #[.string s])=some (.int .i64 s.size):=by
 show pureRun Try.prog (underlying 9 >>= _)=_
 rw [pureRun_bind,pureRun_underlying Try.underlying9]
 rfl
attribute [go_sem] len_str
theorem mix:Try.prog.follows .mixedOrders=true:=by kernel_rfl
end Go.Proofs.Yteemiclhnfkekaa
/- What the chain's functions and the reference's compute, as plain Lean; the walks of the first of them. -/
set_option linter.unusedSimpArgs false
set_option linter.unusedVariables false
namespace Go.Proofs.Yteemiclhnfkekaa
open Go.RowKit Go.Avm
def rowI (z:Int):List D:=[.sc (.int .i64 z)]
structure Ver where
 from_:Int
 to:Int
 size:Int
 pages:List Int
 deriving DecidableEq
def rowV (v:Ver):List D:=[.sc (.int .i64 v.from_), .sc (.int .i64 v.to), .sc (.int .i64 v.size), .sl 1 (v.pages.map rowI)]
def holdsF (f t c:Int):Bool:=decide (f≤c)&&(decide (c<t)||decide (t=0))
def findN (c:Int):List Ver→Nat→Int×Bool
 | [],_=>(0,false)
 | v::vs,k=>if holdsF v.from_ v.to c then (k,true) else findN c vs (k+1)
def validV (prev:Option Ver):List Ver→Int
 | []=>0
 | v::vs=>if v.from_<1∨v.to<0∨v.size<0 then 5 else if v.to≠0∧v.to≤v.from_ then 19 else
    match prev with
    | some p=>if p.to=0∨v.from_<p.to then 19 else validV (some v) vs
    | none=>validV (some v) vs
def prevV (vs:List Ver) (k:Nat):Option Ver:=if k=0 then none else vs[k-1]?
end Go.Proofs.Yteemiclhnfkekaa
/- The walks of the chain's and the reference's functions that look at a list of versions or copy it. -/
set_option linter.unusedSimpArgs false
set_option linter.unusedVariables false
namespace Go.Proofs.Yteemiclhnfkekaa
open Go.RowKit Go.Avm
end Go.Proofs.Yteemiclhnfkekaa
/- The walks of the chain's and the reference's functions that copy and compare lists of versions. -/
set_option linter.unusedSimpArgs false
set_option linter.unusedVariables false
namespace Go.Proofs.Yteemiclhnfkekaa
open Go.RowKit Go.Avm
end Go.Proofs.Yteemiclhnfkekaa
/- The walks of Covers, of the program and of the reference. -/
set_option linter.unusedSimpArgs false
set_option linter.unusedVariables false
namespace Go.Proofs.Yteemiclhnfkekaa
open Go.RowKit Go.Avm
structure Pn where
 commit:Int
 count:Int
 deriving DecidableEq
def rowP (p:Pn):List D:=[.sc (.int .i64 p.commit), .sc (.int .i64 p.count)]
def coversP (f t:Int):List Pn→Bool
 | []=>false
 | p::l=>if f≤p.commit∧(p.commit<t∨t=0) then true else coversP f t l
end Go.Proofs.Yteemiclhnfkekaa
/- Pins: what Validate, Total and the reference's functions compute; their walks. -/
set_option linter.unusedSimpArgs false
set_option linter.unusedVariables false
namespace Go.Proofs.Yteemiclhnfkekaa
open Go.RowKit Go.Avm
def validP (prev:Option Pn):List Pn→Int
 | []=>0
 | p::l=>if p.commit<0∨p.count<1∨p.count>1024 then 5 else
    match prev with
    | some q=>if p.commit≤q.commit then 19 else validP (some p) l
    | none=>validP (some p) l
def prevP (l:List Pn) (k:Nat):Option Pn:=if k=0 then none else l[k-1]?
def cap40 (n c:Int):Int:=min (n+min (max c 0) 1099511627776) 1099511627776
def totalP:List Pn→Int→Int
 | [],n=>n
 | p::l,n=>totalP l (cap40 n p.count)
def addSat (a b m:Int):Int×Bool:=if max a 0>max m 0∨max b 0>max m 0-max a 0 then (max m 0,true) else (max a 0+max b 0,false)
end Go.Proofs.Yteemiclhnfkekaa
/- Pins: the place of a commit; what Add and Remove make of a valid list (plain lemmas). -/
set_option linter.unusedSimpArgs false
set_option linter.unusedVariables false
namespace Go.Proofs.Yteemiclhnfkekaa
open Go.RowKit Go.Avm
structure OkP (l:List Pn):Prop where
 range: ∀ p∈l,0≤p.commit∧1≤p.count∧p.count≤1024
 asc:l.Pairwise (fun a b=>a.commit<b.commit)
theorem OkP.tail {p:Pn} {l:List Pn} (h:OkP (p::l)):OkP l∧ ∀ q∈l,p.commit<q.commit:=by
 have:=h.asc
 rw [List.pairwise_cons] at this
 exact ⟨⟨fun q hq=>h.range q (List.mem_cons_of_mem _ hq),this.2⟩,this.1⟩
def placeP (c:Int):List Pn→Nat
 | []=>0
 | p::l=>if p.commit<c then placeP c l+1 else 0
def insGo (c:Int):List Pn→List Pn
 | []=>[⟨c,1⟩]
 | p::l=>if c<p.commit then ⟨c,1⟩::p::l else if p.commit=c then ⟨p.commit,p.count+1⟩::l else p::insGo c l
def fullP (c:Int):List Pn→Bool
 | []=>false
 | p::l=>if p.commit=c∧p.count=1024 then true else fullP c l
def addP (l:List Pn) (c:Int):List Pn×Int:=
 if validP none l≠0 then ([],validP none l) else if c<0 then ([],5) else if fullP c l then ([],14) else (insGo c l,0)
def hasP (c:Int):List Pn→Bool
 | []=>false
 | p::l=>if p.commit=c then true else hasP c l
def delGo (c:Int):List Pn→List Pn
 | []=>[]
 | p::l=>if p.commit=c then (if p.count-1>0 then ⟨p.commit,p.count-1⟩::delGo c l else delGo c l) else if p.count>0 then p::delGo c l else delGo c l
def remP (l:List Pn) (c:Int):List Pn×Int:=
 if validP none l≠0 then ([],validP none l) else if hasP c l then (delGo c l,0) else ([],8)
end Go.Proofs.Yteemiclhnfkekaa
/- The order of strings as lists of bytes is a strict total order (plain lemmas). -/
set_option linter.unusedSimpArgs false
set_option linter.unusedVariables false
namespace Go.Proofs.Yteemiclhnfkekaa
open Go.RowKit Go.Avm
end Go.Proofs.Yteemiclhnfkekaa
/- Directory: what its functions compute (plain). -/
set_option linter.unusedSimpArgs false
set_option linter.unusedVariables false
namespace Go.Proofs.Yteemiclhnfkekaa
open Go.RowKit Go.Avm
structure Bd where
 name:ByteArray
 obj:Int
 frm:Int
 to:Int
 deriving DecidableEq
def rowBd (b:Bd):List D:=[.sc (.string b.name), .sc (.int .i64 b.obj), .sc (.int .i64 b.frm), .sc (.int .i64 b.to)]
def bytesS (s:ByteArray):List Int:=s.data.toList.map fun b=>(b.toNat:Int)
def lowC (c:Int):Bool:=decide (97≤c)&&decide (c≤122)
def digC (c:Int):Bool:=decide (48≤c)&&decide (c≤57)
def chrOk (c:Int):Bool:=lowC c||digC c||c==45||c==46
def nameOk (s:ByteArray):Bool:=decide (1≤(s.size:Int))&&decide ((s.size:Int)≤16)&&((bytesS s)[0]?).any lowC&&(bytesS s).all chrOk
def holdsB (f t c:Int):Bool:=decide (f≤c)&&(decide (c<t)||t==0)
def eqN (x y:ByteArray):Bool:=x.toList==y.toList
def ltN (x y:ByteArray):Bool:=Op.bytesLess x.toList y.toList
def badB (b:Bd):Int:=if nameOk b.name=false then 6 else if b.obj<1∨b.frm<1∨b.to<0 then 5 else if b.to≠0∧b.to≤b.frm then 19 else 0
def badP (a b:Bd):Bool:=ltN b.name a.name||(eqN b.name a.name&&(decide (b.frm≤a.frm)||a.to==0||decide (b.frm<a.to)))
def valid1 (prev:Option Bd):List Bd→Int
 | []=>0
 | b::l=>if badB b≠0 then badB b else if prev.any (fun a=>badP a b)=true then 19 else valid1 (some b) l
def ovB (a b:Bd):Bool:=(a.to==0||decide (b.frm<a.to))&&(b.to==0||decide (a.frm<b.to))
def dupB (l:List Bd):List Bd→Nat→Bool
 | [],_=>false
 | b::m,i=>(l.take i).any (fun a=>a.obj==b.obj&&ovB a b)||dupB l m (i+1)
def validB (l:List Bd):Int:=if valid1 none l≠0 then valid1 none l else if dupB l l 0=true then 9 else 0
def lateB (c:Int) (l:List Bd):Bool:=l.any fun b=>decide (c<b.frm)||decide (c<b.to)
def openP (n:ByteArray) (b:Bd):Bool:=eqN b.name n&&b.to==0
def idxB (p:Bd→Bool):List Bd→Nat→Int
 | [],_=> -1
 | b::l,i=>if p b=true then (i:Int) else idxB p l (i+1)
def openB (n:ByteArray) (l:List Bd):Int:=idxB (openP n) l 0
def ltB (x b:Bd):Bool:=ltN x.name b.name||(eqN x.name b.name&&decide (x.frm<b.frm))
def placeB (b:Bd):List Bd→Nat
 | []=>0
 | x::l=>if ltB x b=true then placeB b l+1 else 0
def addB (b:Bd) (l:List Bd):List Bd:=l.take (placeB b l)++[b]++l.drop (placeB b l)
def bindB (l:List Bd) (n:ByteArray) (o c:Int):List Bd×Int:=
 if validB l≠0 then ([],validB l) else if nameOk n=false then ([],6) else if o<1∨c<1 then ([],5) else if lateB c l=true then ([],19) else
 if l.any (fun b=>b.to==0&&(eqN b.name n||b.obj==o))=true then ([],9) else (addB ⟨n,o,c,0⟩ l,0)
def bdAt (l:List Bd) (i:Int):Bd:=(l[i.toNat]?).getD ⟨.empty,0,0,0⟩
def endB (l:List Bd) (i c:Int):List Bd:=l.set i.toNat ⟨(bdAt l i).name,(bdAt l i).obj,(bdAt l i).frm,c⟩
def unbindB (l:List Bd) (n:ByteArray) (c:Int):List Bd×Int:=
 if validB l≠0 then ([],validB l) else if nameOk n=false then ([],6) else if c<1 then ([],5) else if lateB c l=true then ([],19) else
 if openB n l<0 then ([],8) else if c≤(bdAt l (openB n l)).frm then ([],19) else (endB l (openB n l) c,0)
def renameB (l:List Bd) (n m:ByteArray) (c:Int):List Bd×Int:=
 if validB l≠0 then ([],validB l) else if nameOk n=false∨nameOk m=false then ([],6) else if c<1 then ([],5) else if lateB c l=true then ([],19) else
 if openB n l<0 then ([],8) else if 0≤openB m l then ([],9) else if c≤(bdAt l (openB n l)).frm then ([],19) else (addB ⟨m,(bdAt l (openB n l)).obj,c,0⟩ (endB l (openB n l) c),0)
def lookB (n:ByteArray) (c:Int):List Bd→Int×Bool
 | []=>(0,false)
 | b::l=>if (eqN b.name n&&holdsB b.frm b.to c)=true then (b.obj,true) else lookB n c l
end Go.Proofs.Yteemiclhnfkekaa
/- Directory: the walks of the small functions of the program and of the reference; names. -/
set_option linter.unusedSimpArgs false
set_option linter.unusedVariables false
namespace Go.Proofs.Yteemiclhnfkekaa
open Go.RowKit Go.Avm
end Go.Proofs.Yteemiclhnfkekaa
/- Directory: the walks of Validate of the program and of the reference. -/
set_option linter.unusedSimpArgs false
set_option linter.unusedVariables false
namespace Go.Proofs.Yteemiclhnfkekaa
open Go.RowKit Go.Avm
def prevB (l:List Bd) (k:Nat):Option Bd:=if k=0 then none else l[k-1]?
def dupAt (l:List Bd) (k:Nat) (b:Bd):Bool:=(l.take k).any (fun a=>a.obj==b.obj&&ovB a b)
end Go.Proofs.Yteemiclhnfkekaa
/- Directory: facts about valid bindings (plain). -/
set_option linter.unusedSimpArgs false
set_option linter.unusedVariables false
namespace Go.Proofs.Yteemiclhnfkekaa
open Go.RowKit Go.Avm
end Go.Proofs.Yteemiclhnfkekaa
/- Directory: the walk of Validate of the reference. -/
set_option linter.unusedSimpArgs false
set_option linter.unusedVariables false
namespace Go.Proofs.Yteemiclhnfkekaa
open Go.RowKit Go.Avm
end Go.Proofs.Yteemiclhnfkekaa
/- Audit: the data of a dump; what the checks of the program and of the reference compute (plain). -/
set_option linter.unusedSimpArgs false
set_option linter.unusedVariables false
namespace Go.Proofs.Yteemiclhnfkekaa
open Go.RowKit Go.Avm
structure Cf where
 ses:Int
 nam:Int
 pag:Int
 psz:Int
 pin:Int
 com:Int
 chk:Int
 deriving DecidableEq
def dCf (c:Cf):List D:=[.sc (.int .i64 c.ses), .sc (.int .i64 c.nam), .sc (.int .i64 c.pag), .sc (.int .i64 c.psz), .sc (.int .i64 c.pin), .sc (.int .i64 c.com), .sc (.int .i64 c.chk)]
structure Pg where
 num:Int
 refs:Int
 data:List Int
 deriving DecidableEq
def rowW (z:Int):List D:=[.sc (.int .u8 z)]
def rowPg (p:Pg):List D:=[.sc (.int .i64 p.num), .sc (.int .i64 p.refs), .sl 1 (p.data.map rowW)]
structure Ob where
 id:Int
 vers:List Ver
 deriving DecidableEq
def rowOb (o:Ob):List D:=[.sc (.int .i64 o.id), .sl 4 (o.vers.map rowV)]
structure Dm where
 commit:Int
 objs:List Ob
 binds:List Bd
 pins:List Pn
 pages:List Pg
def dDm (d:Dm):List D:=[.sc (.int .i64 d.commit), .sl 2 (d.objs.map rowOb), .sl 4 (d.binds.map rowBd), .sl 2 (d.pins.map rowP), .sl 3 (d.pages.map rowPg)]
def inR (n lo hi:Int):Bool:=decide (lo≤n)&&decide (n≤hi)
def cfOk (c:Cf):Bool:=inR c.ses 1 64&&inR c.nam 1 64&&inR c.pag 1 16384&&inR c.psz 8 1024&&inR c.pin 1 1024&&inR c.com 1 1048576&&inR c.chk 1 64
def cntE (n sz:Int):Int:=if n%sz>0 then n/sz+1 else n/sz
def pinsE (c:Cf) (com:Int) (l:List Pn):Int:=if validP none l≠0 then validP none l else if l.any (fun p=>decide (com<p.commit))=true then 5 else if c.pin<totalP l 0 then 14 else 0
def openN:List Bd→Int
 | []=>0
 | b::l=>if b.to=0 then openN l+1 else openN l
def bindsE (c:Cf) (com:Int) (l:List Bd):Int:=if validB l≠0 then validB l else if lateB com l=true then 5 else if c.nam<openN l then 14 else 0
def lateV (com:Int) (l:List Ver):Bool:=l.any fun v=>decide (com<v.from_)||decide (com<v.to)
def fitV (psz:Int) (l:List Ver):Bool:=l.all fun v=>cntE v.size psz==(v.pages.length:Int)
def obE (psz com:Int) (prev:Option Int) (o:Ob):Int:=
 if o.id<1 then 5 else if prev.any (fun p=>decide (o.id≤p))=true then 19 else if (o.vers.length:Int)=0 then 18 else if validV none o.vers≠0 then validV none o.vers else
 if lateV com o.vers=true then 5 else if fitV psz o.vers=false then 18 else 0
def objsE (psz com:Int):Option Int→List Ob→Int
 | _,[]=>0
 | prev,o::l=>if obE psz com prev o≠0 then obE psz com prev o else objsE psz com (some o.id) l
def pgE (psz:Int) (prev:Option Int) (p:Pg):Int:=if p.num<1 then 5 else if prev.any (fun q=>decide (p.num≤q))=true then 19 else if psz<(p.data.length:Int) then 18 else 0
def pgsE (psz:Int):Option Int→List Pg→Int
 | _,[]=>0
 | prev,p::l=>if pgE psz prev p≠0 then pgE psz prev p else pgsE psz (some p.num) l
def pagesE (c:Cf) (l:List Pg):Int:=if pgsE c.psz none l≠0 then pgsE c.psz none l else if c.pag<(l.length:Int) then 14 else 0
def pgAt (n:Int):List Pg→Nat→Int
 | [],_=> -1
 | p::l,k=>if p.num=n then (k:Int) else pgAt n l (k+1)
def pgLen (ps:List Pg) (n:Int):Option Int:=if pgAt n ps 0<0 then none else some ((((ps[(pgAt n ps 0).toNat]?).map (·.data)).getD []).length:Int)
def wr (n:Int):Int:=IntKind.i64.wrap n
def sumE (ps:List Pg) (size:Int):List Int→Int→Int
 | [],s=>if s≠size then 18 else 0
 | n::l,s=>match pgLen ps n with
   | none=>8
   | some k=>sumE ps size l (wr (s+k))
def versD (ps:List Pg):List Ver→Int
 | []=>0
 | v::l=>if sumE ps v.size v.pages 0≠0 then sumE ps v.size v.pages 0 else versD ps l
def dataE (ps:List Pg):List Ob→Int
 | []=>0
 | o::l=>if versD ps o.vers≠0 then versD ps o.vers else dataE ps l
/-- How often a number stands in a list, reckoned as the machine does. -/
def cntW (n:Int):List Int→Int→Int
 | [],s=>s
 | x::l,s=>if x=n then cntW n l (wr (s+1)) else cntW n l s
def pgsV (l:List Ver):List Int:=l.flatMap (·.pages)
def pgsO (l:List Ob):List Int:=l.flatMap fun o=>pgsV o.vers
def refsOk (d:Dm):Bool:=d.pages.all fun p=>p.refs==cntW p.num (pgsO d.objs) 0
def curO (o:Ob):Bool:=((o.vers[o.vers.length-1]?).map (·.to)).getD 0==0
def openO (id:Int):List Bd→Int
 | []=>0
 | b::l=>if b.obj=id∧b.to=0 then openO id l+1 else openO id l
def objAt (id:Int):List Ob→Nat→Int
 | [],_=> -1
 | o::l,k=>if o.id=id then (k:Int) else objAt id l (k+1)
def versAt (id:Int) (l:List Ob):List Ver:=if objAt id l 0<0 then [] else ((l[(objAt id l 0).toNat]?).map (·.vers)).getD []
def nameOne (d:Dm):Bool:=d.objs.all fun o=> !curO o||openO o.id d.binds==1
def nameCur (d:Dm):Bool:=d.binds.all fun b=> !(b.to==0)||(!decide (objAt b.obj d.objs 0<0)&&((d.objs[(objAt b.obj d.objs 0).toNat]?).map curO).getD false)
def keptB (d:Dm) (b:Bd):Bool:=d.pins.all fun p=> !holdsB b.frm b.to p.commit||(findN p.commit (versAt b.obj d.objs) 0).2
def keptOk (d:Dm):Bool:=d.binds.all (keptB d)
def checkE (c:Cf) (d:Dm):Int:=
 if cfOk c=false then 5 else if inR d.commit 0 c.com=false then 5 else if pinsE c d.commit d.pins≠0 then pinsE c d.commit d.pins else if bindsE c d.commit d.binds≠0 then bindsE c d.commit d.binds else
 if objsE c.psz d.commit none d.objs≠0 then objsE c.psz d.commit none d.objs else if pagesE c d.pages≠0 then pagesE c d.pages else if dataE d.pages d.objs≠0 then dataE d.pages d.objs else
 if (refsOk d&&nameOne d&&nameCur d&&keptOk d)=true then 0 else 20
end Go.Proofs.Yteemiclhnfkekaa
/- Audit: the maps of the program, told as lists; the verdicts of the program and of the reference agree (plain). -/
set_option linter.unusedSimpArgs false
set_option linter.unusedVariables false
namespace Go.Proofs.Yteemiclhnfkekaa
open Go.RowKit Go.Avm
def mapI (l:List (Int×Int)):List (Value×D):=l.map fun x=>(.int .i64 x.1, .sc (.int .i64 x.2))
def aFind (n:Int):List (Int×Int)→Option Int
 | []=>none
 | x::l=>if x.1=n then some x.2 else aFind n l
def aSet (n v:Int):List (Int×Int)→List (Int×Int)
 | []=>[(n,v)]
 | x::l=>if x.1=n then (n,v)::l else x::aSet n v l
def aDel (n:Int):List (Int×Int)→List (Int×Int)
 | []=>[]
 | x::l=>if x.1=n then l else x::aDel n l
def aGet (n:Int) (l:List (Int×Int)):Int:=(aFind n l).getD 0
def bump (l:List (Int×Int)) (n:Int):List (Int×Int):=aSet n (wr (aGet n l+1)) l
/-- Ascending without repetitions. -/
def AscI (l:List Int):Prop:=l.Pairwise (· < ·)
theorem ascI_get {l:List Int} (h:AscI l) {i j:Nat} {x y:Int} (hx:l[i]? = some x) (hy:l[j]? = some y) (hij:i<j):x<y:=by
 obtain ⟨h1,rfl⟩:=List.getElem?_eq_some_iff.1 hx
 obtain ⟨h2,rfl⟩:=List.getElem?_eq_some_iff.1 hy
 exact List.pairwise_iff_getElem.1 h i j h1 h2 hij
/-- The sizes of the pages. -/
def szM (ps:List Pg):List (Int×Int):=ps.map fun p=>(p.num,(p.data.length:Int))
theorem pgAt_cases (n:Int): ∀ (l:List Pg) (k:Nat),(pgAt n l k = -1∧ ∀ p∈l,p.num≠n)∨ ∃ j p,l[j]? = some p∧p.num=n∧pgAt n l k=((k+j:Nat):Int)∧ ∀ i q,i<j→l[i]? = some q→q.num≠n
 | [],k=> .inl ⟨rfl,by simp⟩
 | p::l,k=>by
   unfold pgAt
   by_cases h:p.num=n
   ·exact .inr ⟨0,p,rfl,h,by rw [if_pos h];simp,by omega⟩
   ·rw [if_neg h]
    rcases pgAt_cases n l (k+1) with ⟨h1,h1'⟩|⟨j,u,h1,h2,h3,h4⟩
    ·exact .inl ⟨h1,fun q hq=>by rcases List.mem_cons.1 hq with rfl|hq;exact h;exact h1' q hq⟩
    ·refine .inr ⟨j+1,u,by simpa using h1,h2,by rw [h3];congr 1;omega,fun i q hi hq=>?_⟩
     cases i with
     | zero=>simp only [l_6,l_5] at hq;subst hq;exact h
     | succ i=>exact h4 i q (by omega) (by simpa using hq)
/-- The pins' counts against what is left. -/
def gtP (left:Int):List Pn→Bool
 | []=>false
 | p::l=>decide (left<p.count)||gtP (left-p.count) l
/-- The program's walk through the objects with the names that are left. -/
def nmGo:List Ob→List (Int×Int)→Bool
 | [],l=>decide ((l.length:Int)=0)
 | o::os,l=>if curO o=true then (if aGet o.id l=1 then nmGo os (aDel o.id l) else false) else nmGo os l
def opens (l:List Bd):List Int:=(l.filter fun b=>b.to==0).map (·.obj)
def KN (l:List (Int×Int)):Prop:=(l.map (·.1)).Nodup
theorem aSet_keys (n v:Int): ∀ l,((aSet n v l).map (·.1))=if n∈l.map (·.1) then l.map (·.1) else l.map (·.1)++[n]
 | []=>by simp [aSet]
 | x::l=>by
   have ih:=aSet_keys n v l
   by_cases h:x.1=n
   ·rw [aSet,if_pos h];simp [h]
   ·rw [aSet,if_neg h,l_3,ih]
    by_cases h2:n∈l.map (·.1)
    ·rw [if_pos h2,if_pos (by simp only [l_3,List.mem_cons];exact .inr h2)];rfl
    ·rw [if_neg h2,if_neg (by simp only [l_3,List.mem_cons,not_or];exact ⟨Ne.symm h,h2⟩)];rfl
theorem KN.set {n v:Int} {l:List (Int×Int)} (h:KN l):KN (aSet n v l):=by
 unfold KN
 rw [aSet_keys]
 split
 ·exact h
 ·rename_i hn
  rw [List.nodup_append]
  exact ⟨h,by simp,fun a ha b hb=>by rw [List.mem_singleton] at hb;subst hb;exact fun e=>hn (e▸ha)⟩
/-- The versions of the objects, as a map. -/
def obM (os:List Ob):List (Value×D):=os.map fun o=>(.int .i64 o.id, .sl 4 (o.vers.map rowV))
end Go.Proofs.Yteemiclhnfkekaa
/- An element that comes into a list from the end; the versions of a dump in their order (plain). -/
set_option linter.unusedSimpArgs false
set_option linter.unusedVariables false
namespace Go.Proofs.Yteemiclhnfkekaa
open Go.RowKit Go.Avm
/-- Where an element that comes in from the end stops. -/
def stopAt (p:Nat→Bool):Nat→Nat
 | 0=>0
 | k+1=>if p k=true then stopAt p k else k+1
theorem stopAt_le (p:Nat→Bool): ∀ n,stopAt p n≤n
 | 0=>Nat.le_refl _
 | k+1=>by
   have:=stopAt_le p k
   unfold stopAt;split<;>omega
def insAt {α:Type} (l:List α) (j:Nat) (x:α):List α:=l.take j++[x]++l.drop j
theorem insAt_len {α:Type} {l:List α} {j:Nat} {x:α} (h:j≤l.length):(insAt l j x).length=l.length+1:=by
 simp only [insAt,List.length_append,List.length_take,List.length_drop,List.length_cons,List.length_nil];omega
theorem insAt_at {α:Type} {l:List α} {j:Nat} {x:α} (h:j≤l.length):(insAt l j x)[j]? = some x:=by
 have hl:(l.take j).length=j:=by rw [List.length_take];omega
 rw [insAt,List.append_assoc,List.getElem?_append_right (by omega),hl];simp
theorem insAt_pre {α:Type} {l:List α} {j:Nat} {x:α} (h:j+1≤l.length):(insAt l (j+1) x)[j]? = l[j]? :=by
 have hl:(l.take (j+1)).length=j+1:=by rw [List.length_take];omega
 rw [insAt,List.append_assoc,List.getElem?_append_left (by omega),List.getElem?_take_of_lt (by omega)]
theorem insAt_end {α:Type} {l:List α} {x:α}:insAt l l.length x=l++[x]:=by simp [insAt]
theorem insAt_swap {α:Type} {l:List α} {j:Nat} {x y:α} (hy:l[j]? = some y):((insAt l (j+1) x).set (j+1) y).set j x=insAt l j x:=by
 have h:=(List.getElem?_eq_some_iff.1 hy).1
 have hl:(l.take j).length=j:=by rw [List.length_take];omega
 have e:insAt l (j+1) x=l.take j++(y::x::l.drop (j+1)):=by rw [insAt,take_get hy];simp
 rw [e,List.set_append_right _ _ (by omega),List.set_append_right _ _ (by omega),hl,Nat.add_sub_cancel_left,Nat.sub_self]
 rw [insAt,drop_get hy];simp
theorem insAt_perm {α:Type} (l:List α) (j:Nat) (x:α):(insAt l j x).Perm (x::l):=by
 unfold insAt
 have h1:(l.take j++[x]++l.drop j).Perm ([x]++l.take j++l.drop j):=List.Perm.append_right _ List.perm_append_comm
 refine h1.trans ?_
 rw [List.append_assoc,List.take_append_drop]
 exact List.Perm.refl _
structure Vn where
 id:Int
 v:Ver
 deriving DecidableEq
def rowVn (x:Vn):List D:=[.sc (.int .i64 x.id), .sc (.int .i64 x.v.from_), .sc (.int .i64 x.v.to), .sc (.int .i64 x.v.size), .sl 1 (x.v.pages.map rowI)]
def vnGet (l:List Vn) (i:Nat):Vn:=(l[i]?).getD ⟨0,⟨0,0,0,[]⟩⟩
def ptLt (a b c d:Int):Bool:=decide (a<c)||(decide (a=c)&&decide (b<d))
def befV (x y:Vn):Bool:=ptLt x.id x.v.from_ y.id y.v.from_
def insV (x:Vn) (l:List Vn):List Vn:=insAt l (stopAt (fun k=>befV x (vnGet l k)) l.length) x
def versO (id:Int):List Ver→List Vn→List Vn
 | [],a=>a
 | v::l,a=>versO id l (insV ⟨id,v⟩ a)
def versR:List Ob→List Vn→List Vn
 | [],a=>a
 | o::l,a=>versR l (versO o.id o.vers a)
def vnsO (o:Ob):List Vn:=o.vers.map fun v=>⟨o.id,v⟩
def pgsN (l:List Vn):List Int:=l.flatMap fun x=>x.v.pages
/-- The reference's verdict. -/
def conR (d:Dm):Bool:=(d.pages.all fun p=>cntW p.num (pgsN (versR d.objs [])) 0==p.refs)&&nameOne d&&d.binds.all fun b=>(!(b.to==0)||(!decide (objAt b.obj d.objs 0<0)&&((d.objs[(objAt b.obj d.objs 0).toNat]?).map curO).getD false))&&keptB d b
end Go.Proofs.Yteemiclhnfkekaa
/- The configurations of the laws. -/
set_option linter.unusedSimpArgs false
set_option linter.unusedVariables false
namespace Go.Proofs.Yteemiclhnfkekaa
open Go.RowKit Go.Avm
def cfgK (n:Int):Cf:=⟨2+n%2,2+n/2%2,if n/4%4=0 then 60 else if n/4%4=1 then 12 else if n/4%4=2 then 6 else 30,if n/16%4=0 then 8 else if n/16%4=1 then 16 else if n/16%4=2 then 40 else 200,if n/64%4=0 then 8 else if n/64%4=1 then 3 else if n/64%4=2 then 2 else 5,if n/256%4=0 then 100 else if n/256%4=1 then 6 else if n/256%4=2 then 30 else 12,1+n/1024%4⟩
end Go.Proofs.Yteemiclhnfkekaa
/- The walks of Append and Close of the chain and of the reference. -/
set_option linter.unusedSimpArgs false
set_option linter.unusedVariables false
namespace Go.Proofs.Yteemiclhnfkekaa
open Go.RowKit Go.Avm
def appendV (vs:List Ver) (v:Ver):List Ver×Int:=
 if validV none vs≠0 then ([],validV none vs) else if v.from_<1∨v.size<0∨v.to≠0 then ([],5) else
  match vs[vs.length-1]? with
  | none=>([v],0)
  | some u=>if v.from_≤u.from_∨v.from_<u.to then ([],19) else if u.to=0 then (vs.set (vs.length-1) { u with to:=v.from_ }++[v],0) else (vs++[v],0)
end Go.Proofs.Yteemiclhnfkekaa
/- The walks of Close of the chain and of the reference. -/
set_option linter.unusedSimpArgs false
set_option linter.unusedVariables false
namespace Go.Proofs.Yteemiclhnfkekaa
open Go.RowKit Go.Avm
def closeV (vs:List Ver) (c:Int):List Ver×Int:=
 if validV none vs≠0 then ([],validV none vs) else
  match vs[vs.length-1]? with
  | none=>([],17)
  | some u=>if u.to≠0 then ([],17) else if c≤u.from_ then ([],19) else (vs.set (vs.length-1) { u with to:=c },0)
end Go.Proofs.Yteemiclhnfkekaa
/- Chain: RemoveVersion of the reference. -/
set_option linter.unusedSimpArgs false
set_option linter.unusedVariables false
namespace Go.Proofs.Yteemiclhnfkekaa
open Go.RowKit Go.Avm
def idxV (c:Int):List Ver→Nat→Int
 | [],_=> -1
 | v::vs,k=>if v.from_=c then k else idxV c vs (k+1)
def zeroV:Ver:=⟨0,0,0,[]⟩
def removeV (vs:List Ver) (c:Int):List Ver×Ver×Int:=
 if idxV c vs 0<0 then ([],zeroV,8) else (vs.take (idxV c vs 0).toNat++vs.drop ((idxV c vs 0).toNat+1),(vs[(idxV c vs 0).toNat]?).getD zeroV,0)
end Go.Proofs.Yteemiclhnfkekaa
/- Directory: the walks of Lookup, open, late of the program and of the reference, and of the searches with a test. -/
set_option linter.unusedSimpArgs false
set_option linter.unusedVariables false
namespace Go.Proofs.Yteemiclhnfkekaa
open Go.RowKit Go.Avm
end Go.Proofs.Yteemiclhnfkekaa
