/- The facts about the types of the program that the machine asks. -/
import Derived.Test.YteemiclhnfkekaaRows
import Derived.Test.YteemiclhnfkekaaZAvmR
set_option linter.unusedSimpArgs false
set_option linter.unusedVariables false
namespace Go.Proofs.Yteemiclhnfkekaa
open Go.RowKit Go.Avm
theorem ti1:tiGet Try.prog 1=some ⟨1,8, .nilFunc, .func⟩:=by kernel_rfl
theorem ti2:tiGet Try.prog 2=some ⟨1,8, .int .i64 0, .int .i64⟩:=by kernel_rfl
theorem ti3:tiGet Try.prog 3=some ⟨1,8, .int .i64 0, .int .i64⟩:=by kernel_rfl
theorem ti4:tiGet Try.prog 4=some ⟨1,1, .bool false, .bool⟩:=by kernel_rfl
theorem ti5:tiGet Try.prog 5=some ⟨1,1, .int .u8 0, .int .u8⟩:=by kernel_rfl
theorem ti6:tiGet Try.prog 6=some ⟨1,1, .int .u8 0, .int .u8⟩:=by kernel_rfl
theorem ti7:tiGet Try.prog 7=some ⟨4,24, .agg #[.int .i64 0, .int .i64 0, .bool false, .int .u8 0], .struct [(0,2),(1,3),(2,4),(3,6)]⟩:=by kernel_rfl
theorem ti8:tiGet Try.prog 8=some ⟨4,24, .agg #[.int .i64 0, .int .i64 0, .bool false, .int .u8 0], .struct [(0,2),(1,3),(2,4),(3,6)]⟩:=by kernel_rfl
theorem ti9:tiGet Try.prog 9=some ⟨1,16, .string ByteArray.empty, .string⟩:=by kernel_rfl
theorem ti10:tiGet Try.prog 10=some ⟨1,16, .string ByteArray.empty, .string⟩:=by kernel_rfl
theorem ti11:tiGet Try.prog 11=some ⟨1,16, .string ByteArray.empty, .string⟩:=by kernel_rfl
theorem ti12:tiGet Try.prog 12=some ⟨1,8, .int .u64 0, .int .u64⟩:=by kernel_rfl
theorem ti13:tiGet Try.prog 13=some ⟨2,24, .agg #[.string ByteArray.empty, .int .u64 0], .struct [(0,9),(1,12)]⟩:=by kernel_rfl
theorem ti14:tiGet Try.prog 14=some ⟨2,24, .agg #[.string ByteArray.empty, .int .u64 0], .struct [(0,9),(1,12)]⟩:=by kernel_rfl
theorem ti15:tiGet Try.prog 15=some ⟨1,8, .pointer none, .ptr 167⟩:=by kernel_rfl
theorem ti16:tiGet Try.prog 16=some ⟨1,8, .pointer none, .ptr 170⟩:=by kernel_rfl
theorem ti17:tiGet Try.prog 17=some ⟨1,8, .pointer none, .ptr 178⟩:=by kernel_rfl
theorem ti18:tiGet Try.prog 18=some ⟨1,8, .agg #[.pointer none], .struct [(0,17)]⟩:=by kernel_rfl
theorem ti19:tiGet Try.prog 19=some ⟨1,8, .agg #[.pointer none], .struct [(0,17)]⟩:=by kernel_rfl
theorem ti20:tiGet Try.prog 20=some ⟨1,16, .nilIface, .other⟩:=by kernel_rfl
theorem ti21:tiGet Try.prog 21=some ⟨1,4, .int .i32 0, .int .i32⟩:=by kernel_rfl
theorem ti22:tiGet Try.prog 22=some ⟨1,24, .slice none 0 0, .slice 3⟩:=by kernel_rfl
theorem ti23:tiGet Try.prog 23=some ⟨1,8, .pointer none, .ptr 68⟩:=by kernel_rfl
theorem ti24:tiGet Try.prog 24=some ⟨1,8, .int .i64 0, .int .i64⟩:=by kernel_rfl
theorem ti26:tiGet Try.prog 26=some ⟨1,8, .nilFunc, .func⟩:=by kernel_rfl
theorem ti27:tiGet Try.prog 27=some ⟨1,8, .nilFunc, .func⟩:=by kernel_rfl
theorem ti28:tiGet Try.prog 28=some ⟨1,8, .nilFunc, .func⟩:=by kernel_rfl
theorem ti30:tiGet Try.prog 30=some ⟨1,8, .nilFunc, .func⟩:=by kernel_rfl
theorem ti31:tiGet Try.prog 31=some ⟨1,24, .slice none 0 0, .slice 5⟩:=by kernel_rfl
theorem ti32:tiGet Try.prog 32=some ⟨1,8, .nilFunc, .func⟩:=by kernel_rfl
theorem ti33:tiGet Try.prog 33=some ⟨1,8, .nilFunc, .func⟩:=by kernel_rfl
theorem ti35:tiGet Try.prog 35=some ⟨1,8, .nilFunc, .func⟩:=by kernel_rfl
theorem ti36:tiGet Try.prog 36=some ⟨1,8, .nilFunc, .func⟩:=by kernel_rfl
theorem ti37:tiGet Try.prog 37=some ⟨1,8, .nilFunc, .func⟩:=by kernel_rfl
theorem ti39:tiGet Try.prog 39=some ⟨1,8, .nilFunc, .func⟩:=by kernel_rfl
theorem ti40:tiGet Try.prog 40=some ⟨1,24, .slice none 0 0, .slice 43⟩:=by kernel_rfl
theorem ti41:tiGet Try.prog 41=some ⟨1,8, .nilFunc, .func⟩:=by kernel_rfl
theorem ti42:tiGet Try.prog 42=some ⟨3,40, .agg #[.int .i64 0, .int .i64 0, .slice none 0 0], .struct [(0,3),(1,3),(2,31)]⟩:=by kernel_rfl
theorem ti43:tiGet Try.prog 43=some ⟨3,40, .agg #[.int .i64 0, .int .i64 0, .slice none 0 0], .struct [(0,3),(1,3),(2,31)]⟩:=by kernel_rfl
theorem ti44:tiGet Try.prog 44=some ⟨2,32, .agg #[.int .i64 0, .slice none 0 0], .struct [(0,3),(1,40)]⟩:=by kernel_rfl
theorem ti45:tiGet Try.prog 45=some ⟨2,32, .agg #[.int .i64 0, .slice none 0 0], .struct [(0,3),(1,40)]⟩:=by kernel_rfl
theorem ti46:tiGet Try.prog 46=some ⟨1,8, .int .u64 0, .int .u64⟩:=by kernel_rfl
theorem ti48:tiGet Try.prog 48=some ⟨1,8, .nilFunc, .func⟩:=by kernel_rfl
theorem ti50:tiGet Try.prog 50=some ⟨1,8, .nilFunc, .func⟩:=by kernel_rfl
theorem ti52:tiGet Try.prog 52=some ⟨1,8, .nilFunc, .func⟩:=by kernel_rfl
theorem ti53:tiGet Try.prog 53=some ⟨1,8, .nilFunc, .func⟩:=by kernel_rfl
theorem ti54:tiGet Try.prog 54=some ⟨1,8, .nilFunc, .func⟩:=by kernel_rfl
theorem ti55:tiGet Try.prog 55=some ⟨1,8, .nilFunc, .func⟩:=by kernel_rfl
theorem ti56:tiGet Try.prog 56=some ⟨7,56, .agg #[.int .i64 0, .int .i64 0, .int .i64 0, .int .i64 0, .int .i64 0, .int .i64 0, .int .i64 0], .struct [(0,3),(1,3),(2,3),(3,3),(4,3),(5,3),(6,3)]⟩:=by kernel_rfl
theorem ti57:tiGet Try.prog 57=some ⟨7,56, .agg #[.int .i64 0, .int .i64 0, .int .i64 0, .int .i64 0, .int .i64 0, .int .i64 0, .int .i64 0], .struct [(0,3),(1,3),(2,3),(3,3),(4,3),(5,3),(6,3)]⟩:=by kernel_rfl
theorem ti58:tiGet Try.prog 58=some ⟨1,8, .nilFunc, .func⟩:=by kernel_rfl
theorem ti59:tiGet Try.prog 59=some ⟨1,8, .nilFunc, .func⟩:=by kernel_rfl
theorem ti60:tiGet Try.prog 60=some ⟨1,8, .pointer none, .ptr 77⟩:=by kernel_rfl
theorem ti62:tiGet Try.prog 62=some ⟨1,8, .nilFunc, .func⟩:=by kernel_rfl
theorem ti63:tiGet Try.prog 63=some ⟨1,8, .nilFunc, .func⟩:=by kernel_rfl
theorem ti64:tiGet Try.prog 64=some ⟨1,8, .nilFunc, .func⟩:=by kernel_rfl
theorem ti65:tiGet Try.prog 65=some ⟨1,8, .nilFunc, .func⟩:=by kernel_rfl
theorem ti66:tiGet Try.prog 66=some ⟨1,8, .map none, .map 3 69⟩:=by kernel_rfl
theorem ti67:tiGet Try.prog 67=some ⟨2,16, .agg #[.int .i64 0, .map none], .struct [(0,3),(1,66)]⟩:=by kernel_rfl
theorem ti68:tiGet Try.prog 68=some ⟨2,16, .agg #[.int .i64 0, .map none], .struct [(0,3),(1,66)]⟩:=by kernel_rfl
theorem ti69:tiGet Try.prog 69=some ⟨1,8, .pointer none, .ptr 43⟩:=by kernel_rfl
theorem ti70:tiGet Try.prog 70=some ⟨1,8, .nilFunc, .func⟩:=by kernel_rfl
theorem ti71:tiGet Try.prog 71=some ⟨1,8, .nilFunc, .func⟩:=by kernel_rfl
theorem ti72:tiGet Try.prog 72=some ⟨1,8, .nilFunc, .func⟩:=by kernel_rfl
theorem ti73:tiGet Try.prog 73=some ⟨1,8, .map none, .map 3 87⟩:=by kernel_rfl
theorem ti74:tiGet Try.prog 74=some ⟨1,24, .slice none 0 0, .slice 108⟩:=by kernel_rfl
theorem ti75:tiGet Try.prog 75=some ⟨1,24, .slice none 0 0, .slice 155⟩:=by kernel_rfl
theorem ti76:tiGet Try.prog 76=some ⟨13,136,.agg #[.int .i64 0,.int .i64 0,.int .i64 0,.int .i64 0,.int .i64 0,.int .i64 0,.int .i64 0,.int .i64 0,.map none,.int .i64 0,.slice none 0 0,.slice none 0 0,.pointer none],.struct [(0,57),(7,3),(8,73),(9,3),(10,74),(11,75),(12,23)]⟩:=by kernel_rfl
theorem ti77:tiGet Try.prog 77=some ⟨13,136,.agg #[.int .i64 0,.int .i64 0,.int .i64 0,.int .i64 0,.int .i64 0,.int .i64 0,.int .i64 0,.int .i64 0,.map none,.int .i64 0,.slice none 0 0,.slice none 0 0,.pointer none],.struct [(0,57),(7,3),(8,73),(9,3),(10,74),(11,75),(12,23)]⟩:=by kernel_rfl
theorem ti78:tiGet Try.prog 78=some ⟨1,8, .nilFunc, .func⟩:=by kernel_rfl
theorem ti79:tiGet Try.prog 79=some ⟨1,24, .slice none 0 0, .slice 31⟩:=by kernel_rfl
theorem ti81:tiGet Try.prog 81=some ⟨1,8, .nilFunc, .func⟩:=by kernel_rfl
theorem ti82:tiGet Try.prog 82=some ⟨1,8, .nilFunc, .func⟩:=by kernel_rfl
theorem ti83:tiGet Try.prog 83=some ⟨1,24, .slice none 0 0, .slice 9⟩:=by kernel_rfl
theorem ti84:tiGet Try.prog 84=some ⟨1,8, .nilFunc, .func⟩:=by kernel_rfl
theorem ti85:tiGet Try.prog 85=some ⟨4,48, .agg #[.int .i64 0, .int .i64 0, .int .i64 0, .slice none 0 0], .struct [(0,3),(1,3),(2,3),(3,22)]⟩:=by kernel_rfl
theorem ti86:tiGet Try.prog 86=some ⟨4,48, .agg #[.int .i64 0, .int .i64 0, .int .i64 0, .slice none 0 0], .struct [(0,3),(1,3),(2,3),(3,22)]⟩:=by kernel_rfl
theorem ti87:tiGet Try.prog 87=some ⟨1,24, .slice none 0 0, .slice 86⟩:=by kernel_rfl
theorem ti89:tiGet Try.prog 89=some ⟨1,8, .nilFunc, .func⟩:=by kernel_rfl
theorem ti91:tiGet Try.prog 91=some ⟨1,8, .nilFunc, .func⟩:=by kernel_rfl
theorem ti92:tiGet Try.prog 92=some ⟨1,24, .slice none 0 0, .slice 4⟩:=by kernel_rfl
theorem ti93:tiGet Try.prog 93=some ⟨1,8, .nilFunc, .func⟩:=by kernel_rfl
theorem ti94:tiGet Try.prog 94=some ⟨1,8, .nilFunc, .func⟩:=by kernel_rfl
theorem ti96:tiGet Try.prog 96=some ⟨1,8, .nilFunc, .func⟩:=by kernel_rfl
theorem ti97:tiGet Try.prog 97=some ⟨1,8, .nilFunc, .func⟩:=by kernel_rfl
theorem ti98:tiGet Try.prog 98=some ⟨1,8, .nilFunc, .func⟩:=by kernel_rfl
theorem ti99:tiGet Try.prog 99=some ⟨1,8, .nilFunc, .func⟩:=by kernel_rfl
theorem ti100:tiGet Try.prog 100=some ⟨1,8, .nilFunc, .func⟩:=by kernel_rfl
theorem ti101:tiGet Try.prog 101=some ⟨1,16, .complex .f64 0 0, .other⟩:=by kernel_rfl
theorem ti102:tiGet Try.prog 102=some ⟨1,8, .nilFunc, .func⟩:=by kernel_rfl
theorem ti103:tiGet Try.prog 103=some ⟨1,8, .float .f64 0, .other⟩:=by kernel_rfl
theorem ti104:tiGet Try.prog 104=some ⟨1,8, .nilFunc, .func⟩:=by kernel_rfl
theorem ti106:tiGet Try.prog 106=some ⟨1,8, .nilFunc, .func⟩:=by kernel_rfl
theorem ti107:tiGet Try.prog 107=some ⟨4,40, .agg #[.string ByteArray.empty, .int .i64 0, .int .i64 0, .int .i64 0], .struct [(0,9),(1,3),(2,3),(3,3)]⟩:=by kernel_rfl
theorem ti108:tiGet Try.prog 108=some ⟨4,40, .agg #[.string ByteArray.empty, .int .i64 0, .int .i64 0, .int .i64 0], .struct [(0,9),(1,3),(2,3),(3,3)]⟩:=by kernel_rfl
theorem ti109:tiGet Try.prog 109=some ⟨1,8, .nilFunc, .func⟩:=by kernel_rfl
theorem ti110:tiGet Try.prog 110=some ⟨1,8, .nilFunc, .func⟩:=by kernel_rfl
theorem ti111:tiGet Try.prog 111=some ⟨1,8, .nilFunc, .func⟩:=by kernel_rfl
theorem ti112:tiGet Try.prog 112=some ⟨1,8, .nilFunc, .func⟩:=by kernel_rfl
theorem ti113:tiGet Try.prog 113=some ⟨1,8, .nilFunc, .func⟩:=by kernel_rfl
theorem ti114:tiGet Try.prog 114=some ⟨1,8, .nilFunc, .func⟩:=by kernel_rfl
theorem ti115:tiGet Try.prog 115=some ⟨1,8, .nilFunc, .func⟩:=by kernel_rfl
theorem ti116:tiGet Try.prog 116=some ⟨1,8, .nilFunc, .func⟩:=by kernel_rfl
theorem ti117:tiGet Try.prog 117=some ⟨1,8, .nilFunc, .func⟩:=by kernel_rfl
theorem ti118:tiGet Try.prog 118=some ⟨1,8, .nilFunc, .func⟩:=by kernel_rfl
theorem ti119:tiGet Try.prog 119=some ⟨1,8, .nilFunc, .func⟩:=by kernel_rfl
theorem ti120:tiGet Try.prog 120=some ⟨1,8, .nilFunc, .func⟩:=by kernel_rfl
theorem ti121:tiGet Try.prog 121=some ⟨1,8, .pointer none, .ptr 86⟩:=by kernel_rfl
theorem ti122:tiGet Try.prog 122=some ⟨1,8, .nilFunc, .func⟩:=by kernel_rfl
theorem ti123:tiGet Try.prog 123=some ⟨1,8, .nilFunc, .func⟩:=by kernel_rfl
theorem ti124:tiGet Try.prog 124=some ⟨1,8, .int .i64 0, .int .i64⟩:=by kernel_rfl
theorem ti126:tiGet Try.prog 126=some ⟨1,8, .nilFunc, .func⟩:=by kernel_rfl
theorem ti127:tiGet Try.prog 127=some ⟨1,8, .nilFunc, .func⟩:=by kernel_rfl
theorem ti128:tiGet Try.prog 128=some ⟨1,8, .nilFunc, .func⟩:=by kernel_rfl
theorem ti129:tiGet Try.prog 129=some ⟨1,8, .nilFunc, .func⟩:=by kernel_rfl
theorem ti130:tiGet Try.prog 130=some ⟨1,8, .nilFunc, .func⟩:=by kernel_rfl
theorem ti131:tiGet Try.prog 131=some ⟨1,4, .int .u32 0, .int .u32⟩:=by kernel_rfl
theorem ti132:tiGet Try.prog 132=some ⟨1,8, .nilFunc, .func⟩:=by kernel_rfl
theorem ti133:tiGet Try.prog 133=some ⟨1,8, .int .u64 0, .int .u64⟩:=by kernel_rfl
theorem ti134:tiGet Try.prog 134=some ⟨1,8, .nilFunc, .func⟩:=by kernel_rfl
theorem ti135:tiGet Try.prog 135=some ⟨1,8, .nilFunc, .func⟩:=by kernel_rfl
theorem ti136:tiGet Try.prog 136=some ⟨1,8, .nilFunc, .func⟩:=by kernel_rfl
theorem ti137:tiGet Try.prog 137=some ⟨1,8, .nilFunc, .func⟩:=by kernel_rfl
theorem ti138:tiGet Try.prog 138=some ⟨1,8, .nilFunc, .func⟩:=by kernel_rfl
theorem ti139:tiGet Try.prog 139=some ⟨1,8, .int .u64 0, .int .u64⟩:=by kernel_rfl
theorem ti140:tiGet Try.prog 140=some ⟨1,8, .nilFunc, .func⟩:=by kernel_rfl
theorem ti141:tiGet Try.prog 141=some ⟨1,8, .nilFunc, .func⟩:=by kernel_rfl
theorem ti142:tiGet Try.prog 142=some ⟨1,8, .nilFunc, .func⟩:=by kernel_rfl
theorem ti143:tiGet Try.prog 143=some ⟨1,8, .pointer none, .ptr 3⟩:=by kernel_rfl
theorem ti144:tiGet Try.prog 144=some ⟨1,8, .nilFunc, .func⟩:=by kernel_rfl
theorem ti145:tiGet Try.prog 145=some ⟨1,8, .nilFunc, .func⟩:=by kernel_rfl
theorem ti146:tiGet Try.prog 146=some ⟨1,8, .nilFunc, .func⟩:=by kernel_rfl
theorem ti147:tiGet Try.prog 147=some ⟨1,8, .nilFunc, .func⟩:=by kernel_rfl
theorem ti148:tiGet Try.prog 148=some ⟨1,8, .nilFunc, .func⟩:=by kernel_rfl
theorem ti149:tiGet Try.prog 149=some ⟨1,8, .nilFunc, .func⟩:=by kernel_rfl
theorem ti150:tiGet Try.prog 150=some ⟨1,8, .nilFunc, .func⟩:=by kernel_rfl
theorem ti151:tiGet Try.prog 151=some ⟨1,8, .nilFunc, .func⟩:=by kernel_rfl
theorem ti152:tiGet Try.prog 152=some ⟨1,8, .nilFunc, .func⟩:=by kernel_rfl
theorem ti153:tiGet Try.prog 153=some ⟨1,8, .nilFunc, .func⟩:=by kernel_rfl
theorem ti154:tiGet Try.prog 154=some ⟨2,16, .agg #[.int .i64 0, .int .i64 0], .struct [(0,3),(1,3)]⟩:=by kernel_rfl
theorem ti155:tiGet Try.prog 155=some ⟨2,16, .agg #[.int .i64 0, .int .i64 0], .struct [(0,3),(1,3)]⟩:=by kernel_rfl
theorem ti156:tiGet Try.prog 156=some ⟨1,8, .nilFunc, .func⟩:=by kernel_rfl
theorem ti157:tiGet Try.prog 157=some ⟨1,8, .pointer none, .ptr 139⟩:=by kernel_rfl
theorem ti159:tiGet Try.prog 159=some ⟨1,8, .nilFunc, .func⟩:=by kernel_rfl
theorem ti160:tiGet Try.prog 160=some ⟨1,8, .nilFunc, .func⟩:=by kernel_rfl
theorem ti161:tiGet Try.prog 161=some ⟨1,8, .nilFunc, .func⟩:=by kernel_rfl
theorem ti162:tiGet Try.prog 162=some ⟨1,8, .nilFunc, .func⟩:=by kernel_rfl
theorem ti163:tiGet Try.prog 163=some ⟨1,8, .nilFunc, .func⟩:=by kernel_rfl
theorem ti164:tiGet Try.prog 164=some ⟨1,8, .nilFunc, .func⟩:=by kernel_rfl
theorem ti165:tiGet Try.prog 165=some ⟨1,8, .nilFunc, .func⟩:=by kernel_rfl
theorem ti166:tiGet Try.prog 166=some ⟨4,40, .agg #[.pointer none, .pointer none, .pointer none, .string ByteArray.empty], .struct [(0,17),(1,17),(2,17),(3,9)]⟩:=by kernel_rfl
theorem ti167:tiGet Try.prog 167=some ⟨4,40, .agg #[.pointer none, .pointer none, .pointer none, .string ByteArray.empty], .struct [(0,17),(1,17),(2,17),(3,9)]⟩:=by kernel_rfl
theorem ti168:tiGet Try.prog 168=some ⟨0,0, .agg #[], .array 0 16⟩:=by kernel_rfl
theorem ti169:tiGet Try.prog 169=some ⟨0,0, .agg #[], .struct [(0,168)]⟩:=by kernel_rfl
theorem ti170:tiGet Try.prog 170=some ⟨0,0, .agg #[], .struct [(0,168)]⟩:=by kernel_rfl
theorem ti171:tiGet Try.prog 171=some ⟨1,1, .int .u8 0, .int .u8⟩:=by kernel_rfl
theorem ti172:tiGet Try.prog 172=some ⟨1,1, .int .u8 0, .int .u8⟩:=by kernel_rfl
theorem ti173:tiGet Try.prog 173=some ⟨1,8, .nilFunc, .func⟩:=by kernel_rfl
theorem ti174:tiGet Try.prog 174=some ⟨1,8, .pointer none, .ptr 5⟩:=by kernel_rfl
theorem ti175:tiGet Try.prog 175=some ⟨1,4, .int .i32 0, .int .i32⟩:=by kernel_rfl
theorem ti176:tiGet Try.prog 176=some ⟨1,4, .int .i32 0, .int .i32⟩:=by kernel_rfl
theorem ti177:tiGet Try.prog 177=some ⟨11,48,.agg #[.int .u64 0,.int .u64 0,.int .u32 0,.int .u8 0,.int .u8 0,.int .u8 0,.int .u8 0,.nilFunc,.pointer none,.int .i32 0,.int .i32 0],.struct [(0,12),(1,12),(2,131),(3,171),(4,5),(5,5),(6,172),(7,173),(8,174),(9,175),(10,176)]⟩:=by kernel_rfl
theorem ti178:tiGet Try.prog 178=some ⟨11,48,.agg #[.int .u64 0,.int .u64 0,.int .u32 0,.int .u8 0,.int .u8 0,.int .u8 0,.int .u8 0,.nilFunc,.pointer none,.int .i32 0,.int .i32 0],.struct [(0,12),(1,12),(2,131),(3,171),(4,5),(5,5),(6,172),(7,173),(8,174),(9,175),(10,176)]⟩:=by kernel_rfl
theorem ti179:tiGet Try.prog 179=some ⟨1,8, .pointer none, .other⟩:=by kernel_rfl
attribute [go_sem] ti1 ti2 ti3 ti4 ti5 ti6 ti7 ti8 ti9 ti10 ti11 ti12 ti13 ti14 ti15 ti16 ti17 ti18 ti19 ti20 ti21 ti22 ti23 ti24 ti26 ti27 ti28 ti30 ti31 ti32 ti33 ti35 ti36 ti37 ti39 ti40 ti41 ti42 ti43 ti44 ti45 ti46 ti48 ti50 ti52 ti53 ti54 ti55 ti56 ti57 ti58 ti59 ti60 ti62 ti63 ti64 ti65 ti66 ti67 ti68 ti69 ti70 ti71 ti72 ti73 ti74 ti75 ti76 ti77 ti78 ti79 ti81 ti82 ti83 ti84 ti85 ti86 ti87 ti89 ti91 ti92 ti93 ti94 ti96 ti97 ti98 ti99 ti100 ti101 ti102 ti103 ti104 ti106 ti107 ti108 ti109 ti110 ti111 ti112 ti113 ti114 ti115 ti116 ti117 ti118 ti119 ti120 ti121 ti122 ti123 ti124 ti126 ti127 ti128 ti129 ti130 ti131 ti132 ti133 ti134 ti135 ti136 ti137 ti138 ti139 ti140 ti141 ti142 ti143 ti144 ti145 ti146 ti147 ti148 ti149 ti150 ti151 ti152 ti153 ti154 ti155 ti156 ti157 ti159 ti160 ti161 ti162 ti163 ti164 ti165 ti166 ti167 ti168 ti169 ti170 ti171 ti172 ti173 ti174 ti175 ti176 ti177 ti178 ti179
theorem call7: ∀ xs w,(callFunc 7 xs).run Try.prog w = .ok (.enter 7 xs) w:=fun _ _=>by kernel_rfl
theorem call9: ∀ xs w,(callFunc 9 xs).run Try.prog w = .ok (.enter 9 xs) w:=fun _ _=>by kernel_rfl
theorem call11: ∀ xs w,(callFunc 11 xs).run Try.prog w = .ok (.enter 11 xs) w:=fun _ _=>by kernel_rfl
theorem call12: ∀ xs w,(callFunc 12 xs).run Try.prog w = .ok (.enter 12 xs) w:=fun _ _=>by kernel_rfl
theorem call13: ∀ xs w,(callFunc 13 xs).run Try.prog w = .ok (.enter 13 xs) w:=fun _ _=>by kernel_rfl
theorem call16: ∀ xs w,(callFunc 16 xs).run Try.prog w = .ok (.enter 16 xs) w:=fun _ _=>by kernel_rfl
theorem call23: ∀ xs w,(callFunc 23 xs).run Try.prog w = .ok (.enter 23 xs) w:=fun _ _=>by kernel_rfl
theorem call24: ∀ xs w,(callFunc 24 xs).run Try.prog w = .ok (.enter 24 xs) w:=fun _ _=>by kernel_rfl
theorem call25: ∀ xs w,(callFunc 25 xs).run Try.prog w = .ok (.enter 25 xs) w:=fun _ _=>by kernel_rfl
theorem call26: ∀ xs w,(callFunc 26 xs).run Try.prog w = .ok (.enter 26 xs) w:=fun _ _=>by kernel_rfl
theorem call27: ∀ xs w,(callFunc 27 xs).run Try.prog w = .ok (.enter 27 xs) w:=fun _ _=>by kernel_rfl
theorem call28: ∀ xs w,(callFunc 28 xs).run Try.prog w = .ok (.enter 28 xs) w:=fun _ _=>by kernel_rfl
theorem call29: ∀ xs w,(callFunc 29 xs).run Try.prog w = .ok (.enter 29 xs) w:=fun _ _=>by kernel_rfl
theorem call30: ∀ xs w,(callFunc 30 xs).run Try.prog w = .ok (.enter 30 xs) w:=fun _ _=>by kernel_rfl
theorem call31: ∀ xs w,(callFunc 31 xs).run Try.prog w = .ok (.enter 31 xs) w:=fun _ _=>by kernel_rfl
theorem call34: ∀ xs w,(callFunc 34 xs).run Try.prog w = .ok (.enter 34 xs) w:=fun _ _=>by kernel_rfl
theorem call35: ∀ xs w,(callFunc 35 xs).run Try.prog w = .ok (.enter 35 xs) w:=fun _ _=>by kernel_rfl
theorem call36: ∀ xs w,(callFunc 36 xs).run Try.prog w = .ok (.enter 36 xs) w:=fun _ _=>by kernel_rfl
theorem call37: ∀ xs w,(callFunc 37 xs).run Try.prog w = .ok (.enter 37 xs) w:=fun _ _=>by kernel_rfl
theorem call38: ∀ xs w,(callFunc 38 xs).run Try.prog w = .ok (.enter 38 xs) w:=fun _ _=>by kernel_rfl
theorem call39: ∀ xs w,(callFunc 39 xs).run Try.prog w = .ok (.enter 39 xs) w:=fun _ _=>by kernel_rfl
theorem call40: ∀ xs w,(callFunc 40 xs).run Try.prog w = .ok (.enter 40 xs) w:=fun _ _=>by kernel_rfl
theorem call41: ∀ xs w,(callFunc 41 xs).run Try.prog w = .ok (.enter 41 xs) w:=fun _ _=>by kernel_rfl
theorem call42: ∀ xs w,(callFunc 42 xs).run Try.prog w = .ok (.enter 42 xs) w:=fun _ _=>by kernel_rfl
theorem call43: ∀ xs w,(callFunc 43 xs).run Try.prog w = .ok (.enter 43 xs) w:=fun _ _=>by kernel_rfl
theorem call44: ∀ xs w,(callFunc 44 xs).run Try.prog w = .ok (.enter 44 xs) w:=fun _ _=>by kernel_rfl
theorem call45: ∀ xs w,(callFunc 45 xs).run Try.prog w = .ok (.enter 45 xs) w:=fun _ _=>by kernel_rfl
theorem call46: ∀ xs w,(callFunc 46 xs).run Try.prog w = .ok (.enter 46 xs) w:=fun _ _=>by kernel_rfl
theorem call47: ∀ xs w,(callFunc 47 xs).run Try.prog w = .ok (.enter 47 xs) w:=fun _ _=>by kernel_rfl
theorem call48: ∀ xs w,(callFunc 48 xs).run Try.prog w = .ok (.enter 48 xs) w:=fun _ _=>by kernel_rfl
theorem call51: ∀ xs w,(callFunc 51 xs).run Try.prog w = .ok (.enter 51 xs) w:=fun _ _=>by kernel_rfl
theorem call52: ∀ xs w,(callFunc 52 xs).run Try.prog w = .ok (.enter 52 xs) w:=fun _ _=>by kernel_rfl
theorem call53: ∀ xs w,(callFunc 53 xs).run Try.prog w = .ok (.enter 53 xs) w:=fun _ _=>by kernel_rfl
theorem call54: ∀ xs w,(callFunc 54 xs).run Try.prog w = .ok (.enter 54 xs) w:=fun _ _=>by kernel_rfl
theorem call55: ∀ xs w,(callFunc 55 xs).run Try.prog w = .ok (.enter 55 xs) w:=fun _ _=>by kernel_rfl
theorem call56: ∀ xs w,(callFunc 56 xs).run Try.prog w = .ok (.enter 56 xs) w:=fun _ _=>by kernel_rfl
theorem call57: ∀ xs w,(callFunc 57 xs).run Try.prog w = .ok (.enter 57 xs) w:=fun _ _=>by kernel_rfl
theorem call58: ∀ xs w,(callFunc 58 xs).run Try.prog w = .ok (.enter 58 xs) w:=fun _ _=>by kernel_rfl
theorem call59: ∀ xs w,(callFunc 59 xs).run Try.prog w = .ok (.enter 59 xs) w:=fun _ _=>by kernel_rfl
theorem call60: ∀ xs w,(callFunc 60 xs).run Try.prog w = .ok (.enter 60 xs) w:=fun _ _=>by kernel_rfl
theorem call61: ∀ xs w,(callFunc 61 xs).run Try.prog w = .ok (.enter 61 xs) w:=fun _ _=>by kernel_rfl
theorem call62: ∀ xs w,(callFunc 62 xs).run Try.prog w = .ok (.enter 62 xs) w:=fun _ _=>by kernel_rfl
theorem call63: ∀ xs w,(callFunc 63 xs).run Try.prog w = .ok (.enter 63 xs) w:=fun _ _=>by kernel_rfl
theorem call64: ∀ xs w,(callFunc 64 xs).run Try.prog w = .ok (.enter 64 xs) w:=fun _ _=>by kernel_rfl
theorem call65: ∀ xs w,(callFunc 65 xs).run Try.prog w = .ok (.enter 65 xs) w:=fun _ _=>by kernel_rfl
theorem call66: ∀ xs w,(callFunc 66 xs).run Try.prog w = .ok (.enter 66 xs) w:=fun _ _=>by kernel_rfl
theorem call67: ∀ xs w,(callFunc 67 xs).run Try.prog w = .ok (.enter 67 xs) w:=fun _ _=>by kernel_rfl
theorem call68: ∀ xs w,(callFunc 68 xs).run Try.prog w = .ok (.enter 68 xs) w:=fun _ _=>by kernel_rfl
theorem call69: ∀ xs w,(callFunc 69 xs).run Try.prog w = .ok (.enter 69 xs) w:=fun _ _=>by kernel_rfl
theorem call70: ∀ xs w,(callFunc 70 xs).run Try.prog w = .ok (.enter 70 xs) w:=fun _ _=>by kernel_rfl
theorem call82: ∀ xs w,(callFunc 82 xs).run Try.prog w = .ok (.enter 82 xs) w:=fun _ _=>by kernel_rfl
theorem call83: ∀ xs w,(callFunc 83 xs).run Try.prog w = .ok (.enter 83 xs) w:=fun _ _=>by kernel_rfl
theorem call85: ∀ xs w,(callFunc 85 xs).run Try.prog w = .ok (.enter 85 xs) w:=fun _ _=>by kernel_rfl
theorem call86: ∀ xs w,(callFunc 86 xs).run Try.prog w = .ok (.enter 86 xs) w:=fun _ _=>by kernel_rfl
theorem call87: ∀ xs w,(callFunc 87 xs).run Try.prog w = .ok (.enter 87 xs) w:=fun _ _=>by kernel_rfl
theorem call88: ∀ xs w,(callFunc 88 xs).run Try.prog w = .ok (.enter 88 xs) w:=fun _ _=>by kernel_rfl
theorem call89: ∀ xs w,(callFunc 89 xs).run Try.prog w = .ok (.enter 89 xs) w:=fun _ _=>by kernel_rfl
theorem call90: ∀ xs w,(callFunc 90 xs).run Try.prog w = .ok (.enter 90 xs) w:=fun _ _=>by kernel_rfl
theorem call108: ∀ xs w,(callFunc 108 xs).run Try.prog w = .ok (.enter 108 xs) w:=fun _ _=>by kernel_rfl
theorem call109: ∀ xs w,(callFunc 109 xs).run Try.prog w = .ok (.enter 109 xs) w:=fun _ _=>by kernel_rfl
theorem call116: ∀ xs w,(callFunc 116 xs).run Try.prog w = .ok (.enter 116 xs) w:=fun _ _=>by kernel_rfl
theorem bool_eql' (a b:Bool):pureRun Try.prog ((pure ():Sem Unit) >>= fun _=>Go.binOp .eql 4 (.bool a) (.bool b))=some (.bool (a==b)):=binV_bool_eql Try.underlying4 (.tmp 0) (.tmp 0) a b
theorem bool_neq' (a b:Bool):pureRun Try.prog ((pure ():Sem Unit) >>= fun _=>Go.binOp .neq 4 (.bool a) (.bool b))=some (.bool (!(a==b))):=binV_bool_neq Try.underlying4 (.tmp 0) (.tmp 0) a b
attribute [go_sem] bool_eql' bool_neq'

theorem len_str (s:ByteArray):pureRun Try.prog (Builtin.len_ #[9] 0 #[.string s])=some (.int .i64 s.size):=by
 show pureRun Try.prog (underlying 9 >>= _)=_
 rw [pureRun_bind,pureRun_underlying Try.underlying9]
 rfl
attribute [go_sem] len_str
theorem mix:Try.prog.follows .mixedOrders=true:=by kernel_rfl
end Go.Proofs.Yteemiclhnfkekaa
/- What the chain's functions and the reference's compute, as plain Lean; the walks of the first of them. -/
set_option linter.unusedSimpArgs false
set_option linter.unusedVariables false
namespace Go.Proofs.Yteemiclhnfkekaa
open Go.RowKit Go.Avm
def rowI (z:Int):List D:=[.sc (.int .i64 z)]
structure Ver where
 from_:Int
 to:Int
 size:Int
 pages:List Int
 deriving DecidableEq
def rowV (v:Ver):List D:=[.sc (.int .i64 v.from_), .sc (.int .i64 v.to), .sc (.int .i64 v.size), .sl 1 (v.pages.map rowI)]
def holdsF (f t c:Int):Bool:=decide (f≤c)&&(decide (c<t)||decide (t=0))
def findN (c:Int):List Ver→Nat→Int×Bool
 | [],_=>(0,false)
 | v::vs,k=>if holdsF v.from_ v.to c then (k,true) else findN c vs (k+1)
def validV (prev:Option Ver):List Ver→Int
 | []=>0
 | v::vs=>if v.from_<1∨v.to<0∨v.size<0 then 5 else if v.to≠0∧v.to≤v.from_ then 19 else
    match prev with
    | some p=>if p.to=0∨v.from_<p.to then 19 else validV (some v) vs
    | none=>validV (some v) vs
def prevV (vs:List Ver) (k:Nat):Option Ver:=if k=0 then none else vs[k-1]?
set_option maxRecDepth 100000 in set_option maxHeartbeats 1600000 in
theorem find_calls {vs:List Ver} {c:Int} (hl:vs.length≤100000):ACalls Try.prog 66 [.sl 4 (vs.map rowV), .sc (.int .i64 c)] (.tup [.sc (.int .i64 (findN c vs 0).1), .sc (.bool (findN c vs 0).2)]) []:=by
 refine of_tri [] [7] Try.func66 rfl call66 rfl (by decide) (by decide) rfl rfl Try.ntmps66 (by simp (disch:=omega) only [seval,go_sem,cnd,intV,shV,convV,strV,List.replicate,l_2,l_1];rfl) (by simp (disch:=omega) only [seval,go_sem,cnd,intV,shV,convV,strV,l_2,l_1];rfl) ?_
 ((repeat' (first|(with_reducible (first|refine Tri.seq ?_|refine Tri.block ?_|refine TriD.nil ?_|refine thenQ_n ?_|refine Tri.regionD (by simp only [l_3,l_4];rfl) ?_))|((with_reducible refine isTriD ?_);(with_reducible refine TriD.step (by simp only [seval,go_sem];rfl) ?_))))<;>(try (fail)))
 (with_reducible refine Tri.loopU (fun (k:Nat)=>[(10,.sc (.int .i64 k)),(4,.any),(5,.any),(6,.any),(7,.any),(11,.any),(12,.any),(13,.any),(14,.any),(15,.any),(16,.any),(17,.any),(18,.any),(19,.any),(20,.any),(21,.any),(22,.any),(23,.any),(24,.any),(25,.any),(26,.any),(27,.any),(28,.any),(29,.any),(30,.any),(31,.any)]) (fun (k:Nat)=>[(7,.dead)]) (fun (k:Nat)=>k≤vs.length∧findN c (vs.drop k) k=findN c vs 0) (fun (k:Nat)=>vs.length-k) (0) (⟨Nat.zero_le _,rfl⟩) (by intro _;simp (disch:=omega) only [seval,go_sem,cnd,intV,shV,convV,strV];rfl) (by intro _;simp (disch:=omega) only [seval,go_sem,cnd,intV,shV,convV,strV];rfl) (by (refine leQL_spec ?_);(try simp only [seval,go_sem]);first|done|fail) (by (refine leQH_spec ?_);(try simp only [seval,go_sem]);first|done|fail) (fun k hI=>?_))
 obtain ⟨hk,hf⟩:=hI
 by_cases hlt:k<vs.length
 ·obtain ⟨v,hv⟩:=get_lt hlt
  have hv':=get_map rowV hv
  ((repeat' (first|(with_reducible (first|refine Tri.seq ?_|refine Tri.block ?_|refine Tri.skip ?_|refine Tri.ret ?_|refine TriD.nil ?_|refine thenQ_n ?_|refine thenQ_r ?_|refine inBlockQ_n ?_|refine inBlockQ_r ?_|refine loopQ_n ?_|refine loopQ_r ?_|refine Tri.regionD (by simp only [l_3,l_4];rfl) ?_))|((with_reducible refine isTriD ?_);(with_reducible first|refine TriD.step (by simp only [seval,go_sem,hv',rowV];rfl) ?_|refine TriD.step (by simp (disch:=omega) only [seval,go_sem,cnd,intV,shV,convV,strV,hv',rowV];rfl) ?_|refine TriD.byGuard (by simp only [seval,go_sem,hv',rowV];rfl) (by simp only [seval,go_sem,hv',rowV];rfl) (by (fail_if_success (with_reducible exact nlT));(fail_if_success (with_reducible exact nlF));exact nlI) (cvI ?_) (cvI ?_)))|(with_reducible refine isCond ?_;with_reducible refine Tri.cond (by simp only [seval,go_sem,hv',rowV];rfl) (cvI ?_) (cvI ?_))|(with_reducible refine isCv ?_;intro hc;(try simp only [bls,reduceCtorEq] at hc);(try (exfalso;omega)))|(with_reducible refine isRet ?_;refine RetOK.q rfl rfl (by simp only [seval,go_sem];rfl) (by decide) (by simp only [seval,go_sem];rfl) (by simp only [seval,go_sem];rfl) rfl ?_<;>(try simp only [seval,go_sem])<;>(repeat' (with_reducible apply And.intro))<;>(try rfl))))<;>(try (fail)))
  all_goals (try (refine isNext (k+1) ?_ ?_ ?_ ?_<;>(first|((first|refine leQL_spec ?_|refine leQH_spec ?_)<;>(try simp only [seval,go_sem])<;>(repeat' (with_reducible apply And.intro))<;>(try rfl))|skip)<;>(try (omega))))
  all_goals first|omega|(refine ⟨by omega,?_⟩;rw [← hf,drop_get hv];simp [findN,holdsF, *];omega)|(rw [← hf,drop_get hv];simp [findN,holdsF, *])
 ·((repeat' (first|(with_reducible (first|refine Tri.seq ?_|refine Tri.exit ?_|refine Tri.ret ?_|refine TriD.nil ?_|refine thenQ_n ?_|refine thenQ_e ?_|refine inBlockQ_e ?_|refine loopQ_e ?_|refine Tri.regionD (by simp only [l_3,l_4];rfl) ?_))|((with_reducible refine isTriD ?_);(with_reducible first|refine TriD.step (by simp only [seval,go_sem];rfl) ?_|refine TriD.step (by simp (disch:=omega) only [seval,go_sem,cnd,intV,shV,convV,strV];rfl) ?_))|(with_reducible refine isCond ?_;with_reducible refine Tri.cond (by simp only [seval,go_sem];rfl) (cvI ?_) (cvI ?_))|(with_reducible refine isCv ?_;intro hc;(try simp only [bls,reduceCtorEq] at hc);(try (exfalso;omega)))|(with_reducible refine isRet ?_;refine RetOK.q rfl rfl (by simp only [seval,go_sem];rfl) (by decide) (by simp only [seval,go_sem];rfl) (by simp only [seval,go_sem];rfl) rfl ?_<;>(try simp only [seval,go_sem])<;>(repeat' (with_reducible apply And.intro))<;>(try rfl))))<;>(try (fail)))
  all_goals (rw [← hf,List.drop_eq_nil_of_le (by omega)];simp [findN])
end Go.Proofs.Yteemiclhnfkekaa
/- The walks of the chain's and the reference's functions that look at a list of versions or copy it. -/
set_option linter.unusedSimpArgs false
set_option linter.unusedVariables false
namespace Go.Proofs.Yteemiclhnfkekaa
open Go.RowKit Go.Avm
theorem prevV_succ {vs:List Ver} {k:Nat} {v:Ver} (h:vs[k]? = some v):prevV vs (k+1)=some v:=by simp [prevV,h]
theorem prevV_pos {vs:List Ver} {k:Nat} {u:Ver} (h:0<k) (hu:vs[k-1]? = some u):prevV vs k=some u:=by simp [prevV,hu];omega
set_option maxRecDepth 100000 in set_option maxHeartbeats 3200000 in
theorem valid_calls {vs:List Ver} (hl:vs.length≤100000):ACalls Try.prog 68 [.sl 4 (vs.map rowV)] (.sc (.int .i64 (validV none vs))) []:=by
 refine of_tri [] [4] Try.func68 rfl call68 rfl (by decide) (by decide) rfl rfl Try.ntmps68 (by simp (disch:=omega) only [seval,go_sem,cnd,intV,shV,convV,strV,List.replicate,l_2,l_1];rfl) (by simp (disch:=omega) only [seval,go_sem,cnd,intV,shV,convV,strV,l_2,l_1];rfl) ?_
 ((repeat' (first|(with_reducible (first|refine Tri.seq ?_|refine Tri.block ?_|refine TriD.nil ?_|refine thenQ_n ?_|refine Tri.regionD (by simp only [l_3,l_4];rfl) ?_))|((with_reducible refine isTriD ?_);(with_reducible refine TriD.step (by simp only [seval,go_sem];rfl) ?_))))<;>(try (fail)))
 (with_reducible refine Tri.loopU (fun (k:Nat)=>[(7,.sc (.int .i64 k)),(2,.any),(3,.any),(4,.any),(8,.any),(9,.any),(10,.any),(11,.any),(12,.any),(13,.any),(14,.any),(15,.any),(16,.any),(17,.any),(18,.any),(19,.any),(20,.any),(21,.any),(22,.any),(23,.any),(24,.any),(25,.any),(26,.any),(27,.any),(28,.any),(29,.any),(30,.any),(31,.any),(32,.any),(33,.any),(34,.any),(35,.any),(36,.any),(37,.any),(38,.any),(39,.any),(40,.any),(41,.any),(42,.any),(43,.any),(44,.any),(45,.any),(46,.any),(47,.any),(48,.any),(49,.any),(50,.any),(51,.any),(52,.any),(53,.any),(54,.any),(55,.any),(56,.any),(57,.any)]) (fun (k:Nat)=>[(4,.dead)]) (fun (k:Nat)=>k≤vs.length∧validV (prevV vs k) (vs.drop k)=validV none vs) (fun (k:Nat)=>vs.length-k) (0) (⟨Nat.zero_le _,rfl⟩) (by intro _;simp (disch:=omega) only [seval,go_sem,cnd,intV,shV,convV,strV];rfl) (by intro _;simp (disch:=omega) only [seval,go_sem,cnd,intV,shV,convV,strV];rfl) (by (refine leQL_spec ?_);(try simp only [seval,go_sem]);first|done|fail) (by (refine leQH_spec ?_);(try simp only [seval,go_sem]);first|done|fail) (fun k hI=>?_))
 obtain ⟨hk,hf⟩:=hI
 by_cases hlt:k<vs.length
 ·obtain ⟨v,hv⟩:=get_lt hlt
  have hv':=get_map rowV hv
  by_cases h0:k=0
  ·subst h0
   ((repeat' (first|(with_reducible (first|refine Tri.seq ?_|refine Tri.block ?_|refine Tri.skip ?_|refine Tri.ret ?_|refine TriD.nil ?_|refine ListD.nil ?_|refine thenQ_n ?_|refine thenQ_r ?_|refine inBlockQ_n ?_|refine inBlockQ_r ?_|refine loopQ_n ?_|refine loopQ_r ?_|refine Tri.regionD (by simp only [l_3,l_4];rfl) ?_))|((with_reducible refine isTriD ?_);(with_reducible first|refine TriD.step (by simp only [seval,go_sem,hv',rowV];rfl) ?_|refine TriD.step (by simp (disch:=omega) only [seval,go_sem,cnd,intV,shV,convV,strV,hv',rowV];rfl) ?_|refine TriD.byGuard (by simp only [seval,go_sem,hv',rowV];rfl) (by simp only [seval,go_sem,hv',rowV];rfl) (by (fail_if_success (with_reducible exact nlT));(fail_if_success (with_reducible exact nlF));exact nlI) (cvI ?_) (cvI ?_)))|((with_reducible refine isListD ?_);(with_reducible first|refine ListD.step (by simp only [seval,go_sem,hv',rowV];rfl) ?_|refine ListD.step (by simp (disch:=omega) only [seval,go_sem,cnd,intV,shV,convV,strV,hv',rowV];rfl) ?_))|(with_reducible refine isCond ?_;with_reducible refine Tri.cond (by simp only [seval,go_sem,hv',rowV];rfl) (cvI ?_) (cvI ?_))|(with_reducible refine isCv ?_;intro hc;(try simp only [bls,reduceCtorEq] at hc);(try (exfalso;omega)))|(with_reducible refine isDrawn ?_;refine Tri.drawnD mix (by kernel_rfl) (by simp only [l_3,l_4];rfl) ?_)|(with_reducible refine isRet ?_;refine RetOK.q rfl rfl (by simp only [seval,go_sem];rfl) (by decide) (by simp only [seval,go_sem];rfl) (by simp only [seval,go_sem];rfl) rfl ?_<;>(try simp only [seval,go_sem])<;>(repeat' (with_reducible apply And.intro))<;>(try rfl))))<;>(try (fail)))
   all_goals (try (refine isNext (1) ?_ ?_ ?_ ?_<;>(first|((first|refine leQL_spec ?_|refine leQH_spec ?_)<;>(try simp only [seval,go_sem])<;>(repeat' (with_reducible apply And.intro))<;>(try rfl))|skip)<;>(try (omega))))
   all_goals first|omega|(refine ⟨by omega,?_⟩;rw [← hf,drop_get hv,prevV_succ hv];simp [validV,prevV];omega)|(rw [← hf,drop_get hv];simp [validV,prevV];omega)
  ·obtain ⟨u,hu⟩:=get_lt (show k-1<vs.length by omega)
   have hu':=get_map rowV hu
   (all_goals (try have hZ:=(And.intro hv' hu'));(repeat' (first|(with_reducible (first|refine Tri.seq ?_|refine Tri.block ?_|refine Tri.skip ?_|refine Tri.ret ?_|refine TriD.nil ?_|refine ListD.nil ?_|refine thenQ_n ?_|refine thenQ_r ?_|refine inBlockQ_n ?_|refine inBlockQ_r ?_|refine loopQ_n ?_|refine loopQ_r ?_|refine Tri.regionD (by simp only [l_3,l_4];rfl) ?_))|((with_reducible refine isTriD ?_);(with_reducible first|refine TriD.step (by simp only [seval,go_sem,rowV,hZ];rfl) ?_|refine TriD.step (by simp (disch:=omega) only [seval,go_sem,cnd,intV,shV,convV,strV,rowV,hZ];rfl) ?_|refine TriD.byGuard (by simp only [seval,go_sem,rowV,hZ];rfl) (by simp only [seval,go_sem,rowV,hZ];rfl) (by (fail_if_success (with_reducible exact nlT));(fail_if_success (with_reducible exact nlF));exact nlI) (cvI ?_) (cvI ?_)))|((with_reducible refine isListD ?_);(with_reducible first|refine ListD.step (by simp only [seval,go_sem,rowV,hZ];rfl) ?_|refine ListD.step (by simp (disch:=omega) only [seval,go_sem,cnd,intV,shV,convV,strV,rowV,hZ];rfl) ?_|refine ListD.byGuard (by simp only [seval,go_sem,rowV,hZ];rfl) (by simp only [seval,go_sem,rowV,hZ];rfl) (by (fail_if_success (with_reducible exact nlT));(fail_if_success (with_reducible exact nlF));exact nlI) (cvI ?_) (cvI ?_)))|(with_reducible refine isCond ?_;with_reducible refine Tri.cond (by simp only [seval,go_sem,rowV,hZ];rfl) (cvI ?_) (cvI ?_))|(with_reducible refine isCv ?_;intro hc;(try simp only [bls,reduceCtorEq] at hc);(try (exfalso;omega)))|(with_reducible refine isDrawn ?_;refine Tri.drawnD mix (by kernel_rfl) (by simp only [l_3,l_4];rfl) ?_)|(with_reducible refine isRet ?_;refine RetOK.q rfl rfl (by simp only [seval,go_sem];rfl) (by decide) (by simp only [seval,go_sem];rfl) (by simp only [seval,go_sem];rfl) rfl ?_<;>(try simp only [seval,go_sem])<;>(repeat' (with_reducible apply And.intro))<;>(try rfl))))<;>(try (fail));all_goals (try clear hZ))
   all_goals (try (refine isNext (k+1) ?_ ?_ ?_ ?_<;>(first|((first|refine leQL_spec ?_|refine leQH_spec ?_)<;>(try simp only [seval,go_sem])<;>(repeat' (with_reducible apply And.intro))<;>(try rfl))|skip)<;>(try (omega))))
   all_goals first|(refine ⟨by omega,?_⟩;rw [← hf,drop_get hv,prevV_succ hv,prevV_pos (by omega) hu];simp [validV];omega)|(rw [← hf,drop_get hv,prevV_pos (by omega) hu];simp [validV];omega)
 ·((repeat' (first|(with_reducible (first|refine Tri.seq ?_|refine Tri.exit ?_|refine Tri.ret ?_|refine TriD.nil ?_|refine thenQ_n ?_|refine thenQ_e ?_|refine inBlockQ_e ?_|refine loopQ_e ?_|refine Tri.regionD (by simp only [l_3,l_4];rfl) ?_))|((with_reducible refine isTriD ?_);(with_reducible first|refine TriD.step (by simp only [seval,go_sem];rfl) ?_|refine TriD.step (by simp (disch:=omega) only [seval,go_sem,cnd,intV,shV,convV,strV];rfl) ?_))|(with_reducible refine isCond ?_;with_reducible refine Tri.cond (by simp only [seval,go_sem];rfl) (cvI ?_) (cvI ?_))|(with_reducible refine isCv ?_;intro hc;(try simp only [bls,reduceCtorEq] at hc);(try (exfalso;omega)))|(with_reducible refine isRet ?_;refine RetOK.q rfl rfl (by simp only [seval,go_sem];rfl) (by decide) (by simp only [seval,go_sem];rfl) (by simp only [seval,go_sem];rfl) rfl ?_<;>(try simp only [seval,go_sem])<;>(repeat' (with_reducible apply And.intro))<;>(try rfl))))<;>(try (fail)))
  all_goals (rw [← hf,List.drop_eq_nil_of_le (by omega)];simp [validV])
end Go.Proofs.Yteemiclhnfkekaa
/- The walks of the chain's and the reference's functions that copy and compare lists of versions. -/
set_option linter.unusedSimpArgs false
set_option linter.unusedVariables false
namespace Go.Proofs.Yteemiclhnfkekaa
open Go.RowKit Go.Avm
set_option maxRecDepth 100000 in set_option maxHeartbeats 3200000 in
theorem clone_ints {rows:List (List D)} (hl:rows.length≤1000000):ACalls Try.prog 70 [.sl 1 rows] (.slo 0 1 0 rows.length) [.row 1 rows]:=by
 refine of_tri [] [5,7] Try.func70 rfl call70 rfl (by decide) (by decide) rfl rfl Try.ntmps70 (by simp (disch:=omega) only [seval,go_sem,cnd,intV,shV,convV,strV,List.replicate,l_2,l_1];rfl) (by simp (disch:=omega) only [seval,go_sem,cnd,intV,shV,convV,strV,l_2,l_1];rfl) ?_
 ((repeat' (first|(with_reducible (first|refine Tri.seq ?_|refine Tri.skip ?_|refine Tri.ret ?_|refine TriD.nil ?_|refine thenQ_n ?_|refine thenQ_r ?_|refine Tri.regionD (by simp only [l_3,l_4];rfl) ?_))|((with_reducible refine isTriD ?_);first|(with_reducible first|refine TriD.step (by simp only [seval,go_sem];rfl) ?_|refine TriD.step (by simp (disch:=omega) only [seval,go_sem,cnd,intV,shV,convV,strV];rfl) ?_)|(with_reducible refine isNilEq ?_;with_reducible refine TriD.nilEq (by simp only [seval,go_sem]) (by simp only [seval,go_sem];rfl) (by simp only [seval,go_sem];rfl) (by simp only [seval,go_sem];rfl) (fun b hb=>?_)))|(with_reducible refine isCond ?_;with_reducible refine Tri.cond (by simp only [seval,go_sem];rfl) (cvI ?_) (cvI ?_))|(with_reducible refine isCv ?_;intro hc;(try simp only [bls,reduceCtorEq] at hc);(try (exfalso;omega)))|(with_reducible refine isRet ?_;refine RetOK.q rfl rfl (by simp only [seval,go_sem];rfl) (by decide) (by simp only [seval,go_sem];rfl) (by simp only [seval,go_sem];rfl) rfl ?_<;>(try simp only [seval,go_sem])<;>(repeat' (with_reducible apply And.intro))<;>(try rfl))))<;>(try (fail)))
 ·have h0:rows=[]:=List.eq_nil_of_length_eq_zero (hb hc)
  subst h0
  (refine RetOK.virt 2 7 1 (by first|(simp only [seval,go_sem];first|done|fail)) (by first|(simp only [seval,go_sem];first|done|fail)) (by simp only [seval,go_sem];rfl) ?_)
  (with_reducible refine isRet ?_;refine RetOK.q rfl rfl (by simp only [seval,go_sem];rfl) (by decide) (by simp only [seval,go_sem];rfl) (by simp only [seval,go_sem];rfl) rfl ?_<;>(try simp only [seval,go_sem])<;>(repeat' (with_reducible apply And.intro))<;>(try rfl))<;>simp
set_option maxRecDepth 100000 in set_option maxHeartbeats 3200000 in
theorem copied_calls {vs:List Ver} (hl:vs.length≤100000) (hp: ∀ v∈vs,v.pages.length≤1000000):ACalls Try.prog 69 [.sl 4 (vs.map rowV)] (.slo 0 4 0 vs.length) [.row 4 (vs.map rowV)]:=by
 refine of_tri [] [5,14,18,19] Try.func69 rfl call69 rfl (by decide) (by decide) rfl rfl Try.ntmps69 (by simp (disch:=omega) only [seval,go_sem,cnd,intV,shV,convV,strV,List.replicate,l_2,l_1];rfl) (by simp (disch:=omega) only [seval,go_sem,cnd,intV,shV,convV,strV,l_2,l_1];rfl) ?_
 ((repeat' (first|(with_reducible (first|refine Tri.seq ?_|refine Tri.block ?_|refine TriD.nil ?_|refine thenQ_n ?_|refine Tri.regionD (by simp only [l_3,l_4];rfl) ?_))|((with_reducible refine isTriD ?_);(with_reducible refine TriD.step (by simp only [seval,go_sem];rfl) ?_))))<;>(try (fail)))
 (refine Tri.virt 3 19 4 (by first|(simp only [seval,go_sem];first|done|fail)) (by first|(simp only [seval,go_sem];first|done|fail)) (by simp only [seval,go_sem];rfl) ?_)
 (with_reducible refine Tri.loopU (fun (k:Nat)=>[(8,.sc (.int .i64 k)),(3,.slo 19 4 0 k),(5,.any),(9,.any),(10,.any),(11,.any),(12,.any),(13,.any),(14,.any),(15,.any),(16,.any),(17,.any),(18,.any),(19,.any),(20,.any)]) (fun (k:Nat)=>[(19,.row 4 ((vs.take k).map rowV)),(5,.dead),(14,.dead),(18,.dead)]) (fun (k:Nat)=>k≤vs.length) (fun (k:Nat)=>vs.length-k) (0) (Nat.zero_le _) (by intro _;simp (disch:=omega) only [seval,go_sem,cnd,intV,shV,convV,strV];rfl) (by intro _;simp (disch:=omega) only [seval,go_sem,cnd,intV,shV,convV,strV];rfl) (by (refine leQL_spec ?_);(try simp only [seval,go_sem]);first|done|fail) (by (refine leQH_spec ?_);(try simp only [seval,go_sem]);first|done|fail) (fun k hI=>?_))
 by_cases hlt:k<vs.length
 ·obtain ⟨v,hv⟩:=get_lt hlt
  have hv':=get_map rowV hv
  have hp':=hp v (List.mem_of_getElem? hv)
  have htl:(vs.take k).length=k:=by rw [List.length_take];omega
  (all_goals (try have hZ:=(And.intro hv' htl));(repeat' (first|(with_reducible (first|refine Tri.seq ?_|refine Tri.block ?_|refine Tri.skip ?_|refine TriD.nil ?_|refine thenQ_n ?_|refine inBlockQ_n ?_|refine loopQ_n ?_|refine Tri.regionD (by simp only [l_3,l_4];rfl) ?_))|((with_reducible refine isTriD ?_);first|(with_reducible refine TriD.step (by simp only [seval,go_sem,rowV,List.length_map,Nat.reduceAdd,hZ];rfl) ?_)|((with_reducible refine isCallD ?_);((with_reducible (refine TriD.dE (by simp only [seval,go_sem,rowV,List.length_map,Nat.reduceAdd,hZ];rfl) (by simp only [seval,go_sem,rowV,List.length_map,Nat.reduceAdd,hZ];rfl) ?_));refine CallK.c (dst:=some 14) [14] (clone_ints ?_) (by simp only [seval,go_sem,rowV,List.length_map,Nat.reduceAdd,hZ];rfl) ?_))|(with_reducible first|refine TriD.step (by simp (disch:=omega) only [seval,go_sem,cnd,intV,shV,convV,strV,rowV,List.length_map,Nat.reduceAdd,hZ];rfl) ?_|refine TriD.frz 14 (by simp only [seval,go_sem,rowV,List.length_map,Nat.reduceAdd,hZ];rfl) (by simp only [seval,go_sem,rowV,List.length_map,Nat.reduceAdd,hZ];rfl) ?_))|(with_reducible refine isCond ?_;with_reducible refine Tri.cond (by simp only [seval,go_sem,rowV,List.length_map,Nat.reduceAdd,hZ];rfl) (cvI ?_) (cvI ?_))|(with_reducible refine isCv ?_;intro hc;(try simp only [bls,reduceCtorEq] at hc);(try (exfalso;omega)))))<;>(try (fail));all_goals (try clear hZ))
  all_goals (try (refine isNext (k+1) ?_ ?_ ?_ ?_<;>(first|((first|refine leQL_spec ?_|refine leQH_spec ?_)<;>(try simp only [seval,go_sem])<;>(repeat' (with_reducible apply And.intro))<;>(try rfl))|skip)<;>(try (first|omega|(simp;omega)))))
  all_goals first|(simp;omega)|(rw [take_get hv];simp [rowV])
 ·have hk:k=vs.length:=by omega
  subst hk
  ((repeat' (first|(with_reducible (first|refine Tri.seq ?_|refine Tri.exit ?_|refine Tri.ret ?_|refine TriD.nil ?_|refine thenQ_n ?_|refine thenQ_e ?_|refine inBlockQ_e ?_|refine loopQ_e ?_|refine Tri.regionD (by simp only [l_3,l_4];rfl) ?_))|((with_reducible refine isTriD ?_);(with_reducible first|refine TriD.step (by simp only [seval,go_sem];rfl) ?_|refine TriD.step (by simp (disch:=omega) only [seval,go_sem,cnd,intV,shV,convV,strV];rfl) ?_))|(with_reducible refine isCond ?_;with_reducible refine Tri.cond (by simp only [seval,go_sem];rfl) (cvI ?_) (cvI ?_))|(with_reducible refine isCv ?_;intro hc;(try simp only [bls,reduceCtorEq] at hc);(try (exfalso;omega)))|(with_reducible refine isRet ?_;refine RetOK.q rfl rfl (by simp only [seval,go_sem];rfl) (by decide) (by simp only [seval,go_sem];rfl) (by simp only [seval,go_sem];rfl) rfl ?_<;>(try simp only [seval,go_sem])<;>(repeat' (with_reducible apply And.intro))<;>(try rfl))))<;>(try (fail)))
  all_goals simp
end Go.Proofs.Yteemiclhnfkekaa
