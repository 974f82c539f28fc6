/- The facts about the types of the program that the machine asks. -/
import Derived.Test.YtmgodadmafcliaaGreatRows
import Derived.Test.YtmgodadmafcliaaGreatZAvmR
set_option linter.unusedSimpArgs false
set_option linter.unusedVariables false
namespace Go.Proofs.YtmgodadmafcliaaGreat
open Go.RowKit Go.Avm
theorem ti1:tiGet Tryz.prog 1=some ⟨1,8, .nilFunc, .func⟩:=by kernel_rfl
theorem ti2:tiGet Tryz.prog 2=some ⟨1,8, .int .i64 0, .int .i64⟩:=by kernel_rfl
theorem ti3:tiGet Tryz.prog 3=some ⟨1,8, .int .i64 0, .int .i64⟩:=by kernel_rfl
theorem ti4:tiGet Tryz.prog 4=some ⟨1,1, .bool false, .bool⟩:=by kernel_rfl
theorem ti5:tiGet Tryz.prog 5=some ⟨1,1, .int .u8 0, .int .u8⟩:=by kernel_rfl
theorem ti6:tiGet Tryz.prog 6=some ⟨1,1, .int .u8 0, .int .u8⟩:=by kernel_rfl
theorem ti7:tiGet Tryz.prog 7=some ⟨4,24, .agg #[.int .i64 0, .int .i64 0, .bool false, .int .u8 0], .struct [(0,2),(1,3),(2,4),(3,6)]⟩:=by kernel_rfl
theorem ti8:tiGet Tryz.prog 8=some ⟨4,24, .agg #[.int .i64 0, .int .i64 0, .bool false, .int .u8 0], .struct [(0,2),(1,3),(2,4),(3,6)]⟩:=by kernel_rfl
theorem ti9:tiGet Tryz.prog 9=some ⟨1,16, .string ByteArray.empty, .string⟩:=by kernel_rfl
theorem ti10:tiGet Tryz.prog 10=some ⟨1,16, .string ByteArray.empty, .string⟩:=by kernel_rfl
theorem ti11:tiGet Tryz.prog 11=some ⟨1,16, .string ByteArray.empty, .string⟩:=by kernel_rfl
theorem ti12:tiGet Tryz.prog 12=some ⟨1,8, .int .u64 0, .int .u64⟩:=by kernel_rfl
theorem ti13:tiGet Tryz.prog 13=some ⟨2,24, .agg #[.string ByteArray.empty, .int .u64 0], .struct [(0,9),(1,12)]⟩:=by kernel_rfl
theorem ti14:tiGet Tryz.prog 14=some ⟨2,24, .agg #[.string ByteArray.empty, .int .u64 0], .struct [(0,9),(1,12)]⟩:=by kernel_rfl
theorem ti15:tiGet Tryz.prog 15=some ⟨1,8, .pointer none, .ptr 171⟩:=by kernel_rfl
theorem ti16:tiGet Tryz.prog 16=some ⟨1,8, .pointer none, .ptr 174⟩:=by kernel_rfl
theorem ti17:tiGet Tryz.prog 17=some ⟨1,8, .pointer none, .ptr 183⟩:=by kernel_rfl
theorem ti18:tiGet Tryz.prog 18=some ⟨1,8, .agg #[.pointer none], .struct [(0,17)]⟩:=by kernel_rfl
theorem ti19:tiGet Tryz.prog 19=some ⟨1,8, .agg #[.pointer none], .struct [(0,17)]⟩:=by kernel_rfl
theorem ti20:tiGet Tryz.prog 20=some ⟨1,16, .nilIface, .other⟩:=by kernel_rfl
theorem ti21:tiGet Tryz.prog 21=some ⟨1,4, .int .i32 0, .int .i32⟩:=by kernel_rfl
theorem ti22:tiGet Tryz.prog 22=some ⟨1,24, .slice none 0 0, .slice 3⟩:=by kernel_rfl
theorem ti23:tiGet Tryz.prog 23=some ⟨1,24, .slice none 0 0, .slice 59⟩:=by kernel_rfl
theorem ti24:tiGet Tryz.prog 24=some ⟨1,24, .slice none 0 0, .slice 128⟩:=by kernel_rfl
theorem ti25:tiGet Tryz.prog 25=some ⟨1,24, .slice none 0 0, .slice 71⟩:=by kernel_rfl
theorem ti26:tiGet Tryz.prog 26=some ⟨1,24, .slice none 0 0, .slice 131⟩:=by kernel_rfl
theorem ti27:tiGet Tryz.prog 27=some ⟨5,104, .agg #[.int .i64 0, .slice none 0 0, .slice none 0 0, .slice none 0 0, .slice none 0 0], .struct [(0,3),(1,23),(2,24),(3,25),(4,26)]⟩:=by kernel_rfl
theorem ti28:tiGet Tryz.prog 28=some ⟨5,104, .agg #[.int .i64 0, .slice none 0 0, .slice none 0 0, .slice none 0 0, .slice none 0 0], .struct [(0,3),(1,23),(2,24),(3,25),(4,26)]⟩:=by kernel_rfl
theorem ti29:tiGet Tryz.prog 29=some ⟨1,8, .nilFunc, .func⟩:=by kernel_rfl
theorem ti30:tiGet Tryz.prog 30=some ⟨7,56, .agg #[.int .i64 0, .int .i64 0, .int .i64 0, .int .i64 0, .int .i64 0, .int .i64 0, .int .i64 0], .struct [(0,3),(1,3),(2,3),(3,3),(4,3),(5,3),(6,3)]⟩:=by kernel_rfl
theorem ti31:tiGet Tryz.prog 31=some ⟨7,56, .agg #[.int .i64 0, .int .i64 0, .int .i64 0, .int .i64 0, .int .i64 0, .int .i64 0, .int .i64 0], .struct [(0,3),(1,3),(2,3),(3,3),(4,3),(5,3),(6,3)]⟩:=by kernel_rfl
theorem ti32:tiGet Tryz.prog 32=some ⟨2,32, .agg #[.int .i64 0, .slice none 0 0], .struct [(0,3),(1,26)]⟩:=by kernel_rfl
theorem ti33:tiGet Tryz.prog 33=some ⟨2,32, .agg #[.int .i64 0, .slice none 0 0], .struct [(0,3),(1,26)]⟩:=by kernel_rfl
theorem ti34:tiGet Tryz.prog 34=some ⟨14,176,.agg #[.int .i64 0,.int .i64 0,.int .i64 0,.int .i64 0,.int .i64 0,.int .i64 0,.int .i64 0,.int .i64 0,.int .i64 0,.slice none 0 0,.slice none 0 0,.slice none 0 0,.int .i64 0,.slice none 0 0],.struct [(0,31),(7,3),(8,3),(9,23),(10,24),(11,25),(12,33)]⟩:=by kernel_rfl
theorem ti35:tiGet Tryz.prog 35=some ⟨14,176,.agg #[.int .i64 0,.int .i64 0,.int .i64 0,.int .i64 0,.int .i64 0,.int .i64 0,.int .i64 0,.int .i64 0,.int .i64 0,.slice none 0 0,.slice none 0 0,.slice none 0 0,.int .i64 0,.slice none 0 0],.struct [(0,31),(7,3),(8,3),(9,23),(10,24),(11,25),(12,33)]⟩:=by kernel_rfl
theorem ti36:tiGet Tryz.prog 36=some ⟨1,8, .nilFunc, .func⟩:=by kernel_rfl
theorem ti37:tiGet Tryz.prog 37=some ⟨1,8, .nilFunc, .func⟩:=by kernel_rfl
theorem ti38:tiGet Tryz.prog 38=some ⟨1,8, .int .u64 0, .int .u64⟩:=by kernel_rfl
theorem ti39:tiGet Tryz.prog 39=some ⟨2,16, .agg #[.int .i64 0, .int .i64 0], .struct [(0,3),(1,3)]⟩:=by kernel_rfl
theorem ti40:tiGet Tryz.prog 40=some ⟨2,16, .agg #[.int .i64 0, .int .i64 0], .struct [(0,3),(1,3)]⟩:=by kernel_rfl
theorem ti41:tiGet Tryz.prog 41=some ⟨1,8, .nilFunc, .func⟩:=by kernel_rfl
theorem ti42:tiGet Tryz.prog 42=some ⟨1,8, .nilFunc, .func⟩:=by kernel_rfl
theorem ti43:tiGet Tryz.prog 43=some ⟨1,8, .int .i64 0, .int .i64⟩:=by kernel_rfl
theorem ti45:tiGet Tryz.prog 45=some ⟨1,8, .nilFunc, .func⟩:=by kernel_rfl
theorem ti46:tiGet Tryz.prog 46=some ⟨1,8, .nilFunc, .func⟩:=by kernel_rfl
theorem ti47:tiGet Tryz.prog 47=some ⟨1,8, .nilFunc, .func⟩:=by kernel_rfl
theorem ti48:tiGet Tryz.prog 48=some ⟨1,8, .nilFunc, .func⟩:=by kernel_rfl
theorem ti49:tiGet Tryz.prog 49=some ⟨1,8, .nilFunc, .func⟩:=by kernel_rfl
theorem ti50:tiGet Tryz.prog 50=some ⟨1,8, .nilFunc, .func⟩:=by kernel_rfl
theorem ti51:tiGet Tryz.prog 51=some ⟨1,24, .slice none 0 0, .slice 60⟩:=by kernel_rfl
theorem ti52:tiGet Tryz.prog 52=some ⟨1,8, .nilFunc, .func⟩:=by kernel_rfl
theorem ti54:tiGet Tryz.prog 54=some ⟨1,8, .nilFunc, .func⟩:=by kernel_rfl
theorem ti55:tiGet Tryz.prog 55=some ⟨4,48, .agg #[.int .i64 0, .int .i64 0, .int .i64 0, .slice none 0 0], .struct [(0,3),(1,3),(2,3),(3,22)]⟩:=by kernel_rfl
theorem ti56:tiGet Tryz.prog 56=some ⟨4,48, .agg #[.int .i64 0, .int .i64 0, .int .i64 0, .slice none 0 0], .struct [(0,3),(1,3),(2,3),(3,22)]⟩:=by kernel_rfl
theorem ti57:tiGet Tryz.prog 57=some ⟨1,24, .slice none 0 0, .slice 56⟩:=by kernel_rfl
theorem ti58:tiGet Tryz.prog 58=some ⟨2,32, .agg #[.int .i64 0, .slice none 0 0], .struct [(0,3),(1,57)]⟩:=by kernel_rfl
theorem ti59:tiGet Tryz.prog 59=some ⟨2,32, .agg #[.int .i64 0, .slice none 0 0], .struct [(0,3),(1,57)]⟩:=by kernel_rfl
theorem ti60:tiGet Tryz.prog 60=some ⟨2,16, .agg #[.int .i64 0, .int .i64 0], .struct [(0,3),(1,3)]⟩:=by kernel_rfl
theorem ti61:tiGet Tryz.prog 61=some ⟨1,8, .nilFunc, .func⟩:=by kernel_rfl
theorem ti62:tiGet Tryz.prog 62=some ⟨1,8, .nilFunc, .func⟩:=by kernel_rfl
theorem ti64:tiGet Tryz.prog 64=some ⟨1,8, .nilFunc, .func⟩:=by kernel_rfl
theorem ti65:tiGet Tryz.prog 65=some ⟨1,24, .slice none 0 0, .slice 5⟩:=by kernel_rfl
theorem ti66:tiGet Tryz.prog 66=some ⟨1,8, .nilFunc, .func⟩:=by kernel_rfl
theorem ti67:tiGet Tryz.prog 67=some ⟨1,8, .nilFunc, .func⟩:=by kernel_rfl
theorem ti68:tiGet Tryz.prog 68=some ⟨1,8, .nilFunc, .func⟩:=by kernel_rfl
theorem ti69:tiGet Tryz.prog 69=some ⟨1,8, .nilFunc, .func⟩:=by kernel_rfl
theorem ti70:tiGet Tryz.prog 70=some ⟨2,16, .agg #[.int .i64 0, .int .i64 0], .struct [(0,3),(1,3)]⟩:=by kernel_rfl
theorem ti71:tiGet Tryz.prog 71=some ⟨2,16, .agg #[.int .i64 0, .int .i64 0], .struct [(0,3),(1,3)]⟩:=by kernel_rfl
theorem ti72:tiGet Tryz.prog 72=some ⟨1,24, .slice none 0 0, .slice 75⟩:=by kernel_rfl
theorem ti73:tiGet Tryz.prog 73=some ⟨1,8, .nilFunc, .func⟩:=by kernel_rfl
theorem ti74:tiGet Tryz.prog 74=some ⟨5,56, .agg #[.int .i64 0, .int .i64 0, .int .i64 0, .int .i64 0, .slice none 0 0], .struct [(0,3),(1,56)]⟩:=by kernel_rfl
theorem ti75:tiGet Tryz.prog 75=some ⟨5,56, .agg #[.int .i64 0, .int .i64 0, .int .i64 0, .int .i64 0, .slice none 0 0], .struct [(0,3),(1,56)]⟩:=by kernel_rfl
theorem ti76:tiGet Tryz.prog 76=some ⟨1,8, .nilFunc, .func⟩:=by kernel_rfl
theorem ti77:tiGet Tryz.prog 77=some ⟨1,8, .nilFunc, .func⟩:=by kernel_rfl
theorem ti78:tiGet Tryz.prog 78=some ⟨1,8, .nilFunc, .func⟩:=by kernel_rfl
theorem ti79:tiGet Tryz.prog 79=some ⟨1,24, .slice none 0 0, .slice 82⟩:=by kernel_rfl
theorem ti80:tiGet Tryz.prog 80=some ⟨1,8, .nilFunc, .func⟩:=by kernel_rfl
theorem ti81:tiGet Tryz.prog 81=some ⟨5,56, .agg #[.int .i64 0, .int .i64 0, .int .i64 0, .int .i64 0, .slice none 0 0], .struct [(0,3),(1,56)]⟩:=by kernel_rfl
theorem ti82:tiGet Tryz.prog 82=some ⟨5,56, .agg #[.int .i64 0, .int .i64 0, .int .i64 0, .int .i64 0, .slice none 0 0], .struct [(0,3),(1,56)]⟩:=by kernel_rfl
theorem ti83:tiGet Tryz.prog 83=some ⟨1,8, .nilFunc, .func⟩:=by kernel_rfl
theorem ti84:tiGet Tryz.prog 84=some ⟨1,8, .nilFunc, .func⟩:=by kernel_rfl
theorem ti85:tiGet Tryz.prog 85=some ⟨1,8, .nilFunc, .func⟩:=by kernel_rfl
theorem ti86:tiGet Tryz.prog 86=some ⟨1,8, .nilFunc, .func⟩:=by kernel_rfl
theorem ti87:tiGet Tryz.prog 87=some ⟨1,8, .nilFunc, .func⟩:=by kernel_rfl
theorem ti88:tiGet Tryz.prog 88=some ⟨1,24, .slice none 0 0, .slice 9⟩:=by kernel_rfl
theorem ti89:tiGet Tryz.prog 89=some ⟨1,24, .slice none 0 0, .slice 65⟩:=by kernel_rfl
theorem ti91:tiGet Tryz.prog 91=some ⟨1,8, .nilFunc, .func⟩:=by kernel_rfl
theorem ti92:tiGet Tryz.prog 92=some ⟨1,8, .nilFunc, .func⟩:=by kernel_rfl
theorem ti93:tiGet Tryz.prog 93=some ⟨1,8, .nilFunc, .func⟩:=by kernel_rfl
theorem ti94:tiGet Tryz.prog 94=some ⟨1,8, .nilFunc, .func⟩:=by kernel_rfl
theorem ti95:tiGet Tryz.prog 95=some ⟨1,8, .nilFunc, .func⟩:=by kernel_rfl
theorem ti97:tiGet Tryz.prog 97=some ⟨1,8, .nilFunc, .func⟩:=by kernel_rfl
theorem ti99:tiGet Tryz.prog 99=some ⟨1,8, .nilFunc, .func⟩:=by kernel_rfl
theorem ti101:tiGet Tryz.prog 101=some ⟨1,8, .nilFunc, .func⟩:=by kernel_rfl
theorem ti102:tiGet Tryz.prog 102=some ⟨1,24, .slice none 0 0, .slice 4⟩:=by kernel_rfl
theorem ti103:tiGet Tryz.prog 103=some ⟨1,8, .nilFunc, .func⟩:=by kernel_rfl
theorem ti104:tiGet Tryz.prog 104=some ⟨1,8, .nilFunc, .func⟩:=by kernel_rfl
theorem ti106:tiGet Tryz.prog 106=some ⟨1,8, .nilFunc, .func⟩:=by kernel_rfl
theorem ti108:tiGet Tryz.prog 108=some ⟨1,8, .nilFunc, .func⟩:=by kernel_rfl
theorem ti109:tiGet Tryz.prog 109=some ⟨1,8, .nilFunc, .func⟩:=by kernel_rfl
theorem ti110:tiGet Tryz.prog 110=some ⟨1,8, .nilFunc, .func⟩:=by kernel_rfl
theorem ti111:tiGet Tryz.prog 111=some ⟨1,8, .nilFunc, .func⟩:=by kernel_rfl
theorem ti112:tiGet Tryz.prog 112=some ⟨1,8, .nilFunc, .func⟩:=by kernel_rfl
theorem ti113:tiGet Tryz.prog 113=some ⟨1,8, .nilFunc, .func⟩:=by kernel_rfl
theorem ti115:tiGet Tryz.prog 115=some ⟨1,8, .nilFunc, .func⟩:=by kernel_rfl
theorem ti116:tiGet Tryz.prog 116=some ⟨1,8, .nilFunc, .func⟩:=by kernel_rfl
theorem ti117:tiGet Tryz.prog 117=some ⟨1,8, .nilFunc, .func⟩:=by kernel_rfl
theorem ti118:tiGet Tryz.prog 118=some ⟨1,8, .nilFunc, .func⟩:=by kernel_rfl
theorem ti119:tiGet Tryz.prog 119=some ⟨1,8, .nilFunc, .func⟩:=by kernel_rfl
theorem ti120:tiGet Tryz.prog 120=some ⟨1,8, .nilFunc, .func⟩:=by kernel_rfl
theorem ti121:tiGet Tryz.prog 121=some ⟨1,8, .nilFunc, .func⟩:=by kernel_rfl
theorem ti122:tiGet Tryz.prog 122=some ⟨1,8, .nilFunc, .func⟩:=by kernel_rfl
theorem ti123:tiGet Tryz.prog 123=some ⟨1,8, .nilFunc, .func⟩:=by kernel_rfl
theorem ti124:tiGet Tryz.prog 124=some ⟨1,8, .nilFunc, .func⟩:=by kernel_rfl
theorem ti126:tiGet Tryz.prog 126=some ⟨1,8, .nilFunc, .func⟩:=by kernel_rfl
theorem ti127:tiGet Tryz.prog 127=some ⟨4,40, .agg #[.string ByteArray.empty, .int .i64 0, .int .i64 0, .int .i64 0], .struct [(0,9),(1,3),(2,3),(3,3)]⟩:=by kernel_rfl
theorem ti128:tiGet Tryz.prog 128=some ⟨4,40, .agg #[.string ByteArray.empty, .int .i64 0, .int .i64 0, .int .i64 0], .struct [(0,9),(1,3),(2,3),(3,3)]⟩:=by kernel_rfl
theorem ti129:tiGet Tryz.prog 129=some ⟨1,8, .nilFunc, .func⟩:=by kernel_rfl
theorem ti130:tiGet Tryz.prog 130=some ⟨3,40, .agg #[.int .i64 0, .int .i64 0, .slice none 0 0], .struct [(0,3),(1,3),(2,65)]⟩:=by kernel_rfl
theorem ti131:tiGet Tryz.prog 131=some ⟨3,40, .agg #[.int .i64 0, .int .i64 0, .slice none 0 0], .struct [(0,3),(1,3),(2,65)]⟩:=by kernel_rfl
theorem ti132:tiGet Tryz.prog 132=some ⟨1,8, .nilFunc, .func⟩:=by kernel_rfl
theorem ti133:tiGet Tryz.prog 133=some ⟨1,8, .nilFunc, .func⟩:=by kernel_rfl
theorem ti134:tiGet Tryz.prog 134=some ⟨1,8, .nilFunc, .func⟩:=by kernel_rfl
theorem ti135:tiGet Tryz.prog 135=some ⟨1,8, .nilFunc, .func⟩:=by kernel_rfl
theorem ti136:tiGet Tryz.prog 136=some ⟨1,8, .nilFunc, .func⟩:=by kernel_rfl
theorem ti138:tiGet Tryz.prog 138=some ⟨1,8, .nilFunc, .func⟩:=by kernel_rfl
theorem ti139:tiGet Tryz.prog 139=some ⟨1,8, .nilFunc, .func⟩:=by kernel_rfl
theorem ti140:tiGet Tryz.prog 140=some ⟨1,8, .nilFunc, .func⟩:=by kernel_rfl
theorem ti141:tiGet Tryz.prog 141=some ⟨1,8, .nilFunc, .func⟩:=by kernel_rfl
theorem ti142:tiGet Tryz.prog 142=some ⟨1,8, .nilFunc, .func⟩:=by kernel_rfl
theorem ti143:tiGet Tryz.prog 143=some ⟨1,8, .nilFunc, .func⟩:=by kernel_rfl
theorem ti144:tiGet Tryz.prog 144=some ⟨1,8, .nilFunc, .func⟩:=by kernel_rfl
theorem ti145:tiGet Tryz.prog 145=some ⟨1,8, .nilFunc, .func⟩:=by kernel_rfl
theorem ti146:tiGet Tryz.prog 146=some ⟨1,8, .int .i64 0, .int .i64⟩:=by kernel_rfl
theorem ti148:tiGet Tryz.prog 148=some ⟨1,8, .nilFunc, .func⟩:=by kernel_rfl
theorem ti149:tiGet Tryz.prog 149=some ⟨1,8, .nilFunc, .func⟩:=by kernel_rfl
theorem ti150:tiGet Tryz.prog 150=some ⟨1,8, .nilFunc, .func⟩:=by kernel_rfl
theorem ti151:tiGet Tryz.prog 151=some ⟨1,8, .nilFunc, .func⟩:=by kernel_rfl
theorem ti152:tiGet Tryz.prog 152=some ⟨1,8, .nilFunc, .func⟩:=by kernel_rfl
theorem ti153:tiGet Tryz.prog 153=some ⟨1,8, .nilFunc, .func⟩:=by kernel_rfl
theorem ti154:tiGet Tryz.prog 154=some ⟨1,4, .int .u32 0, .int .u32⟩:=by kernel_rfl
theorem ti155:tiGet Tryz.prog 155=some ⟨1,8, .nilFunc, .func⟩:=by kernel_rfl
theorem ti156:tiGet Tryz.prog 156=some ⟨1,8, .int .u64 0, .int .u64⟩:=by kernel_rfl
theorem ti157:tiGet Tryz.prog 157=some ⟨1,8, .nilFunc, .func⟩:=by kernel_rfl
theorem ti158:tiGet Tryz.prog 158=some ⟨1,8, .nilFunc, .func⟩:=by kernel_rfl
theorem ti159:tiGet Tryz.prog 159=some ⟨1,8, .nilFunc, .func⟩:=by kernel_rfl
theorem ti160:tiGet Tryz.prog 160=some ⟨1,8, .int .u64 0, .int .u64⟩:=by kernel_rfl
theorem ti161:tiGet Tryz.prog 161=some ⟨1,8, .nilFunc, .func⟩:=by kernel_rfl
theorem ti162:tiGet Tryz.prog 162=some ⟨1,8, .nilFunc, .func⟩:=by kernel_rfl
theorem ti163:tiGet Tryz.prog 163=some ⟨1,8, .nilFunc, .func⟩:=by kernel_rfl
theorem ti164:tiGet Tryz.prog 164=some ⟨1,8, .pointer none, .ptr 3⟩:=by kernel_rfl
theorem ti165:tiGet Tryz.prog 165=some ⟨1,8, .nilFunc, .func⟩:=by kernel_rfl
theorem ti166:tiGet Tryz.prog 166=some ⟨1,8, .pointer none, .ptr 160⟩:=by kernel_rfl
theorem ti168:tiGet Tryz.prog 168=some ⟨1,8, .nilFunc, .func⟩:=by kernel_rfl
theorem ti169:tiGet Tryz.prog 169=some ⟨1,8, .nilFunc, .func⟩:=by kernel_rfl
theorem ti170:tiGet Tryz.prog 170=some ⟨4,40, .agg #[.pointer none, .pointer none, .pointer none, .string ByteArray.empty], .struct [(0,17),(1,17),(2,17),(3,9)]⟩:=by kernel_rfl
theorem ti171:tiGet Tryz.prog 171=some ⟨4,40, .agg #[.pointer none, .pointer none, .pointer none, .string ByteArray.empty], .struct [(0,17),(1,17),(2,17),(3,9)]⟩:=by kernel_rfl
theorem ti172:tiGet Tryz.prog 172=some ⟨0,0, .agg #[], .array 0 16⟩:=by kernel_rfl
theorem ti173:tiGet Tryz.prog 173=some ⟨0,0, .agg #[], .struct [(0,172)]⟩:=by kernel_rfl
theorem ti174:tiGet Tryz.prog 174=some ⟨0,0, .agg #[], .struct [(0,172)]⟩:=by kernel_rfl
theorem ti175:tiGet Tryz.prog 175=some ⟨1,8, .nilFunc, .func⟩:=by kernel_rfl
theorem ti176:tiGet Tryz.prog 176=some ⟨1,1, .int .u8 0, .int .u8⟩:=by kernel_rfl
theorem ti177:tiGet Tryz.prog 177=some ⟨1,1, .int .u8 0, .int .u8⟩:=by kernel_rfl
theorem ti178:tiGet Tryz.prog 178=some ⟨1,8, .nilFunc, .func⟩:=by kernel_rfl
theorem ti179:tiGet Tryz.prog 179=some ⟨1,8, .pointer none, .ptr 5⟩:=by kernel_rfl
theorem ti180:tiGet Tryz.prog 180=some ⟨1,4, .int .i32 0, .int .i32⟩:=by kernel_rfl
theorem ti181:tiGet Tryz.prog 181=some ⟨1,4, .int .i32 0, .int .i32⟩:=by kernel_rfl
theorem ti182:tiGet Tryz.prog 182=some ⟨11,48,.agg #[.int .u64 0,.int .u64 0,.int .u32 0,.int .u8 0,.int .u8 0,.int .u8 0,.int .u8 0,.nilFunc,.pointer none,.int .i32 0,.int .i32 0],.struct [(0,12),(1,12),(2,154),(3,176),(4,5),(5,5),(6,177),(7,178),(8,179),(9,180),(10,181)]⟩:=by kernel_rfl
theorem ti183:tiGet Tryz.prog 183=some ⟨11,48,.agg #[.int .u64 0,.int .u64 0,.int .u32 0,.int .u8 0,.int .u8 0,.int .u8 0,.int .u8 0,.nilFunc,.pointer none,.int .i32 0,.int .i32 0],.struct [(0,12),(1,12),(2,154),(3,176),(4,5),(5,5),(6,177),(7,178),(8,179),(9,180),(10,181)]⟩:=by kernel_rfl
theorem ti184:tiGet Tryz.prog 184=some ⟨1,8, .pointer none, .other⟩:=by kernel_rfl
attribute [go_sem] ti1 ti2 ti3 ti4 ti5 ti6 ti7 ti8 ti9 ti10 ti11 ti12 ti13 ti14 ti15 ti16 ti17 ti18 ti19 ti20 ti21 ti22 ti23 ti24 ti25 ti26 ti27 ti28 ti29 ti30 ti31 ti32 ti33 ti34 ti35 ti36 ti37 ti38 ti39 ti40 ti41 ti42 ti43 ti45 ti46 ti47 ti48 ti49 ti50 ti51 ti52 ti54 ti55 ti56 ti57 ti58 ti59 ti60 ti61 ti62 ti64 ti65 ti66 ti67 ti68 ti69 ti70 ti71 ti72 ti73 ti74 ti75 ti76 ti77 ti78 ti79 ti80 ti81 ti82 ti83 ti84 ti85 ti86 ti87 ti88 ti89 ti91 ti92 ti93 ti94 ti95 ti97 ti99 ti101 ti102 ti103 ti104 ti106 ti108 ti109 ti110 ti111 ti112 ti113 ti115 ti116 ti117 ti118 ti119 ti120 ti121 ti122 ti123 ti124 ti126 ti127 ti128 ti129 ti130 ti131 ti132 ti133 ti134 ti135 ti136 ti138 ti139 ti140 ti141 ti142 ti143 ti144 ti145 ti146 ti148 ti149 ti150 ti151 ti152 ti153 ti154 ti155 ti156 ti157 ti158 ti159 ti160 ti161 ti162 ti163 ti164 ti165 ti166 ti168 ti169 ti170 ti171 ti172 ti173 ti174 ti175 ti176 ti177 ti178 ti179 ti180 ti181 ti182 ti183 ti184
theorem call3: ∀ xs w,(callFunc 3 xs).run Tryz.prog w = .ok (.enter 3 xs) w:=fun _ _=>by kernel_rfl
theorem call4: ∀ xs w,(callFunc 4 xs).run Tryz.prog w = .ok (.enter 4 xs) w:=fun _ _=>by kernel_rfl
theorem call5: ∀ xs w,(callFunc 5 xs).run Tryz.prog w = .ok (.enter 5 xs) w:=fun _ _=>by kernel_rfl
theorem call6: ∀ xs w,(callFunc 6 xs).run Tryz.prog w = .ok (.enter 6 xs) w:=fun _ _=>by kernel_rfl
theorem call7: ∀ xs w,(callFunc 7 xs).run Tryz.prog w = .ok (.enter 7 xs) w:=fun _ _=>by kernel_rfl
theorem call8: ∀ xs w,(callFunc 8 xs).run Tryz.prog w = .ok (.enter 8 xs) w:=fun _ _=>by kernel_rfl
theorem call9: ∀ xs w,(callFunc 9 xs).run Tryz.prog w = .ok (.enter 9 xs) w:=fun _ _=>by kernel_rfl
theorem call10: ∀ xs w,(callFunc 10 xs).run Tryz.prog w = .ok (.enter 10 xs) w:=fun _ _=>by kernel_rfl
theorem call11: ∀ xs w,(callFunc 11 xs).run Tryz.prog w = .ok (.enter 11 xs) w:=fun _ _=>by kernel_rfl
theorem call12: ∀ xs w,(callFunc 12 xs).run Tryz.prog w = .ok (.enter 12 xs) w:=fun _ _=>by kernel_rfl
theorem call13: ∀ xs w,(callFunc 13 xs).run Tryz.prog w = .ok (.enter 13 xs) w:=fun _ _=>by kernel_rfl
theorem call14: ∀ xs w,(callFunc 14 xs).run Tryz.prog w = .ok (.enter 14 xs) w:=fun _ _=>by kernel_rfl
theorem call15: ∀ xs w,(callFunc 15 xs).run Tryz.prog w = .ok (.enter 15 xs) w:=fun _ _=>by kernel_rfl
theorem call16: ∀ xs w,(callFunc 16 xs).run Tryz.prog w = .ok (.enter 16 xs) w:=fun _ _=>by kernel_rfl
theorem call17: ∀ xs w,(callFunc 17 xs).run Tryz.prog w = .ok (.enter 17 xs) w:=fun _ _=>by kernel_rfl
theorem call18: ∀ xs w,(callFunc 18 xs).run Tryz.prog w = .ok (.enter 18 xs) w:=fun _ _=>by kernel_rfl
theorem call19: ∀ xs w,(callFunc 19 xs).run Tryz.prog w = .ok (.enter 19 xs) w:=fun _ _=>by kernel_rfl
theorem call20: ∀ xs w,(callFunc 20 xs).run Tryz.prog w = .ok (.enter 20 xs) w:=fun _ _=>by kernel_rfl
theorem call21: ∀ xs w,(callFunc 21 xs).run Tryz.prog w = .ok (.enter 21 xs) w:=fun _ _=>by kernel_rfl
theorem call22: ∀ xs w,(callFunc 22 xs).run Tryz.prog w = .ok (.enter 22 xs) w:=fun _ _=>by kernel_rfl
theorem call23: ∀ xs w,(callFunc 23 xs).run Tryz.prog w = .ok (.enter 23 xs) w:=fun _ _=>by kernel_rfl
theorem call24: ∀ xs w,(callFunc 24 xs).run Tryz.prog w = .ok (.enter 24 xs) w:=fun _ _=>by kernel_rfl
theorem call25: ∀ xs w,(callFunc 25 xs).run Tryz.prog w = .ok (.enter 25 xs) w:=fun _ _=>by kernel_rfl
theorem call26: ∀ xs w,(callFunc 26 xs).run Tryz.prog w = .ok (.enter 26 xs) w:=fun _ _=>by kernel_rfl
theorem call27: ∀ xs w,(callFunc 27 xs).run Tryz.prog w = .ok (.enter 27 xs) w:=fun _ _=>by kernel_rfl
theorem call28: ∀ xs w,(callFunc 28 xs).run Tryz.prog w = .ok (.enter 28 xs) w:=fun _ _=>by kernel_rfl
theorem call29: ∀ xs w,(callFunc 29 xs).run Tryz.prog w = .ok (.enter 29 xs) w:=fun _ _=>by kernel_rfl
theorem call30: ∀ xs w,(callFunc 30 xs).run Tryz.prog w = .ok (.enter 30 xs) w:=fun _ _=>by kernel_rfl
theorem call31: ∀ xs w,(callFunc 31 xs).run Tryz.prog w = .ok (.enter 31 xs) w:=fun _ _=>by kernel_rfl
theorem call32: ∀ xs w,(callFunc 32 xs).run Tryz.prog w = .ok (.enter 32 xs) w:=fun _ _=>by kernel_rfl
theorem call33: ∀ xs w,(callFunc 33 xs).run Tryz.prog w = .ok (.enter 33 xs) w:=fun _ _=>by kernel_rfl
theorem call34: ∀ xs w,(callFunc 34 xs).run Tryz.prog w = .ok (.enter 34 xs) w:=fun _ _=>by kernel_rfl
theorem call35: ∀ xs w,(callFunc 35 xs).run Tryz.prog w = .ok (.enter 35 xs) w:=fun _ _=>by kernel_rfl
theorem call36: ∀ xs w,(callFunc 36 xs).run Tryz.prog w = .ok (.enter 36 xs) w:=fun _ _=>by kernel_rfl
theorem call37: ∀ xs w,(callFunc 37 xs).run Tryz.prog w = .ok (.enter 37 xs) w:=fun _ _=>by kernel_rfl
theorem call38: ∀ xs w,(callFunc 38 xs).run Tryz.prog w = .ok (.enter 38 xs) w:=fun _ _=>by kernel_rfl
theorem call39: ∀ xs w,(callFunc 39 xs).run Tryz.prog w = .ok (.enter 39 xs) w:=fun _ _=>by kernel_rfl
theorem call40: ∀ xs w,(callFunc 40 xs).run Tryz.prog w = .ok (.enter 40 xs) w:=fun _ _=>by kernel_rfl
theorem call41: ∀ xs w,(callFunc 41 xs).run Tryz.prog w = .ok (.enter 41 xs) w:=fun _ _=>by kernel_rfl
theorem call42: ∀ xs w,(callFunc 42 xs).run Tryz.prog w = .ok (.enter 42 xs) w:=fun _ _=>by kernel_rfl
theorem call43: ∀ xs w,(callFunc 43 xs).run Tryz.prog w = .ok (.enter 43 xs) w:=fun _ _=>by kernel_rfl
theorem call44: ∀ xs w,(callFunc 44 xs).run Tryz.prog w = .ok (.enter 44 xs) w:=fun _ _=>by kernel_rfl
theorem call45: ∀ xs w,(callFunc 45 xs).run Tryz.prog w = .ok (.enter 45 xs) w:=fun _ _=>by kernel_rfl
theorem call46: ∀ xs w,(callFunc 46 xs).run Tryz.prog w = .ok (.enter 46 xs) w:=fun _ _=>by kernel_rfl
theorem call47: ∀ xs w,(callFunc 47 xs).run Tryz.prog w = .ok (.enter 47 xs) w:=fun _ _=>by kernel_rfl
theorem call48: ∀ xs w,(callFunc 48 xs).run Tryz.prog w = .ok (.enter 48 xs) w:=fun _ _=>by kernel_rfl
theorem call49: ∀ xs w,(callFunc 49 xs).run Tryz.prog w = .ok (.enter 49 xs) w:=fun _ _=>by kernel_rfl
theorem call50: ∀ xs w,(callFunc 50 xs).run Tryz.prog w = .ok (.enter 50 xs) w:=fun _ _=>by kernel_rfl
theorem call51: ∀ xs w,(callFunc 51 xs).run Tryz.prog w = .ok (.enter 51 xs) w:=fun _ _=>by kernel_rfl
theorem call52: ∀ xs w,(callFunc 52 xs).run Tryz.prog w = .ok (.enter 52 xs) w:=fun _ _=>by kernel_rfl
theorem call53: ∀ xs w,(callFunc 53 xs).run Tryz.prog w = .ok (.enter 53 xs) w:=fun _ _=>by kernel_rfl
theorem call54: ∀ xs w,(callFunc 54 xs).run Tryz.prog w = .ok (.enter 54 xs) w:=fun _ _=>by kernel_rfl
theorem call55: ∀ xs w,(callFunc 55 xs).run Tryz.prog w = .ok (.enter 55 xs) w:=fun _ _=>by kernel_rfl
theorem call56: ∀ xs w,(callFunc 56 xs).run Tryz.prog w = .ok (.enter 56 xs) w:=fun _ _=>by kernel_rfl
theorem call57: ∀ xs w,(callFunc 57 xs).run Tryz.prog w = .ok (.enter 57 xs) w:=fun _ _=>by kernel_rfl
theorem call58: ∀ xs w,(callFunc 58 xs).run Tryz.prog w = .ok (.enter 58 xs) w:=fun _ _=>by kernel_rfl
theorem call59: ∀ xs w,(callFunc 59 xs).run Tryz.prog w = .ok (.enter 59 xs) w:=fun _ _=>by kernel_rfl
theorem call60: ∀ xs w,(callFunc 60 xs).run Tryz.prog w = .ok (.enter 60 xs) w:=fun _ _=>by kernel_rfl
theorem call61: ∀ xs w,(callFunc 61 xs).run Tryz.prog w = .ok (.enter 61 xs) w:=fun _ _=>by kernel_rfl
theorem call62: ∀ xs w,(callFunc 62 xs).run Tryz.prog w = .ok (.enter 62 xs) w:=fun _ _=>by kernel_rfl
theorem call63: ∀ xs w,(callFunc 63 xs).run Tryz.prog w = .ok (.enter 63 xs) w:=fun _ _=>by kernel_rfl
theorem call66: ∀ xs w,(callFunc 66 xs).run Tryz.prog w = .ok (.enter 66 xs) w:=fun _ _=>by kernel_rfl
theorem call67: ∀ xs w,(callFunc 67 xs).run Tryz.prog w = .ok (.enter 67 xs) w:=fun _ _=>by kernel_rfl
theorem call68: ∀ xs w,(callFunc 68 xs).run Tryz.prog w = .ok (.enter 68 xs) w:=fun _ _=>by kernel_rfl
theorem call69: ∀ xs w,(callFunc 69 xs).run Tryz.prog w = .ok (.enter 69 xs) w:=fun _ _=>by kernel_rfl
theorem call70: ∀ xs w,(callFunc 70 xs).run Tryz.prog w = .ok (.enter 70 xs) w:=fun _ _=>by kernel_rfl
theorem call71: ∀ xs w,(callFunc 71 xs).run Tryz.prog w = .ok (.enter 71 xs) w:=fun _ _=>by kernel_rfl
theorem call72: ∀ xs w,(callFunc 72 xs).run Tryz.prog w = .ok (.enter 72 xs) w:=fun _ _=>by kernel_rfl
theorem call73: ∀ xs w,(callFunc 73 xs).run Tryz.prog w = .ok (.enter 73 xs) w:=fun _ _=>by kernel_rfl
theorem call74: ∀ xs w,(callFunc 74 xs).run Tryz.prog w = .ok (.enter 74 xs) w:=fun _ _=>by kernel_rfl
theorem call75: ∀ xs w,(callFunc 75 xs).run Tryz.prog w = .ok (.enter 75 xs) w:=fun _ _=>by kernel_rfl
theorem call76: ∀ xs w,(callFunc 76 xs).run Tryz.prog w = .ok (.enter 76 xs) w:=fun _ _=>by kernel_rfl
theorem call77: ∀ xs w,(callFunc 77 xs).run Tryz.prog w = .ok (.enter 77 xs) w:=fun _ _=>by kernel_rfl
theorem call78: ∀ xs w,(callFunc 78 xs).run Tryz.prog w = .ok (.enter 78 xs) w:=fun _ _=>by kernel_rfl
theorem call79: ∀ xs w,(callFunc 79 xs).run Tryz.prog w = .ok (.enter 79 xs) w:=fun _ _=>by kernel_rfl
theorem call80: ∀ xs w,(callFunc 80 xs).run Tryz.prog w = .ok (.enter 80 xs) w:=fun _ _=>by kernel_rfl
theorem call81: ∀ xs w,(callFunc 81 xs).run Tryz.prog w = .ok (.enter 81 xs) w:=fun _ _=>by kernel_rfl
theorem call82: ∀ xs w,(callFunc 82 xs).run Tryz.prog w = .ok (.enter 82 xs) w:=fun _ _=>by kernel_rfl
theorem call94: ∀ xs w,(callFunc 94 xs).run Tryz.prog w = .ok (.enter 94 xs) w:=fun _ _=>by kernel_rfl
theorem call95: ∀ xs w,(callFunc 95 xs).run Tryz.prog w = .ok (.enter 95 xs) w:=fun _ _=>by kernel_rfl
theorem bool_eql' (a b:Bool):pureRun Tryz.prog ((pure ():Sem Unit) >>= fun _=>Go.binOp .eql 4 (.bool a) (.bool b))=some (.bool (a==b)):=binV_bool_eql Tryz.underlying4 (.tmp 0) (.tmp 0) a b
theorem bool_neq' (a b:Bool):pureRun Tryz.prog ((pure ():Sem Unit) >>= fun _=>Go.binOp .neq 4 (.bool a) (.bool b))=some (.bool (!(a==b))):=binV_bool_neq Tryz.underlying4 (.tmp 0) (.tmp 0) a b
attribute [go_sem] bool_eql' bool_neq'
set_option maxRecDepth 100000 in
theorem eqs40 (x y:Operand) (a0:Int) (a1:Int) (b0:Int) (b1:Int):binV Tryz.prog .eql 40 x y (.agg #[.int .i64 a0,.int .i64 a1]) (.agg #[.int .i64 b0,.int .i64 b1])=some (.bool ((a0==b0)&&((a1==b1)&&true)))∧binV Tryz.prog .neq 40 x y (.agg #[.int .i64 a0,.int .i64 a1]) (.agg #[.int .i64 b0,.int .i64 b1])=some (.bool (!((a0==b0)&&((a1==b1)&&true)))):=binV_agg Tryz.underlying40 (by kernel_rfl) (by kernel_rfl) (eqFields_cons (by decide) (pureRun_part Tryz.underlying3 rfl rfl) (pureRun_part Tryz.underlying3 rfl rfl) (pureRun_equalIn_int Tryz.underlying3) (eqFields_cons (by decide) (pureRun_part Tryz.underlying3 rfl rfl) (pureRun_part Tryz.underlying3 rfl rfl) (pureRun_equalIn_int Tryz.underlying3) eqFields_nil))
theorem eqa40 (x y:Operand) (a0:Int) (a1:Int) (b0:Int) (b1:Int):pureRun Tryz.prog (do eqGuard .eql 40 x y (.agg #[.int .i64 a0,.int .i64 a1]) (.agg #[.int .i64 b0,.int .i64 b1]);Go.binOp .eql 40 (.agg #[.int .i64 a0,.int .i64 a1]) (.agg #[.int .i64 b0,.int .i64 b1]))=some (.bool ((a0==b0)&&((a1==b1)&&true))):=(eqs40 x y a0 a1 b0 b1).1
theorem nea40 (x y:Operand) (a0:Int) (a1:Int) (b0:Int) (b1:Int):pureRun Tryz.prog (do eqGuard .neq 40 x y (.agg #[.int .i64 a0,.int .i64 a1]) (.agg #[.int .i64 b0,.int .i64 b1]);Go.binOp .neq 40 (.agg #[.int .i64 a0,.int .i64 a1]) (.agg #[.int .i64 b0,.int .i64 b1]))=some (.bool (!((a0==b0)&&((a1==b1)&&true)))):=(eqs40 x y a0 a1 b0 b1).2
attribute [go_sem] eqa40 nea40
set_option maxRecDepth 100000 in
theorem eqs60 (x y:Operand) (a0:Int) (a1:Int) (b0:Int) (b1:Int):binV Tryz.prog .eql 60 x y (.agg #[.int .i64 a0,.int .i64 a1]) (.agg #[.int .i64 b0,.int .i64 b1])=some (.bool ((a0==b0)&&((a1==b1)&&true)))∧binV Tryz.prog .neq 60 x y (.agg #[.int .i64 a0,.int .i64 a1]) (.agg #[.int .i64 b0,.int .i64 b1])=some (.bool (!((a0==b0)&&((a1==b1)&&true)))):=binV_agg Tryz.underlying60 (by kernel_rfl) (by kernel_rfl) (eqFields_cons (by decide) (pureRun_part Tryz.underlying3 rfl rfl) (pureRun_part Tryz.underlying3 rfl rfl) (pureRun_equalIn_int Tryz.underlying3) (eqFields_cons (by decide) (pureRun_part Tryz.underlying3 rfl rfl) (pureRun_part Tryz.underlying3 rfl rfl) (pureRun_equalIn_int Tryz.underlying3) eqFields_nil))
theorem eqa60 (x y:Operand) (a0:Int) (a1:Int) (b0:Int) (b1:Int):pureRun Tryz.prog (do eqGuard .eql 60 x y (.agg #[.int .i64 a0,.int .i64 a1]) (.agg #[.int .i64 b0,.int .i64 b1]);Go.binOp .eql 60 (.agg #[.int .i64 a0,.int .i64 a1]) (.agg #[.int .i64 b0,.int .i64 b1]))=some (.bool ((a0==b0)&&((a1==b1)&&true))):=(eqs60 x y a0 a1 b0 b1).1
theorem nea60 (x y:Operand) (a0:Int) (a1:Int) (b0:Int) (b1:Int):pureRun Tryz.prog (do eqGuard .neq 60 x y (.agg #[.int .i64 a0,.int .i64 a1]) (.agg #[.int .i64 b0,.int .i64 b1]);Go.binOp .neq 60 (.agg #[.int .i64 a0,.int .i64 a1]) (.agg #[.int .i64 b0,.int .i64 b1]))=some (.bool (!((a0==b0)&&((a1==b1)&&true)))):=(eqs60 x y a0 a1 b0 b1).2
attribute [go_sem] eqa60 nea60
theorem len_str (s:ByteArray):pureRun Tryz.prog (Builtin.len_ #[9] 0 #[.string s])=some (.int .i64 s.size):=by
 show pureRun Tryz.prog (underlying 9 >>= _)=_
 rw [pureRun_bind,pureRun_underlying Tryz.underlying9]
 rfl
attribute [go_sem] len_str
theorem mix:Tryz.prog.follows .mixedOrders=true:=by kernel_rfl
end Go.Proofs.YtmgodadmafcliaaGreat
/- What the chain's functions and the reference's compute, as plain Lean; the walks of the first of them. -/
set_option linter.unusedSimpArgs false
set_option linter.unusedVariables false
namespace Go.Proofs.YtmgodadmafcliaaGreat
open Go.RowKit Go.Avm
def rowI (z:Int):List D:=[.sc (.int .i64 z)]
structure Ver where
 from_:Int
 to:Int
 size:Int
 pages:List Int
 deriving DecidableEq
def rowV (v:Ver):List D:=[.sc (.int .i64 v.from_), .sc (.int .i64 v.to), .sc (.int .i64 v.size), .sl 1 (v.pages.map rowI)]
def holdsF (f t c:Int):Bool:=decide (f≤c)&&(decide (c<t)||decide (t=0))
def findN (c:Int):List Ver→Nat→Int×Bool
 | [],_=>(0,false)
 | v::vs,k=>if holdsF v.from_ v.to c then (k,true) else findN c vs (k+1)
def validV (prev:Option Ver):List Ver→Int
 | []=>0
 | v::vs=>if v.from_<1∨v.to<0∨v.size<0 then 5 else if v.to≠0∧v.to≤v.from_ then 19 else
    match prev with
    | some p=>if p.to=0∨v.from_<p.to then 19 else validV (some v) vs
    | none=>validV (some v) vs
def prevV (vs:List Ver) (k:Nat):Option Ver:=if k=0 then none else vs[k-1]?
set_option maxRecDepth 100000 in set_option maxHeartbeats 1600000 in
theorem rholdsf_calls {f t c:Int}:ACalls Tryz.prog 69 [.sc (.int .i64 f), .sc (.int .i64 t), .sc (.int .i64 c)] (.sc (.bool (holdsF f t c))) []:=by
 refine of_tri [] [] Tryz.func69 rfl call69 rfl (by decide) (by decide) rfl rfl Tryz.ntmps69 (by simp (disch:=omega) only [seval,go_sem,cnd,intV,shV,convV,strV,List.replicate,l_2,l_1];rfl) (by simp (disch:=omega) only [seval,go_sem,cnd,intV,shV,convV,strV,l_2,l_1];rfl) ?_
 ((repeat' (first|(with_reducible (first|refine Tri.seq ?_|refine Tri.ret ?_|refine TriD.nil ?_|refine thenQ_n ?_|refine Tri.regionD (by simp only [l_3,l_4];rfl) ?_))|((with_reducible refine isTriD ?_);(with_reducible first|refine TriD.step (by simp only [seval,go_sem];rfl) ?_|refine TriD.step (by simp (disch:=omega) only [seval,go_sem,cnd,intV,shV,convV,strV];rfl) ?_|refine TriD.byGuard (by simp only [seval,go_sem];rfl) (by simp only [seval,go_sem];rfl) (by (fail_if_success (with_reducible exact nlT));(fail_if_success (with_reducible exact nlF));exact nlI) (cvI ?_) (cvI ?_)))|(with_reducible refine isCv ?_;intro hc;(try simp only [bls,reduceCtorEq] at hc);(try (exfalso;omega)))|(with_reducible refine isRet ?_;refine RetOK.q rfl rfl (by simp only [seval,go_sem];rfl) (by decide) (by simp only [seval,go_sem];rfl) (by simp only [seval,go_sem];rfl) rfl ?_<;>(try simp only [seval,go_sem])<;>(repeat' (with_reducible apply And.intro))<;>(try rfl))))<;>(try (fail)))
 all_goals (simp [holdsF, *])
 all_goals omega
set_option maxRecDepth 100000 in set_option maxHeartbeats 1600000 in
theorem rfind_calls {vs:List Ver} {c:Int} (hl:vs.length≤100000):ACalls Tryz.prog 75 [.sl 4 (vs.map rowV), .sc (.int .i64 c)] (.tup [.sc (.int .i64 (findN c vs 0).1), .sc (.bool (findN c vs 0).2)]) []:=by
 refine of_tri [] [24] Tryz.func75 rfl call75 rfl (by decide) (by decide) rfl rfl Tryz.ntmps75 (by simp (disch:=omega) only [seval,go_sem,cnd,intV,shV,convV,strV,List.replicate,l_2,l_1];rfl) (by simp (disch:=omega) only [seval,go_sem,cnd,intV,shV,convV,strV,l_2,l_1];rfl) ?_
 ((repeat' (first|(with_reducible (first|refine Tri.seq ?_|refine Tri.block ?_|refine TriD.nil ?_|refine thenQ_n ?_|refine Tri.regionD (by simp only [l_3,l_4];rfl) ?_))|((with_reducible refine isTriD ?_);(with_reducible refine TriD.step (by simp only [seval,go_sem];rfl) ?_))))<;>(try (fail)))
 (with_reducible refine Tri.loopU (fun (k:Nat)=>[(6,.sc (.int .i64 k)),(4,.any),(5,.any),(7,.any),(8,.any),(9,.any),(10,.any),(11,.any),(12,.any),(13,.any),(14,.any),(15,.any),(16,.any),(17,.any),(18,.any),(19,.any),(20,.any),(21,.any),(22,.any),(23,.any),(24,.any),(25,.any)]) (fun (k:Nat)=>[(24,.dead)]) (fun (k:Nat)=>k≤vs.length∧findN c (vs.drop k) k=findN c vs 0) (fun (k:Nat)=>vs.length-k) (0) (⟨Nat.zero_le _,rfl⟩) (by intro _;simp (disch:=omega) only [seval,go_sem,cnd,intV,shV,convV,strV];rfl) (by intro _;simp (disch:=omega) only [seval,go_sem,cnd,intV,shV,convV,strV];rfl) (by (refine leQL_spec ?_);(try simp only [seval,go_sem]);done) (by (refine leQH_spec ?_);(try simp only [seval,go_sem]);done) (fun k hI=>?_))
 obtain ⟨hk,hf⟩:=hI
 by_cases hlt:k<vs.length
 ·obtain ⟨v,hv⟩:=get_lt hlt
  have hv':=get_map rowV hv
  ((repeat' (first|(with_reducible (first|refine Tri.seq ?_|refine Tri.block ?_|refine Tri.skip ?_|refine Tri.ret ?_|refine TriD.nil ?_|refine ListD.nil ?_|refine thenQ_n ?_|refine thenQ_r ?_|refine inBlockQ_n ?_|refine inBlockQ_r ?_|refine loopQ_n ?_|refine loopQ_r ?_|refine Tri.regionD (by simp only [l_3,l_4];rfl) ?_))|((with_reducible refine isTriD ?_);(with_reducible first|refine TriD.step (by simp only [seval,go_sem,hv',rowV];rfl) ?_|refine TriD.step (by simp (disch:=omega) only [seval,go_sem,cnd,intV,shV,convV,strV,hv',rowV];rfl) ?_))|((with_reducible refine isListD ?_);first|(with_reducible refine ListD.step (by simp only [seval,go_sem,hv',rowV];rfl) ?_)|((with_reducible refine isCallV ?_);((with_reducible (refine ListD.dE (by simp only [seval,go_sem,hv',rowV];rfl) (by simp only [seval,go_sem,hv',rowV];rfl) ?_));refine CallW.c (rholdsf_calls) (by simp only [seval,go_sem,hv',rowV];rfl) ?_))|(with_reducible refine ListD.step (by simp (disch:=omega) only [seval,go_sem,cnd,intV,shV,convV,strV,hv',rowV];rfl) ?_))|(with_reducible refine isCond ?_;with_reducible refine Tri.cond (by simp only [seval,go_sem,hv',rowV];rfl) (cvI ?_) (cvI ?_))|(with_reducible refine isCv ?_;intro hc;(try simp only [bls,reduceCtorEq] at hc);(try (exfalso;omega)))|(with_reducible refine isDrawn ?_;refine Tri.drawnD mix (by kernel_rfl) (by simp only [l_3,l_4];rfl) ?_)|(with_reducible refine isRet ?_;refine RetOK.q rfl rfl (by simp only [seval,go_sem];rfl) (by decide) (by simp only [seval,go_sem];rfl) (by simp only [seval,go_sem];rfl) rfl ?_<;>(try simp only [seval,go_sem])<;>(repeat' (with_reducible apply And.intro))<;>(try rfl))))<;>(try (fail)))
  all_goals (try (refine isNext (k+1) ?_ ?_ ?_ ?_<;>(first|((first|refine leQL_spec ?_|refine leQH_spec ?_)<;>(try simp only [seval,go_sem])<;>(repeat' (with_reducible apply And.intro))<;>(try rfl))|skip)<;>(try (omega))))
  all_goals first|omega|(refine ⟨by omega,?_⟩;rw [← hf,drop_get hv];simp [findN, *];done)|(rw [← hf,drop_get hv];simp [findN, *])
 ·((repeat' (first|(with_reducible (first|refine Tri.seq ?_|refine Tri.exit ?_|refine Tri.ret ?_|refine TriD.nil ?_|refine thenQ_n ?_|refine thenQ_e ?_|refine inBlockQ_e ?_|refine loopQ_e ?_|refine Tri.regionD (by simp only [l_3,l_4];rfl) ?_))|((with_reducible refine isTriD ?_);(with_reducible first|refine TriD.step (by simp only [seval,go_sem];rfl) ?_|refine TriD.step (by simp (disch:=omega) only [seval,go_sem,cnd,intV,shV,convV,strV];rfl) ?_))|(with_reducible refine isCond ?_;with_reducible refine Tri.cond (by simp only [seval,go_sem];rfl) (cvI ?_) (cvI ?_))|(with_reducible refine isCv ?_;intro hc;(try simp only [bls,reduceCtorEq] at hc);(try (exfalso;omega)))|(with_reducible refine isRet ?_;refine RetOK.q rfl rfl (by simp only [seval,go_sem];rfl) (by decide) (by simp only [seval,go_sem];rfl) (by simp only [seval,go_sem];rfl) rfl ?_<;>(try simp only [seval,go_sem])<;>(repeat' (with_reducible apply And.intro))<;>(try rfl))))<;>(try (fail)))
  all_goals (rw [← hf,List.drop_eq_nil_of_le (by omega)];simp [findN])
end Go.Proofs.YtmgodadmafcliaaGreat
