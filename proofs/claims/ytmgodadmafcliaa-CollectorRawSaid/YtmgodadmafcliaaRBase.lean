/- The facts about the types of the program that the machine asks. -/
import Derived.Test.YtmgodadmafcliaaRows
import Derived.Test.YtmgodadmafcliaaRAvmR
set_option linter.unusedSimpArgs false
set_option linter.unusedVariables false
namespace Go.Proofs.Ytmgodadmafcliaa
open Go.RowKit Go.Avm
theorem ti1:tiGet Try.prog 1=some ⟨1,8, .nilFunc, .func⟩:=by kernel_rfl
theorem ti2:tiGet Try.prog 2=some ⟨1,8, .int .i64 0, .int .i64⟩:=by kernel_rfl
theorem ti3:tiGet Try.prog 3=some ⟨1,8, .int .i64 0, .int .i64⟩:=by kernel_rfl
theorem ti4:tiGet Try.prog 4=some ⟨1,1, .bool false, .bool⟩:=by kernel_rfl
theorem ti5:tiGet Try.prog 5=some ⟨1,1, .int .u8 0, .int .u8⟩:=by kernel_rfl
theorem ti6:tiGet Try.prog 6=some ⟨1,1, .int .u8 0, .int .u8⟩:=by kernel_rfl
theorem ti7:tiGet Try.prog 7=some ⟨4,24, .agg #[.int .i64 0, .int .i64 0, .bool false, .int .u8 0], .struct [(0,2),(1,3),(2,4),(3,6)]⟩:=by kernel_rfl
theorem ti8:tiGet Try.prog 8=some ⟨4,24, .agg #[.int .i64 0, .int .i64 0, .bool false, .int .u8 0], .struct [(0,2),(1,3),(2,4),(3,6)]⟩:=by kernel_rfl
theorem ti9:tiGet Try.prog 9=some ⟨1,16, .string ByteArray.empty, .string⟩:=by kernel_rfl
theorem ti10:tiGet Try.prog 10=some ⟨1,16, .string ByteArray.empty, .string⟩:=by kernel_rfl
theorem ti11:tiGet Try.prog 11=some ⟨1,16, .string ByteArray.empty, .string⟩:=by kernel_rfl
theorem ti12:tiGet Try.prog 12=some ⟨1,8, .int .u64 0, .int .u64⟩:=by kernel_rfl
theorem ti13:tiGet Try.prog 13=some ⟨2,24, .agg #[.string ByteArray.empty, .int .u64 0], .struct [(0,9),(1,12)]⟩:=by kernel_rfl
theorem ti14:tiGet Try.prog 14=some ⟨2,24, .agg #[.string ByteArray.empty, .int .u64 0], .struct [(0,9),(1,12)]⟩:=by kernel_rfl
theorem ti15:tiGet Try.prog 15=some ⟨1,8, .pointer none, .ptr 200⟩:=by kernel_rfl
theorem ti16:tiGet Try.prog 16=some ⟨1,8, .pointer none, .ptr 203⟩:=by kernel_rfl
theorem ti17:tiGet Try.prog 17=some ⟨1,8, .pointer none, .ptr 212⟩:=by kernel_rfl
theorem ti18:tiGet Try.prog 18=some ⟨1,8, .agg #[.pointer none], .struct [(0,17)]⟩:=by kernel_rfl
theorem ti19:tiGet Try.prog 19=some ⟨1,8, .agg #[.pointer none], .struct [(0,17)]⟩:=by kernel_rfl
theorem ti20:tiGet Try.prog 20=some ⟨1,16, .nilIface, .other⟩:=by kernel_rfl
theorem ti21:tiGet Try.prog 21=some ⟨1,4, .int .i32 0, .int .i32⟩:=by kernel_rfl
theorem ti22:tiGet Try.prog 22=some ⟨1,24, .slice none 0 0, .slice 3⟩:=by kernel_rfl
theorem ti23:tiGet Try.prog 23=some ⟨7,56, .agg #[.int .i64 0, .int .i64 0, .int .i64 0, .int .i64 0, .int .i64 0, .int .i64 0, .int .i64 0], .struct [(0,3),(1,3),(2,3),(3,3),(4,3),(5,3),(6,3)]⟩:=by kernel_rfl
theorem ti24:tiGet Try.prog 24=some ⟨7,56, .agg #[.int .i64 0, .int .i64 0, .int .i64 0, .int .i64 0, .int .i64 0, .int .i64 0, .int .i64 0], .struct [(0,3),(1,3),(2,3),(3,3),(4,3),(5,3),(6,3)]⟩:=by kernel_rfl
theorem ti25:tiGet Try.prog 25=some ⟨1,24, .slice none 0 0, .slice 77⟩:=by kernel_rfl
theorem ti26:tiGet Try.prog 26=some ⟨1,24, .slice none 0 0, .slice 73⟩:=by kernel_rfl
theorem ti27:tiGet Try.prog 27=some ⟨1,24, .slice none 0 0, .slice 58⟩:=by kernel_rfl
theorem ti28:tiGet Try.prog 28=some ⟨1,24, .slice none 0 0, .slice 55⟩:=by kernel_rfl
theorem ti29:tiGet Try.prog 29=some ⟨2,32, .agg #[.int .i64 0, .slice none 0 0], .struct [(0,3),(1,28)]⟩:=by kernel_rfl
theorem ti30:tiGet Try.prog 30=some ⟨2,32, .agg #[.int .i64 0, .slice none 0 0], .struct [(0,3),(1,28)]⟩:=by kernel_rfl
theorem ti31:tiGet Try.prog 31=some ⟨14,176, .agg #[.int .i64 0, .int .i64 0, .int .i64 0, .int .i64 0, .int .i64 0, .int .i64 0, .int .i64 0, .int .i64 0, .int .i64 0, .slice none 0 0, .slice none 0 0, .slice none 0 0, .int .i64 0, .slice none 0 0], .struct [(0,24),(7,3),(8,3),(9,25),(10,26),(11,27),(12,30)]⟩:=by kernel_rfl
theorem ti32:tiGet Try.prog 32=some ⟨14,176, .agg #[.int .i64 0, .int .i64 0, .int .i64 0, .int .i64 0, .int .i64 0, .int .i64 0, .int .i64 0, .int .i64 0, .int .i64 0, .slice none 0 0, .slice none 0 0, .slice none 0 0, .int .i64 0, .slice none 0 0], .struct [(0,24),(7,3),(8,3),(9,25),(10,26),(11,27),(12,30)]⟩:=by kernel_rfl
theorem ti33:tiGet Try.prog 33=some ⟨1,8, .nilFunc, .func⟩:=by kernel_rfl
theorem ti34:tiGet Try.prog 34=some ⟨5,104, .agg #[.int .i64 0, .slice none 0 0, .slice none 0 0, .slice none 0 0, .slice none 0 0], .struct [(0,3),(1,25),(2,26),(3,27),(4,28)]⟩:=by kernel_rfl
theorem ti35:tiGet Try.prog 35=some ⟨5,104, .agg #[.int .i64 0, .slice none 0 0, .slice none 0 0, .slice none 0 0, .slice none 0 0], .struct [(0,3),(1,25),(2,26),(3,27),(4,28)]⟩:=by kernel_rfl
theorem ti36:tiGet Try.prog 36=some ⟨1,8, .nilFunc, .func⟩:=by kernel_rfl
theorem ti37:tiGet Try.prog 37=some ⟨1,8, .nilFunc, .func⟩:=by kernel_rfl
theorem ti38:tiGet Try.prog 38=some ⟨1,8, .int .i64 0, .int .i64⟩:=by kernel_rfl
theorem ti39:tiGet Try.prog 39=some ⟨1,8, .nilFunc, .func⟩:=by kernel_rfl
theorem ti40:tiGet Try.prog 40=some ⟨1,8, .nilFunc, .func⟩:=by kernel_rfl
theorem ti41:tiGet Try.prog 41=some ⟨1,8, .nilFunc, .func⟩:=by kernel_rfl
theorem ti42:tiGet Try.prog 42=some ⟨1,8, .nilFunc, .func⟩:=by kernel_rfl
theorem ti43:tiGet Try.prog 43=some ⟨1,8, .nilFunc, .func⟩:=by kernel_rfl
theorem ti44:tiGet Try.prog 44=some ⟨1,8, .nilFunc, .func⟩:=by kernel_rfl
theorem ti45:tiGet Try.prog 45=some ⟨1,8, .nilFunc, .func⟩:=by kernel_rfl
theorem ti46:tiGet Try.prog 46=some ⟨1,8, .nilFunc, .func⟩:=by kernel_rfl
theorem ti47:tiGet Try.prog 47=some ⟨1,24, .slice none 0 0, .slice 52⟩:=by kernel_rfl
theorem ti48:tiGet Try.prog 48=some ⟨1,8, .nilFunc, .func⟩:=by kernel_rfl
theorem ti50:tiGet Try.prog 50=some ⟨1,8, .nilFunc, .func⟩:=by kernel_rfl
theorem ti51:tiGet Try.prog 51=some ⟨2,16, .agg #[.int .i64 0, .int .i64 0], .struct [(0,3),(1,3)]⟩:=by kernel_rfl
theorem ti52:tiGet Try.prog 52=some ⟨2,16, .agg #[.int .i64 0, .int .i64 0], .struct [(0,3),(1,3)]⟩:=by kernel_rfl
theorem ti53:tiGet Try.prog 53=some ⟨1,24, .slice none 0 0, .slice 5⟩:=by kernel_rfl
theorem ti54:tiGet Try.prog 54=some ⟨3,40, .agg #[.int .i64 0, .int .i64 0, .slice none 0 0], .struct [(0,3),(1,3),(2,53)]⟩:=by kernel_rfl
theorem ti55:tiGet Try.prog 55=some ⟨3,40, .agg #[.int .i64 0, .int .i64 0, .slice none 0 0], .struct [(0,3),(1,3),(2,53)]⟩:=by kernel_rfl
theorem ti56:tiGet Try.prog 56=some ⟨1,8, .nilFunc, .func⟩:=by kernel_rfl
theorem ti57:tiGet Try.prog 57=some ⟨2,16, .agg #[.int .i64 0, .int .i64 0], .struct [(0,3),(1,3)]⟩:=by kernel_rfl
theorem ti58:tiGet Try.prog 58=some ⟨2,16, .agg #[.int .i64 0, .int .i64 0], .struct [(0,3),(1,3)]⟩:=by kernel_rfl
theorem ti59:tiGet Try.prog 59=some ⟨1,8, .nilFunc, .func⟩:=by kernel_rfl
theorem ti60:tiGet Try.prog 60=some ⟨1,8, .nilFunc, .func⟩:=by kernel_rfl
theorem ti61:tiGet Try.prog 61=some ⟨2,16, .agg #[.int .i64 0, .int .i64 0], .struct [(0,3),(1,3)]⟩:=by kernel_rfl
theorem ti62:tiGet Try.prog 62=some ⟨1,8, .nilFunc, .func⟩:=by kernel_rfl
theorem ti64:tiGet Try.prog 64=some ⟨1,8, .nilFunc, .func⟩:=by kernel_rfl
theorem ti65:tiGet Try.prog 65=some ⟨1,8, .int .u64 0, .int .u64⟩:=by kernel_rfl
theorem ti66:tiGet Try.prog 66=some ⟨1,8, .nilFunc, .func⟩:=by kernel_rfl
theorem ti67:tiGet Try.prog 67=some ⟨1,8, .nilFunc, .func⟩:=by kernel_rfl
theorem ti68:tiGet Try.prog 68=some ⟨1,8, .nilFunc, .func⟩:=by kernel_rfl
theorem ti69:tiGet Try.prog 69=some ⟨1,8, .nilFunc, .func⟩:=by kernel_rfl
theorem ti70:tiGet Try.prog 70=some ⟨1,8, .nilFunc, .func⟩:=by kernel_rfl
theorem ti71:tiGet Try.prog 71=some ⟨1,8, .nilFunc, .func⟩:=by kernel_rfl
theorem ti72:tiGet Try.prog 72=some ⟨4,40, .agg #[.string ByteArray.empty, .int .i64 0, .int .i64 0, .int .i64 0], .struct [(0,9),(1,3),(2,3),(3,3)]⟩:=by kernel_rfl
theorem ti73:tiGet Try.prog 73=some ⟨4,40, .agg #[.string ByteArray.empty, .int .i64 0, .int .i64 0, .int .i64 0], .struct [(0,9),(1,3),(2,3),(3,3)]⟩:=by kernel_rfl
theorem ti74:tiGet Try.prog 74=some ⟨1,8, .nilFunc, .func⟩:=by kernel_rfl
theorem ti75:tiGet Try.prog 75=some ⟨1,24, .slice none 0 0, .slice 86⟩:=by kernel_rfl
theorem ti76:tiGet Try.prog 76=some ⟨2,32, .agg #[.int .i64 0, .slice none 0 0], .struct [(0,3),(1,75)]⟩:=by kernel_rfl
theorem ti77:tiGet Try.prog 77=some ⟨2,32, .agg #[.int .i64 0, .slice none 0 0], .struct [(0,3),(1,75)]⟩:=by kernel_rfl
theorem ti78:tiGet Try.prog 78=some ⟨1,8, .nilFunc, .func⟩:=by kernel_rfl
theorem ti79:tiGet Try.prog 79=some ⟨1,8, .nilFunc, .func⟩:=by kernel_rfl
theorem ti80:tiGet Try.prog 80=some ⟨1,8, .nilFunc, .func⟩:=by kernel_rfl
theorem ti81:tiGet Try.prog 81=some ⟨1,24, .slice none 0 0, .slice 39⟩:=by kernel_rfl
theorem ti82:tiGet Try.prog 82=some ⟨1,8, .nilFunc, .func⟩:=by kernel_rfl
theorem ti83:tiGet Try.prog 83=some ⟨1,24, .slice none 0 0, .slice 88⟩:=by kernel_rfl
theorem ti84:tiGet Try.prog 84=some ⟨1,8, .nilFunc, .func⟩:=by kernel_rfl
theorem ti85:tiGet Try.prog 85=some ⟨4,48, .agg #[.int .i64 0, .int .i64 0, .int .i64 0, .slice none 0 0], .struct [(0,3),(1,3),(2,3),(3,22)]⟩:=by kernel_rfl
theorem ti86:tiGet Try.prog 86=some ⟨4,48, .agg #[.int .i64 0, .int .i64 0, .int .i64 0, .slice none 0 0], .struct [(0,3),(1,3),(2,3),(3,22)]⟩:=by kernel_rfl
theorem ti87:tiGet Try.prog 87=some ⟨5,56, .agg #[.int .i64 0, .int .i64 0, .int .i64 0, .int .i64 0, .slice none 0 0], .struct [(0,3),(1,86)]⟩:=by kernel_rfl
theorem ti88:tiGet Try.prog 88=some ⟨5,56, .agg #[.int .i64 0, .int .i64 0, .int .i64 0, .int .i64 0, .slice none 0 0], .struct [(0,3),(1,86)]⟩:=by kernel_rfl
theorem ti89:tiGet Try.prog 89=some ⟨1,8, .nilFunc, .func⟩:=by kernel_rfl
theorem ti90:tiGet Try.prog 90=some ⟨1,8, .nilFunc, .func⟩:=by kernel_rfl
theorem ti91:tiGet Try.prog 91=some ⟨1,8, .nilFunc, .func⟩:=by kernel_rfl
theorem ti92:tiGet Try.prog 92=some ⟨1,8, .nilFunc, .func⟩:=by kernel_rfl
theorem ti94:tiGet Try.prog 94=some ⟨1,8, .nilFunc, .func⟩:=by kernel_rfl
theorem ti95:tiGet Try.prog 95=some ⟨1,8, .nilFunc, .func⟩:=by kernel_rfl
theorem ti97:tiGet Try.prog 97=some ⟨1,8, .nilFunc, .func⟩:=by kernel_rfl
theorem ti98:tiGet Try.prog 98=some ⟨1,24, .slice none 0 0, .slice 101⟩:=by kernel_rfl
theorem ti99:tiGet Try.prog 99=some ⟨1,8, .nilFunc, .func⟩:=by kernel_rfl
theorem ti100:tiGet Try.prog 100=some ⟨5,56, .agg #[.int .i64 0, .int .i64 0, .int .i64 0, .int .i64 0, .slice none 0 0], .struct [(0,3),(1,86)]⟩:=by kernel_rfl
theorem ti101:tiGet Try.prog 101=some ⟨5,56, .agg #[.int .i64 0, .int .i64 0, .int .i64 0, .int .i64 0, .slice none 0 0], .struct [(0,3),(1,86)]⟩:=by kernel_rfl
theorem ti102:tiGet Try.prog 102=some ⟨1,8, .nilFunc, .func⟩:=by kernel_rfl
theorem ti103:tiGet Try.prog 103=some ⟨1,8, .nilFunc, .func⟩:=by kernel_rfl
theorem ti105:tiGet Try.prog 105=some ⟨1,8, .nilFunc, .func⟩:=by kernel_rfl
theorem ti106:tiGet Try.prog 106=some ⟨1,8, .nilFunc, .func⟩:=by kernel_rfl
theorem ti107:tiGet Try.prog 107=some ⟨1,8, .nilFunc, .func⟩:=by kernel_rfl
theorem ti108:tiGet Try.prog 108=some ⟨1,8, .nilFunc, .func⟩:=by kernel_rfl
theorem ti109:tiGet Try.prog 109=some ⟨1,8, .nilFunc, .func⟩:=by kernel_rfl
theorem ti110:tiGet Try.prog 110=some ⟨1,24, .slice none 0 0, .slice 9⟩:=by kernel_rfl
theorem ti111:tiGet Try.prog 111=some ⟨1,8, .nilFunc, .func⟩:=by kernel_rfl
theorem ti112:tiGet Try.prog 112=some ⟨1,8, .nilFunc, .func⟩:=by kernel_rfl
theorem ti113:tiGet Try.prog 113=some ⟨1,8, .nilFunc, .func⟩:=by kernel_rfl
theorem ti115:tiGet Try.prog 115=some ⟨1,8, .nilFunc, .func⟩:=by kernel_rfl
theorem ti116:tiGet Try.prog 116=some ⟨1,8, .map none, .map 3 3⟩:=by kernel_rfl
theorem ti118:tiGet Try.prog 118=some ⟨1,8, .nilFunc, .func⟩:=by kernel_rfl
theorem ti119:tiGet Try.prog 119=some ⟨1,8, .nilFunc, .func⟩:=by kernel_rfl
theorem ti120:tiGet Try.prog 120=some ⟨1,8, .nilFunc, .func⟩:=by kernel_rfl
theorem ti121:tiGet Try.prog 121=some ⟨1,8, .map none, .map 3 75⟩:=by kernel_rfl
theorem ti122:tiGet Try.prog 122=some ⟨1,8, .nilFunc, .func⟩:=by kernel_rfl
theorem ti123:tiGet Try.prog 123=some ⟨1,8, .nilFunc, .func⟩:=by kernel_rfl
theorem ti124:tiGet Try.prog 124=some ⟨1,8, .nilFunc, .func⟩:=by kernel_rfl
theorem ti125:tiGet Try.prog 125=some ⟨1,8, .nilFunc, .func⟩:=by kernel_rfl
theorem ti126:tiGet Try.prog 126=some ⟨1,8, .nilFunc, .func⟩:=by kernel_rfl
theorem ti127:tiGet Try.prog 127=some ⟨1,8, .nilFunc, .func⟩:=by kernel_rfl
theorem ti128:tiGet Try.prog 128=some ⟨1,8, .nilFunc, .func⟩:=by kernel_rfl
theorem ti129:tiGet Try.prog 129=some ⟨1,8, .nilFunc, .func⟩:=by kernel_rfl
theorem ti130:tiGet Try.prog 130=some ⟨1,8, .nilFunc, .func⟩:=by kernel_rfl
theorem ti131:tiGet Try.prog 131=some ⟨1,8, .nilFunc, .func⟩:=by kernel_rfl
theorem ti132:tiGet Try.prog 132=some ⟨1,8, .nilFunc, .func⟩:=by kernel_rfl
theorem ti133:tiGet Try.prog 133=some ⟨1,8, .nilFunc, .func⟩:=by kernel_rfl
theorem ti134:tiGet Try.prog 134=some ⟨1,8, .nilFunc, .func⟩:=by kernel_rfl
theorem ti135:tiGet Try.prog 135=some ⟨1,8, .nilFunc, .func⟩:=by kernel_rfl
theorem ti136:tiGet Try.prog 136=some ⟨1,24, .slice none 0 0, .slice 53⟩:=by kernel_rfl
theorem ti138:tiGet Try.prog 138=some ⟨1,8, .nilFunc, .func⟩:=by kernel_rfl
theorem ti139:tiGet Try.prog 139=some ⟨1,8, .nilFunc, .func⟩:=by kernel_rfl
theorem ti140:tiGet Try.prog 140=some ⟨1,8, .nilFunc, .func⟩:=by kernel_rfl
theorem ti141:tiGet Try.prog 141=some ⟨1,8, .nilFunc, .func⟩:=by kernel_rfl
theorem ti142:tiGet Try.prog 142=some ⟨1,8, .nilFunc, .func⟩:=by kernel_rfl
theorem ti144:tiGet Try.prog 144=some ⟨1,8, .nilFunc, .func⟩:=by kernel_rfl
theorem ti146:tiGet Try.prog 146=some ⟨1,8, .nilFunc, .func⟩:=by kernel_rfl
theorem ti148:tiGet Try.prog 148=some ⟨1,8, .nilFunc, .func⟩:=by kernel_rfl
theorem ti149:tiGet Try.prog 149=some ⟨1,24, .slice none 0 0, .slice 4⟩:=by kernel_rfl
theorem ti150:tiGet Try.prog 150=some ⟨1,8, .nilFunc, .func⟩:=by kernel_rfl
theorem ti151:tiGet Try.prog 151=some ⟨1,8, .nilFunc, .func⟩:=by kernel_rfl
theorem ti153:tiGet Try.prog 153=some ⟨1,8, .nilFunc, .func⟩:=by kernel_rfl
theorem ti155:tiGet Try.prog 155=some ⟨1,8, .nilFunc, .func⟩:=by kernel_rfl
theorem ti156:tiGet Try.prog 156=some ⟨1,8, .nilFunc, .func⟩:=by kernel_rfl
theorem ti157:tiGet Try.prog 157=some ⟨1,8, .nilFunc, .func⟩:=by kernel_rfl
theorem ti158:tiGet Try.prog 158=some ⟨1,8, .nilFunc, .func⟩:=by kernel_rfl
theorem ti159:tiGet Try.prog 159=some ⟨1,8, .nilFunc, .func⟩:=by kernel_rfl
theorem ti161:tiGet Try.prog 161=some ⟨1,8, .nilFunc, .func⟩:=by kernel_rfl
theorem ti162:tiGet Try.prog 162=some ⟨1,8, .nilFunc, .func⟩:=by kernel_rfl
theorem ti163:tiGet Try.prog 163=some ⟨1,8, .nilFunc, .func⟩:=by kernel_rfl
theorem ti164:tiGet Try.prog 164=some ⟨1,8, .nilFunc, .func⟩:=by kernel_rfl
theorem ti165:tiGet Try.prog 165=some ⟨1,8, .nilFunc, .func⟩:=by kernel_rfl
theorem ti166:tiGet Try.prog 166=some ⟨1,8, .nilFunc, .func⟩:=by kernel_rfl
theorem ti167:tiGet Try.prog 167=some ⟨1,8, .nilFunc, .func⟩:=by kernel_rfl
theorem ti168:tiGet Try.prog 168=some ⟨1,8, .nilFunc, .func⟩:=by kernel_rfl
theorem ti169:tiGet Try.prog 169=some ⟨1,8, .int .i64 0, .int .i64⟩:=by kernel_rfl
theorem ti171:tiGet Try.prog 171=some ⟨1,8, .nilFunc, .func⟩:=by kernel_rfl
theorem ti172:tiGet Try.prog 172=some ⟨1,8, .nilFunc, .func⟩:=by kernel_rfl
theorem ti173:tiGet Try.prog 173=some ⟨1,8, .nilFunc, .func⟩:=by kernel_rfl
theorem ti174:tiGet Try.prog 174=some ⟨1,8, .nilFunc, .func⟩:=by kernel_rfl
theorem ti175:tiGet Try.prog 175=some ⟨1,4, .int .u32 0, .int .u32⟩:=by kernel_rfl
theorem ti176:tiGet Try.prog 176=some ⟨1,8, .nilFunc, .func⟩:=by kernel_rfl
theorem ti177:tiGet Try.prog 177=some ⟨1,8, .int .u64 0, .int .u64⟩:=by kernel_rfl
theorem ti178:tiGet Try.prog 178=some ⟨1,8, .nilFunc, .func⟩:=by kernel_rfl
theorem ti179:tiGet Try.prog 179=some ⟨1,8, .nilFunc, .func⟩:=by kernel_rfl
theorem ti180:tiGet Try.prog 180=some ⟨1,8, .nilFunc, .func⟩:=by kernel_rfl
theorem ti181:tiGet Try.prog 181=some ⟨1,8, .nilFunc, .func⟩:=by kernel_rfl
theorem ti183:tiGet Try.prog 183=some ⟨1,8, .nilFunc, .func⟩:=by kernel_rfl
theorem ti184:tiGet Try.prog 184=some ⟨1,8, .nilFunc, .func⟩:=by kernel_rfl
theorem ti185:tiGet Try.prog 185=some ⟨1,8, .nilFunc, .func⟩:=by kernel_rfl
theorem ti186:tiGet Try.prog 186=some ⟨1,8, .nilFunc, .func⟩:=by kernel_rfl
theorem ti187:tiGet Try.prog 187=some ⟨1,8, .nilFunc, .func⟩:=by kernel_rfl
theorem ti188:tiGet Try.prog 188=some ⟨1,8, .nilFunc, .func⟩:=by kernel_rfl
theorem ti189:tiGet Try.prog 189=some ⟨1,8, .int .u64 0, .int .u64⟩:=by kernel_rfl
theorem ti190:tiGet Try.prog 190=some ⟨1,8, .nilFunc, .func⟩:=by kernel_rfl
theorem ti191:tiGet Try.prog 191=some ⟨1,8, .nilFunc, .func⟩:=by kernel_rfl
theorem ti192:tiGet Try.prog 192=some ⟨1,8, .nilFunc, .func⟩:=by kernel_rfl
theorem ti193:tiGet Try.prog 193=some ⟨1,8, .pointer none, .ptr 3⟩:=by kernel_rfl
theorem ti194:tiGet Try.prog 194=some ⟨1,8, .nilFunc, .func⟩:=by kernel_rfl
theorem ti195:tiGet Try.prog 195=some ⟨1,8, .pointer none, .ptr 189⟩:=by kernel_rfl
theorem ti197:tiGet Try.prog 197=some ⟨1,8, .nilFunc, .func⟩:=by kernel_rfl
theorem ti198:tiGet Try.prog 198=some ⟨1,8, .nilFunc, .func⟩:=by kernel_rfl
theorem ti199:tiGet Try.prog 199=some ⟨4,40, .agg #[.pointer none, .pointer none, .pointer none, .string ByteArray.empty], .struct [(0,17),(1,17),(2,17),(3,9)]⟩:=by kernel_rfl
theorem ti200:tiGet Try.prog 200=some ⟨4,40, .agg #[.pointer none, .pointer none, .pointer none, .string ByteArray.empty], .struct [(0,17),(1,17),(2,17),(3,9)]⟩:=by kernel_rfl
theorem ti201:tiGet Try.prog 201=some ⟨0,0, .agg #[], .array 0 16⟩:=by kernel_rfl
theorem ti202:tiGet Try.prog 202=some ⟨0,0, .agg #[], .struct [(0,201)]⟩:=by kernel_rfl
theorem ti203:tiGet Try.prog 203=some ⟨0,0, .agg #[], .struct [(0,201)]⟩:=by kernel_rfl
theorem ti204:tiGet Try.prog 204=some ⟨1,8, .nilFunc, .func⟩:=by kernel_rfl
theorem ti205:tiGet Try.prog 205=some ⟨1,1, .int .u8 0, .int .u8⟩:=by kernel_rfl
theorem ti206:tiGet Try.prog 206=some ⟨1,1, .int .u8 0, .int .u8⟩:=by kernel_rfl
theorem ti207:tiGet Try.prog 207=some ⟨1,8, .nilFunc, .func⟩:=by kernel_rfl
theorem ti208:tiGet Try.prog 208=some ⟨1,8, .pointer none, .ptr 5⟩:=by kernel_rfl
theorem ti209:tiGet Try.prog 209=some ⟨1,4, .int .i32 0, .int .i32⟩:=by kernel_rfl
theorem ti210:tiGet Try.prog 210=some ⟨1,4, .int .i32 0, .int .i32⟩:=by kernel_rfl
theorem ti211:tiGet Try.prog 211=some ⟨11,48, .agg #[.int .u64 0, .int .u64 0, .int .u32 0, .int .u8 0, .int .u8 0, .int .u8 0, .int .u8 0, .nilFunc, .pointer none, .int .i32 0, .int .i32 0], .struct [(0,12),(1,12),(2,175),(3,205),(4,5),(5,5),(6,206),(7,207),(8,208),(9,209),(10,210)]⟩:=by kernel_rfl
theorem ti212:tiGet Try.prog 212=some ⟨11,48, .agg #[.int .u64 0, .int .u64 0, .int .u32 0, .int .u8 0, .int .u8 0, .int .u8 0, .int .u8 0, .nilFunc, .pointer none, .int .i32 0, .int .i32 0], .struct [(0,12),(1,12),(2,175),(3,205),(4,5),(5,5),(6,206),(7,207),(8,208),(9,209),(10,210)]⟩:=by kernel_rfl
theorem ti213:tiGet Try.prog 213=some ⟨1,8, .pointer none, .other⟩:=by kernel_rfl
attribute [go_sem] ti1 ti2 ti3 ti4 ti5 ti6 ti7 ti8 ti9 ti10 ti11 ti12 ti13 ti14 ti15 ti16 ti17 ti18 ti19 ti20 ti21 ti22 ti23 ti24 ti25 ti26 ti27 ti28 ti29 ti30 ti31 ti32 ti33 ti34 ti35 ti36 ti37 ti38 ti39 ti40 ti41 ti42 ti43 ti44 ti45 ti46 ti47 ti48 ti50 ti51 ti52 ti53 ti54 ti55 ti56 ti57 ti58 ti59 ti60 ti61 ti62 ti64 ti65 ti66 ti67 ti68 ti69 ti70 ti71 ti72 ti73 ti74 ti75 ti76 ti77 ti78 ti79 ti80 ti81 ti82 ti83 ti84 ti85 ti86 ti87 ti88 ti89 ti90 ti91 ti92 ti94 ti95 ti97 ti98 ti99 ti100 ti101 ti102 ti103 ti105 ti106 ti107 ti108 ti109 ti110 ti111 ti112 ti113 ti115 ti116 ti118 ti119 ti120 ti121 ti122 ti123 ti124 ti125 ti126 ti127 ti128 ti129 ti130 ti131 ti132 ti133 ti134 ti135 ti136 ti138 ti139 ti140 ti141 ti142 ti144 ti146 ti148 ti149 ti150 ti151 ti153 ti155 ti156 ti157 ti158 ti159 ti161 ti162 ti163 ti164 ti165 ti166 ti167 ti168 ti169 ti171 ti172 ti173 ti174 ti175 ti176 ti177 ti178 ti179 ti180 ti181 ti183 ti184 ti185 ti186 ti187 ti188 ti189 ti190 ti191 ti192 ti193 ti194 ti195 ti197 ti198 ti199 ti200 ti201 ti202 ti203 ti204 ti205 ti206 ti207 ti208 ti209 ti210 ti211 ti212 ti213
theorem call2: ∀ xs w,(callFunc 2 xs).run Try.prog w = .ok (.enter 2 xs) w:=fun _ _=>by kernel_rfl
theorem call3: ∀ xs w,(callFunc 3 xs).run Try.prog w = .ok (.enter 3 xs) w:=fun _ _=>by kernel_rfl
theorem call4: ∀ xs w,(callFunc 4 xs).run Try.prog w = .ok (.enter 4 xs) w:=fun _ _=>by kernel_rfl
theorem call5: ∀ xs w,(callFunc 5 xs).run Try.prog w = .ok (.enter 5 xs) w:=fun _ _=>by kernel_rfl
theorem call6: ∀ xs w,(callFunc 6 xs).run Try.prog w = .ok (.enter 6 xs) w:=fun _ _=>by kernel_rfl
theorem call7: ∀ xs w,(callFunc 7 xs).run Try.prog w = .ok (.enter 7 xs) w:=fun _ _=>by kernel_rfl
theorem call8: ∀ xs w,(callFunc 8 xs).run Try.prog w = .ok (.enter 8 xs) w:=fun _ _=>by kernel_rfl
theorem call9: ∀ xs w,(callFunc 9 xs).run Try.prog w = .ok (.enter 9 xs) w:=fun _ _=>by kernel_rfl
theorem call10: ∀ xs w,(callFunc 10 xs).run Try.prog w = .ok (.enter 10 xs) w:=fun _ _=>by kernel_rfl
theorem call11: ∀ xs w,(callFunc 11 xs).run Try.prog w = .ok (.enter 11 xs) w:=fun _ _=>by kernel_rfl
theorem call12: ∀ xs w,(callFunc 12 xs).run Try.prog w = .ok (.enter 12 xs) w:=fun _ _=>by kernel_rfl
theorem call13: ∀ xs w,(callFunc 13 xs).run Try.prog w = .ok (.enter 13 xs) w:=fun _ _=>by kernel_rfl
theorem call14: ∀ xs w,(callFunc 14 xs).run Try.prog w = .ok (.enter 14 xs) w:=fun _ _=>by kernel_rfl
theorem call15: ∀ xs w,(callFunc 15 xs).run Try.prog w = .ok (.enter 15 xs) w:=fun _ _=>by kernel_rfl
theorem call16: ∀ xs w,(callFunc 16 xs).run Try.prog w = .ok (.enter 16 xs) w:=fun _ _=>by kernel_rfl
theorem call17: ∀ xs w,(callFunc 17 xs).run Try.prog w = .ok (.enter 17 xs) w:=fun _ _=>by kernel_rfl
theorem call18: ∀ xs w,(callFunc 18 xs).run Try.prog w = .ok (.enter 18 xs) w:=fun _ _=>by kernel_rfl
theorem call19: ∀ xs w,(callFunc 19 xs).run Try.prog w = .ok (.enter 19 xs) w:=fun _ _=>by kernel_rfl
theorem call20: ∀ xs w,(callFunc 20 xs).run Try.prog w = .ok (.enter 20 xs) w:=fun _ _=>by kernel_rfl
theorem call21: ∀ xs w,(callFunc 21 xs).run Try.prog w = .ok (.enter 21 xs) w:=fun _ _=>by kernel_rfl
theorem call22: ∀ xs w,(callFunc 22 xs).run Try.prog w = .ok (.enter 22 xs) w:=fun _ _=>by kernel_rfl
theorem call23: ∀ xs w,(callFunc 23 xs).run Try.prog w = .ok (.enter 23 xs) w:=fun _ _=>by kernel_rfl
theorem call24: ∀ xs w,(callFunc 24 xs).run Try.prog w = .ok (.enter 24 xs) w:=fun _ _=>by kernel_rfl
theorem call25: ∀ xs w,(callFunc 25 xs).run Try.prog w = .ok (.enter 25 xs) w:=fun _ _=>by kernel_rfl
theorem call26: ∀ xs w,(callFunc 26 xs).run Try.prog w = .ok (.enter 26 xs) w:=fun _ _=>by kernel_rfl
theorem call27: ∀ xs w,(callFunc 27 xs).run Try.prog w = .ok (.enter 27 xs) w:=fun _ _=>by kernel_rfl
theorem call28: ∀ xs w,(callFunc 28 xs).run Try.prog w = .ok (.enter 28 xs) w:=fun _ _=>by kernel_rfl
theorem call29: ∀ xs w,(callFunc 29 xs).run Try.prog w = .ok (.enter 29 xs) w:=fun _ _=>by kernel_rfl
theorem call30: ∀ xs w,(callFunc 30 xs).run Try.prog w = .ok (.enter 30 xs) w:=fun _ _=>by kernel_rfl
theorem call31: ∀ xs w,(callFunc 31 xs).run Try.prog w = .ok (.enter 31 xs) w:=fun _ _=>by kernel_rfl
theorem call32: ∀ xs w,(callFunc 32 xs).run Try.prog w = .ok (.enter 32 xs) w:=fun _ _=>by kernel_rfl
theorem call33: ∀ xs w,(callFunc 33 xs).run Try.prog w = .ok (.enter 33 xs) w:=fun _ _=>by kernel_rfl
theorem call34: ∀ xs w,(callFunc 34 xs).run Try.prog w = .ok (.enter 34 xs) w:=fun _ _=>by kernel_rfl
theorem call35: ∀ xs w,(callFunc 35 xs).run Try.prog w = .ok (.enter 35 xs) w:=fun _ _=>by kernel_rfl
theorem call36: ∀ xs w,(callFunc 36 xs).run Try.prog w = .ok (.enter 36 xs) w:=fun _ _=>by kernel_rfl
theorem call37: ∀ xs w,(callFunc 37 xs).run Try.prog w = .ok (.enter 37 xs) w:=fun _ _=>by kernel_rfl
theorem call38: ∀ xs w,(callFunc 38 xs).run Try.prog w = .ok (.enter 38 xs) w:=fun _ _=>by kernel_rfl
theorem call39: ∀ xs w,(callFunc 39 xs).run Try.prog w = .ok (.enter 39 xs) w:=fun _ _=>by kernel_rfl
theorem call40: ∀ xs w,(callFunc 40 xs).run Try.prog w = .ok (.enter 40 xs) w:=fun _ _=>by kernel_rfl
theorem call41: ∀ xs w,(callFunc 41 xs).run Try.prog w = .ok (.enter 41 xs) w:=fun _ _=>by kernel_rfl
theorem call42: ∀ xs w,(callFunc 42 xs).run Try.prog w = .ok (.enter 42 xs) w:=fun _ _=>by kernel_rfl
theorem call43: ∀ xs w,(callFunc 43 xs).run Try.prog w = .ok (.enter 43 xs) w:=fun _ _=>by kernel_rfl
theorem call44: ∀ xs w,(callFunc 44 xs).run Try.prog w = .ok (.enter 44 xs) w:=fun _ _=>by kernel_rfl
theorem call45: ∀ xs w,(callFunc 45 xs).run Try.prog w = .ok (.enter 45 xs) w:=fun _ _=>by kernel_rfl
theorem call46: ∀ xs w,(callFunc 46 xs).run Try.prog w = .ok (.enter 46 xs) w:=fun _ _=>by kernel_rfl
theorem call47: ∀ xs w,(callFunc 47 xs).run Try.prog w = .ok (.enter 47 xs) w:=fun _ _=>by kernel_rfl
theorem call48: ∀ xs w,(callFunc 48 xs).run Try.prog w = .ok (.enter 48 xs) w:=fun _ _=>by kernel_rfl
theorem call49: ∀ xs w,(callFunc 49 xs).run Try.prog w = .ok (.enter 49 xs) w:=fun _ _=>by kernel_rfl
theorem call50: ∀ xs w,(callFunc 50 xs).run Try.prog w = .ok (.enter 50 xs) w:=fun _ _=>by kernel_rfl
theorem call51: ∀ xs w,(callFunc 51 xs).run Try.prog w = .ok (.enter 51 xs) w:=fun _ _=>by kernel_rfl
theorem call52: ∀ xs w,(callFunc 52 xs).run Try.prog w = .ok (.enter 52 xs) w:=fun _ _=>by kernel_rfl
theorem call53: ∀ xs w,(callFunc 53 xs).run Try.prog w = .ok (.enter 53 xs) w:=fun _ _=>by kernel_rfl
theorem call54: ∀ xs w,(callFunc 54 xs).run Try.prog w = .ok (.enter 54 xs) w:=fun _ _=>by kernel_rfl
theorem call55: ∀ xs w,(callFunc 55 xs).run Try.prog w = .ok (.enter 55 xs) w:=fun _ _=>by kernel_rfl
theorem call56: ∀ xs w,(callFunc 56 xs).run Try.prog w = .ok (.enter 56 xs) w:=fun _ _=>by kernel_rfl
theorem call57: ∀ xs w,(callFunc 57 xs).run Try.prog w = .ok (.enter 57 xs) w:=fun _ _=>by kernel_rfl
theorem call58: ∀ xs w,(callFunc 58 xs).run Try.prog w = .ok (.enter 58 xs) w:=fun _ _=>by kernel_rfl
theorem call59: ∀ xs w,(callFunc 59 xs).run Try.prog w = .ok (.enter 59 xs) w:=fun _ _=>by kernel_rfl
theorem call60: ∀ xs w,(callFunc 60 xs).run Try.prog w = .ok (.enter 60 xs) w:=fun _ _=>by kernel_rfl
theorem call61: ∀ xs w,(callFunc 61 xs).run Try.prog w = .ok (.enter 61 xs) w:=fun _ _=>by kernel_rfl
theorem call62: ∀ xs w,(callFunc 62 xs).run Try.prog w = .ok (.enter 62 xs) w:=fun _ _=>by kernel_rfl
theorem call63: ∀ xs w,(callFunc 63 xs).run Try.prog w = .ok (.enter 63 xs) w:=fun _ _=>by kernel_rfl
theorem call64: ∀ xs w,(callFunc 64 xs).run Try.prog w = .ok (.enter 64 xs) w:=fun _ _=>by kernel_rfl
theorem call65: ∀ xs w,(callFunc 65 xs).run Try.prog w = .ok (.enter 65 xs) w:=fun _ _=>by kernel_rfl
theorem call66: ∀ xs w,(callFunc 66 xs).run Try.prog w = .ok (.enter 66 xs) w:=fun _ _=>by kernel_rfl
theorem call67: ∀ xs w,(callFunc 67 xs).run Try.prog w = .ok (.enter 67 xs) w:=fun _ _=>by kernel_rfl
theorem call68: ∀ xs w,(callFunc 68 xs).run Try.prog w = .ok (.enter 68 xs) w:=fun _ _=>by kernel_rfl
theorem call69: ∀ xs w,(callFunc 69 xs).run Try.prog w = .ok (.enter 69 xs) w:=fun _ _=>by kernel_rfl
theorem call70: ∀ xs w,(callFunc 70 xs).run Try.prog w = .ok (.enter 70 xs) w:=fun _ _=>by kernel_rfl
theorem call71: ∀ xs w,(callFunc 71 xs).run Try.prog w = .ok (.enter 71 xs) w:=fun _ _=>by kernel_rfl
theorem call72: ∀ xs w,(callFunc 72 xs).run Try.prog w = .ok (.enter 72 xs) w:=fun _ _=>by kernel_rfl
theorem call73: ∀ xs w,(callFunc 73 xs).run Try.prog w = .ok (.enter 73 xs) w:=fun _ _=>by kernel_rfl
theorem call74: ∀ xs w,(callFunc 74 xs).run Try.prog w = .ok (.enter 74 xs) w:=fun _ _=>by kernel_rfl
theorem call75: ∀ xs w,(callFunc 75 xs).run Try.prog w = .ok (.enter 75 xs) w:=fun _ _=>by kernel_rfl
theorem call76: ∀ xs w,(callFunc 76 xs).run Try.prog w = .ok (.enter 76 xs) w:=fun _ _=>by kernel_rfl
theorem call77: ∀ xs w,(callFunc 77 xs).run Try.prog w = .ok (.enter 77 xs) w:=fun _ _=>by kernel_rfl
theorem call78: ∀ xs w,(callFunc 78 xs).run Try.prog w = .ok (.enter 78 xs) w:=fun _ _=>by kernel_rfl
theorem call79: ∀ xs w,(callFunc 79 xs).run Try.prog w = .ok (.enter 79 xs) w:=fun _ _=>by kernel_rfl
theorem call80: ∀ xs w,(callFunc 80 xs).run Try.prog w = .ok (.enter 80 xs) w:=fun _ _=>by kernel_rfl
theorem call81: ∀ xs w,(callFunc 81 xs).run Try.prog w = .ok (.enter 81 xs) w:=fun _ _=>by kernel_rfl
theorem call82: ∀ xs w,(callFunc 82 xs).run Try.prog w = .ok (.enter 82 xs) w:=fun _ _=>by kernel_rfl
theorem call83: ∀ xs w,(callFunc 83 xs).run Try.prog w = .ok (.enter 83 xs) w:=fun _ _=>by kernel_rfl
theorem call84: ∀ xs w,(callFunc 84 xs).run Try.prog w = .ok (.enter 84 xs) w:=fun _ _=>by kernel_rfl
theorem call85: ∀ xs w,(callFunc 85 xs).run Try.prog w = .ok (.enter 85 xs) w:=fun _ _=>by kernel_rfl
theorem call86: ∀ xs w,(callFunc 86 xs).run Try.prog w = .ok (.enter 86 xs) w:=fun _ _=>by kernel_rfl
theorem call87: ∀ xs w,(callFunc 87 xs).run Try.prog w = .ok (.enter 87 xs) w:=fun _ _=>by kernel_rfl
theorem call88: ∀ xs w,(callFunc 88 xs).run Try.prog w = .ok (.enter 88 xs) w:=fun _ _=>by kernel_rfl
theorem call89: ∀ xs w,(callFunc 89 xs).run Try.prog w = .ok (.enter 89 xs) w:=fun _ _=>by kernel_rfl
theorem call90: ∀ xs w,(callFunc 90 xs).run Try.prog w = .ok (.enter 90 xs) w:=fun _ _=>by kernel_rfl
theorem call91: ∀ xs w,(callFunc 91 xs).run Try.prog w = .ok (.enter 91 xs) w:=fun _ _=>by kernel_rfl
theorem call92: ∀ xs w,(callFunc 92 xs).run Try.prog w = .ok (.enter 92 xs) w:=fun _ _=>by kernel_rfl
theorem call93: ∀ xs w,(callFunc 93 xs).run Try.prog w = .ok (.enter 93 xs) w:=fun _ _=>by kernel_rfl
theorem call94: ∀ xs w,(callFunc 94 xs).run Try.prog w = .ok (.enter 94 xs) w:=fun _ _=>by kernel_rfl
theorem call95: ∀ xs w,(callFunc 95 xs).run Try.prog w = .ok (.enter 95 xs) w:=fun _ _=>by kernel_rfl
theorem call96: ∀ xs w,(callFunc 96 xs).run Try.prog w = .ok (.enter 96 xs) w:=fun _ _=>by kernel_rfl
theorem call97: ∀ xs w,(callFunc 97 xs).run Try.prog w = .ok (.enter 97 xs) w:=fun _ _=>by kernel_rfl
theorem call98: ∀ xs w,(callFunc 98 xs).run Try.prog w = .ok (.enter 98 xs) w:=fun _ _=>by kernel_rfl
theorem call99: ∀ xs w,(callFunc 99 xs).run Try.prog w = .ok (.enter 99 xs) w:=fun _ _=>by kernel_rfl
theorem call100: ∀ xs w,(callFunc 100 xs).run Try.prog w = .ok (.enter 100 xs) w:=fun _ _=>by kernel_rfl
theorem call101: ∀ xs w,(callFunc 101 xs).run Try.prog w = .ok (.enter 101 xs) w:=fun _ _=>by kernel_rfl
theorem call102: ∀ xs w,(callFunc 102 xs).run Try.prog w = .ok (.enter 102 xs) w:=fun _ _=>by kernel_rfl
theorem call103: ∀ xs w,(callFunc 103 xs).run Try.prog w = .ok (.enter 103 xs) w:=fun _ _=>by kernel_rfl
theorem call104: ∀ xs w,(callFunc 104 xs).run Try.prog w = .ok (.enter 104 xs) w:=fun _ _=>by kernel_rfl
theorem call105: ∀ xs w,(callFunc 105 xs).run Try.prog w = .ok (.enter 105 xs) w:=fun _ _=>by kernel_rfl
theorem call106: ∀ xs w,(callFunc 106 xs).run Try.prog w = .ok (.enter 106 xs) w:=fun _ _=>by kernel_rfl
theorem call107: ∀ xs w,(callFunc 107 xs).run Try.prog w = .ok (.enter 107 xs) w:=fun _ _=>by kernel_rfl
theorem call108: ∀ xs w,(callFunc 108 xs).run Try.prog w = .ok (.enter 108 xs) w:=fun _ _=>by kernel_rfl
theorem call109: ∀ xs w,(callFunc 109 xs).run Try.prog w = .ok (.enter 109 xs) w:=fun _ _=>by kernel_rfl
theorem call110: ∀ xs w,(callFunc 110 xs).run Try.prog w = .ok (.enter 110 xs) w:=fun _ _=>by kernel_rfl
theorem call111: ∀ xs w,(callFunc 111 xs).run Try.prog w = .ok (.enter 111 xs) w:=fun _ _=>by kernel_rfl
theorem call112: ∀ xs w,(callFunc 112 xs).run Try.prog w = .ok (.enter 112 xs) w:=fun _ _=>by kernel_rfl
theorem call113: ∀ xs w,(callFunc 113 xs).run Try.prog w = .ok (.enter 113 xs) w:=fun _ _=>by kernel_rfl
theorem call114: ∀ xs w,(callFunc 114 xs).run Try.prog w = .ok (.enter 114 xs) w:=fun _ _=>by kernel_rfl
theorem call115: ∀ xs w,(callFunc 115 xs).run Try.prog w = .ok (.enter 115 xs) w:=fun _ _=>by kernel_rfl
theorem call116: ∀ xs w,(callFunc 116 xs).run Try.prog w = .ok (.enter 116 xs) w:=fun _ _=>by kernel_rfl
theorem call117: ∀ xs w,(callFunc 117 xs).run Try.prog w = .ok (.enter 117 xs) w:=fun _ _=>by kernel_rfl
theorem call118: ∀ xs w,(callFunc 118 xs).run Try.prog w = .ok (.enter 118 xs) w:=fun _ _=>by kernel_rfl
theorem call119: ∀ xs w,(callFunc 119 xs).run Try.prog w = .ok (.enter 119 xs) w:=fun _ _=>by kernel_rfl
theorem call120: ∀ xs w,(callFunc 120 xs).run Try.prog w = .ok (.enter 120 xs) w:=fun _ _=>by kernel_rfl
theorem call121: ∀ xs w,(callFunc 121 xs).run Try.prog w = .ok (.enter 121 xs) w:=fun _ _=>by kernel_rfl
theorem call122: ∀ xs w,(callFunc 122 xs).run Try.prog w = .ok (.enter 122 xs) w:=fun _ _=>by kernel_rfl
theorem call123: ∀ xs w,(callFunc 123 xs).run Try.prog w = .ok (.enter 123 xs) w:=fun _ _=>by kernel_rfl
theorem call124: ∀ xs w,(callFunc 124 xs).run Try.prog w = .ok (.enter 124 xs) w:=fun _ _=>by kernel_rfl
theorem call125: ∀ xs w,(callFunc 125 xs).run Try.prog w = .ok (.enter 125 xs) w:=fun _ _=>by kernel_rfl
theorem call126: ∀ xs w,(callFunc 126 xs).run Try.prog w = .ok (.enter 126 xs) w:=fun _ _=>by kernel_rfl
theorem call127: ∀ xs w,(callFunc 127 xs).run Try.prog w = .ok (.enter 127 xs) w:=fun _ _=>by kernel_rfl
theorem call128: ∀ xs w,(callFunc 128 xs).run Try.prog w = .ok (.enter 128 xs) w:=fun _ _=>by kernel_rfl
theorem call129: ∀ xs w,(callFunc 129 xs).run Try.prog w = .ok (.enter 129 xs) w:=fun _ _=>by kernel_rfl
theorem call130: ∀ xs w,(callFunc 130 xs).run Try.prog w = .ok (.enter 130 xs) w:=fun _ _=>by kernel_rfl
theorem call131: ∀ xs w,(callFunc 131 xs).run Try.prog w = .ok (.enter 131 xs) w:=fun _ _=>by kernel_rfl
theorem call132: ∀ xs w,(callFunc 132 xs).run Try.prog w = .ok (.enter 132 xs) w:=fun _ _=>by kernel_rfl
theorem call133: ∀ xs w,(callFunc 133 xs).run Try.prog w = .ok (.enter 133 xs) w:=fun _ _=>by kernel_rfl
theorem call134: ∀ xs w,(callFunc 134 xs).run Try.prog w = .ok (.enter 134 xs) w:=fun _ _=>by kernel_rfl
theorem call135: ∀ xs w,(callFunc 135 xs).run Try.prog w = .ok (.enter 135 xs) w:=fun _ _=>by kernel_rfl
theorem call136: ∀ xs w,(callFunc 136 xs).run Try.prog w = .ok (.enter 136 xs) w:=fun _ _=>by kernel_rfl
theorem call137: ∀ xs w,(callFunc 137 xs).run Try.prog w = .ok (.enter 137 xs) w:=fun _ _=>by kernel_rfl
theorem call138: ∀ xs w,(callFunc 138 xs).run Try.prog w = .ok (.enter 138 xs) w:=fun _ _=>by kernel_rfl
theorem call139: ∀ xs w,(callFunc 139 xs).run Try.prog w = .ok (.enter 139 xs) w:=fun _ _=>by kernel_rfl
theorem call140: ∀ xs w,(callFunc 140 xs).run Try.prog w = .ok (.enter 140 xs) w:=fun _ _=>by kernel_rfl
theorem call141: ∀ xs w,(callFunc 141 xs).run Try.prog w = .ok (.enter 141 xs) w:=fun _ _=>by kernel_rfl
theorem call142: ∀ xs w,(callFunc 142 xs).run Try.prog w = .ok (.enter 142 xs) w:=fun _ _=>by kernel_rfl
theorem call143: ∀ xs w,(callFunc 143 xs).run Try.prog w = .ok (.enter 143 xs) w:=fun _ _=>by kernel_rfl
theorem call144: ∀ xs w,(callFunc 144 xs).run Try.prog w = .ok (.enter 144 xs) w:=fun _ _=>by kernel_rfl
theorem call145: ∀ xs w,(callFunc 145 xs).run Try.prog w = .ok (.enter 145 xs) w:=fun _ _=>by kernel_rfl
theorem call146: ∀ xs w,(callFunc 146 xs).run Try.prog w = .ok (.enter 146 xs) w:=fun _ _=>by kernel_rfl
theorem call147: ∀ xs w,(callFunc 147 xs).run Try.prog w = .ok (.enter 147 xs) w:=fun _ _=>by kernel_rfl
theorem call148: ∀ xs w,(callFunc 148 xs).run Try.prog w = .ok (.enter 148 xs) w:=fun _ _=>by kernel_rfl
theorem call149: ∀ xs w,(callFunc 149 xs).run Try.prog w = .ok (.enter 149 xs) w:=fun _ _=>by kernel_rfl
theorem call150: ∀ xs w,(callFunc 150 xs).run Try.prog w = .ok (.enter 150 xs) w:=fun _ _=>by kernel_rfl
theorem call151: ∀ xs w,(callFunc 151 xs).run Try.prog w = .ok (.enter 151 xs) w:=fun _ _=>by kernel_rfl
theorem call152: ∀ xs w,(callFunc 152 xs).run Try.prog w = .ok (.enter 152 xs) w:=fun _ _=>by kernel_rfl
theorem call153: ∀ xs w,(callFunc 153 xs).run Try.prog w = .ok (.enter 153 xs) w:=fun _ _=>by kernel_rfl
theorem call154: ∀ xs w,(callFunc 154 xs).run Try.prog w = .ok (.enter 154 xs) w:=fun _ _=>by kernel_rfl
theorem call155: ∀ xs w,(callFunc 155 xs).run Try.prog w = .ok (.enter 155 xs) w:=fun _ _=>by kernel_rfl
theorem call156: ∀ xs w,(callFunc 156 xs).run Try.prog w = .ok (.enter 156 xs) w:=fun _ _=>by kernel_rfl
theorem call157: ∀ xs w,(callFunc 157 xs).run Try.prog w = .ok (.enter 157 xs) w:=fun _ _=>by kernel_rfl
theorem call158: ∀ xs w,(callFunc 158 xs).run Try.prog w = .ok (.enter 158 xs) w:=fun _ _=>by kernel_rfl
theorem call159: ∀ xs w,(callFunc 159 xs).run Try.prog w = .ok (.enter 159 xs) w:=fun _ _=>by kernel_rfl
theorem bool_eql (x y:Operand) (a b:Bool):binV Try.prog .eql 4 x y (.bool a) (.bool b)=some (.bool (a==b)):=binV_bool_eql Try.underlying4 x y a b
theorem bool_neq (x y:Operand) (a b:Bool):binV Try.prog .neq 4 x y (.bool a) (.bool b)=some (.bool (!(a==b))):=binV_bool_neq Try.underlying4 x y a b
theorem bool_eql' (a b:Bool):pureRun Try.prog ((pure ():Sem Unit) >>= fun _=>Go.binOp .eql 4 (.bool a) (.bool b))=some (.bool (a==b)):=binV_bool_eql Try.underlying4 (.tmp 0) (.tmp 0) a b
theorem bool_neq' (a b:Bool):pureRun Try.prog ((pure ():Sem Unit) >>= fun _=>Go.binOp .neq 4 (.bool a) (.bool b))=some (.bool (!(a==b))):=binV_bool_neq Try.underlying4 (.tmp 0) (.tmp 0) a b
attribute [go_sem] bool_eql' bool_neq'
set_option maxRecDepth 100000 in
theorem eqs52 (x y:Operand) (a0:Int) (a1:Int) (b0:Int) (b1:Int):binV Try.prog .eql 52 x y (.agg #[.int .i64 a0, .int .i64 a1]) (.agg #[.int .i64 b0, .int .i64 b1])=some (.bool ((a0==b0)&&((a1==b1)&&true)))∧binV Try.prog .neq 52 x y (.agg #[.int .i64 a0, .int .i64 a1]) (.agg #[.int .i64 b0, .int .i64 b1])=some (.bool (!((a0==b0)&&((a1==b1)&&true)))):=binV_agg Try.underlying52 (by kernel_rfl) (by kernel_rfl) (eqFields_cons (by decide) (pureRun_part Try.underlying3 rfl rfl) (pureRun_part Try.underlying3 rfl rfl) (pureRun_equalIn_int Try.underlying3) (eqFields_cons (by decide) (pureRun_part Try.underlying3 rfl rfl) (pureRun_part Try.underlying3 rfl rfl) (pureRun_equalIn_int Try.underlying3) eqFields_nil))
theorem eqa52 (x y:Operand) (a0:Int) (a1:Int) (b0:Int) (b1:Int):pureRun Try.prog (do eqGuard .eql 52 x y (.agg #[.int .i64 a0, .int .i64 a1]) (.agg #[.int .i64 b0, .int .i64 b1]);Go.binOp .eql 52 (.agg #[.int .i64 a0, .int .i64 a1]) (.agg #[.int .i64 b0, .int .i64 b1]))=some (.bool ((a0==b0)&&((a1==b1)&&true))):=(eqs52 x y a0 a1 b0 b1).1
theorem nea52 (x y:Operand) (a0:Int) (a1:Int) (b0:Int) (b1:Int):pureRun Try.prog (do eqGuard .neq 52 x y (.agg #[.int .i64 a0, .int .i64 a1]) (.agg #[.int .i64 b0, .int .i64 b1]);Go.binOp .neq 52 (.agg #[.int .i64 a0, .int .i64 a1]) (.agg #[.int .i64 b0, .int .i64 b1]))=some (.bool (!((a0==b0)&&((a1==b1)&&true)))):=(eqs52 x y a0 a1 b0 b1).2
attribute [go_sem] eqa52 nea52
set_option maxRecDepth 100000 in
theorem eqs61 (x y:Operand) (a0:Int) (a1:Int) (b0:Int) (b1:Int):binV Try.prog .eql 61 x y (.agg #[.int .i64 a0, .int .i64 a1]) (.agg #[.int .i64 b0, .int .i64 b1])=some (.bool ((a0==b0)&&((a1==b1)&&true)))∧binV Try.prog .neq 61 x y (.agg #[.int .i64 a0, .int .i64 a1]) (.agg #[.int .i64 b0, .int .i64 b1])=some (.bool (!((a0==b0)&&((a1==b1)&&true)))):=binV_agg Try.underlying61 (by kernel_rfl) (by kernel_rfl) (eqFields_cons (by decide) (pureRun_part Try.underlying3 rfl rfl) (pureRun_part Try.underlying3 rfl rfl) (pureRun_equalIn_int Try.underlying3) (eqFields_cons (by decide) (pureRun_part Try.underlying3 rfl rfl) (pureRun_part Try.underlying3 rfl rfl) (pureRun_equalIn_int Try.underlying3) eqFields_nil))
theorem eqa61 (x y:Operand) (a0:Int) (a1:Int) (b0:Int) (b1:Int):pureRun Try.prog (do eqGuard .eql 61 x y (.agg #[.int .i64 a0, .int .i64 a1]) (.agg #[.int .i64 b0, .int .i64 b1]);Go.binOp .eql 61 (.agg #[.int .i64 a0, .int .i64 a1]) (.agg #[.int .i64 b0, .int .i64 b1]))=some (.bool ((a0==b0)&&((a1==b1)&&true))):=(eqs61 x y a0 a1 b0 b1).1
theorem nea61 (x y:Operand) (a0:Int) (a1:Int) (b0:Int) (b1:Int):pureRun Try.prog (do eqGuard .neq 61 x y (.agg #[.int .i64 a0, .int .i64 a1]) (.agg #[.int .i64 b0, .int .i64 b1]);Go.binOp .neq 61 (.agg #[.int .i64 a0, .int .i64 a1]) (.agg #[.int .i64 b0, .int .i64 b1]))=some (.bool (!((a0==b0)&&((a1==b1)&&true)))):=(eqs61 x y a0 a1 b0 b1).2
attribute [go_sem] eqa61 nea61
theorem len_str (s:ByteArray):pureRun Try.prog (Builtin.len_ #[9] 0 #[.string s])=some (.int .i64 s.size):=by
 show pureRun Try.prog (underlying 9 >>= _)=_
 rw [pureRun_bind,pureRun_underlying Try.underlying9]
 rfl
attribute [go_sem] len_str
theorem mix:Try.prog.follows .mixedOrders=true:=by kernel_rfl
end Go.Proofs.Ytmgodadmafcliaa
