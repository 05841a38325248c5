/- Contracts of the library at this program (laid by the shelf's own program, in plain words); these alone that are taken. -/
import Derived.Shelf.Strings.Builder1
import Derived.Shelf.Strings.Builder2
import Derived.Shelf.Strings.OnBuilder
import Derived.Shelf.Small.Utf8
import Derived.Shelf.Small.Strs
import Derived.Shelf.Strings.BuilderF
import Derived.Shelf.Strings.BuilderK
import Derived.Shelf.Strings.BuilderRune
import Derived.Shelf.Utf8.AppendRune
import Derived.Shelf.Utf8.AppendRunePlain
import Derived.Shelf.Utf8.RuneCount
import Derived.Shelf.Strings.Builder2Cap
import Derived.Shelf.Strconv.Itoa0
import Derived.Shelf.Strconv.Itoa1
import Derived.Shelf.LaysM
import Derived.Shelf.Strconv.Itoa2
import Derived.Shelf.Strconv.Itoa3
import Derived.Shelf.Strings.Search1
import Derived.Shelf.Strings.Search2
import Derived.Shelf.Strings.Search3
import Derived.Shelf.Strings.Count
import Derived.Shelf.Strings.Shaped
import Derived.Shelf.Strings.Prefix
import Derived.Shelf.Strings.Split
import Derived.Shelf.Strings.Fields
import Derived.Shelf.Strings.Replace
import Derived.Shelf.Strings.SplitShaped
import Derived.Shelf.Unicode.Latin
import Derived.Shelf.Unicode.Decode
import Derived.Shelf.Strings.RuneCount
import Derived.Shelf.Unicode.DecodeSlow
import Derived.Shelf.Unicode.DecodeAny
import Derived.Shelf.Unicode.Is16White
import Derived.Shelf.Unicode.IsSpaceAny
import Derived.Shelf.Unicode.Is16WhiteD
import Derived.Shelf.Unicode.IsSpaceAnyD
import Derived.Shelf.Strings.FieldsAny
import Derived.Shelf.Strings.FieldsFuncAny
import Derived.Shelf.Unicode.CaseLookup
import Derived.Shelf.Unicode.CaseConvert
import Derived.Shelf.Unicode.CaseTo
import Derived.Shelf.Unicode.CaseLaid
import Derived.Shelf.Unicode.Is16Any
import Derived.Shelf.Unicode.Is32Any
import Derived.Shelf.Unicode.ExclAny
import Derived.Shelf.Strings.BuilderCap
import Derived.Test.YtpjlciengdhjoaaGreatDoorProg
import Derived.Lib.LaidTab
import Derived.Test.YtpjlciengdhjoaaGreatDoorEn11
namespace Go.Proofs
open Go.Shelf
def Tryz.Lb:Go.Shelf.Ren:=⟨fun|159=>114|165=>135|166=>136|167=>137|169=>138|230=>139|204=>140|240=>163|241=>164|197=>165|118=>166|168=>167|270=>168|262=>169|276=>194|277=>195|260=>196|242=>197|313=>198|278=>203|274=>204|275=>205|n=>n,fun|9=>9|4=>4|3=>3|5=>5|72=>182|0=>0|76=>185|75=>184|107=>190|70=>180|20=>20|37=>29|127=>208|21=>21|105=>209|164=>229|162=>235|203=>233|119=>214|46=>179|139=>244|138=>243|51=>162|160=>245|208=>262|206=>260|80=>188|n=>n,fun|13=>2|3=>4|4=>5|n=>n⟩
theorem Tryz.bE:Go.Proofs.Lays.n159 Tryz.prog Tryz.Lb:={
 mixed:=by kernel_rfl
 f118:=Tryz.func166.trans (congrArg some (by kernel_rfl))
 f159:=Tryz.func114.trans (congrArg some (by kernel_rfl))
 f165:=Tryz.func135.trans (congrArg some (by kernel_rfl))
 f166:=Tryz.func136.trans (congrArg some (by kernel_rfl))
 f167:=Tryz.func137.trans (congrArg some (by kernel_rfl))
 f168:=Tryz.func167.trans (congrArg some (by kernel_rfl))
 f169:=Tryz.func138.trans (congrArg some (by kernel_rfl))
 f197:=Tryz.func165.trans (congrArg some (by kernel_rfl))
 f204:=Tryz.func140.trans (congrArg some (by kernel_rfl))
 f230:=Tryz.func139.trans (congrArg some (by kernel_rfl))
 f240:=Tryz.func163.trans (congrArg some (by kernel_rfl))
 f241:=Tryz.func164.trans (congrArg some (by kernel_rfl))
 f242:=Tryz.func197.trans (congrArg some (by kernel_rfl))
 f260:=Tryz.func196.trans (congrArg some (by kernel_rfl))
 f262:=Tryz.func169.trans (congrArg some (by kernel_rfl))
 f270:=Tryz.func168.trans (congrArg some (by kernel_rfl))
 f274:=Tryz.func204.trans (congrArg some (by kernel_rfl))
 f275:=Tryz.func205.trans (congrArg some (by kernel_rfl))
 f276:=Tryz.func194.trans (congrArg some (by kernel_rfl))
 f277:=Tryz.func195.trans (congrArg some (by kernel_rfl))
 f278:=Tryz.func203.trans (congrArg some (by kernel_rfl))
 f313:=Tryz.func198.trans (congrArg some (by kernel_rfl))
 t0:=Tryz.underlying0
 a0:=Tryz.isAgg0
 z0:=Tryz.sizeOf0
 v0:=Tryz.zeroValue0
 t3:=Tryz.underlying3
 a3:=Tryz.isAgg3
 z3:=Tryz.sizeOf3
 v3:=Tryz.zeroValue3
 t4:=Tryz.underlying4
 a4:=Tryz.isAgg4
 z4:=Tryz.sizeOf4
 v4:=Tryz.zeroValue4
 t5:=Tryz.underlying5
 a5:=Tryz.isAgg5
 z5:=Tryz.sizeOf5
 v5:=Tryz.zeroValue5
 t9:=Tryz.underlying9
 a9:=Tryz.isAgg9
 z9:=Tryz.sizeOf9
 v9:=Tryz.zeroValue9
 t20:=Tryz.underlying20
 a20:=Tryz.isAgg20
 z20:=Tryz.sizeOf20
 v20:=Tryz.zeroValue20
 t21:=Tryz.underlying21
 a21:=Tryz.isAgg21
 z21:=Tryz.sizeOf21
 v21:=Tryz.zeroValue21
 t37:=Tryz.underlying29
 a37:=Tryz.isAgg29
 z37:=Tryz.sizeOf29
 v37:=Tryz.zeroValue29
 t46:=Tryz.underlying179
 a46:=Tryz.isAgg179
 z46:=Tryz.sizeOf179
 v46:=Tryz.zeroValue179
 t51:=Tryz.underlying162
 a51:=Tryz.isAgg162
 z51:=Tryz.sizeOf162
 v51:=Tryz.zeroValue162
 t70:=Tryz.underlying180
 a70:=Tryz.isAgg180
 z70:=Tryz.sizeOf180
 v70:=Tryz.zeroValue180
 t72:=Tryz.underlying182
 a72:=Tryz.isAgg182
 z72:=Tryz.sizeOf182
 v72:=Tryz.zeroValue182
 t75:=Tryz.underlying184
 a75:=Tryz.isAgg184
 z75:=Tryz.sizeOf184
 v75:=Tryz.zeroValue184
 t76:=Tryz.underlying185
 a76:=Tryz.isAgg185
 z76:=Tryz.sizeOf185
 v76:=Tryz.zeroValue185
 t105:=Tryz.underlying209
 a105:=Tryz.isAgg209
 z105:=Tryz.sizeOf209
 v105:=Tryz.zeroValue209
 t107:=Tryz.underlying190
 a107:=Tryz.isAgg190
 z107:=Tryz.sizeOf190
 v107:=Tryz.zeroValue190
 t119:=Tryz.underlying214
 a119:=Tryz.isAgg214
 z119:=Tryz.sizeOf214
 t127:=Tryz.underlying208
 a127:=Tryz.isAgg208
 z127:=Tryz.sizeOf208
 v127:=Tryz.zeroValue208
 t138:=Tryz.underlying243
 a138:=Tryz.isAgg243
 z138:=Tryz.sizeOf243
 v138:=Tryz.zeroValue243
 t139:=Tryz.underlying244
 a139:=Tryz.isAgg244
 z139:=Tryz.sizeOf244
 v139:=Tryz.zeroValue244
 t160:=Tryz.underlying245
 a160:=Tryz.isAgg245
 z160:=Tryz.sizeOf245
 v160:=Tryz.zeroValue245
 t162:=Tryz.underlying235
 a162:=Tryz.isAgg235
 z162:=Tryz.sizeOf235
 v162:=Tryz.zeroValue235
 t164:=Tryz.underlying229
 a164:=Tryz.isAgg229
 z164:=Tryz.sizeOf229
 v164:=Tryz.zeroValue229
 t203:=Tryz.underlying233
 a203:=Tryz.isAgg233
 z203:=Tryz.sizeOf233
 v203:=Tryz.zeroValue233
 t206:=Tryz.underlying260
 a206:=Tryz.isAgg260
 z206:=Tryz.sizeOf260
 v206:=Tryz.zeroValue260
 t208:=Tryz.underlying262
 a208:=Tryz.isAgg262
 z208:=Tryz.sizeOf262
 v208:=Tryz.zeroValue262
 g3:=by kernel_rfl
 g4:=by kernel_rfl
 g13:=by kernel_rfl }
theorem Tryz.Jo:Builder.Extra Tryz.prog Tryz.Lb:={
 sizeBuilder:=by kernel_rfl
 liesBuilder:=by kernel_rfl
 t5:=Tryz.underlying5
 a5:=Tryz.isAgg5
 z5:=Tryz.sizeOf5
 v5:=Tryz.zeroValue5
 infoByte:=by kernel_rfl
 cellsByte:=by kernel_rfl
 sizeByte:=by kernel_rfl
 neB5:=by decide }
open Go.RowKit in
theorem Tryz.strings_ToLower_ascii (s:ByteArray) (w:World) (hs:s.size<=140737488355328) (hascii: ∀ (j:Nat) (b:UInt8),s.data.toList[j]?=some b->b.toNat<128):
  Calls Tryz.prog 114 #[.string s] w fun e w'=>e=.returned (.string ⟨(Lib.toLowerA s.data.toList).toArray⟩)/\Below w.heap.size w w':=Any.strings_ToLower_ascii Tryz.bE Tryz.Jo s w hs hascii
def Tryz.RX:Go.Shelf.Ren:=⟨fun|137=>66|217=>110|266=>131|n=>n,fun|9=>9|5=>5|3=>3|n=>n,fun|n=>n⟩
theorem Tryz.bA:Go.Proofs.Lays.n137 Tryz.prog Tryz.RX:={
 mixed:=by kernel_rfl
 f137:=Tryz.func66.trans (congrArg some (by kernel_rfl))
 f217:=Tryz.func110.trans (congrArg some (by kernel_rfl))
 f266:=Tryz.func131.trans (congrArg some (by kernel_rfl))
 t3:=Tryz.underlying3
 a3:=Tryz.isAgg3
 z3:=Tryz.sizeOf3
 v3:=Tryz.zeroValue3
 t5:=Tryz.underlying5
 a5:=Tryz.isAgg5
 z5:=Tryz.sizeOf5
 v5:=Tryz.zeroValue5
 t9:=Tryz.underlying9
 a9:=Tryz.isAgg9
 z9:=Tryz.sizeOf9
 v9:=Tryz.zeroValue9 }
open Go.RowKit in
theorem Tryz.strings_IndexByte (s:ByteArray) (c:Int) (w:World):
  Calls Tryz.prog 66 #[.string s,.int .u8 c] w fun e w'=>e=.returned (.int .i64 (Lib.indexByte s.data.toList c.toNat.toUInt8))/\w'=w:=Any.strings_IndexByte Tryz.bA s c w
def Tryz.RY:Go.Shelf.Ren:=⟨fun|143=>68|219=>112|217=>110|225=>132|224=>133|267=>134|266=>131|314=>162|n=>n,fun|9=>9|3=>3|4=>4|5=>5|46=>179|146=>206|51=>162|n=>n,fun|1=>0|n=>n⟩
theorem Tryz.bB:Go.Proofs.Lays.n143 Tryz.prog Tryz.RY:={
 mixed:=by kernel_rfl
 f143:=Tryz.func68.trans (congrArg some (by kernel_rfl))
 f217:=Tryz.func110.trans (congrArg some (by kernel_rfl))
 f219:=Tryz.func112.trans (congrArg some (by kernel_rfl))
 f224:=Tryz.func133.trans (congrArg some (by kernel_rfl))
 f225:=Tryz.func132.trans (congrArg some (by kernel_rfl))
 f266:=Tryz.func131.trans (congrArg some (by kernel_rfl))
 f267:=Tryz.func134.trans (congrArg some (by kernel_rfl))
 f314:=Tryz.func162.trans (congrArg some (by kernel_rfl))
 t3:=Tryz.underlying3
 a3:=Tryz.isAgg3
 z3:=Tryz.sizeOf3
 v3:=Tryz.zeroValue3
 t4:=Tryz.underlying4
 a4:=Tryz.isAgg4
 z4:=Tryz.sizeOf4
 v4:=Tryz.zeroValue4
 t5:=Tryz.underlying5
 a5:=Tryz.isAgg5
 z5:=Tryz.sizeOf5
 v5:=Tryz.zeroValue5
 t9:=Tryz.underlying9
 a9:=Tryz.isAgg9
 z9:=Tryz.sizeOf9
 v9:=Tryz.zeroValue9
 t46:=Tryz.underlying179
 a46:=Tryz.isAgg179
 z46:=Tryz.sizeOf179
 v46:=Tryz.zeroValue179
 t51:=Tryz.underlying162
 a51:=Tryz.isAgg162
 z51:=Tryz.sizeOf162
 v51:=Tryz.zeroValue162
 t146:=Tryz.underlying206
 a146:=Tryz.isAgg206
 z146:=Tryz.sizeOf206
 v146:=Tryz.zeroValue206
 g1:=by kernel_rfl }
open Go.RowKit Go.Lib in
theorem Tryz.strings_Index (s sub:ByteArray) (m:Int) (w:World) (hs:s.size<4294967281) (hm:w.cell? ⟨0,0,none⟩=some (.int .i64 m)):
  Calls Tryz.prog 68 #[.string s,.string sub] w fun e w'=>e=.returned (.int .i64 (Lib.index s.data.toList sub.data.toList))/\w'=w:=Any.strings_Index Tryz.bB s sub m w hs hm
def Tryz.RZ:Go.Shelf.Ren:=⟨fun|144=>113|143=>68|219=>112|217=>110|225=>132|224=>133|267=>134|266=>131|314=>162|n=>n,fun|9=>9|4=>4|3=>3|5=>5|46=>179|146=>206|51=>162|n=>n,fun|1=>0|n=>n⟩
theorem Tryz.bC:Go.Proofs.Lays.n144 Tryz.prog Tryz.RZ:={
 mixed:=by kernel_rfl
 f143:=Tryz.func68.trans (congrArg some (by kernel_rfl))
 f144:=Tryz.func113.trans (congrArg some (by kernel_rfl))
 f217:=Tryz.func110.trans (congrArg some (by kernel_rfl))
 f219:=Tryz.func112.trans (congrArg some (by kernel_rfl))
 f224:=Tryz.func133.trans (congrArg some (by kernel_rfl))
 f225:=Tryz.func132.trans (congrArg some (by kernel_rfl))
 f266:=Tryz.func131.trans (congrArg some (by kernel_rfl))
 f267:=Tryz.func134.trans (congrArg some (by kernel_rfl))
 f314:=Tryz.func162.trans (congrArg some (by kernel_rfl))
 t3:=Tryz.underlying3
 a3:=Tryz.isAgg3
 z3:=Tryz.sizeOf3
 v3:=Tryz.zeroValue3
 t4:=Tryz.underlying4
 a4:=Tryz.isAgg4
 z4:=Tryz.sizeOf4
 v4:=Tryz.zeroValue4
 t5:=Tryz.underlying5
 a5:=Tryz.isAgg5
 z5:=Tryz.sizeOf5
 v5:=Tryz.zeroValue5
 t9:=Tryz.underlying9
 a9:=Tryz.isAgg9
 z9:=Tryz.sizeOf9
 v9:=Tryz.zeroValue9
 t46:=Tryz.underlying179
 a46:=Tryz.isAgg179
 z46:=Tryz.sizeOf179
 v46:=Tryz.zeroValue179
 t51:=Tryz.underlying162
 a51:=Tryz.isAgg162
 z51:=Tryz.sizeOf162
 v51:=Tryz.zeroValue162
 t146:=Tryz.underlying206
 a146:=Tryz.isAgg206
 z146:=Tryz.sizeOf206
 v146:=Tryz.zeroValue206
 g1:=by kernel_rfl }
open Go.RowKit Go.Lib in
theorem Tryz.strings_Contains (s sub:ByteArray) (m:Int) (w:World) (hs:s.size<4294967281) (hm:w.cell? ⟨0,0,none⟩=some (.int .i64 m)):
  Calls Tryz.prog 113 #[.string s,.string sub] w fun e w'=>e=.returned (.bool (Lib.contains s.data.toList sub.data.toList))/\w'=w:=Any.strings_Contains Tryz.bC s sub m w hs hm
def Tryz.Te:Go.Shelf.Ren:=⟨fun|99=>67|206=>111|n=>n,fun|9=>9|4=>4|3=>3|n=>n,fun|n=>n⟩
theorem Tryz.fL:Go.Proofs.Lays.n99 Tryz.prog Tryz.Te:={
 mixed:=by kernel_rfl
 f99:=Tryz.func67.trans (congrArg some (by kernel_rfl))
 f206:=Tryz.func111.trans (congrArg some (by kernel_rfl))
 t3:=Tryz.underlying3
 a3:=Tryz.isAgg3
 z3:=Tryz.sizeOf3
 v3:=Tryz.zeroValue3
 t4:=Tryz.underlying4
 a4:=Tryz.isAgg4
 z4:=Tryz.sizeOf4
 v4:=Tryz.zeroValue4
 t9:=Tryz.underlying9
 a9:=Tryz.isAgg9
 z9:=Tryz.sizeOf9
 v9:=Tryz.zeroValue9 }
open Go.RowKit Go.Lib in
theorem Tryz.strings_HasPrefix (s p:ByteArray) (w:World):
  Calls Tryz.prog 67 #[.string s,.string p] w fun e w'=>e=.returned (.bool (Lib.hasPrefix s.data.toList p.data.toList))/\w'=w:=Any.strings_HasPrefix Tryz.fL s p w
def Tryz.RW:Go.Shelf.Ren:=⟨fun|102=>150|209=>188|207=>202|n=>n,fun|9=>9|4=>4|3=>3|n=>n,fun|n=>n⟩
theorem Tryz.az:Go.Proofs.Lays.n102 Tryz.prog Tryz.RW:={
 mixed:=by kernel_rfl
 f102:=Tryz.func150.trans (congrArg some (by kernel_rfl))
 f207:=Tryz.func202.trans (congrArg some (by kernel_rfl))
 f209:=Tryz.func188.trans (congrArg some (by kernel_rfl))
 t3:=Tryz.underlying3
 a3:=Tryz.isAgg3
 z3:=Tryz.sizeOf3
 v3:=Tryz.zeroValue3
 t4:=Tryz.underlying4
 a4:=Tryz.isAgg4
 z4:=Tryz.sizeOf4
 v4:=Tryz.zeroValue4
 t9:=Tryz.underlying9
 a9:=Tryz.isAgg9
 z9:=Tryz.sizeOf9
 v9:=Tryz.zeroValue9 }
open Go.RowKit Go.Lib in
theorem Tryz.strings_TrimSuffix (s p:ByteArray) (w:World) (hs:s.size<=9223372036854775807):
  Calls Tryz.prog 150 #[.string s,.string p] w fun e w'=>e=.returned (.string ⟨(Lib.trimSuffix s.data.toList p.data.toList).toArray⟩)/\w'=w:=Any.strings_TrimSuffix Tryz.az s p w hs
def Tryz.Ra:Go.Shelf.Ren:=⟨fun|157=>141|229=>170|199=>171|261=>199|311=>206|312=>207|n=>n,fun|9=>9|31=>23|3=>3|5=>5|4=>4|119=>214|0=>0|40=>216|152=>236|21=>21|154=>238|51=>162|141=>240|196=>251|193=>248|198=>254|49=>252|194=>249|201=>257|226=>263|46=>179|227=>264|n=>n,fun|0=>1|6=>3|n=>n⟩
theorem Tryz.bD:Go.Proofs.Lays.n157 Tryz.prog Tryz.Ra:={
 mixed:=by kernel_rfl
 f157:=Tryz.func141.trans (congrArg some (by kernel_rfl))
 f199:=Tryz.func171.trans (congrArg some (by kernel_rfl))
 f229:=Tryz.func170.trans (congrArg some (by kernel_rfl))
 f261:=Tryz.func199.trans (congrArg some (by kernel_rfl))
 f311:=Tryz.func206.trans (congrArg some (by kernel_rfl))
 f312:=Tryz.func207.trans (congrArg some (by kernel_rfl))
 t0:=Tryz.underlying0
 a0:=Tryz.isAgg0
 z0:=Tryz.sizeOf0
 v0:=Tryz.zeroValue0
 t3:=Tryz.underlying3
 a3:=Tryz.isAgg3
 z3:=Tryz.sizeOf3
 v3:=Tryz.zeroValue3
 t4:=Tryz.underlying4
 a4:=Tryz.isAgg4
 z4:=Tryz.sizeOf4
 v4:=Tryz.zeroValue4
 t5:=Tryz.underlying5
 a5:=Tryz.isAgg5
 z5:=Tryz.sizeOf5
 v5:=Tryz.zeroValue5
 t9:=Tryz.underlying9
 a9:=Tryz.isAgg9
 z9:=Tryz.sizeOf9
 v9:=Tryz.zeroValue9
 t21:=Tryz.underlying21
 a21:=Tryz.isAgg21
 z21:=Tryz.sizeOf21
 v21:=Tryz.zeroValue21
 t31:=Tryz.underlying23
 a31:=Tryz.isAgg23
 z31:=Tryz.sizeOf23
 v31:=Tryz.zeroValue23
 t40:=Tryz.underlying216
 a40:=Tryz.isAgg216
 z40:=Tryz.sizeOf216
 v40:=Tryz.zeroValue216
 t46:=Tryz.underlying179
 a46:=Tryz.isAgg179
 z46:=Tryz.sizeOf179
 v46:=Tryz.zeroValue179
 t49:=Tryz.underlying252
 a49:=Tryz.isAgg252
 z49:=Tryz.sizeOf252
 v49:=Tryz.zeroValue252
 t51:=Tryz.underlying162
 a51:=Tryz.isAgg162
 z51:=Tryz.sizeOf162
 v51:=Tryz.zeroValue162
 t119:=Tryz.underlying214
 a119:=Tryz.isAgg214
 z119:=Tryz.sizeOf214
 t141:=Tryz.underlying240
 a141:=Tryz.isAgg240
 z141:=Tryz.sizeOf240
 v141:=Tryz.zeroValue240
 t152:=Tryz.underlying236
 a152:=Tryz.isAgg236
 z152:=Tryz.sizeOf236
 v152:=Tryz.zeroValue236
 t154:=Tryz.underlying238
 a154:=Tryz.isAgg238
 z154:=Tryz.sizeOf238
 v154:=Tryz.zeroValue238
 t193:=Tryz.underlying248
 a193:=Tryz.isAgg248
 z193:=Tryz.sizeOf248
 v193:=Tryz.zeroValue248
 t194:=Tryz.underlying249
 a194:=Tryz.isAgg249
 z194:=Tryz.sizeOf249
 v194:=Tryz.zeroValue249
 t196:=Tryz.underlying251
 a196:=Tryz.isAgg251
 z196:=Tryz.sizeOf251
 v196:=Tryz.zeroValue251
 t198:=Tryz.underlying254
 a198:=Tryz.isAgg254
 z198:=Tryz.sizeOf254
 v198:=Tryz.zeroValue254
 t201:=Tryz.underlying257
 a201:=Tryz.isAgg257
 z201:=Tryz.sizeOf257
 v201:=Tryz.zeroValue257
 t226:=Tryz.underlying263
 a226:=Tryz.isAgg263
 z226:=Tryz.sizeOf263
 v226:=Tryz.zeroValue263
 t227:=Tryz.underlying264
 a227:=Tryz.isAgg264
 z227:=Tryz.sizeOf264
 v227:=Tryz.zeroValue264
 g0:=by kernel_rfl
 g6:=by kernel_rfl }
open Go.RowKit Go.Lib in
theorem Tryz.strings_Fields (s:ByteArray) (w:World) (hs:s.size<4294967281) (hascii: ∀ (j:Nat) b,s.data.toList[j]?=some b->b.toNat<128) (htab:Lib.TabIs Tryz.prog w "strings.asciiSpace" .u8 Lib.asciiSpaceTab):
  Calls Tryz.prog 141 #[.string s] w fun e w'=>
   e=.returned (.slice (some ⟨w.heap.size,0,none⟩) (Lib.fields s.data.toList).length (Lib.fields s.data.toList).length)/\w'=w.alloc (.cells ((Lib.fields s.data.toList).map fun l=>Value.string ⟨l.toArray⟩).toArray 9):=Any.strings_Fields Tryz.bD (by kernel_rfl) (by kernel_rfl) s w hs hascii htab
end Go.Proofs
namespace Go.En.Dop
open Go Go.Proofs
def Pow (_:World):Prop:=True
def jB (w:World):Prop:=Lib.TabIs Tryz.prog w "strings.asciiSpace" .u8 Lib.asciiSpaceTab/\Pow w/\ ∃ m,w.cell? ⟨0,0,none⟩=some (.int .i64 m)
end Go.En.Dop
namespace Go.En.Dop
open Go
structure Tok where
 kind:Int
 text:List UInt8
 n:Int
 at_:Int
deriving DecidableEq
structure AV where
 kind:Int
 a:Int
 b:Int
 c:Int
 d:Int
 text:List UInt8
 n:Int
 Cj:Int
 at_:Int
deriving DecidableEq
structure Fp where
 kind:Int
 elem:Int
 n:Int
 name:List UInt8
deriving DecidableEq
structure HW where
 nodes:List (AV)
 types:List (Fp)
 top:Int
deriving DecidableEq
structure cU where
 x0:Int
 x1:Int
 x2:Int
 x3:Int
deriving DecidableEq
structure EB where
 kind:Int
 n:Int
 EA:Int
deriving DecidableEq
structure BM where
 n:Int
 EA:Int
 left:Int
 at_:Int
 zero:Bool
deriving DecidableEq
structure Ey where
 name:List UInt8
 params:Int
 A7:Int
 frame:Int
 body:Int
deriving DecidableEq
structure PX where
 name:List UInt8
 at_:Int
 size:Int
 cz:Int
deriving DecidableEq
structure Hm where
 funcs:List (Ey)
 globals:List (PX)
 top:Int
 nodes:List (AV)
deriving DecidableEq
structure Lx where
 x0:Int
 x1:Int
deriving DecidableEq
structure Pa where
 params:List (Int)
 Gm:Int
deriving DecidableEq
structure Wl where
 name:List UInt8
 Cj:Int
deriving DecidableEq
structure UO where
 end_:Int
 code:Int
 output:List (Int)
deriving DecidableEq
abbrev DT:Nat->Type
 | 0=>Int
 | 1=>List UInt8
 | 2=>Bool
 | 3=>Int
 | 4=>Tok
 | 5=>AV
 | 6=>Fp
 | 7=>HW
 | 8=>cU
 | 9=>EB
 | 10=>BM
 | 11=>Ey
 | 12=>PX
 | 13=>Hm
 | 14=>Lx
 | 15=>Pa
 | 16=>Wl
 | 17=>List (Wl)
 | 18=>Int
 | 19=>UO
 | _=>Unit
abbrev di:Nat->List Fd
 | 0=>[.int .i64]
 | 1=>[.str]
 | 2=>[.bool]
 | 3=>[.int .u8]
 | 4=>[.int .i64,.str,.int .i64,.int .i64]
 | 5=>[.int .i64,.int .i64,.int .i64,.int .i64,.int .i64,.str,.int .i64,.int .i64,.int .i64]
 | 6=>[.int .i64,.int .i64,.int .i64,.str]
 | 7=>[.sl 5,.sl 6,.int .i64]
 | 8=>[.int .i64,.int .i64,.int .i64,.int .i64]
 | 9=>[.int .i64,.int .i64,.int .i64]
 | 10=>[.int .i64,.int .i64,.int .i64,.int .i64,.bool]
 | 11=>[.str,.int .i64,.int .i64,.int .i64,.int .i64]
 | 12=>[.str,.int .i64,.int .i64,.int .i64]
 | 13=>[.sl 11,.sl 12,.int .i64,.sl 5]
 | 14=>[.int .i64,.int .i64]
 | 15=>[.sl 0,.int .i64]
 | 16=>[.str,.int .i64]
 | 17=>[.sl 16]
 | 18=>[.int .i64]
 | 19=>[.int .i64,.int .i64,.sl 3]
 | _=>[]
abbrev og: ∀ τ,DT τ->Ps DT (di τ)
 | 0,x=>(x,())
 | 1,x=>(x,())
 | 2,x=>(x,())
 | 3,x=>(x,())
 | 4,x=>(x.kind,x.text,x.n,x.at_,())
 | 5,x=>(x.kind,x.a,x.b,x.c,x.d,x.text,x.n,x.Cj,x.at_,())
 | 6,x=>(x.kind,x.elem,x.n,x.name,())
 | 7,x=>(x.nodes,x.types,x.top,())
 | 8,x=>(x.x0,x.x1,x.x2,x.x3,())
 | 9,x=>(x.kind,x.n,x.EA,())
 | 10,x=>(x.n,x.EA,x.left,x.at_,x.zero,())
 | 11,x=>(x.name,x.params,x.A7,x.frame,x.body,())
 | 12,x=>(x.name,x.at_,x.size,x.cz,())
 | 13,x=>(x.funcs,x.globals,x.top,x.nodes,())
 | 14,x=>(x.x0,x.x1,())
 | 15,x=>(x.params,x.Gm,())
 | 16,x=>(x.name,x.Cj,())
 | 17,x=>(x,())
 | 18,x=>(x,())
 | 19,x=>(x.end_,x.code,x.output,())
 | _+20,_=>()
abbrev oe: ∀ τ,Ps DT (di τ)->DT τ
 | 0,p=>p.1
 | 1,p=>p.1
 | 2,p=>p.1
 | 3,p=>p.1
 | 4,p=>⟨p.1,p.2.1,p.2.2.1,p.2.2.2.1⟩
 | 5,p=>⟨p.1,p.2.1,p.2.2.1,p.2.2.2.1,p.2.2.2.2.1,p.2.2.2.2.2.1,p.2.2.2.2.2.2.1,p.2.2.2.2.2.2.2.1,p.2.2.2.2.2.2.2.2.1⟩
 | 6,p=>⟨p.1,p.2.1,p.2.2.1,p.2.2.2.1⟩
 | 7,p=>⟨p.1,p.2.1,p.2.2.1⟩
 | 8,p=>⟨p.1,p.2.1,p.2.2.1,p.2.2.2.1⟩
 | 9,p=>⟨p.1,p.2.1,p.2.2.1⟩
 | 10,p=>⟨p.1,p.2.1,p.2.2.1,p.2.2.2.1,p.2.2.2.2.1⟩
 | 11,p=>⟨p.1,p.2.1,p.2.2.1,p.2.2.2.1,p.2.2.2.2.1⟩
 | 12,p=>⟨p.1,p.2.1,p.2.2.1,p.2.2.2.1⟩
 | 13,p=>⟨p.1,p.2.1,p.2.2.1,p.2.2.2.1⟩
 | 14,p=>⟨p.1,p.2.1⟩
 | 15,p=>⟨p.1,p.2.1⟩
 | 16,p=>⟨p.1,p.2.1⟩
 | 17,p=>p.1
 | 18,p=>p.1
 | 19,p=>⟨p.1,p.2.1,p.2.2.1⟩
 | _+20,_=>()
def iz: ∀ τ,DT τ
 | 0=>(0:Int)
 | 1=>[]
 | 2=>false
 | 3=>(0:Int)
 | 4=>⟨(0:Int),[],(0:Int),(0:Int)⟩
 | 5=>⟨(0:Int),(0:Int),(0:Int),(0:Int),(0:Int),[],(0:Int),(0:Int),(0:Int)⟩
 | 6=>⟨(0:Int),(0:Int),(0:Int),[]⟩
 | 7=>⟨[],[],(0:Int)⟩
 | 8=>⟨(0:Int),(0:Int),(0:Int),(0:Int)⟩
 | 9=>⟨(0:Int),(0:Int),(0:Int)⟩
 | 10=>⟨(0:Int),(0:Int),(0:Int),(0:Int),false⟩
 | 11=>⟨[],(0:Int),(0:Int),(0:Int),(0:Int)⟩
 | 12=>⟨[],(0:Int),(0:Int),(0:Int)⟩
 | 13=>⟨[],[],(0:Int),[]⟩
 | 14=>⟨(0:Int),(0:Int)⟩
 | 15=>⟨[],(0:Int)⟩
 | 16=>⟨[],(0:Int)⟩
 | 17=>[]
 | 18=>(0:Int)
 | 19=>⟨(0:Int),(0:Int),[]⟩
 | _+20=>()
abbrev d0:Int:=(0:Int)
abbrev d1:List UInt8:=[]
abbrev d2:Bool:=false
abbrev d3:Int:=(0:Int)
abbrev d4:Tok:=⟨(0:Int),[],(0:Int),(0:Int)⟩
abbrev d5:AV:=⟨(0:Int),(0:Int),(0:Int),(0:Int),(0:Int),[],(0:Int),(0:Int),(0:Int)⟩
abbrev d6:Fp:=⟨(0:Int),(0:Int),(0:Int),[]⟩
abbrev d9:EB:=⟨(0:Int),(0:Int),(0:Int)⟩
abbrev d11:Ey:=⟨[],(0:Int),(0:Int),(0:Int),(0:Int)⟩
abbrev d12:PX:=⟨[],(0:Int),(0:Int),(0:Int)⟩
abbrev d14:Lx:=⟨(0:Int),(0:Int)⟩
abbrev d15:Pa:=⟨[],(0:Int)⟩
abbrev d16:Wl:=⟨[],(0:Int)⟩
theorem dj: ∀ τ p,og τ (oe τ p)=p
 | 0,_=>rfl
 | 1,_=>rfl
 | 2,_=>rfl
 | 3,_=>rfl
 | 4,_=>rfl
 | 5,_=>rfl
 | 6,_=>rfl
 | 7,_=>rfl
 | 8,_=>rfl
 | 9,_=>rfl
 | 10,_=>rfl
 | 11,_=>rfl
 | 12,_=>rfl
 | 13,_=>rfl
 | 14,_=>rfl
 | 15,_=>rfl
 | 16,_=>rfl
 | 17,_=>rfl
 | 18,_=>rfl
 | 19,_=>rfl
 | _+20,_=>rfl
abbrev D4:As:={ T:=DT,fds:=di,«to»:=og,of:=oe,FF:=dj,A4:=iz,inv:=Mm jB,FZ:=Mm.B4 }
end Go.En.Dop
