/- Contracts of the library at this program (laid by the shelf's own program, in plain words); these alone that are taken. -/
import Derived.Shelf.Strings.Builder1
import Derived.Shelf.Strings.Builder2
import Derived.Shelf.Strings.OnBuilder
import Derived.Shelf.Small.Utf8
import Derived.Shelf.Small.Strs
import Derived.Shelf.Strings.BuilderF
import Derived.Shelf.Strings.BuilderK
import Derived.Shelf.Strings.BuilderRune
import Derived.Shelf.Utf8.AppendRune
import Derived.Shelf.Utf8.AppendRunePlain
import Derived.Shelf.Utf8.RuneCount
import Derived.Shelf.Strings.Builder2Cap
import Derived.Shelf.Strconv.Itoa0
import Derived.Shelf.Strconv.Itoa1
import Derived.Shelf.LaysM
import Derived.Shelf.Strconv.Itoa2
import Derived.Shelf.Strconv.Itoa3
import Derived.Shelf.Strings.Search1
import Derived.Shelf.Strings.Search2
import Derived.Shelf.Strings.Search3
import Derived.Shelf.Strings.Count
import Derived.Shelf.Strings.Shaped
import Derived.Shelf.Strings.Prefix
import Derived.Shelf.Strings.Split
import Derived.Shelf.Strings.Fields
import Derived.Shelf.Strings.Replace
import Derived.Shelf.Strings.SplitShaped
import Derived.Shelf.Unicode.Latin
import Derived.Shelf.Unicode.Decode
import Derived.Shelf.Strings.RuneCount
import Derived.Shelf.Unicode.DecodeSlow
import Derived.Shelf.Unicode.DecodeAny
import Derived.Shelf.Unicode.Is16White
import Derived.Shelf.Unicode.IsSpaceAny
import Derived.Shelf.Unicode.Is16WhiteD
import Derived.Shelf.Unicode.IsSpaceAnyD
import Derived.Shelf.Strings.FieldsAny
import Derived.Shelf.Strings.FieldsFuncAny
import Derived.Shelf.Unicode.CaseLookup
import Derived.Shelf.Unicode.CaseConvert
import Derived.Shelf.Unicode.CaseTo
import Derived.Shelf.Unicode.CaseLaid
import Derived.Shelf.Unicode.Is16Any
import Derived.Shelf.Unicode.Is32Any
import Derived.Shelf.Unicode.ExclAny
import Derived.Shelf.Strings.BuilderCap
import Derived.Test.YtikecakpcfpghaaGreatDoorProg
import Derived.Lib.LaidTab
import Derived.Test.YtikecakpcfpghaaGreatDoorEn11
namespace Go.Proofs
open Go.Shelf
def Tryz.LC:Go.Shelf.Ren:=⟨fun|159=>98|165=>119|166=>120|167=>121|169=>122|230=>123|204=>124|240=>147|241=>148|197=>149|118=>150|168=>151|270=>152|262=>153|276=>178|277=>179|260=>180|242=>181|313=>182|278=>187|274=>188|275=>189|n=>n,fun|9=>9|4=>4|3=>3|5=>5|72=>170|0=>0|76=>173|75=>172|107=>178|70=>168|20=>20|37=>22|127=>198|21=>21|105=>199|164=>219|162=>225|203=>223|119=>204|46=>167|139=>234|138=>233|51=>148|160=>235|208=>252|206=>250|80=>176|n=>n,fun|13=>2|3=>4|4=>5|n=>n⟩
theorem Tryz.aM:Go.Proofs.Lays.n159 Tryz.prog Tryz.LC:={
 mixed:=by kernel_rfl
 f118:=Tryz.func150.trans (congrArg some (by kernel_rfl))
 f159:=Tryz.func98.trans (congrArg some (by kernel_rfl))
 f165:=Tryz.func119.trans (congrArg some (by kernel_rfl))
 f166:=Tryz.func120.trans (congrArg some (by kernel_rfl))
 f167:=Tryz.func121.trans (congrArg some (by kernel_rfl))
 f168:=Tryz.func151.trans (congrArg some (by kernel_rfl))
 f169:=Tryz.func122.trans (congrArg some (by kernel_rfl))
 f197:=Tryz.func149.trans (congrArg some (by kernel_rfl))
 f204:=Tryz.func124.trans (congrArg some (by kernel_rfl))
 f230:=Tryz.func123.trans (congrArg some (by kernel_rfl))
 f240:=Tryz.func147.trans (congrArg some (by kernel_rfl))
 f241:=Tryz.func148.trans (congrArg some (by kernel_rfl))
 f242:=Tryz.func181.trans (congrArg some (by kernel_rfl))
 f260:=Tryz.func180.trans (congrArg some (by kernel_rfl))
 f262:=Tryz.func153.trans (congrArg some (by kernel_rfl))
 f270:=Tryz.func152.trans (congrArg some (by kernel_rfl))
 f274:=Tryz.func188.trans (congrArg some (by kernel_rfl))
 f275:=Tryz.func189.trans (congrArg some (by kernel_rfl))
 f276:=Tryz.func178.trans (congrArg some (by kernel_rfl))
 f277:=Tryz.func179.trans (congrArg some (by kernel_rfl))
 f278:=Tryz.func187.trans (congrArg some (by kernel_rfl))
 f313:=Tryz.func182.trans (congrArg some (by kernel_rfl))
 t0:=Tryz.underlying0
 a0:=Tryz.isAgg0
 z0:=Tryz.sizeOf0
 v0:=Tryz.zeroValue0
 t3:=Tryz.underlying3
 a3:=Tryz.isAgg3
 z3:=Tryz.sizeOf3
 v3:=Tryz.zeroValue3
 t4:=Tryz.underlying4
 a4:=Tryz.isAgg4
 z4:=Tryz.sizeOf4
 v4:=Tryz.zeroValue4
 t5:=Tryz.underlying5
 a5:=Tryz.isAgg5
 z5:=Tryz.sizeOf5
 v5:=Tryz.zeroValue5
 t9:=Tryz.underlying9
 a9:=Tryz.isAgg9
 z9:=Tryz.sizeOf9
 v9:=Tryz.zeroValue9
 t20:=Tryz.underlying20
 a20:=Tryz.isAgg20
 z20:=Tryz.sizeOf20
 v20:=Tryz.zeroValue20
 t21:=Tryz.underlying21
 a21:=Tryz.isAgg21
 z21:=Tryz.sizeOf21
 v21:=Tryz.zeroValue21
 t37:=Tryz.underlying22
 a37:=Tryz.isAgg22
 z37:=Tryz.sizeOf22
 v37:=Tryz.zeroValue22
 t46:=Tryz.underlying167
 a46:=Tryz.isAgg167
 z46:=Tryz.sizeOf167
 v46:=Tryz.zeroValue167
 t51:=Tryz.underlying148
 a51:=Tryz.isAgg148
 z51:=Tryz.sizeOf148
 v51:=Tryz.zeroValue148
 t70:=Tryz.underlying168
 a70:=Tryz.isAgg168
 z70:=Tryz.sizeOf168
 v70:=Tryz.zeroValue168
 t72:=Tryz.underlying170
 a72:=Tryz.isAgg170
 z72:=Tryz.sizeOf170
 v72:=Tryz.zeroValue170
 t75:=Tryz.underlying172
 a75:=Tryz.isAgg172
 z75:=Tryz.sizeOf172
 v75:=Tryz.zeroValue172
 t76:=Tryz.underlying173
 a76:=Tryz.isAgg173
 z76:=Tryz.sizeOf173
 v76:=Tryz.zeroValue173
 t105:=Tryz.underlying199
 a105:=Tryz.isAgg199
 z105:=Tryz.sizeOf199
 v105:=Tryz.zeroValue199
 t107:=Tryz.underlying178
 a107:=Tryz.isAgg178
 z107:=Tryz.sizeOf178
 v107:=Tryz.zeroValue178
 t119:=Tryz.underlying204
 a119:=Tryz.isAgg204
 z119:=Tryz.sizeOf204
 t127:=Tryz.underlying198
 a127:=Tryz.isAgg198
 z127:=Tryz.sizeOf198
 v127:=Tryz.zeroValue198
 t138:=Tryz.underlying233
 a138:=Tryz.isAgg233
 z138:=Tryz.sizeOf233
 v138:=Tryz.zeroValue233
 t139:=Tryz.underlying234
 a139:=Tryz.isAgg234
 z139:=Tryz.sizeOf234
 v139:=Tryz.zeroValue234
 t160:=Tryz.underlying235
 a160:=Tryz.isAgg235
 z160:=Tryz.sizeOf235
 v160:=Tryz.zeroValue235
 t162:=Tryz.underlying225
 a162:=Tryz.isAgg225
 z162:=Tryz.sizeOf225
 v162:=Tryz.zeroValue225
 t164:=Tryz.underlying219
 a164:=Tryz.isAgg219
 z164:=Tryz.sizeOf219
 v164:=Tryz.zeroValue219
 t203:=Tryz.underlying223
 a203:=Tryz.isAgg223
 z203:=Tryz.sizeOf223
 v203:=Tryz.zeroValue223
 t206:=Tryz.underlying250
 a206:=Tryz.isAgg250
 z206:=Tryz.sizeOf250
 v206:=Tryz.zeroValue250
 t208:=Tryz.underlying252
 a208:=Tryz.isAgg252
 z208:=Tryz.sizeOf252
 v208:=Tryz.zeroValue252
 g3:=by kernel_rfl
 g4:=by kernel_rfl
 g13:=by kernel_rfl }
theorem Tryz.JQ:Builder.Extra Tryz.prog Tryz.LC:={
 sizeBuilder:=by kernel_rfl
 liesBuilder:=by kernel_rfl
 t5:=Tryz.underlying5
 a5:=Tryz.isAgg5
 z5:=Tryz.sizeOf5
 v5:=Tryz.zeroValue5
 infoByte:=by kernel_rfl
 cellsByte:=by kernel_rfl
 sizeByte:=by kernel_rfl
 neB5:=by decide }
open Go.RowKit in
theorem Tryz.strings_ToLower_ascii (s:ByteArray) (w:World) (hs:s.size<=140737488355328) (hascii: ∀ (j:Nat) (b:UInt8),s.data.toList[j]?=some b->b.toNat<128):
  Calls Tryz.prog 98 #[.string s] w fun e w'=>e=.returned (.string ⟨(Lib.toLowerA s.data.toList).toArray⟩)/\Below w.heap.size w w':=Any.strings_ToLower_ascii Tryz.aM Tryz.JQ s w hs hascii
def Tryz.RC:Go.Shelf.Ren:=⟨fun|137=>50|217=>94|266=>115|n=>n,fun|9=>9|5=>5|3=>3|n=>n,fun|n=>n⟩
theorem Tryz.aI:Go.Proofs.Lays.n137 Tryz.prog Tryz.RC:={
 mixed:=by kernel_rfl
 f137:=Tryz.func50.trans (congrArg some (by kernel_rfl))
 f217:=Tryz.func94.trans (congrArg some (by kernel_rfl))
 f266:=Tryz.func115.trans (congrArg some (by kernel_rfl))
 t3:=Tryz.underlying3
 a3:=Tryz.isAgg3
 z3:=Tryz.sizeOf3
 v3:=Tryz.zeroValue3
 t5:=Tryz.underlying5
 a5:=Tryz.isAgg5
 z5:=Tryz.sizeOf5
 v5:=Tryz.zeroValue5
 t9:=Tryz.underlying9
 a9:=Tryz.isAgg9
 z9:=Tryz.sizeOf9
 v9:=Tryz.zeroValue9 }
open Go.RowKit in
theorem Tryz.strings_IndexByte (s:ByteArray) (c:Int) (w:World):
  Calls Tryz.prog 50 #[.string s,.int .u8 c] w fun e w'=>e=.returned (.int .i64 (Lib.indexByte s.data.toList c.toNat.toUInt8))/\w'=w:=Any.strings_IndexByte Tryz.aI s c w
def Tryz.RD:Go.Shelf.Ren:=⟨fun|143=>52|219=>96|217=>94|225=>116|224=>117|267=>118|266=>115|314=>146|n=>n,fun|9=>9|3=>3|4=>4|5=>5|46=>167|146=>196|51=>148|n=>n,fun|1=>0|n=>n⟩
theorem Tryz.aJ:Go.Proofs.Lays.n143 Tryz.prog Tryz.RD:={
 mixed:=by kernel_rfl
 f143:=Tryz.func52.trans (congrArg some (by kernel_rfl))
 f217:=Tryz.func94.trans (congrArg some (by kernel_rfl))
 f219:=Tryz.func96.trans (congrArg some (by kernel_rfl))
 f224:=Tryz.func117.trans (congrArg some (by kernel_rfl))
 f225:=Tryz.func116.trans (congrArg some (by kernel_rfl))
 f266:=Tryz.func115.trans (congrArg some (by kernel_rfl))
 f267:=Tryz.func118.trans (congrArg some (by kernel_rfl))
 f314:=Tryz.func146.trans (congrArg some (by kernel_rfl))
 t3:=Tryz.underlying3
 a3:=Tryz.isAgg3
 z3:=Tryz.sizeOf3
 v3:=Tryz.zeroValue3
 t4:=Tryz.underlying4
 a4:=Tryz.isAgg4
 z4:=Tryz.sizeOf4
 v4:=Tryz.zeroValue4
 t5:=Tryz.underlying5
 a5:=Tryz.isAgg5
 z5:=Tryz.sizeOf5
 v5:=Tryz.zeroValue5
 t9:=Tryz.underlying9
 a9:=Tryz.isAgg9
 z9:=Tryz.sizeOf9
 v9:=Tryz.zeroValue9
 t46:=Tryz.underlying167
 a46:=Tryz.isAgg167
 z46:=Tryz.sizeOf167
 v46:=Tryz.zeroValue167
 t51:=Tryz.underlying148
 a51:=Tryz.isAgg148
 z51:=Tryz.sizeOf148
 v51:=Tryz.zeroValue148
 t146:=Tryz.underlying196
 a146:=Tryz.isAgg196
 z146:=Tryz.sizeOf196
 v146:=Tryz.zeroValue196
 g1:=by kernel_rfl }
open Go.RowKit Go.Lib in
theorem Tryz.strings_Index (s sub:ByteArray) (m:Int) (w:World) (hs:s.size<4294967281) (hm:w.cell? ⟨0,0,none⟩=some (.int .i64 m)):
  Calls Tryz.prog 52 #[.string s,.string sub] w fun e w'=>e=.returned (.int .i64 (Lib.index s.data.toList sub.data.toList))/\w'=w:=Any.strings_Index Tryz.aJ s sub m w hs hm
def Tryz.RE:Go.Shelf.Ren:=⟨fun|144=>97|143=>52|219=>96|217=>94|225=>116|224=>117|267=>118|266=>115|314=>146|n=>n,fun|9=>9|4=>4|3=>3|5=>5|46=>167|146=>196|51=>148|n=>n,fun|1=>0|n=>n⟩
theorem Tryz.aK:Go.Proofs.Lays.n144 Tryz.prog Tryz.RE:={
 mixed:=by kernel_rfl
 f143:=Tryz.func52.trans (congrArg some (by kernel_rfl))
 f144:=Tryz.func97.trans (congrArg some (by kernel_rfl))
 f217:=Tryz.func94.trans (congrArg some (by kernel_rfl))
 f219:=Tryz.func96.trans (congrArg some (by kernel_rfl))
 f224:=Tryz.func117.trans (congrArg some (by kernel_rfl))
 f225:=Tryz.func116.trans (congrArg some (by kernel_rfl))
 f266:=Tryz.func115.trans (congrArg some (by kernel_rfl))
 f267:=Tryz.func118.trans (congrArg some (by kernel_rfl))
 f314:=Tryz.func146.trans (congrArg some (by kernel_rfl))
 t3:=Tryz.underlying3
 a3:=Tryz.isAgg3
 z3:=Tryz.sizeOf3
 v3:=Tryz.zeroValue3
 t4:=Tryz.underlying4
 a4:=Tryz.isAgg4
 z4:=Tryz.sizeOf4
 v4:=Tryz.zeroValue4
 t5:=Tryz.underlying5
 a5:=Tryz.isAgg5
 z5:=Tryz.sizeOf5
 v5:=Tryz.zeroValue5
 t9:=Tryz.underlying9
 a9:=Tryz.isAgg9
 z9:=Tryz.sizeOf9
 v9:=Tryz.zeroValue9
 t46:=Tryz.underlying167
 a46:=Tryz.isAgg167
 z46:=Tryz.sizeOf167
 v46:=Tryz.zeroValue167
 t51:=Tryz.underlying148
 a51:=Tryz.isAgg148
 z51:=Tryz.sizeOf148
 v51:=Tryz.zeroValue148
 t146:=Tryz.underlying196
 a146:=Tryz.isAgg196
 z146:=Tryz.sizeOf196
 v146:=Tryz.zeroValue196
 g1:=by kernel_rfl }
open Go.RowKit Go.Lib in
theorem Tryz.strings_Contains (s sub:ByteArray) (m:Int) (w:World) (hs:s.size<4294967281) (hm:w.cell? ⟨0,0,none⟩=some (.int .i64 m)):
  Calls Tryz.prog 97 #[.string s,.string sub] w fun e w'=>e=.returned (.bool (Lib.contains s.data.toList sub.data.toList))/\w'=w:=Any.strings_Contains Tryz.aK s sub m w hs hm
def Tryz.TF:Go.Shelf.Ren:=⟨fun|99=>51|206=>95|n=>n,fun|9=>9|4=>4|3=>3|n=>n,fun|n=>n⟩
theorem Tryz.eA:Go.Proofs.Lays.n99 Tryz.prog Tryz.TF:={
 mixed:=by kernel_rfl
 f99:=Tryz.func51.trans (congrArg some (by kernel_rfl))
 f206:=Tryz.func95.trans (congrArg some (by kernel_rfl))
 t3:=Tryz.underlying3
 a3:=Tryz.isAgg3
 z3:=Tryz.sizeOf3
 v3:=Tryz.zeroValue3
 t4:=Tryz.underlying4
 a4:=Tryz.isAgg4
 z4:=Tryz.sizeOf4
 v4:=Tryz.zeroValue4
 t9:=Tryz.underlying9
 a9:=Tryz.isAgg9
 z9:=Tryz.sizeOf9
 v9:=Tryz.zeroValue9 }
open Go.RowKit Go.Lib in
theorem Tryz.strings_HasPrefix (s p:ByteArray) (w:World):
  Calls Tryz.prog 51 #[.string s,.string p] w fun e w'=>e=.returned (.bool (Lib.hasPrefix s.data.toList p.data.toList))/\w'=w:=Any.strings_HasPrefix Tryz.eA s p w
def Tryz.RB:Go.Shelf.Ren:=⟨fun|102=>134|209=>172|207=>186|n=>n,fun|9=>9|4=>4|3=>3|n=>n,fun|n=>n⟩
theorem Tryz.aH:Go.Proofs.Lays.n102 Tryz.prog Tryz.RB:={
 mixed:=by kernel_rfl
 f102:=Tryz.func134.trans (congrArg some (by kernel_rfl))
 f207:=Tryz.func186.trans (congrArg some (by kernel_rfl))
 f209:=Tryz.func172.trans (congrArg some (by kernel_rfl))
 t3:=Tryz.underlying3
 a3:=Tryz.isAgg3
 z3:=Tryz.sizeOf3
 v3:=Tryz.zeroValue3
 t4:=Tryz.underlying4
 a4:=Tryz.isAgg4
 z4:=Tryz.sizeOf4
 v4:=Tryz.zeroValue4
 t9:=Tryz.underlying9
 a9:=Tryz.isAgg9
 z9:=Tryz.sizeOf9
 v9:=Tryz.zeroValue9 }
open Go.RowKit Go.Lib in
theorem Tryz.strings_TrimSuffix (s p:ByteArray) (w:World) (hs:s.size<=9223372036854775807):
  Calls Tryz.prog 134 #[.string s,.string p] w fun e w'=>e=.returned (.string ⟨(Lib.trimSuffix s.data.toList p.data.toList).toArray⟩)/\w'=w:=Any.strings_TrimSuffix Tryz.aH s p w hs
def Tryz.RF:Go.Shelf.Ren:=⟨fun|157=>125|229=>154|199=>155|261=>183|311=>190|312=>191|n=>n,fun|9=>9|31=>157|3=>3|5=>5|4=>4|119=>204|0=>0|40=>206|152=>226|21=>21|154=>228|51=>148|141=>230|196=>241|193=>238|198=>244|49=>242|194=>239|201=>247|226=>253|46=>167|227=>254|n=>n,fun|0=>1|6=>3|n=>n⟩
theorem Tryz.aL:Go.Proofs.Lays.n157 Tryz.prog Tryz.RF:={
 mixed:=by kernel_rfl
 f157:=Tryz.func125.trans (congrArg some (by kernel_rfl))
 f199:=Tryz.func155.trans (congrArg some (by kernel_rfl))
 f229:=Tryz.func154.trans (congrArg some (by kernel_rfl))
 f261:=Tryz.func183.trans (congrArg some (by kernel_rfl))
 f311:=Tryz.func190.trans (congrArg some (by kernel_rfl))
 f312:=Tryz.func191.trans (congrArg some (by kernel_rfl))
 t0:=Tryz.underlying0
 a0:=Tryz.isAgg0
 z0:=Tryz.sizeOf0
 v0:=Tryz.zeroValue0
 t3:=Tryz.underlying3
 a3:=Tryz.isAgg3
 z3:=Tryz.sizeOf3
 v3:=Tryz.zeroValue3
 t4:=Tryz.underlying4
 a4:=Tryz.isAgg4
 z4:=Tryz.sizeOf4
 v4:=Tryz.zeroValue4
 t5:=Tryz.underlying5
 a5:=Tryz.isAgg5
 z5:=Tryz.sizeOf5
 v5:=Tryz.zeroValue5
 t9:=Tryz.underlying9
 a9:=Tryz.isAgg9
 z9:=Tryz.sizeOf9
 v9:=Tryz.zeroValue9
 t21:=Tryz.underlying21
 a21:=Tryz.isAgg21
 z21:=Tryz.sizeOf21
 v21:=Tryz.zeroValue21
 t31:=Tryz.underlying157
 a31:=Tryz.isAgg157
 z31:=Tryz.sizeOf157
 v31:=Tryz.zeroValue157
 t40:=Tryz.underlying206
 a40:=Tryz.isAgg206
 z40:=Tryz.sizeOf206
 v40:=Tryz.zeroValue206
 t46:=Tryz.underlying167
 a46:=Tryz.isAgg167
 z46:=Tryz.sizeOf167
 v46:=Tryz.zeroValue167
 t49:=Tryz.underlying242
 a49:=Tryz.isAgg242
 z49:=Tryz.sizeOf242
 v49:=Tryz.zeroValue242
 t51:=Tryz.underlying148
 a51:=Tryz.isAgg148
 z51:=Tryz.sizeOf148
 v51:=Tryz.zeroValue148
 t119:=Tryz.underlying204
 a119:=Tryz.isAgg204
 z119:=Tryz.sizeOf204
 t141:=Tryz.underlying230
 a141:=Tryz.isAgg230
 z141:=Tryz.sizeOf230
 v141:=Tryz.zeroValue230
 t152:=Tryz.underlying226
 a152:=Tryz.isAgg226
 z152:=Tryz.sizeOf226
 v152:=Tryz.zeroValue226
 t154:=Tryz.underlying228
 a154:=Tryz.isAgg228
 z154:=Tryz.sizeOf228
 v154:=Tryz.zeroValue228
 t193:=Tryz.underlying238
 a193:=Tryz.isAgg238
 z193:=Tryz.sizeOf238
 v193:=Tryz.zeroValue238
 t194:=Tryz.underlying239
 a194:=Tryz.isAgg239
 z194:=Tryz.sizeOf239
 v194:=Tryz.zeroValue239
 t196:=Tryz.underlying241
 a196:=Tryz.isAgg241
 z196:=Tryz.sizeOf241
 v196:=Tryz.zeroValue241
 t198:=Tryz.underlying244
 a198:=Tryz.isAgg244
 z198:=Tryz.sizeOf244
 v198:=Tryz.zeroValue244
 t201:=Tryz.underlying247
 a201:=Tryz.isAgg247
 z201:=Tryz.sizeOf247
 v201:=Tryz.zeroValue247
 t226:=Tryz.underlying253
 a226:=Tryz.isAgg253
 z226:=Tryz.sizeOf253
 v226:=Tryz.zeroValue253
 t227:=Tryz.underlying254
 a227:=Tryz.isAgg254
 z227:=Tryz.sizeOf254
 v227:=Tryz.zeroValue254
 g0:=by kernel_rfl
 g6:=by kernel_rfl }
open Go.RowKit Go.Lib in
theorem Tryz.strings_Fields (s:ByteArray) (w:World) (hs:s.size<4294967281) (hascii: ∀ (j:Nat) b,s.data.toList[j]?=some b->b.toNat<128) (htab:Lib.TabIs Tryz.prog w "strings.asciiSpace" .u8 Lib.asciiSpaceTab):
  Calls Tryz.prog 125 #[.string s] w fun e w'=>
   e=.returned (.slice (some ⟨w.heap.size,0,none⟩) (Lib.fields s.data.toList).length (Lib.fields s.data.toList).length)/\w'=w.alloc (.cells ((Lib.fields s.data.toList).map fun l=>Value.string ⟨l.toArray⟩).toArray 9):=Any.strings_Fields Tryz.aL (by kernel_rfl) (by kernel_rfl) s w hs hascii htab
end Go.Proofs
namespace Go.En.Dop
open Go Go.Proofs
def Pow (_:World):Prop:=True
def iH (w:World):Prop:=Lib.TabIs Tryz.prog w "strings.asciiSpace" .u8 Lib.asciiSpaceTab/\Pow w/\ ∃ m,w.cell? ⟨0,0,none⟩=some (.int .i64 m)
end Go.En.Dop
namespace Go.En.Dop
open Go
structure Tok where
 kind:Int
 text:List UInt8
 n:Int
 at_:Int
deriving DecidableEq
structure AZ where
 kind:Int
 a:Int
 b:Int
 c:Int
 d:Int
 text:List UInt8
 n:Int
 CC:Int
 at_:Int
deriving DecidableEq
structure HC where
 kind:Int
 elem:Int
 n:Int
 name:List UInt8
deriving DecidableEq
structure HA where
 nodes:List (AZ)
 types:List (HC)
 top:Int
deriving DecidableEq
structure gu where
 x0:Int
 x1:Int
 x2:Int
 x3:Int
deriving DecidableEq
structure CD where
 kind:Int
 n:Int
 BB:Int
deriving DecidableEq
structure Ae where
 n:Int
 BB:Int
 left:Int
 at_:Int
 zero:Bool
deriving DecidableEq
structure Dc where
 name:List UInt8
 params:Int
 Al:Int
 frame:Int
 body:Int
deriving DecidableEq
structure ML where
 name:List UInt8
 at_:Int
 size:Int
 Q4:Int
deriving DecidableEq
structure JM where
 funcs:List (Dc)
 globals:List (ML)
 top:Int
 nodes:List (AZ)
deriving DecidableEq
structure Lb where
 x0:Int
 x1:Int
deriving DecidableEq
structure N8 where
 params:List (Int)
 DI:Int
deriving DecidableEq
structure WO where
 name:List UInt8
 CC:Int
deriving DecidableEq
structure SO where
 end_:Int
 code:Int
 output:List (Int)
deriving DecidableEq
abbrev DT:Nat->Type
 | 0=>Int
 | 1=>List UInt8
 | 2=>Bool
 | 3=>Int
 | 4=>Tok
 | 5=>AZ
 | 6=>HC
 | 7=>HA
 | 8=>gu
 | 9=>CD
 | 10=>Ae
 | 11=>Dc
 | 12=>ML
 | 13=>JM
 | 14=>Lb
 | 15=>N8
 | 16=>WO
 | 17=>List (WO)
 | 18=>Int
 | 19=>SO
 | _=>Unit
abbrev cj:Nat->List Fd
 | 0=>[.int .i64]
 | 1=>[.str]
 | 2=>[.bool]
 | 3=>[.int .u8]
 | 4=>[.int .i64,.str,.int .i64,.int .i64]
 | 5=>[.int .i64,.int .i64,.int .i64,.int .i64,.int .i64,.str,.int .i64,.int .i64,.int .i64]
 | 6=>[.int .i64,.int .i64,.int .i64,.str]
 | 7=>[.sl 5,.sl 6,.int .i64]
 | 8=>[.int .i64,.int .i64,.int .i64,.int .i64]
 | 9=>[.int .i64,.int .i64,.int .i64]
 | 10=>[.int .i64,.int .i64,.int .i64,.int .i64,.bool]
 | 11=>[.str,.int .i64,.int .i64,.int .i64,.int .i64]
 | 12=>[.str,.int .i64,.int .i64,.int .i64]
 | 13=>[.sl 11,.sl 12,.int .i64,.sl 5]
 | 14=>[.int .i64,.int .i64]
 | 15=>[.sl 0,.int .i64]
 | 16=>[.str,.int .i64]
 | 17=>[.sl 16]
 | 18=>[.int .i64]
 | 19=>[.int .i64,.int .i64,.sl 3]
 | _=>[]
abbrev mq: ∀ τ,DT τ->Ps DT (cj τ)
 | 0,x=>(x,())
 | 1,x=>(x,())
 | 2,x=>(x,())
 | 3,x=>(x,())
 | 4,x=>(x.kind,x.text,x.n,x.at_,())
 | 5,x=>(x.kind,x.a,x.b,x.c,x.d,x.text,x.n,x.CC,x.at_,())
 | 6,x=>(x.kind,x.elem,x.n,x.name,())
 | 7,x=>(x.nodes,x.types,x.top,())
 | 8,x=>(x.x0,x.x1,x.x2,x.x3,())
 | 9,x=>(x.kind,x.n,x.BB,())
 | 10,x=>(x.n,x.BB,x.left,x.at_,x.zero,())
 | 11,x=>(x.name,x.params,x.Al,x.frame,x.body,())
 | 12,x=>(x.name,x.at_,x.size,x.Q4,())
 | 13,x=>(x.funcs,x.globals,x.top,x.nodes,())
 | 14,x=>(x.x0,x.x1,())
 | 15,x=>(x.params,x.DI,())
 | 16,x=>(x.name,x.CC,())
 | 17,x=>(x,())
 | 18,x=>(x,())
 | 19,x=>(x.end_,x.code,x.output,())
 | _+20,_=>()
abbrev mn: ∀ τ,Ps DT (cj τ)->DT τ
 | 0,p=>p.1
 | 1,p=>p.1
 | 2,p=>p.1
 | 3,p=>p.1
 | 4,p=>⟨p.1,p.2.1,p.2.2.1,p.2.2.2.1⟩
 | 5,p=>⟨p.1,p.2.1,p.2.2.1,p.2.2.2.1,p.2.2.2.2.1,p.2.2.2.2.2.1,p.2.2.2.2.2.2.1,p.2.2.2.2.2.2.2.1,p.2.2.2.2.2.2.2.2.1⟩
 | 6,p=>⟨p.1,p.2.1,p.2.2.1,p.2.2.2.1⟩
 | 7,p=>⟨p.1,p.2.1,p.2.2.1⟩
 | 8,p=>⟨p.1,p.2.1,p.2.2.1,p.2.2.2.1⟩
 | 9,p=>⟨p.1,p.2.1,p.2.2.1⟩
 | 10,p=>⟨p.1,p.2.1,p.2.2.1,p.2.2.2.1,p.2.2.2.2.1⟩
 | 11,p=>⟨p.1,p.2.1,p.2.2.1,p.2.2.2.1,p.2.2.2.2.1⟩
 | 12,p=>⟨p.1,p.2.1,p.2.2.1,p.2.2.2.1⟩
 | 13,p=>⟨p.1,p.2.1,p.2.2.1,p.2.2.2.1⟩
 | 14,p=>⟨p.1,p.2.1⟩
 | 15,p=>⟨p.1,p.2.1⟩
 | 16,p=>⟨p.1,p.2.1⟩
 | 17,p=>p.1
 | 18,p=>p.1
 | 19,p=>⟨p.1,p.2.1,p.2.2.1⟩
 | _+20,_=>()
def iF: ∀ τ,DT τ
 | 0=>(0:Int)
 | 1=>[]
 | 2=>false
 | 3=>(0:Int)
 | 4=>⟨(0:Int),[],(0:Int),(0:Int)⟩
 | 5=>⟨(0:Int),(0:Int),(0:Int),(0:Int),(0:Int),[],(0:Int),(0:Int),(0:Int)⟩
 | 6=>⟨(0:Int),(0:Int),(0:Int),[]⟩
 | 7=>⟨[],[],(0:Int)⟩
 | 8=>⟨(0:Int),(0:Int),(0:Int),(0:Int)⟩
 | 9=>⟨(0:Int),(0:Int),(0:Int)⟩
 | 10=>⟨(0:Int),(0:Int),(0:Int),(0:Int),false⟩
 | 11=>⟨[],(0:Int),(0:Int),(0:Int),(0:Int)⟩
 | 12=>⟨[],(0:Int),(0:Int),(0:Int)⟩
 | 13=>⟨[],[],(0:Int),[]⟩
 | 14=>⟨(0:Int),(0:Int)⟩
 | 15=>⟨[],(0:Int)⟩
 | 16=>⟨[],(0:Int)⟩
 | 17=>[]
 | 18=>(0:Int)
 | 19=>⟨(0:Int),(0:Int),[]⟩
 | _+20=>()
abbrev d3:Int:=(0:Int)
abbrev d4:Tok:=⟨(0:Int),[],(0:Int),(0:Int)⟩
abbrev d5:AZ:=⟨(0:Int),(0:Int),(0:Int),(0:Int),(0:Int),[],(0:Int),(0:Int),(0:Int)⟩
abbrev d6:HC:=⟨(0:Int),(0:Int),(0:Int),[]⟩
abbrev d9:CD:=⟨(0:Int),(0:Int),(0:Int)⟩
abbrev d11:Dc:=⟨[],(0:Int),(0:Int),(0:Int),(0:Int)⟩
abbrev d12:ML:=⟨[],(0:Int),(0:Int),(0:Int)⟩
abbrev d14:Lb:=⟨(0:Int),(0:Int)⟩
abbrev d15:N8:=⟨[],(0:Int)⟩
abbrev d16:WO:=⟨[],(0:Int)⟩
theorem cp: ∀ τ p,mq τ (mn τ p)=p
 | 0,_=>rfl
 | 1,_=>rfl
 | 2,_=>rfl
 | 3,_=>rfl
 | 4,_=>rfl
 | 5,_=>rfl
 | 6,_=>rfl
 | 7,_=>rfl
 | 8,_=>rfl
 | 9,_=>rfl
 | 10,_=>rfl
 | 11,_=>rfl
 | 12,_=>rfl
 | 13,_=>rfl
 | 14,_=>rfl
 | 15,_=>rfl
 | 16,_=>rfl
 | 17,_=>rfl
 | 18,_=>rfl
 | 19,_=>rfl
 | _+20,_=>rfl
abbrev D4:Aq:={ T:=DT,fds:=cj,«to»:=mq,of:=mn,E4:=cp,A5:=iF,inv:=MP iH,FQ:=MP.Bo }
end Go.En.Dop
