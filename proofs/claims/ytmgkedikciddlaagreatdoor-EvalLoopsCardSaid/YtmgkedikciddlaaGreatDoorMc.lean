/- Contracts of the library at this program (laid by the shelf's own program, in plain words); these alone that are taken. -/
import Derived.Shelf.Strings.Builder1
import Derived.Shelf.Strings.Builder2
import Derived.Shelf.Strings.OnBuilder
import Derived.Shelf.Small.Utf8
import Derived.Shelf.Small.Strs
import Derived.Shelf.Strings.BuilderF
import Derived.Shelf.Strings.BuilderK
import Derived.Shelf.Strings.BuilderRune
import Derived.Shelf.Utf8.AppendRune
import Derived.Shelf.Utf8.AppendRunePlain
import Derived.Shelf.Utf8.RuneCount
import Derived.Shelf.Strings.Builder2Cap
import Derived.Shelf.Strconv.Itoa0
import Derived.Shelf.Strconv.Itoa1
import Derived.Shelf.LaysM
import Derived.Shelf.Strconv.Itoa2
import Derived.Shelf.Strconv.Itoa3
import Derived.Shelf.Strings.Search1
import Derived.Shelf.Strings.Search2
import Derived.Shelf.Strings.Search3
import Derived.Shelf.Strings.Count
import Derived.Shelf.Strings.Shaped
import Derived.Shelf.Strings.Prefix
import Derived.Shelf.Strings.Split
import Derived.Shelf.Strings.Fields
import Derived.Shelf.Strings.Replace
import Derived.Shelf.Strings.SplitShaped
import Derived.Shelf.Unicode.Latin
import Derived.Shelf.Unicode.Decode
import Derived.Shelf.Strings.RuneCount
import Derived.Shelf.Unicode.DecodeSlow
import Derived.Shelf.Unicode.DecodeAny
import Derived.Shelf.Unicode.Is16White
import Derived.Shelf.Unicode.IsSpaceAny
import Derived.Shelf.Unicode.Is16WhiteD
import Derived.Shelf.Unicode.IsSpaceAnyD
import Derived.Shelf.Strings.FieldsAny
import Derived.Shelf.Strings.FieldsFuncAny
import Derived.Shelf.Unicode.CaseLookup
import Derived.Shelf.Unicode.CaseConvert
import Derived.Shelf.Unicode.CaseTo
import Derived.Shelf.Unicode.CaseLaid
import Derived.Shelf.Unicode.Is16Any
import Derived.Shelf.Unicode.Is32Any
import Derived.Shelf.Unicode.ExclAny
import Derived.Shelf.Strings.BuilderCap
import Derived.Test.YtmgkedikciddlaaGreatDoorProg
import Derived.Lib.LaidTab
import Derived.Test.YtmgkedikciddlaaGreatDoorEn11
namespace Go.Proofs
open Go.Shelf
def Tryz.LH:Go.Shelf.Ren:=⟨fun|159=>114|165=>135|166=>136|167=>137|169=>138|230=>139|204=>140|240=>163|241=>164|197=>165|118=>166|168=>167|270=>168|262=>169|276=>194|277=>195|260=>196|242=>197|313=>198|278=>203|274=>204|275=>205|n=>n,fun|9=>9|4=>4|3=>3|5=>5|72=>184|0=>0|76=>187|75=>186|107=>192|70=>182|20=>20|37=>24|127=>212|21=>21|105=>213|164=>233|162=>239|203=>237|119=>218|46=>101|139=>248|138=>247|51=>98|160=>249|208=>266|206=>264|80=>190|n=>n,fun|13=>5|3=>7|4=>8|n=>n⟩
theorem Tryz.ae:Go.Proofs.Lays.n159 Tryz.prog Tryz.LH:={
 mixed:=by kernel_rfl
 f118:=Tryz.func166.trans (congrArg some (by kernel_rfl))
 f159:=Tryz.func114.trans (congrArg some (by kernel_rfl))
 f165:=Tryz.func135.trans (congrArg some (by kernel_rfl))
 f166:=Tryz.func136.trans (congrArg some (by kernel_rfl))
 f167:=Tryz.func137.trans (congrArg some (by kernel_rfl))
 f168:=Tryz.func167.trans (congrArg some (by kernel_rfl))
 f169:=Tryz.func138.trans (congrArg some (by kernel_rfl))
 f197:=Tryz.func165.trans (congrArg some (by kernel_rfl))
 f204:=Tryz.func140.trans (congrArg some (by kernel_rfl))
 f230:=Tryz.func139.trans (congrArg some (by kernel_rfl))
 f240:=Tryz.func163.trans (congrArg some (by kernel_rfl))
 f241:=Tryz.func164.trans (congrArg some (by kernel_rfl))
 f242:=Tryz.func197.trans (congrArg some (by kernel_rfl))
 f260:=Tryz.func196.trans (congrArg some (by kernel_rfl))
 f262:=Tryz.func169.trans (congrArg some (by kernel_rfl))
 f270:=Tryz.func168.trans (congrArg some (by kernel_rfl))
 f274:=Tryz.func204.trans (congrArg some (by kernel_rfl))
 f275:=Tryz.func205.trans (congrArg some (by kernel_rfl))
 f276:=Tryz.func194.trans (congrArg some (by kernel_rfl))
 f277:=Tryz.func195.trans (congrArg some (by kernel_rfl))
 f278:=Tryz.func203.trans (congrArg some (by kernel_rfl))
 f313:=Tryz.func198.trans (congrArg some (by kernel_rfl))
 t0:=Tryz.underlying0
 a0:=Tryz.isAgg0
 z0:=Tryz.sizeOf0
 v0:=Tryz.zeroValue0
 t3:=Tryz.underlying3
 a3:=Tryz.isAgg3
 z3:=Tryz.sizeOf3
 v3:=Tryz.zeroValue3
 t4:=Tryz.underlying4
 a4:=Tryz.isAgg4
 z4:=Tryz.sizeOf4
 v4:=Tryz.zeroValue4
 t5:=Tryz.underlying5
 a5:=Tryz.isAgg5
 z5:=Tryz.sizeOf5
 v5:=Tryz.zeroValue5
 t9:=Tryz.underlying9
 a9:=Tryz.isAgg9
 z9:=Tryz.sizeOf9
 v9:=Tryz.zeroValue9
 t20:=Tryz.underlying20
 a20:=Tryz.isAgg20
 z20:=Tryz.sizeOf20
 v20:=Tryz.zeroValue20
 t21:=Tryz.underlying21
 a21:=Tryz.isAgg21
 z21:=Tryz.sizeOf21
 v21:=Tryz.zeroValue21
 t37:=Tryz.underlying24
 a37:=Tryz.isAgg24
 z37:=Tryz.sizeOf24
 v37:=Tryz.zeroValue24
 t46:=Tryz.underlying101
 a46:=Tryz.isAgg101
 z46:=Tryz.sizeOf101
 v46:=Tryz.zeroValue101
 t51:=Tryz.underlying98
 a51:=Tryz.isAgg98
 z51:=Tryz.sizeOf98
 v51:=Tryz.zeroValue98
 t70:=Tryz.underlying182
 a70:=Tryz.isAgg182
 z70:=Tryz.sizeOf182
 v70:=Tryz.zeroValue182
 t72:=Tryz.underlying184
 a72:=Tryz.isAgg184
 z72:=Tryz.sizeOf184
 v72:=Tryz.zeroValue184
 t75:=Tryz.underlying186
 a75:=Tryz.isAgg186
 z75:=Tryz.sizeOf186
 v75:=Tryz.zeroValue186
 t76:=Tryz.underlying187
 a76:=Tryz.isAgg187
 z76:=Tryz.sizeOf187
 v76:=Tryz.zeroValue187
 t105:=Tryz.underlying213
 a105:=Tryz.isAgg213
 z105:=Tryz.sizeOf213
 v105:=Tryz.zeroValue213
 t107:=Tryz.underlying192
 a107:=Tryz.isAgg192
 z107:=Tryz.sizeOf192
 v107:=Tryz.zeroValue192
 t119:=Tryz.underlying218
 a119:=Tryz.isAgg218
 z119:=Tryz.sizeOf218
 t127:=Tryz.underlying212
 a127:=Tryz.isAgg212
 z127:=Tryz.sizeOf212
 v127:=Tryz.zeroValue212
 t138:=Tryz.underlying247
 a138:=Tryz.isAgg247
 z138:=Tryz.sizeOf247
 v138:=Tryz.zeroValue247
 t139:=Tryz.underlying248
 a139:=Tryz.isAgg248
 z139:=Tryz.sizeOf248
 v139:=Tryz.zeroValue248
 t160:=Tryz.underlying249
 a160:=Tryz.isAgg249
 z160:=Tryz.sizeOf249
 v160:=Tryz.zeroValue249
 t162:=Tryz.underlying239
 a162:=Tryz.isAgg239
 z162:=Tryz.sizeOf239
 v162:=Tryz.zeroValue239
 t164:=Tryz.underlying233
 a164:=Tryz.isAgg233
 z164:=Tryz.sizeOf233
 v164:=Tryz.zeroValue233
 t203:=Tryz.underlying237
 a203:=Tryz.isAgg237
 z203:=Tryz.sizeOf237
 v203:=Tryz.zeroValue237
 t206:=Tryz.underlying264
 a206:=Tryz.isAgg264
 z206:=Tryz.sizeOf264
 v206:=Tryz.zeroValue264
 t208:=Tryz.underlying266
 a208:=Tryz.isAgg266
 z208:=Tryz.sizeOf266
 v208:=Tryz.zeroValue266
 g3:=by kernel_rfl
 g4:=by kernel_rfl
 g13:=by kernel_rfl }
theorem Tryz.Jg:Builder.Extra Tryz.prog Tryz.LH:={
 sizeBuilder:=by kernel_rfl
 liesBuilder:=by kernel_rfl
 t5:=Tryz.underlying5
 a5:=Tryz.isAgg5
 z5:=Tryz.sizeOf5
 v5:=Tryz.zeroValue5
 infoByte:=by kernel_rfl
 cellsByte:=by kernel_rfl
 sizeByte:=by kernel_rfl
 neB5:=by decide }
open Go.RowKit in
theorem Tryz.strings_ToLower_ascii (s:ByteArray) (w:World) (hs:s.size<=140737488355328) (hascii: ∀ (j:Nat) (b:UInt8),s.data.toList[j]?=some b->b.toNat<128):
  Calls Tryz.prog 114 #[.string s] w fun e w'=>e=.returned (.string ⟨(Lib.toLowerA s.data.toList).toArray⟩)/\Below w.heap.size w w':=Any.strings_ToLower_ascii Tryz.ae Tryz.Jg s w hs hascii
def Tryz.RV:Go.Shelf.Ren:=⟨fun|137=>66|217=>110|266=>131|n=>n,fun|9=>9|5=>5|3=>3|n=>n,fun|n=>n⟩
theorem Tryz.aX:Go.Proofs.Lays.n137 Tryz.prog Tryz.RV:={
 mixed:=by kernel_rfl
 f137:=Tryz.func66.trans (congrArg some (by kernel_rfl))
 f217:=Tryz.func110.trans (congrArg some (by kernel_rfl))
 f266:=Tryz.func131.trans (congrArg some (by kernel_rfl))
 t3:=Tryz.underlying3
 a3:=Tryz.isAgg3
 z3:=Tryz.sizeOf3
 v3:=Tryz.zeroValue3
 t5:=Tryz.underlying5
 a5:=Tryz.isAgg5
 z5:=Tryz.sizeOf5
 v5:=Tryz.zeroValue5
 t9:=Tryz.underlying9
 a9:=Tryz.isAgg9
 z9:=Tryz.sizeOf9
 v9:=Tryz.zeroValue9 }
open Go.RowKit in
theorem Tryz.strings_IndexByte (s:ByteArray) (c:Int) (w:World):
  Calls Tryz.prog 66 #[.string s,.int .u8 c] w fun e w'=>e=.returned (.int .i64 (Lib.indexByte s.data.toList c.toNat.toUInt8))/\w'=w:=Any.strings_IndexByte Tryz.aX s c w
def Tryz.Po:Go.Shelf.Ren:=⟨fun|171=>4|243=>8|246=>12|283=>18|284=>19|285=>20|286=>21|129=>36|317=>35|318=>37|319=>38|320=>39|337=>64|338=>65|n=>n,fun|3=>3|9=>9|2=>2|4=>4|171=>59|0=>0|53=>60|37=>24|5=>5|173=>63|212=>97|51=>98|20=>20|213=>99|46=>101|232=>171|233=>172|n=>n,fun|17=>0|18=>1|19=>2|n=>n⟩
theorem Tryz.X6:Go.Proofs.LaysM.n171 Tryz.prog Tryz.Po:={
 mixed:=by kernel_rfl
 f129:=Tryz.func36.trans (congrArg some (by kernel_rfl))
 f171:=Tryz.func4.trans (congrArg some (by kernel_rfl))
 f243:=Tryz.func8.trans (congrArg some (by kernel_rfl))
 f246:=Tryz.func12.trans (congrArg some (by kernel_rfl))
 f283:=Tryz.func18.trans (congrArg some (by kernel_rfl))
 f284:=Tryz.func19.trans (congrArg some (by kernel_rfl))
 f285:=Tryz.func20.trans (congrArg some (by kernel_rfl))
 f286:=Tryz.func21.trans (congrArg some (by kernel_rfl))
 f317:=Tryz.func35.trans (congrArg some (by kernel_rfl))
 f318:=Tryz.func37.trans (congrArg some (by kernel_rfl))
 f319:=Tryz.func38.trans (congrArg some (by kernel_rfl))
 f320:=Tryz.func39.trans (congrArg some (by kernel_rfl))
 f337:=Tryz.func64.trans (congrArg some (by kernel_rfl))
 f338:=Tryz.func65.trans (congrArg some (by kernel_rfl))
 t0:=Tryz.underlying0
 a0:=Tryz.isAgg0
 z0:=Tryz.sizeOf0
 v0:=Tryz.zeroValue0
 t2:=Tryz.underlying2
 a2:=Tryz.isAgg2
 z2:=Tryz.sizeOf2
 v2:=Tryz.zeroValue2
 t3:=Tryz.underlying3
 a3:=Tryz.isAgg3
 z3:=Tryz.sizeOf3
 v3:=Tryz.zeroValue3
 t4:=Tryz.underlying4
 a4:=Tryz.isAgg4
 z4:=Tryz.sizeOf4
 v4:=Tryz.zeroValue4
 t5:=Tryz.underlying5
 a5:=Tryz.isAgg5
 z5:=Tryz.sizeOf5
 v5:=Tryz.zeroValue5
 t9:=Tryz.underlying9
 a9:=Tryz.isAgg9
 z9:=Tryz.sizeOf9
 v9:=Tryz.zeroValue9
 t20:=Tryz.underlying20
 a20:=Tryz.isAgg20
 z20:=Tryz.sizeOf20
 v20:=Tryz.zeroValue20
 t37:=Tryz.underlying24
 a37:=Tryz.isAgg24
 z37:=Tryz.sizeOf24
 v37:=Tryz.zeroValue24
 t46:=Tryz.underlying101
 a46:=Tryz.isAgg101
 z46:=Tryz.sizeOf101
 v46:=Tryz.zeroValue101
 t51:=Tryz.underlying98
 a51:=Tryz.isAgg98
 z51:=Tryz.sizeOf98
 v51:=Tryz.zeroValue98
 t53:=Tryz.underlying60
 a53:=Tryz.isAgg60
 z53:=Tryz.sizeOf60
 v53:=Tryz.zeroValue60
 t171:=Tryz.underlying59
 a171:=Tryz.isAgg59
 z171:=Tryz.sizeOf59
 v171:=Tryz.zeroValue59
 t173:=Tryz.underlying63
 a173:=Tryz.isAgg63
 z173:=Tryz.sizeOf63
 v173:=Tryz.zeroValue63
 t212:=Tryz.underlying97
 a212:=Tryz.isAgg97
 z212:=Tryz.sizeOf97
 v212:=Tryz.zeroValue97
 t213:=Tryz.underlying99
 a213:=Tryz.isAgg99
 z213:=Tryz.sizeOf99
 t232:=Tryz.underlying171
 a232:=Tryz.isAgg171
 z232:=Tryz.sizeOf171
 v232:=Tryz.zeroValue171
 t233:=Tryz.underlying172
 a233:=Tryz.isAgg172
 z233:=Tryz.sizeOf172
 v233:=Tryz.zeroValue172
 g17:=by kernel_rfl
 g18:=by kernel_rfl
 g19:=by kernel_rfl
 i0:=by kernel_rfl
 i2:=by kernel_rfl
 i3:=by kernel_rfl
 i4:=by kernel_rfl
 i5:=by kernel_rfl
 i9:=by kernel_rfl
 i20:=by kernel_rfl
 i37:=by kernel_rfl
 i46:=by kernel_rfl
 i51:=by kernel_rfl
 i53:=by kernel_rfl
 i171:=by kernel_rfl
 i173:=by kernel_rfl
 i212:=by kernel_rfl
 i232:=by kernel_rfl
 i233:=by kernel_rfl
 m17:=by kernel_rfl
 m18:=by kernel_rfl
 m19:=by kernel_rfl }
open Go.RowKit Go.Sort Go.Lib in
theorem Tryz.strconv_Itoa (n:Int) (h0: -9223372036854775808<=n) (h1:n<=9223372036854775807) (w:World) (htab:Lib.TabIs Tryz.prog w "internal/strconv.uint64pow10" .u64 Lib.pow10Tab):
  Calls Tryz.prog 4 #[.int .i64 n] w fun e w'=>e=.returned (.string ⟨(Lib.itoa n).toArray⟩)/\ ∃ k os,w'=grow (w.drewN k) os:=Any.strconv_Itoa Tryz.X6 n h0 h1 w htab
def Tryz.RW:Go.Shelf.Ren:=⟨fun|143=>68|219=>112|217=>110|225=>132|224=>133|267=>134|266=>131|314=>162|n=>n,fun|9=>9|3=>3|4=>4|5=>5|46=>101|146=>210|51=>98|n=>n,fun|1=>3|n=>n⟩
theorem Tryz.aY:Go.Proofs.Lays.n143 Tryz.prog Tryz.RW:={
 mixed:=by kernel_rfl
 f143:=Tryz.func68.trans (congrArg some (by kernel_rfl))
 f217:=Tryz.func110.trans (congrArg some (by kernel_rfl))
 f219:=Tryz.func112.trans (congrArg some (by kernel_rfl))
 f224:=Tryz.func133.trans (congrArg some (by kernel_rfl))
 f225:=Tryz.func132.trans (congrArg some (by kernel_rfl))
 f266:=Tryz.func131.trans (congrArg some (by kernel_rfl))
 f267:=Tryz.func134.trans (congrArg some (by kernel_rfl))
 f314:=Tryz.func162.trans (congrArg some (by kernel_rfl))
 t3:=Tryz.underlying3
 a3:=Tryz.isAgg3
 z3:=Tryz.sizeOf3
 v3:=Tryz.zeroValue3
 t4:=Tryz.underlying4
 a4:=Tryz.isAgg4
 z4:=Tryz.sizeOf4
 v4:=Tryz.zeroValue4
 t5:=Tryz.underlying5
 a5:=Tryz.isAgg5
 z5:=Tryz.sizeOf5
 v5:=Tryz.zeroValue5
 t9:=Tryz.underlying9
 a9:=Tryz.isAgg9
 z9:=Tryz.sizeOf9
 v9:=Tryz.zeroValue9
 t46:=Tryz.underlying101
 a46:=Tryz.isAgg101
 z46:=Tryz.sizeOf101
 v46:=Tryz.zeroValue101
 t51:=Tryz.underlying98
 a51:=Tryz.isAgg98
 z51:=Tryz.sizeOf98
 v51:=Tryz.zeroValue98
 t146:=Tryz.underlying210
 a146:=Tryz.isAgg210
 z146:=Tryz.sizeOf210
 v146:=Tryz.zeroValue210
 g1:=by kernel_rfl }
open Go.RowKit Go.Lib in
theorem Tryz.strings_Index (s sub:ByteArray) (m:Int) (w:World) (hs:s.size<4294967281) (hm:w.cell? ⟨3,0,none⟩=some (.int .i64 m)):
  Calls Tryz.prog 68 #[.string s,.string sub] w fun e w'=>e=.returned (.int .i64 (Lib.index s.data.toList sub.data.toList))/\w'=w:=Any.strings_Index Tryz.aY s sub m w hs hm
def Tryz.RX:Go.Shelf.Ren:=⟨fun|144=>113|143=>68|219=>112|217=>110|225=>132|224=>133|267=>134|266=>131|314=>162|n=>n,fun|9=>9|4=>4|3=>3|5=>5|46=>101|146=>210|51=>98|n=>n,fun|1=>3|n=>n⟩
theorem Tryz.aZ:Go.Proofs.Lays.n144 Tryz.prog Tryz.RX:={
 mixed:=by kernel_rfl
 f143:=Tryz.func68.trans (congrArg some (by kernel_rfl))
 f144:=Tryz.func113.trans (congrArg some (by kernel_rfl))
 f217:=Tryz.func110.trans (congrArg some (by kernel_rfl))
 f219:=Tryz.func112.trans (congrArg some (by kernel_rfl))
 f224:=Tryz.func133.trans (congrArg some (by kernel_rfl))
 f225:=Tryz.func132.trans (congrArg some (by kernel_rfl))
 f266:=Tryz.func131.trans (congrArg some (by kernel_rfl))
 f267:=Tryz.func134.trans (congrArg some (by kernel_rfl))
 f314:=Tryz.func162.trans (congrArg some (by kernel_rfl))
 t3:=Tryz.underlying3
 a3:=Tryz.isAgg3
 z3:=Tryz.sizeOf3
 v3:=Tryz.zeroValue3
 t4:=Tryz.underlying4
 a4:=Tryz.isAgg4
 z4:=Tryz.sizeOf4
 v4:=Tryz.zeroValue4
 t5:=Tryz.underlying5
 a5:=Tryz.isAgg5
 z5:=Tryz.sizeOf5
 v5:=Tryz.zeroValue5
 t9:=Tryz.underlying9
 a9:=Tryz.isAgg9
 z9:=Tryz.sizeOf9
 v9:=Tryz.zeroValue9
 t46:=Tryz.underlying101
 a46:=Tryz.isAgg101
 z46:=Tryz.sizeOf101
 v46:=Tryz.zeroValue101
 t51:=Tryz.underlying98
 a51:=Tryz.isAgg98
 z51:=Tryz.sizeOf98
 v51:=Tryz.zeroValue98
 t146:=Tryz.underlying210
 a146:=Tryz.isAgg210
 z146:=Tryz.sizeOf210
 v146:=Tryz.zeroValue210
 g1:=by kernel_rfl }
open Go.RowKit Go.Lib in
theorem Tryz.strings_Contains (s sub:ByteArray) (m:Int) (w:World) (hs:s.size<4294967281) (hm:w.cell? ⟨3,0,none⟩=some (.int .i64 m)):
  Calls Tryz.prog 113 #[.string s,.string sub] w fun e w'=>e=.returned (.bool (Lib.contains s.data.toList sub.data.toList))/\w'=w:=Any.strings_Contains Tryz.aZ s sub m w hs hm
def Tryz.Tf:Go.Shelf.Ren:=⟨fun|99=>67|206=>111|n=>n,fun|9=>9|4=>4|3=>3|n=>n,fun|n=>n⟩
theorem Tryz.fJ:Go.Proofs.Lays.n99 Tryz.prog Tryz.Tf:={
 mixed:=by kernel_rfl
 f99:=Tryz.func67.trans (congrArg some (by kernel_rfl))
 f206:=Tryz.func111.trans (congrArg some (by kernel_rfl))
 t3:=Tryz.underlying3
 a3:=Tryz.isAgg3
 z3:=Tryz.sizeOf3
 v3:=Tryz.zeroValue3
 t4:=Tryz.underlying4
 a4:=Tryz.isAgg4
 z4:=Tryz.sizeOf4
 v4:=Tryz.zeroValue4
 t9:=Tryz.underlying9
 a9:=Tryz.isAgg9
 z9:=Tryz.sizeOf9
 v9:=Tryz.zeroValue9 }
open Go.RowKit Go.Lib in
theorem Tryz.strings_HasPrefix (s p:ByteArray) (w:World):
  Calls Tryz.prog 67 #[.string s,.string p] w fun e w'=>e=.returned (.bool (Lib.hasPrefix s.data.toList p.data.toList))/\w'=w:=Any.strings_HasPrefix Tryz.fJ s p w
def Tryz.RU:Go.Shelf.Ren:=⟨fun|102=>150|209=>188|207=>202|n=>n,fun|9=>9|4=>4|3=>3|n=>n,fun|n=>n⟩
theorem Tryz.aW:Go.Proofs.Lays.n102 Tryz.prog Tryz.RU:={
 mixed:=by kernel_rfl
 f102:=Tryz.func150.trans (congrArg some (by kernel_rfl))
 f207:=Tryz.func202.trans (congrArg some (by kernel_rfl))
 f209:=Tryz.func188.trans (congrArg some (by kernel_rfl))
 t3:=Tryz.underlying3
 a3:=Tryz.isAgg3
 z3:=Tryz.sizeOf3
 v3:=Tryz.zeroValue3
 t4:=Tryz.underlying4
 a4:=Tryz.isAgg4
 z4:=Tryz.sizeOf4
 v4:=Tryz.zeroValue4
 t9:=Tryz.underlying9
 a9:=Tryz.isAgg9
 z9:=Tryz.sizeOf9
 v9:=Tryz.zeroValue9 }
open Go.RowKit Go.Lib in
theorem Tryz.strings_TrimSuffix (s p:ByteArray) (w:World) (hs:s.size<=9223372036854775807):
  Calls Tryz.prog 150 #[.string s,.string p] w fun e w'=>e=.returned (.string ⟨(Lib.trimSuffix s.data.toList p.data.toList).toArray⟩)/\w'=w:=Any.strings_TrimSuffix Tryz.aW s p w hs
def Tryz.RY:Go.Shelf.Ren:=⟨fun|157=>141|229=>170|199=>171|261=>199|311=>206|312=>207|n=>n,fun|9=>9|31=>23|3=>3|5=>5|4=>4|119=>218|0=>0|40=>220|152=>240|21=>21|154=>242|51=>98|141=>244|196=>255|193=>252|198=>258|49=>256|194=>253|201=>261|226=>267|46=>101|227=>268|n=>n,fun|0=>4|6=>6|n=>n⟩
theorem Tryz.ab:Go.Proofs.Lays.n157 Tryz.prog Tryz.RY:={
 mixed:=by kernel_rfl
 f157:=Tryz.func141.trans (congrArg some (by kernel_rfl))
 f199:=Tryz.func171.trans (congrArg some (by kernel_rfl))
 f229:=Tryz.func170.trans (congrArg some (by kernel_rfl))
 f261:=Tryz.func199.trans (congrArg some (by kernel_rfl))
 f311:=Tryz.func206.trans (congrArg some (by kernel_rfl))
 f312:=Tryz.func207.trans (congrArg some (by kernel_rfl))
 t0:=Tryz.underlying0
 a0:=Tryz.isAgg0
 z0:=Tryz.sizeOf0
 v0:=Tryz.zeroValue0
 t3:=Tryz.underlying3
 a3:=Tryz.isAgg3
 z3:=Tryz.sizeOf3
 v3:=Tryz.zeroValue3
 t4:=Tryz.underlying4
 a4:=Tryz.isAgg4
 z4:=Tryz.sizeOf4
 v4:=Tryz.zeroValue4
 t5:=Tryz.underlying5
 a5:=Tryz.isAgg5
 z5:=Tryz.sizeOf5
 v5:=Tryz.zeroValue5
 t9:=Tryz.underlying9
 a9:=Tryz.isAgg9
 z9:=Tryz.sizeOf9
 v9:=Tryz.zeroValue9
 t21:=Tryz.underlying21
 a21:=Tryz.isAgg21
 z21:=Tryz.sizeOf21
 v21:=Tryz.zeroValue21
 t31:=Tryz.underlying23
 a31:=Tryz.isAgg23
 z31:=Tryz.sizeOf23
 v31:=Tryz.zeroValue23
 t40:=Tryz.underlying220
 a40:=Tryz.isAgg220
 z40:=Tryz.sizeOf220
 v40:=Tryz.zeroValue220
 t46:=Tryz.underlying101
 a46:=Tryz.isAgg101
 z46:=Tryz.sizeOf101
 v46:=Tryz.zeroValue101
 t49:=Tryz.underlying256
 a49:=Tryz.isAgg256
 z49:=Tryz.sizeOf256
 v49:=Tryz.zeroValue256
 t51:=Tryz.underlying98
 a51:=Tryz.isAgg98
 z51:=Tryz.sizeOf98
 v51:=Tryz.zeroValue98
 t119:=Tryz.underlying218
 a119:=Tryz.isAgg218
 z119:=Tryz.sizeOf218
 t141:=Tryz.underlying244
 a141:=Tryz.isAgg244
 z141:=Tryz.sizeOf244
 v141:=Tryz.zeroValue244
 t152:=Tryz.underlying240
 a152:=Tryz.isAgg240
 z152:=Tryz.sizeOf240
 v152:=Tryz.zeroValue240
 t154:=Tryz.underlying242
 a154:=Tryz.isAgg242
 z154:=Tryz.sizeOf242
 v154:=Tryz.zeroValue242
 t193:=Tryz.underlying252
 a193:=Tryz.isAgg252
 z193:=Tryz.sizeOf252
 v193:=Tryz.zeroValue252
 t194:=Tryz.underlying253
 a194:=Tryz.isAgg253
 z194:=Tryz.sizeOf253
 v194:=Tryz.zeroValue253
 t196:=Tryz.underlying255
 a196:=Tryz.isAgg255
 z196:=Tryz.sizeOf255
 v196:=Tryz.zeroValue255
 t198:=Tryz.underlying258
 a198:=Tryz.isAgg258
 z198:=Tryz.sizeOf258
 v198:=Tryz.zeroValue258
 t201:=Tryz.underlying261
 a201:=Tryz.isAgg261
 z201:=Tryz.sizeOf261
 v201:=Tryz.zeroValue261
 t226:=Tryz.underlying267
 a226:=Tryz.isAgg267
 z226:=Tryz.sizeOf267
 v226:=Tryz.zeroValue267
 t227:=Tryz.underlying268
 a227:=Tryz.isAgg268
 z227:=Tryz.sizeOf268
 v227:=Tryz.zeroValue268
 g0:=by kernel_rfl
 g6:=by kernel_rfl }
open Go.RowKit Go.Lib in
theorem Tryz.strings_Fields (s:ByteArray) (w:World) (hs:s.size<4294967281) (hascii: ∀ (j:Nat) b,s.data.toList[j]?=some b->b.toNat<128) (htab:Lib.TabIs Tryz.prog w "strings.asciiSpace" .u8 Lib.asciiSpaceTab):
  Calls Tryz.prog 141 #[.string s] w fun e w'=>
   e=.returned (.slice (some ⟨w.heap.size,0,none⟩) (Lib.fields s.data.toList).length (Lib.fields s.data.toList).length)/\w'=w.alloc (.cells ((Lib.fields s.data.toList).map fun l=>Value.string ⟨l.toArray⟩).toArray 9):=Any.strings_Fields Tryz.ab (by kernel_rfl) (by kernel_rfl) s w hs hascii htab
end Go.Proofs
namespace Go.En.Dop
open Go Go.Proofs
def Pow (w:World):Prop:=Lib.TabIs Tryz.prog w "internal/strconv.uint64pow10" .u64 Lib.pow10Tab
def iT (w:World):Prop:=Lib.TabIs Tryz.prog w "strings.asciiSpace" .u8 Lib.asciiSpaceTab/\Pow w/\ ∃ m,w.cell? ⟨3,0,none⟩=some (.int .i64 m)
end Go.En.Dop
namespace Go.En.Dop
open Go
structure Tok where
 kind:Int
 text:List UInt8
 n:Int
 at_:Int
deriving DecidableEq
structure Ab where
 kind:Int
 a:Int
 b:Int
 c:Int
 d:Int
 text:List UInt8
 n:Int
 CG:Int
 at_:Int
deriving DecidableEq
structure HM where
 kind:Int
 elem:Int
 n:Int
 name:List UInt8
deriving DecidableEq
structure FM where
 nodes:List (Ab)
 types:List (HM)
 top:Int
deriving DecidableEq
structure iC where
 x0:Int
 x1:Int
 x2:Int
 x3:Int
deriving DecidableEq
structure CI where
 kind:Int
 n:Int
 BH:Int
deriving DecidableEq
structure Ag where
 n:Int
 BH:Int
 left:Int
 at_:Int
 zero:Bool
deriving DecidableEq
structure DE where
 name:List UInt8
 params:Int
 Ai:Int
 frame:Int
 body:Int
deriving DecidableEq
structure MW where
 name:List UInt8
 at_:Int
 size:Int
 RP:Int
deriving DecidableEq
structure Gu where
 funcs:List (DE)
 globals:List (MW)
 top:Int
 nodes:List (Ab)
deriving DecidableEq
structure Lm where
 x0:Int
 x1:Int
deriving DecidableEq
structure OF where
 params:List (Int)
 DR:Int
deriving DecidableEq
structure WY where
 name:List UInt8
 CG:Int
deriving DecidableEq
structure PJ where
 end_:Int
 code:Int
 output:List (Int)
deriving DecidableEq
abbrev DT:Nat->Type
 | 0=>Int
 | 1=>List UInt8
 | 2=>Bool
 | 3=>Int
 | 4=>Tok
 | 5=>Ab
 | 6=>HM
 | 7=>FM
 | 8=>iC
 | 9=>CI
 | 10=>Ag
 | 11=>DE
 | 12=>MW
 | 13=>Gu
 | 14=>Lm
 | 15=>OF
 | 16=>WY
 | 17=>List (WY)
 | 18=>Int
 | 19=>PJ
 | _=>Unit
abbrev di:Nat->List Fd
 | 0=>[.int .i64]
 | 1=>[.str]
 | 2=>[.bool]
 | 3=>[.int .u8]
 | 4=>[.int .i64,.str,.int .i64,.int .i64]
 | 5=>[.int .i64,.int .i64,.int .i64,.int .i64,.int .i64,.str,.int .i64,.int .i64,.int .i64]
 | 6=>[.int .i64,.int .i64,.int .i64,.str]
 | 7=>[.sl 5,.sl 6,.int .i64]
 | 8=>[.int .i64,.int .i64,.int .i64,.int .i64]
 | 9=>[.int .i64,.int .i64,.int .i64]
 | 10=>[.int .i64,.int .i64,.int .i64,.int .i64,.bool]
 | 11=>[.str,.int .i64,.int .i64,.int .i64,.int .i64]
 | 12=>[.str,.int .i64,.int .i64,.int .i64]
 | 13=>[.sl 11,.sl 12,.int .i64,.sl 5]
 | 14=>[.int .i64,.int .i64]
 | 15=>[.sl 0,.int .i64]
 | 16=>[.str,.int .i64]
 | 17=>[.sl 16]
 | 18=>[.int .i64]
 | 19=>[.int .i64,.int .i64,.sl 3]
 | _=>[]
abbrev ng: ∀ τ,DT τ->Ps DT (di τ)
 | 0,x=>(x,())
 | 1,x=>(x,())
 | 2,x=>(x,())
 | 3,x=>(x,())
 | 4,x=>(x.kind,x.text,x.n,x.at_,())
 | 5,x=>(x.kind,x.a,x.b,x.c,x.d,x.text,x.n,x.CG,x.at_,())
 | 6,x=>(x.kind,x.elem,x.n,x.name,())
 | 7,x=>(x.nodes,x.types,x.top,())
 | 8,x=>(x.x0,x.x1,x.x2,x.x3,())
 | 9,x=>(x.kind,x.n,x.BH,())
 | 10,x=>(x.n,x.BH,x.left,x.at_,x.zero,())
 | 11,x=>(x.name,x.params,x.Ai,x.frame,x.body,())
 | 12,x=>(x.name,x.at_,x.size,x.RP,())
 | 13,x=>(x.funcs,x.globals,x.top,x.nodes,())
 | 14,x=>(x.x0,x.x1,())
 | 15,x=>(x.params,x.DR,())
 | 16,x=>(x.name,x.CG,())
 | 17,x=>(x,())
 | 18,x=>(x,())
 | 19,x=>(x.end_,x.code,x.output,())
 | _+20,_=>()
abbrev nf: ∀ τ,Ps DT (di τ)->DT τ
 | 0,p=>p.1
 | 1,p=>p.1
 | 2,p=>p.1
 | 3,p=>p.1
 | 4,p=>⟨p.1,p.2.1,p.2.2.1,p.2.2.2.1⟩
 | 5,p=>⟨p.1,p.2.1,p.2.2.1,p.2.2.2.1,p.2.2.2.2.1,p.2.2.2.2.2.1,p.2.2.2.2.2.2.1,p.2.2.2.2.2.2.2.1,p.2.2.2.2.2.2.2.2.1⟩
 | 6,p=>⟨p.1,p.2.1,p.2.2.1,p.2.2.2.1⟩
 | 7,p=>⟨p.1,p.2.1,p.2.2.1⟩
 | 8,p=>⟨p.1,p.2.1,p.2.2.1,p.2.2.2.1⟩
 | 9,p=>⟨p.1,p.2.1,p.2.2.1⟩
 | 10,p=>⟨p.1,p.2.1,p.2.2.1,p.2.2.2.1,p.2.2.2.2.1⟩
 | 11,p=>⟨p.1,p.2.1,p.2.2.1,p.2.2.2.1,p.2.2.2.2.1⟩
 | 12,p=>⟨p.1,p.2.1,p.2.2.1,p.2.2.2.1⟩
 | 13,p=>⟨p.1,p.2.1,p.2.2.1,p.2.2.2.1⟩
 | 14,p=>⟨p.1,p.2.1⟩
 | 15,p=>⟨p.1,p.2.1⟩
 | 16,p=>⟨p.1,p.2.1⟩
 | 17,p=>p.1
 | 18,p=>p.1
 | 19,p=>⟨p.1,p.2.1,p.2.2.1⟩
 | _+20,_=>()
def iR: ∀ τ,DT τ
 | 0=>(0:Int)
 | 1=>[]
 | 2=>false
 | 3=>(0:Int)
 | 4=>⟨(0:Int),[],(0:Int),(0:Int)⟩
 | 5=>⟨(0:Int),(0:Int),(0:Int),(0:Int),(0:Int),[],(0:Int),(0:Int),(0:Int)⟩
 | 6=>⟨(0:Int),(0:Int),(0:Int),[]⟩
 | 7=>⟨[],[],(0:Int)⟩
 | 8=>⟨(0:Int),(0:Int),(0:Int),(0:Int)⟩
 | 9=>⟨(0:Int),(0:Int),(0:Int)⟩
 | 10=>⟨(0:Int),(0:Int),(0:Int),(0:Int),false⟩
 | 11=>⟨[],(0:Int),(0:Int),(0:Int),(0:Int)⟩
 | 12=>⟨[],(0:Int),(0:Int),(0:Int)⟩
 | 13=>⟨[],[],(0:Int),[]⟩
 | 14=>⟨(0:Int),(0:Int)⟩
 | 15=>⟨[],(0:Int)⟩
 | 16=>⟨[],(0:Int)⟩
 | 17=>[]
 | 18=>(0:Int)
 | 19=>⟨(0:Int),(0:Int),[]⟩
 | _+20=>()
abbrev d3:Int:=(0:Int)
abbrev d4:Tok:=⟨(0:Int),[],(0:Int),(0:Int)⟩
abbrev d5:Ab:=⟨(0:Int),(0:Int),(0:Int),(0:Int),(0:Int),[],(0:Int),(0:Int),(0:Int)⟩
abbrev d6:HM:=⟨(0:Int),(0:Int),(0:Int),[]⟩
abbrev d9:CI:=⟨(0:Int),(0:Int),(0:Int)⟩
abbrev d11:DE:=⟨[],(0:Int),(0:Int),(0:Int),(0:Int)⟩
abbrev d12:MW:=⟨[],(0:Int),(0:Int),(0:Int)⟩
abbrev d14:Lm:=⟨(0:Int),(0:Int)⟩
abbrev d15:OF:=⟨[],(0:Int)⟩
abbrev d16:WY:=⟨[],(0:Int)⟩
theorem dj: ∀ τ p,ng τ (nf τ p)=p
 | 0,_=>rfl
 | 1,_=>rfl
 | 2,_=>rfl
 | 3,_=>rfl
 | 4,_=>rfl
 | 5,_=>rfl
 | 6,_=>rfl
 | 7,_=>rfl
 | 8,_=>rfl
 | 9,_=>rfl
 | 10,_=>rfl
 | 11,_=>rfl
 | 12,_=>rfl
 | 13,_=>rfl
 | 14,_=>rfl
 | 15,_=>rfl
 | 16,_=>rfl
 | 17,_=>rfl
 | 18,_=>rfl
 | 19,_=>rfl
 | _+20,_=>rfl
abbrev D4:At:={ T:=DT,fds:=di,«to»:=ng,of:=nf,FB:=dj,A9:=iR,inv:=Ma iT,Fc:=Ma.Bt }
end Go.En.Dop
