/- Contracts of the library at this program (laid by the shelf's own program, in plain words); these alone that are taken. -/
import Derived.Shelf.Strings.Builder1
import Derived.Shelf.Strings.Builder2
import Derived.Shelf.Strings.OnBuilder
import Derived.Shelf.Small.Utf8
import Derived.Shelf.Small.Strs
import Derived.Shelf.Strings.BuilderF
import Derived.Shelf.Strings.BuilderK
import Derived.Shelf.Strings.BuilderRune
import Derived.Shelf.Utf8.AppendRune
import Derived.Shelf.Utf8.AppendRunePlain
import Derived.Shelf.Utf8.RuneCount
import Derived.Shelf.Strings.Builder2Cap
import Derived.Shelf.Strconv.Itoa0
import Derived.Shelf.Strconv.Itoa1
import Derived.Shelf.LaysM
import Derived.Shelf.Strconv.Itoa2
import Derived.Shelf.Strconv.Itoa3
import Derived.Shelf.Strings.Search1
import Derived.Shelf.Strings.Search2
import Derived.Shelf.Strings.Search3
import Derived.Shelf.Strings.Count
import Derived.Shelf.Strings.Shaped
import Derived.Shelf.Strings.Prefix
import Derived.Shelf.Strings.Split
import Derived.Shelf.Strings.Fields
import Derived.Shelf.Strings.Replace
import Derived.Shelf.Strings.SplitShaped
import Derived.Shelf.Unicode.Latin
import Derived.Shelf.Unicode.Decode
import Derived.Shelf.Strings.RuneCount
import Derived.Shelf.Unicode.DecodeSlow
import Derived.Shelf.Unicode.DecodeAny
import Derived.Shelf.Unicode.Is16White
import Derived.Shelf.Unicode.IsSpaceAny
import Derived.Shelf.Unicode.Is16WhiteD
import Derived.Shelf.Unicode.IsSpaceAnyD
import Derived.Shelf.Strings.FieldsAny
import Derived.Shelf.Strings.FieldsFuncAny
import Derived.Shelf.Unicode.CaseLookup
import Derived.Shelf.Unicode.CaseConvert
import Derived.Shelf.Unicode.CaseTo
import Derived.Shelf.Unicode.CaseLaid
import Derived.Shelf.Unicode.Is16Any
import Derived.Shelf.Unicode.Is32Any
import Derived.Shelf.Unicode.ExclAny
import Derived.Shelf.Strings.BuilderCap
import Derived.Test.YtkpggdcpaeanaaaGreatDoorProg
import Derived.Lib.LaidTab
import Derived.Test.YtkpggdcpaeanaaaGreatDoorEn11
namespace Go.Proofs
open Go.Shelf
def Tryz.Kt:Go.Shelf.Ren:=⟨fun|159=>140|165=>49|166=>51|167=>175|169=>53|230=>176|204=>177|240=>103|241=>104|197=>52|118=>197|168=>198|270=>199|262=>200|276=>147|277=>148|260=>106|242=>231|313=>232|278=>249|274=>250|275=>251|n=>n,fun|9=>9|4=>4|3=>3|5=>5|72=>100|0=>0|76=>104|75=>103|107=>221|70=>98|20=>20|37=>59|127=>157|21=>21|105=>106|164=>188|162=>254|203=>252|119=>192|46=>191|139=>195|138=>194|51=>213|160=>275|208=>294|206=>292|80=>108|n=>n,fun|13=>5|3=>1|4=>2|n=>n⟩
theorem Tryz.Z2:Go.Proofs.Lays.n159 Tryz.prog Tryz.Kt:={
 mixed:=by kernel_rfl
 f118:=Tryz.func197.trans (congrArg some (by kernel_rfl))
 f159:=Tryz.func140.trans (congrArg some (by kernel_rfl))
 f165:=Tryz.func49.trans (congrArg some (by kernel_rfl))
 f166:=Tryz.func51.trans (congrArg some (by kernel_rfl))
 f167:=Tryz.func175.trans (congrArg some (by kernel_rfl))
 f168:=Tryz.func198.trans (congrArg some (by kernel_rfl))
 f169:=Tryz.func53.trans (congrArg some (by kernel_rfl))
 f197:=Tryz.func52.trans (congrArg some (by kernel_rfl))
 f204:=Tryz.func177.trans (congrArg some (by kernel_rfl))
 f230:=Tryz.func176.trans (congrArg some (by kernel_rfl))
 f240:=Tryz.func103.trans (congrArg some (by kernel_rfl))
 f241:=Tryz.func104.trans (congrArg some (by kernel_rfl))
 f242:=Tryz.func231.trans (congrArg some (by kernel_rfl))
 f260:=Tryz.func106.trans (congrArg some (by kernel_rfl))
 f262:=Tryz.func200.trans (congrArg some (by kernel_rfl))
 f270:=Tryz.func199.trans (congrArg some (by kernel_rfl))
 f274:=Tryz.func250.trans (congrArg some (by kernel_rfl))
 f275:=Tryz.func251.trans (congrArg some (by kernel_rfl))
 f276:=Tryz.func147.trans (congrArg some (by kernel_rfl))
 f277:=Tryz.func148.trans (congrArg some (by kernel_rfl))
 f278:=Tryz.func249.trans (congrArg some (by kernel_rfl))
 f313:=Tryz.func232.trans (congrArg some (by kernel_rfl))
 t0:=Tryz.underlying0
 a0:=Tryz.isAgg0
 z0:=Tryz.sizeOf0
 v0:=Tryz.zeroValue0
 t3:=Tryz.underlying3
 a3:=Tryz.isAgg3
 z3:=Tryz.sizeOf3
 v3:=Tryz.zeroValue3
 t4:=Tryz.underlying4
 a4:=Tryz.isAgg4
 z4:=Tryz.sizeOf4
 v4:=Tryz.zeroValue4
 t5:=Tryz.underlying5
 a5:=Tryz.isAgg5
 z5:=Tryz.sizeOf5
 v5:=Tryz.zeroValue5
 t9:=Tryz.underlying9
 a9:=Tryz.isAgg9
 z9:=Tryz.sizeOf9
 v9:=Tryz.zeroValue9
 t20:=Tryz.underlying20
 a20:=Tryz.isAgg20
 z20:=Tryz.sizeOf20
 v20:=Tryz.zeroValue20
 t21:=Tryz.underlying21
 a21:=Tryz.isAgg21
 z21:=Tryz.sizeOf21
 v21:=Tryz.zeroValue21
 t37:=Tryz.underlying59
 a37:=Tryz.isAgg59
 z37:=Tryz.sizeOf59
 v37:=Tryz.zeroValue59
 t46:=Tryz.underlying191
 a46:=Tryz.isAgg191
 z46:=Tryz.sizeOf191
 v46:=Tryz.zeroValue191
 t51:=Tryz.underlying213
 a51:=Tryz.isAgg213
 z51:=Tryz.sizeOf213
 v51:=Tryz.zeroValue213
 t70:=Tryz.underlying98
 a70:=Tryz.isAgg98
 z70:=Tryz.sizeOf98
 v70:=Tryz.zeroValue98
 t72:=Tryz.underlying100
 a72:=Tryz.isAgg100
 z72:=Tryz.sizeOf100
 v72:=Tryz.zeroValue100
 t75:=Tryz.underlying103
 a75:=Tryz.isAgg103
 z75:=Tryz.sizeOf103
 v75:=Tryz.zeroValue103
 t76:=Tryz.underlying104
 a76:=Tryz.isAgg104
 z76:=Tryz.sizeOf104
 v76:=Tryz.zeroValue104
 t105:=Tryz.underlying106
 a105:=Tryz.isAgg106
 z105:=Tryz.sizeOf106
 v105:=Tryz.zeroValue106
 t107:=Tryz.underlying221
 a107:=Tryz.isAgg221
 z107:=Tryz.sizeOf221
 v107:=Tryz.zeroValue221
 t119:=Tryz.underlying192
 a119:=Tryz.isAgg192
 z119:=Tryz.sizeOf192
 t127:=Tryz.underlying157
 a127:=Tryz.isAgg157
 z127:=Tryz.sizeOf157
 v127:=Tryz.zeroValue157
 t138:=Tryz.underlying194
 a138:=Tryz.isAgg194
 z138:=Tryz.sizeOf194
 v138:=Tryz.zeroValue194
 t139:=Tryz.underlying195
 a139:=Tryz.isAgg195
 z139:=Tryz.sizeOf195
 v139:=Tryz.zeroValue195
 t160:=Tryz.underlying275
 a160:=Tryz.isAgg275
 z160:=Tryz.sizeOf275
 v160:=Tryz.zeroValue275
 t162:=Tryz.underlying254
 a162:=Tryz.isAgg254
 z162:=Tryz.sizeOf254
 v162:=Tryz.zeroValue254
 t164:=Tryz.underlying188
 a164:=Tryz.isAgg188
 z164:=Tryz.sizeOf188
 v164:=Tryz.zeroValue188
 t203:=Tryz.underlying252
 a203:=Tryz.isAgg252
 z203:=Tryz.sizeOf252
 v203:=Tryz.zeroValue252
 t206:=Tryz.underlying292
 a206:=Tryz.isAgg292
 z206:=Tryz.sizeOf292
 v206:=Tryz.zeroValue292
 t208:=Tryz.underlying294
 a208:=Tryz.isAgg294
 z208:=Tryz.sizeOf294
 v208:=Tryz.zeroValue294
 g3:=by kernel_rfl
 g4:=by kernel_rfl
 g13:=by kernel_rfl }
theorem Tryz.JE:Builder.Extra Tryz.prog Tryz.Kt:={
 sizeBuilder:=by kernel_rfl
 liesBuilder:=by kernel_rfl
 t5:=Tryz.underlying5
 a5:=Tryz.isAgg5
 z5:=Tryz.sizeOf5
 v5:=Tryz.zeroValue5
 infoByte:=by kernel_rfl
 cellsByte:=by kernel_rfl
 sizeByte:=by kernel_rfl
 neB5:=by decide }
open Go.RowKit in
theorem Tryz.strings_ToLower_ascii (s:ByteArray) (w:World) (hs:s.size<=140737488355328) (hascii: ∀ (j:Nat) (b:UInt8),s.data.toList[j]?=some b->b.toNat<128):
  Calls Tryz.prog 140 #[.string s] w fun e w'=>e=.returned (.string ⟨(Lib.toLowerA s.data.toList).toArray⟩)/\Below w.heap.size w w':=Any.strings_ToLower_ascii Tryz.Z2 Tryz.JE s w hs hascii
def Tryz.Qu:Go.Shelf.Ren:=⟨fun|137=>79|217=>137|266=>174|n=>n,fun|9=>9|5=>5|3=>3|n=>n,fun|n=>n⟩
theorem Tryz.Zy:Go.Proofs.Lays.n137 Tryz.prog Tryz.Qu:={
 mixed:=by kernel_rfl
 f137:=Tryz.func79.trans (congrArg some (by kernel_rfl))
 f217:=Tryz.func137.trans (congrArg some (by kernel_rfl))
 f266:=Tryz.func174.trans (congrArg some (by kernel_rfl))
 t3:=Tryz.underlying3
 a3:=Tryz.isAgg3
 z3:=Tryz.sizeOf3
 v3:=Tryz.zeroValue3
 t5:=Tryz.underlying5
 a5:=Tryz.isAgg5
 z5:=Tryz.sizeOf5
 v5:=Tryz.zeroValue5
 t9:=Tryz.underlying9
 a9:=Tryz.isAgg9
 z9:=Tryz.sizeOf9
 v9:=Tryz.zeroValue9 }
open Go.RowKit in
theorem Tryz.strings_IndexByte (s:ByteArray) (c:Int) (w:World):
  Calls Tryz.prog 79 #[.string s,.int .u8 c] w fun e w'=>e=.returned (.int .i64 (Lib.indexByte s.data.toList c.toNat.toUInt8))/\w'=w:=Any.strings_IndexByte Tryz.Zy s c w
def Tryz.PG:Go.Shelf.Ren:=⟨fun|171=>38|243=>66|246=>118|283=>155|284=>156|285=>157|286=>158|129=>189|317=>188|318=>190|319=>191|320=>192|337=>214|338=>215|n=>n,fun|3=>3|9=>9|2=>2|4=>4|171=>199|0=>0|53=>200|37=>59|5=>5|173=>203|212=>227|51=>213|20=>20|213=>228|46=>191|232=>262|233=>263|n=>n,fun|17=>3|18=>7|19=>8|n=>n⟩
theorem Tryz.Xb:Go.Proofs.LaysM.n171 Tryz.prog Tryz.PG:={
 mixed:=by kernel_rfl
 f129:=Tryz.func189.trans (congrArg some (by kernel_rfl))
 f171:=Tryz.func38.trans (congrArg some (by kernel_rfl))
 f243:=Tryz.func66.trans (congrArg some (by kernel_rfl))
 f246:=Tryz.func118.trans (congrArg some (by kernel_rfl))
 f283:=Tryz.func155.trans (congrArg some (by kernel_rfl))
 f284:=Tryz.func156.trans (congrArg some (by kernel_rfl))
 f285:=Tryz.func157.trans (congrArg some (by kernel_rfl))
 f286:=Tryz.func158.trans (congrArg some (by kernel_rfl))
 f317:=Tryz.func188.trans (congrArg some (by kernel_rfl))
 f318:=Tryz.func190.trans (congrArg some (by kernel_rfl))
 f319:=Tryz.func191.trans (congrArg some (by kernel_rfl))
 f320:=Tryz.func192.trans (congrArg some (by kernel_rfl))
 f337:=Tryz.func214.trans (congrArg some (by kernel_rfl))
 f338:=Tryz.func215.trans (congrArg some (by kernel_rfl))
 t0:=Tryz.underlying0
 a0:=Tryz.isAgg0
 z0:=Tryz.sizeOf0
 v0:=Tryz.zeroValue0
 t2:=Tryz.underlying2
 a2:=Tryz.isAgg2
 z2:=Tryz.sizeOf2
 v2:=Tryz.zeroValue2
 t3:=Tryz.underlying3
 a3:=Tryz.isAgg3
 z3:=Tryz.sizeOf3
 v3:=Tryz.zeroValue3
 t4:=Tryz.underlying4
 a4:=Tryz.isAgg4
 z4:=Tryz.sizeOf4
 v4:=Tryz.zeroValue4
 t5:=Tryz.underlying5
 a5:=Tryz.isAgg5
 z5:=Tryz.sizeOf5
 v5:=Tryz.zeroValue5
 t9:=Tryz.underlying9
 a9:=Tryz.isAgg9
 z9:=Tryz.sizeOf9
 v9:=Tryz.zeroValue9
 t20:=Tryz.underlying20
 a20:=Tryz.isAgg20
 z20:=Tryz.sizeOf20
 v20:=Tryz.zeroValue20
 t37:=Tryz.underlying59
 a37:=Tryz.isAgg59
 z37:=Tryz.sizeOf59
 v37:=Tryz.zeroValue59
 t46:=Tryz.underlying191
 a46:=Tryz.isAgg191
 z46:=Tryz.sizeOf191
 v46:=Tryz.zeroValue191
 t51:=Tryz.underlying213
 a51:=Tryz.isAgg213
 z51:=Tryz.sizeOf213
 v51:=Tryz.zeroValue213
 t53:=Tryz.underlying200
 a53:=Tryz.isAgg200
 z53:=Tryz.sizeOf200
 v53:=Tryz.zeroValue200
 t171:=Tryz.underlying199
 a171:=Tryz.isAgg199
 z171:=Tryz.sizeOf199
 v171:=Tryz.zeroValue199
 t173:=Tryz.underlying203
 a173:=Tryz.isAgg203
 z173:=Tryz.sizeOf203
 v173:=Tryz.zeroValue203
 t212:=Tryz.underlying227
 a212:=Tryz.isAgg227
 z212:=Tryz.sizeOf227
 v212:=Tryz.zeroValue227
 t213:=Tryz.underlying228
 a213:=Tryz.isAgg228
 z213:=Tryz.sizeOf228
 t232:=Tryz.underlying262
 a232:=Tryz.isAgg262
 z232:=Tryz.sizeOf262
 v232:=Tryz.zeroValue262
 t233:=Tryz.underlying263
 a233:=Tryz.isAgg263
 z233:=Tryz.sizeOf263
 v233:=Tryz.zeroValue263
 g17:=by kernel_rfl
 g18:=by kernel_rfl
 g19:=by kernel_rfl
 i0:=by kernel_rfl
 i2:=by kernel_rfl
 i3:=by kernel_rfl
 i4:=by kernel_rfl
 i5:=by kernel_rfl
 i9:=by kernel_rfl
 i20:=by kernel_rfl
 i37:=by kernel_rfl
 i46:=by kernel_rfl
 i51:=by kernel_rfl
 i53:=by kernel_rfl
 i171:=by kernel_rfl
 i173:=by kernel_rfl
 i212:=by kernel_rfl
 i232:=by kernel_rfl
 i233:=by kernel_rfl
 m17:=by kernel_rfl
 m18:=by kernel_rfl
 m19:=by kernel_rfl }
open Go.RowKit Go.Sort Go.Lib in
theorem Tryz.strconv_Itoa (n:Int) (h0: -9223372036854775808<=n) (h1:n<=9223372036854775807) (w:World) (htab:Lib.TabIs Tryz.prog w "internal/strconv.uint64pow10" .u64 Lib.pow10Tab):
  Calls Tryz.prog 38 #[.int .i64 n] w fun e w'=>e=.returned (.string ⟨(Lib.itoa n).toArray⟩)/\ ∃ k os,w'=grow (w.drewN k) os:=Any.strconv_Itoa Tryz.Xb n h0 h1 w htab
def Tryz.Qv:Go.Shelf.Ren:=⟨fun|143=>50|219=>105|217=>137|225=>149|224=>150|267=>151|266=>174|314=>182|n=>n,fun|9=>9|3=>3|4=>4|5=>5|46=>191|146=>224|51=>213|n=>n,fun|1=>0|n=>n⟩
theorem Tryz.Zz:Go.Proofs.Lays.n143 Tryz.prog Tryz.Qv:={
 mixed:=by kernel_rfl
 f143:=Tryz.func50.trans (congrArg some (by kernel_rfl))
 f217:=Tryz.func137.trans (congrArg some (by kernel_rfl))
 f219:=Tryz.func105.trans (congrArg some (by kernel_rfl))
 f224:=Tryz.func150.trans (congrArg some (by kernel_rfl))
 f225:=Tryz.func149.trans (congrArg some (by kernel_rfl))
 f266:=Tryz.func174.trans (congrArg some (by kernel_rfl))
 f267:=Tryz.func151.trans (congrArg some (by kernel_rfl))
 f314:=Tryz.func182.trans (congrArg some (by kernel_rfl))
 t3:=Tryz.underlying3
 a3:=Tryz.isAgg3
 z3:=Tryz.sizeOf3
 v3:=Tryz.zeroValue3
 t4:=Tryz.underlying4
 a4:=Tryz.isAgg4
 z4:=Tryz.sizeOf4
 v4:=Tryz.zeroValue4
 t5:=Tryz.underlying5
 a5:=Tryz.isAgg5
 z5:=Tryz.sizeOf5
 v5:=Tryz.zeroValue5
 t9:=Tryz.underlying9
 a9:=Tryz.isAgg9
 z9:=Tryz.sizeOf9
 v9:=Tryz.zeroValue9
 t46:=Tryz.underlying191
 a46:=Tryz.isAgg191
 z46:=Tryz.sizeOf191
 v46:=Tryz.zeroValue191
 t51:=Tryz.underlying213
 a51:=Tryz.isAgg213
 z51:=Tryz.sizeOf213
 v51:=Tryz.zeroValue213
 t146:=Tryz.underlying224
 a146:=Tryz.isAgg224
 z146:=Tryz.sizeOf224
 v146:=Tryz.zeroValue224
 g1:=by kernel_rfl }
open Go.RowKit Go.Lib in
theorem Tryz.strings_Index (s sub:ByteArray) (m:Int) (w:World) (hs:s.size<4294967281) (hm:w.cell? ⟨0,0,none⟩=some (.int .i64 m)):
  Calls Tryz.prog 50 #[.string s,.string sub] w fun e w'=>e=.returned (.int .i64 (Lib.index s.data.toList sub.data.toList))/\w'=w:=Any.strings_Index Tryz.Zz s sub m w hs hm
def Tryz.Qw:Go.Shelf.Ren:=⟨fun|144=>139|143=>50|219=>105|217=>137|225=>149|224=>150|267=>151|266=>174|314=>182|n=>n,fun|9=>9|4=>4|3=>3|5=>5|46=>191|146=>224|51=>213|n=>n,fun|1=>0|n=>n⟩
theorem Tryz.Z0:Go.Proofs.Lays.n144 Tryz.prog Tryz.Qw:={
 mixed:=by kernel_rfl
 f143:=Tryz.func50.trans (congrArg some (by kernel_rfl))
 f144:=Tryz.func139.trans (congrArg some (by kernel_rfl))
 f217:=Tryz.func137.trans (congrArg some (by kernel_rfl))
 f219:=Tryz.func105.trans (congrArg some (by kernel_rfl))
 f224:=Tryz.func150.trans (congrArg some (by kernel_rfl))
 f225:=Tryz.func149.trans (congrArg some (by kernel_rfl))
 f266:=Tryz.func174.trans (congrArg some (by kernel_rfl))
 f267:=Tryz.func151.trans (congrArg some (by kernel_rfl))
 f314:=Tryz.func182.trans (congrArg some (by kernel_rfl))
 t3:=Tryz.underlying3
 a3:=Tryz.isAgg3
 z3:=Tryz.sizeOf3
 v3:=Tryz.zeroValue3
 t4:=Tryz.underlying4
 a4:=Tryz.isAgg4
 z4:=Tryz.sizeOf4
 v4:=Tryz.zeroValue4
 t5:=Tryz.underlying5
 a5:=Tryz.isAgg5
 z5:=Tryz.sizeOf5
 v5:=Tryz.zeroValue5
 t9:=Tryz.underlying9
 a9:=Tryz.isAgg9
 z9:=Tryz.sizeOf9
 v9:=Tryz.zeroValue9
 t46:=Tryz.underlying191
 a46:=Tryz.isAgg191
 z46:=Tryz.sizeOf191
 v46:=Tryz.zeroValue191
 t51:=Tryz.underlying213
 a51:=Tryz.isAgg213
 z51:=Tryz.sizeOf213
 v51:=Tryz.zeroValue213
 t146:=Tryz.underlying224
 a146:=Tryz.isAgg224
 z146:=Tryz.sizeOf224
 v146:=Tryz.zeroValue224
 g1:=by kernel_rfl }
open Go.RowKit Go.Lib in
theorem Tryz.strings_Contains (s sub:ByteArray) (m:Int) (w:World) (hs:s.size<4294967281) (hm:w.cell? ⟨0,0,none⟩=some (.int .i64 m)):
  Calls Tryz.prog 139 #[.string s,.string sub] w fun e w'=>e=.returned (.bool (Lib.contains s.data.toList sub.data.toList))/\w'=w:=Any.strings_Contains Tryz.Z0 s sub m w hs hm
def Tryz.Sz:Go.Shelf.Ren:=⟨fun|99=>80|206=>138|n=>n,fun|9=>9|4=>4|3=>3|n=>n,fun|n=>n⟩
theorem Tryz.dS:Go.Proofs.Lays.n99 Tryz.prog Tryz.Sz:={
 mixed:=by kernel_rfl
 f99:=Tryz.func80.trans (congrArg some (by kernel_rfl))
 f206:=Tryz.func138.trans (congrArg some (by kernel_rfl))
 t3:=Tryz.underlying3
 a3:=Tryz.isAgg3
 z3:=Tryz.sizeOf3
 v3:=Tryz.zeroValue3
 t4:=Tryz.underlying4
 a4:=Tryz.isAgg4
 z4:=Tryz.sizeOf4
 v4:=Tryz.zeroValue4
 t9:=Tryz.underlying9
 a9:=Tryz.isAgg9
 z9:=Tryz.sizeOf9
 v9:=Tryz.zeroValue9 }
open Go.RowKit Go.Lib in
theorem Tryz.strings_HasPrefix (s p:ByteArray) (w:World):
  Calls Tryz.prog 80 #[.string s,.string p] w fun e w'=>e=.returned (.bool (Lib.hasPrefix s.data.toList p.data.toList))/\w'=w:=Any.strings_HasPrefix Tryz.dS s p w
def Tryz.Qt:Go.Shelf.Ren:=⟨fun|102=>221|209=>247|207=>260|n=>n,fun|9=>9|4=>4|3=>3|n=>n,fun|n=>n⟩
theorem Tryz.Zx:Go.Proofs.Lays.n102 Tryz.prog Tryz.Qt:={
 mixed:=by kernel_rfl
 f102:=Tryz.func221.trans (congrArg some (by kernel_rfl))
 f207:=Tryz.func260.trans (congrArg some (by kernel_rfl))
 f209:=Tryz.func247.trans (congrArg some (by kernel_rfl))
 t3:=Tryz.underlying3
 a3:=Tryz.isAgg3
 z3:=Tryz.sizeOf3
 v3:=Tryz.zeroValue3
 t4:=Tryz.underlying4
 a4:=Tryz.isAgg4
 z4:=Tryz.sizeOf4
 v4:=Tryz.zeroValue4
 t9:=Tryz.underlying9
 a9:=Tryz.isAgg9
 z9:=Tryz.sizeOf9
 v9:=Tryz.zeroValue9 }
open Go.RowKit Go.Lib in
theorem Tryz.strings_TrimSuffix (s p:ByteArray) (w:World) (hs:s.size<=9223372036854775807):
  Calls Tryz.prog 221 #[.string s,.string p] w fun e w'=>e=.returned (.string ⟨(Lib.trimSuffix s.data.toList p.data.toList).toArray⟩)/\w'=w:=Any.strings_TrimSuffix Tryz.Zx s p w hs
def Tryz.Qx:Go.Shelf.Ren:=⟨fun|157=>178|229=>201|199=>202|261=>233|311=>252|312=>253|n=>n,fun|9=>9|31=>44|3=>3|5=>5|4=>4|119=>192|0=>0|40=>237|152=>255|21=>21|154=>257|51=>213|141=>259|196=>281|193=>278|198=>284|49=>282|194=>279|201=>287|226=>295|46=>191|227=>296|n=>n,fun|0=>4|6=>6|n=>n⟩
theorem Tryz.Z1:Go.Proofs.Lays.n157 Tryz.prog Tryz.Qx:={
 mixed:=by kernel_rfl
 f157:=Tryz.func178.trans (congrArg some (by kernel_rfl))
 f199:=Tryz.func202.trans (congrArg some (by kernel_rfl))
 f229:=Tryz.func201.trans (congrArg some (by kernel_rfl))
 f261:=Tryz.func233.trans (congrArg some (by kernel_rfl))
 f311:=Tryz.func252.trans (congrArg some (by kernel_rfl))
 f312:=Tryz.func253.trans (congrArg some (by kernel_rfl))
 t0:=Tryz.underlying0
 a0:=Tryz.isAgg0
 z0:=Tryz.sizeOf0
 v0:=Tryz.zeroValue0
 t3:=Tryz.underlying3
 a3:=Tryz.isAgg3
 z3:=Tryz.sizeOf3
 v3:=Tryz.zeroValue3
 t4:=Tryz.underlying4
 a4:=Tryz.isAgg4
 z4:=Tryz.sizeOf4
 v4:=Tryz.zeroValue4
 t5:=Tryz.underlying5
 a5:=Tryz.isAgg5
 z5:=Tryz.sizeOf5
 v5:=Tryz.zeroValue5
 t9:=Tryz.underlying9
 a9:=Tryz.isAgg9
 z9:=Tryz.sizeOf9
 v9:=Tryz.zeroValue9
 t21:=Tryz.underlying21
 a21:=Tryz.isAgg21
 z21:=Tryz.sizeOf21
 v21:=Tryz.zeroValue21
 t31:=Tryz.underlying44
 a31:=Tryz.isAgg44
 z31:=Tryz.sizeOf44
 v31:=Tryz.zeroValue44
 t40:=Tryz.underlying237
 a40:=Tryz.isAgg237
 z40:=Tryz.sizeOf237
 v40:=Tryz.zeroValue237
 t46:=Tryz.underlying191
 a46:=Tryz.isAgg191
 z46:=Tryz.sizeOf191
 v46:=Tryz.zeroValue191
 t49:=Tryz.underlying282
 a49:=Tryz.isAgg282
 z49:=Tryz.sizeOf282
 v49:=Tryz.zeroValue282
 t51:=Tryz.underlying213
 a51:=Tryz.isAgg213
 z51:=Tryz.sizeOf213
 v51:=Tryz.zeroValue213
 t119:=Tryz.underlying192
 a119:=Tryz.isAgg192
 z119:=Tryz.sizeOf192
 t141:=Tryz.underlying259
 a141:=Tryz.isAgg259
 z141:=Tryz.sizeOf259
 v141:=Tryz.zeroValue259
 t152:=Tryz.underlying255
 a152:=Tryz.isAgg255
 z152:=Tryz.sizeOf255
 v152:=Tryz.zeroValue255
 t154:=Tryz.underlying257
 a154:=Tryz.isAgg257
 z154:=Tryz.sizeOf257
 v154:=Tryz.zeroValue257
 t193:=Tryz.underlying278
 a193:=Tryz.isAgg278
 z193:=Tryz.sizeOf278
 v193:=Tryz.zeroValue278
 t194:=Tryz.underlying279
 a194:=Tryz.isAgg279
 z194:=Tryz.sizeOf279
 v194:=Tryz.zeroValue279
 t196:=Tryz.underlying281
 a196:=Tryz.isAgg281
 z196:=Tryz.sizeOf281
 v196:=Tryz.zeroValue281
 t198:=Tryz.underlying284
 a198:=Tryz.isAgg284
 z198:=Tryz.sizeOf284
 v198:=Tryz.zeroValue284
 t201:=Tryz.underlying287
 a201:=Tryz.isAgg287
 z201:=Tryz.sizeOf287
 v201:=Tryz.zeroValue287
 t226:=Tryz.underlying295
 a226:=Tryz.isAgg295
 z226:=Tryz.sizeOf295
 v226:=Tryz.zeroValue295
 t227:=Tryz.underlying296
 a227:=Tryz.isAgg296
 z227:=Tryz.sizeOf296
 v227:=Tryz.zeroValue296
 g0:=by kernel_rfl
 g6:=by kernel_rfl }
open Go.RowKit Go.Lib in
theorem Tryz.strings_Fields (s:ByteArray) (w:World) (hs:s.size<4294967281) (hascii: ∀ (j:Nat) b,s.data.toList[j]?=some b->b.toNat<128) (htab:Lib.TabIs Tryz.prog w "strings.asciiSpace" .u8 Lib.asciiSpaceTab):
  Calls Tryz.prog 178 #[.string s] w fun e w'=>
   e=.returned (.slice (some ⟨w.heap.size,0,none⟩) (Lib.fields s.data.toList).length (Lib.fields s.data.toList).length)/\w'=w.alloc (.cells ((Lib.fields s.data.toList).map fun l=>Value.string ⟨l.toArray⟩).toArray 9):=Any.strings_Fields Tryz.Z1 (by kernel_rfl) (by kernel_rfl) s w hs hascii htab
end Go.Proofs
namespace Go.En.Dop
open Go Go.Proofs
def Pow (w:World):Prop:=Lib.TabIs Tryz.prog w "internal/strconv.uint64pow10" .u64 Lib.pow10Tab
def gG (w:World):Prop:=Lib.TabIs Tryz.prog w "strings.asciiSpace" .u8 Lib.asciiSpaceTab/\Pow w/\ ∃ m,w.cell? ⟨0,0,none⟩=some (.int .i64 m)
end Go.En.Dop
namespace Go.En.Dop
open Go
structure Tok where
 kind:Int
 text:List UInt8
 n:Int
 at_:Int
deriving DecidableEq
structure AU where
 kind:Int
 a:Int
 b:Int
 c:Int
 d:Int
 text:List UInt8
 n:Int
 Af:Int
 at_:Int
deriving DecidableEq
structure HH where
 kind:Int
 elem:Int
 n:Int
 name:List UInt8
deriving DecidableEq
structure G2 where
 nodes:List (AU)
 types:List (HH)
 top:Int
deriving DecidableEq
structure fi where
 x0:Int
 x1:Int
 x2:Int
 x3:Int
deriving DecidableEq
structure Da where
 kind:Int
 n:Int
 CM:Int
deriving DecidableEq
structure Ao where
 n:Int
 CM:Int
 left:Int
 at_:Int
 zero:Bool
deriving DecidableEq
structure Eh where
 name:List UInt8
 params:Int
 An:Int
 frame:Int
 body:Int
deriving DecidableEq
structure Nl where
 name:List UInt8
 at_:Int
 size:Int
 bR:Int
deriving DecidableEq
structure IF where
 funcs:List (Eh)
 globals:List (Nl)
 top:Int
 nodes:List (AU)
deriving DecidableEq
structure LG where
 x0:Int
 x1:Int
deriving DecidableEq
structure QF where
 params:List (Int)
 Fo:Int
deriving DecidableEq
structure QJ where
 name:List UInt8
 Af:Int
deriving DecidableEq
structure QE where
 end_:Int
 code:Int
 output:List (Int)
deriving DecidableEq
abbrev DT:Nat->Type
 | 0=>Int
 | 1=>List UInt8
 | 2=>Bool
 | 3=>Int
 | 4=>Tok
 | 5=>AU
 | 6=>HH
 | 7=>G2
 | 8=>fi
 | 9=>Da
 | 10=>Ao
 | 11=>Eh
 | 12=>Nl
 | 13=>IF
 | 14=>LG
 | 15=>QF
 | 16=>QJ
 | 17=>List (QJ)
 | 18=>Int
 | 19=>QE
 | _=>Unit
abbrev br:Nat->List Fd
 | 0=>[.int .i64]
 | 1=>[.str]
 | 2=>[.bool]
 | 3=>[.int .u8]
 | 4=>[.int .i64,.str,.int .i64,.int .i64]
 | 5=>[.int .i64,.int .i64,.int .i64,.int .i64,.int .i64,.str,.int .i64,.int .i64,.int .i64]
 | 6=>[.int .i64,.int .i64,.int .i64,.str]
 | 7=>[.sl 5,.sl 6,.int .i64]
 | 8=>[.int .i64,.int .i64,.int .i64,.int .i64]
 | 9=>[.int .i64,.int .i64,.int .i64]
 | 10=>[.int .i64,.int .i64,.int .i64,.int .i64,.bool]
 | 11=>[.str,.int .i64,.int .i64,.int .i64,.int .i64]
 | 12=>[.str,.int .i64,.int .i64,.int .i64]
 | 13=>[.sl 11,.sl 12,.int .i64,.sl 5]
 | 14=>[.int .i64,.int .i64]
 | 15=>[.sl 0,.int .i64]
 | 16=>[.str,.int .i64]
 | 17=>[.sl 16]
 | 18=>[.int .i64]
 | 19=>[.int .i64,.int .i64,.sl 3]
 | _=>[]
abbrev l6: ∀ τ,DT τ->Ps DT (br τ)
 | 0,x=>(x,())
 | 1,x=>(x,())
 | 2,x=>(x,())
 | 3,x=>(x,())
 | 4,x=>(x.kind,x.text,x.n,x.at_,())
 | 5,x=>(x.kind,x.a,x.b,x.c,x.d,x.text,x.n,x.Af,x.at_,())
 | 6,x=>(x.kind,x.elem,x.n,x.name,())
 | 7,x=>(x.nodes,x.types,x.top,())
 | 8,x=>(x.x0,x.x1,x.x2,x.x3,())
 | 9,x=>(x.kind,x.n,x.CM,())
 | 10,x=>(x.n,x.CM,x.left,x.at_,x.zero,())
 | 11,x=>(x.name,x.params,x.An,x.frame,x.body,())
 | 12,x=>(x.name,x.at_,x.size,x.bR,())
 | 13,x=>(x.funcs,x.globals,x.top,x.nodes,())
 | 14,x=>(x.x0,x.x1,())
 | 15,x=>(x.params,x.Fo,())
 | 16,x=>(x.name,x.Af,())
 | 17,x=>(x,())
 | 18,x=>(x,())
 | 19,x=>(x.end_,x.code,x.output,())
 | _+20,_=>()
abbrev l0: ∀ τ,Ps DT (br τ)->DT τ
 | 0,p=>p.1
 | 1,p=>p.1
 | 2,p=>p.1
 | 3,p=>p.1
 | 4,p=>⟨p.1,p.2.1,p.2.2.1,p.2.2.2.1⟩
 | 5,p=>⟨p.1,p.2.1,p.2.2.1,p.2.2.2.1,p.2.2.2.2.1,p.2.2.2.2.2.1,p.2.2.2.2.2.2.1,p.2.2.2.2.2.2.2.1,p.2.2.2.2.2.2.2.2.1⟩
 | 6,p=>⟨p.1,p.2.1,p.2.2.1,p.2.2.2.1⟩
 | 7,p=>⟨p.1,p.2.1,p.2.2.1⟩
 | 8,p=>⟨p.1,p.2.1,p.2.2.1,p.2.2.2.1⟩
 | 9,p=>⟨p.1,p.2.1,p.2.2.1⟩
 | 10,p=>⟨p.1,p.2.1,p.2.2.1,p.2.2.2.1,p.2.2.2.2.1⟩
 | 11,p=>⟨p.1,p.2.1,p.2.2.1,p.2.2.2.1,p.2.2.2.2.1⟩
 | 12,p=>⟨p.1,p.2.1,p.2.2.1,p.2.2.2.1⟩
 | 13,p=>⟨p.1,p.2.1,p.2.2.1,p.2.2.2.1⟩
 | 14,p=>⟨p.1,p.2.1⟩
 | 15,p=>⟨p.1,p.2.1⟩
 | 16,p=>⟨p.1,p.2.1⟩
 | 17,p=>p.1
 | 18,p=>p.1
 | 19,p=>⟨p.1,p.2.1,p.2.2.1⟩
 | _+20,_=>()
def gE: ∀ τ,DT τ
 | 0=>(0:Int)
 | 1=>[]
 | 2=>false
 | 3=>(0:Int)
 | 4=>⟨(0:Int),[],(0:Int),(0:Int)⟩
 | 5=>⟨(0:Int),(0:Int),(0:Int),(0:Int),(0:Int),[],(0:Int),(0:Int),(0:Int)⟩
 | 6=>⟨(0:Int),(0:Int),(0:Int),[]⟩
 | 7=>⟨[],[],(0:Int)⟩
 | 8=>⟨(0:Int),(0:Int),(0:Int),(0:Int)⟩
 | 9=>⟨(0:Int),(0:Int),(0:Int)⟩
 | 10=>⟨(0:Int),(0:Int),(0:Int),(0:Int),false⟩
 | 11=>⟨[],(0:Int),(0:Int),(0:Int),(0:Int)⟩
 | 12=>⟨[],(0:Int),(0:Int),(0:Int)⟩
 | 13=>⟨[],[],(0:Int),[]⟩
 | 14=>⟨(0:Int),(0:Int)⟩
 | 15=>⟨[],(0:Int)⟩
 | 16=>⟨[],(0:Int)⟩
 | 17=>[]
 | 18=>(0:Int)
 | 19=>⟨(0:Int),(0:Int),[]⟩
 | _+20=>()
abbrev d3:Int:=(0:Int)
abbrev d4:Tok:=⟨(0:Int),[],(0:Int),(0:Int)⟩
abbrev d5:AU:=⟨(0:Int),(0:Int),(0:Int),(0:Int),(0:Int),[],(0:Int),(0:Int),(0:Int)⟩
abbrev d6:HH:=⟨(0:Int),(0:Int),(0:Int),[]⟩
abbrev d9:Da:=⟨(0:Int),(0:Int),(0:Int)⟩
abbrev d11:Eh:=⟨[],(0:Int),(0:Int),(0:Int),(0:Int)⟩
abbrev d12:Nl:=⟨[],(0:Int),(0:Int),(0:Int)⟩
abbrev d14:LG:=⟨(0:Int),(0:Int)⟩
abbrev d15:QF:=⟨[],(0:Int)⟩
abbrev d16:QJ:=⟨[],(0:Int)⟩
theorem bt: ∀ τ p,l6 τ (l0 τ p)=p
 | 0,_=>rfl
 | 1,_=>rfl
 | 2,_=>rfl
 | 3,_=>rfl
 | 4,_=>rfl
 | 5,_=>rfl
 | 6,_=>rfl
 | 7,_=>rfl
 | 8,_=>rfl
 | 9,_=>rfl
 | 10,_=>rfl
 | 11,_=>rfl
 | 12,_=>rfl
 | 13,_=>rfl
 | 14,_=>rfl
 | 15,_=>rfl
 | 16,_=>rfl
 | 17,_=>rfl
 | 18,_=>rfl
 | 19,_=>rfl
 | _+20,_=>rfl
abbrev D4:Am:={ T:=DT,fds:=br,«to»:=l6,of:=l0,Es:=bt,Ay:=gE,inv:=MA gG,FJ:=MA.Bj }
end Go.En.Dop
