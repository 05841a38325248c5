/-
 Contracts of the library at this program (laid by the shelf's own program, in plain words); these alone that are taken.
-/
import Derived.Shelf.Strings.Builder1
import Derived.Shelf.Strings.Builder2
import Derived.Shelf.Strings.OnBuilder
import Derived.Shelf.Small.Utf8
import Derived.Shelf.Small.Strs
import Derived.Shelf.Strings.BuilderF
import Derived.Shelf.Strings.BuilderK
import Derived.Shelf.Strings.BuilderRune
import Derived.Shelf.Utf8.AppendRune
import Derived.Shelf.Strings.Builder2Cap
import Derived.Shelf.Strconv.Itoa0
import Derived.Shelf.Strconv.Itoa1
import Derived.Shelf.LaysM
import Derived.Shelf.Strconv.Itoa2
import Derived.Shelf.Strconv.Itoa3
import Derived.Shelf.Strings.Search1
import Derived.Shelf.Strings.Search2
import Derived.Shelf.Strings.Search3
import Derived.Shelf.Strings.Count
import Derived.Shelf.Strings.Shaped
import Derived.Shelf.Strings.Prefix
import Derived.Shelf.Strings.Split
import Derived.Shelf.Strings.Fields
import Derived.Shelf.Strings.Replace
import Derived.Shelf.Strings.SplitShaped
import Derived.Shelf.Unicode.Latin
import Derived.Shelf.Unicode.Decode
import Derived.Shelf.Bits.Mul64
import Derived.Shelf.Strings.Repeat
import Derived.Shelf.Unicode.DecodeSlow
import Derived.Shelf.Unicode.DecodeAny
import Derived.Shelf.Unicode.Is16White
import Derived.Shelf.Unicode.IsSpaceAny
import Derived.Shelf.Unicode.Is16WhiteD
import Derived.Shelf.Unicode.IsSpaceAnyD
import Derived.Shelf.Strings.FieldsAny
import Derived.Shelf.Strings.FieldsFuncAny
import Derived.Shelf.Unicode.CaseLookup
import Derived.Shelf.Unicode.CaseConvert
import Derived.Shelf.Unicode.CaseTo
import Derived.Shelf.Unicode.CaseLaid
import Derived.Shelf.Unicode.Is16Any
import Derived.Shelf.Unicode.Is32Any
import Derived.Shelf.Unicode.ExclAny
import Derived.Shelf.Strings.BuilderCap
import Derived.Test.YtkpokomghbhadaaGreatDoorProg
namespace Go.Proofs
open Go.Shelf
def Tryz.lays159_ren : Go.Shelf.Ren := ⟨fun | 159 => 79 | 165 => 17 | 166 => 18 | 167 => 97 | 169 => 20 | 230 => 98 | 204 => 99 | 240 => 38 | 241 => 39 | 197 => 92 | 118 => 110 | 168 => 111 | 270 => 112 | 262 => 113 | 276 => 68 | 277 => 69 | 260 => 108 | 242 => 122 | 313 => 123 | 278 => 126 | 274 => 127 | 275 => 128 | n => n,fun | 9 => 9 | 4 => 4 | 3 => 3 | 5 => 5 | 72 => 53 | 0 => 0 | 76 => 57 | 75 => 56 | 107 => 130 | 70 => 50 | 20 => 20 | 37 => 51 | 127 => 86 | 21 => 21 | 105 => 126 | 164 => 106 | 162 => 150 | 203 => 148 | 119 => 139 | 46 => 46 | 139 => 146 | 138 => 145 | 51 => 80 | 160 => 156 | 208 => 173 | 206 => 171 | 80 => 60 | n => n,fun | 13 => 7 | 3 => 5 | 4 => 6 | n => n⟩
theorem Tryz.lays159 : Go.Proofs.Lays.n159 Tryz.prog Tryz.lays159_ren := {
 mixed := by kernel_rfl
 f118 := Tryz.func110.trans (congrArg some (by kernel_rfl))
 f159 := Tryz.func79.trans (congrArg some (by kernel_rfl))
 f165 := Tryz.func17.trans (congrArg some (by kernel_rfl))
 f166 := Tryz.func18.trans (congrArg some (by kernel_rfl))
 f167 := Tryz.func97.trans (congrArg some (by kernel_rfl))
 f168 := Tryz.func111.trans (congrArg some (by kernel_rfl))
 f169 := Tryz.func20.trans (congrArg some (by kernel_rfl))
 f197 := Tryz.func92.trans (congrArg some (by kernel_rfl))
 f204 := Tryz.func99.trans (congrArg some (by kernel_rfl))
 f230 := Tryz.func98.trans (congrArg some (by kernel_rfl))
 f240 := Tryz.func38.trans (congrArg some (by kernel_rfl))
 f241 := Tryz.func39.trans (congrArg some (by kernel_rfl))
 f242 := Tryz.func122.trans (congrArg some (by kernel_rfl))
 f260 := Tryz.func108.trans (congrArg some (by kernel_rfl))
 f262 := Tryz.func113.trans (congrArg some (by kernel_rfl))
 f270 := Tryz.func112.trans (congrArg some (by kernel_rfl))
 f274 := Tryz.func127.trans (congrArg some (by kernel_rfl))
 f275 := Tryz.func128.trans (congrArg some (by kernel_rfl))
 f276 := Tryz.func68.trans (congrArg some (by kernel_rfl))
 f277 := Tryz.func69.trans (congrArg some (by kernel_rfl))
 f278 := Tryz.func126.trans (congrArg some (by kernel_rfl))
 f313 := Tryz.func123.trans (congrArg some (by kernel_rfl))
 t0 := Tryz.underlying0
 a0 := Tryz.isAgg0
 z0 := Tryz.sizeOf0
 v0 := Tryz.zeroValue0
 t3 := Tryz.underlying3
 a3 := Tryz.isAgg3
 z3 := Tryz.sizeOf3
 v3 := Tryz.zeroValue3
 t4 := Tryz.underlying4
 a4 := Tryz.isAgg4
 z4 := Tryz.sizeOf4
 v4 := Tryz.zeroValue4
 t5 := Tryz.underlying5
 a5 := Tryz.isAgg5
 z5 := Tryz.sizeOf5
 v5 := Tryz.zeroValue5
 t9 := Tryz.underlying9
 a9 := Tryz.isAgg9
 z9 := Tryz.sizeOf9
 v9 := Tryz.zeroValue9
 t20 := Tryz.underlying20
 a20 := Tryz.isAgg20
 z20 := Tryz.sizeOf20
 v20 := Tryz.zeroValue20
 t21 := Tryz.underlying21
 a21 := Tryz.isAgg21
 z21 := Tryz.sizeOf21
 v21 := Tryz.zeroValue21
 t37 := Tryz.underlying51
 a37 := Tryz.isAgg51
 z37 := Tryz.sizeOf51
 v37 := Tryz.zeroValue51
 t46 := Tryz.underlying46
 a46 := Tryz.isAgg46
 z46 := Tryz.sizeOf46
 v46 := Tryz.zeroValue46
 t51 := Tryz.underlying80
 a51 := Tryz.isAgg80
 z51 := Tryz.sizeOf80
 v51 := Tryz.zeroValue80
 t70 := Tryz.underlying50
 a70 := Tryz.isAgg50
 z70 := Tryz.sizeOf50
 v70 := Tryz.zeroValue50
 t72 := Tryz.underlying53
 a72 := Tryz.isAgg53
 z72 := Tryz.sizeOf53
 v72 := Tryz.zeroValue53
 t75 := Tryz.underlying56
 a75 := Tryz.isAgg56
 z75 := Tryz.sizeOf56
 v75 := Tryz.zeroValue56
 t76 := Tryz.underlying57
 a76 := Tryz.isAgg57
 z76 := Tryz.sizeOf57
 v76 := Tryz.zeroValue57
 t105 := Tryz.underlying126
 a105 := Tryz.isAgg126
 z105 := Tryz.sizeOf126
 v105 := Tryz.zeroValue126
 t107 := Tryz.underlying130
 a107 := Tryz.isAgg130
 z107 := Tryz.sizeOf130
 v107 := Tryz.zeroValue130
 t119 := Tryz.underlying139
 a119 := Tryz.isAgg139
 z119 := Tryz.sizeOf139
 t127 := Tryz.underlying86
 a127 := Tryz.isAgg86
 z127 := Tryz.sizeOf86
 v127 := Tryz.zeroValue86
 t138 := Tryz.underlying145
 a138 := Tryz.isAgg145
 z138 := Tryz.sizeOf145
 v138 := Tryz.zeroValue145
 t139 := Tryz.underlying146
 a139 := Tryz.isAgg146
 z139 := Tryz.sizeOf146
 v139 := Tryz.zeroValue146
 t160 := Tryz.underlying156
 a160 := Tryz.isAgg156
 z160 := Tryz.sizeOf156
 v160 := Tryz.zeroValue156
 t162 := Tryz.underlying150
 a162 := Tryz.isAgg150
 z162 := Tryz.sizeOf150
 v162 := Tryz.zeroValue150
 t164 := Tryz.underlying106
 a164 := Tryz.isAgg106
 z164 := Tryz.sizeOf106
 v164 := Tryz.zeroValue106
 t203 := Tryz.underlying148
 a203 := Tryz.isAgg148
 z203 := Tryz.sizeOf148
 v203 := Tryz.zeroValue148
 t206 := Tryz.underlying171
 a206 := Tryz.isAgg171
 z206 := Tryz.sizeOf171
 v206 := Tryz.zeroValue171
 t208 := Tryz.underlying173
 a208 := Tryz.isAgg173
 z208 := Tryz.sizeOf173
 v208 := Tryz.zeroValue173
 g3 := by kernel_rfl
 g4 := by kernel_rfl
 g13 := by kernel_rfl }
theorem Tryz.Builder_Extra_159 : Builder.Extra Tryz.prog Tryz.lays159_ren := {
 sizeBuilder := by kernel_rfl
 liesBuilder := by kernel_rfl
 t5 := Tryz.underlying5
 a5 := Tryz.isAgg5
 z5 := Tryz.sizeOf5
 v5 := Tryz.zeroValue5
 infoByte := by kernel_rfl
 cellsByte := by kernel_rfl
 sizeByte := by kernel_rfl
 neB5 := by decide }
open Go.RowKit in
theorem Tryz.strings_ToLower_ascii (s : ByteArray) (w : World) (hs : s.size ≤ 140737488355328) (hascii : ∀ (j : Nat) (b : UInt8),s.data.toList[j]? = some b → b.toNat < 128) :
  Calls Tryz.prog 79 #[.string s] w fun e w' => e = .returned (.string ⟨(Lib.toLowerA s.data.toList).toArray⟩) ∧ Below w.heap.size w w' := Any.strings_ToLower_ascii Tryz.lays159 Tryz.Builder_Extra_159 s w hs hascii
def Tryz.lays137_ren : Go.Shelf.Ren := ⟨fun | 137 => 46 | 217 => 76 | 266 => 93 | n => n,fun | 9 => 9 | 5 => 5 | 3 => 3 | n => n,fun | n => n⟩
theorem Tryz.lays137 : Go.Proofs.Lays.n137 Tryz.prog Tryz.lays137_ren := {
 mixed := by kernel_rfl
 f137 := Tryz.func46.trans (congrArg some (by kernel_rfl))
 f217 := Tryz.func76.trans (congrArg some (by kernel_rfl))
 f266 := Tryz.func93.trans (congrArg some (by kernel_rfl))
 t3 := Tryz.underlying3
 a3 := Tryz.isAgg3
 z3 := Tryz.sizeOf3
 v3 := Tryz.zeroValue3
 t5 := Tryz.underlying5
 a5 := Tryz.isAgg5
 z5 := Tryz.sizeOf5
 v5 := Tryz.zeroValue5
 t9 := Tryz.underlying9
 a9 := Tryz.isAgg9
 z9 := Tryz.sizeOf9
 v9 := Tryz.zeroValue9 }
open Go.RowKit in
theorem Tryz.strings_IndexByte (s : ByteArray) (c : Int) (w : World) :
  Calls Tryz.prog 46 #[.string s,.int .u8 c] w fun e w' => e = .returned (.int .i64 (Lib.indexByte s.data.toList c.toNat.toUInt8)) ∧ w' = w := Any.strings_IndexByte Tryz.lays137 s c w
open Go.RowKit Go.Sort Go.Lib in
def Tryz.lays143_ren : Go.Shelf.Ren := ⟨fun | 143 => 47 | 219 => 77 | 217 => 76 | 225 => 94 | 224 => 95 | 267 => 96 | 266 => 93 | 314 => 109 | n => n,fun | 9 => 9 | 3 => 3 | 4 => 4 | 5 => 5 | 46 => 46 | 146 => 81 | 51 => 80 | n => n,fun | 1 => 0 | n => n⟩
theorem Tryz.lays143 : Go.Proofs.Lays.n143 Tryz.prog Tryz.lays143_ren := {
 mixed := by kernel_rfl
 f143 := Tryz.func47.trans (congrArg some (by kernel_rfl))
 f217 := Tryz.func76.trans (congrArg some (by kernel_rfl))
 f219 := Tryz.func77.trans (congrArg some (by kernel_rfl))
 f224 := Tryz.func95.trans (congrArg some (by kernel_rfl))
 f225 := Tryz.func94.trans (congrArg some (by kernel_rfl))
 f266 := Tryz.func93.trans (congrArg some (by kernel_rfl))
 f267 := Tryz.func96.trans (congrArg some (by kernel_rfl))
 f314 := Tryz.func109.trans (congrArg some (by kernel_rfl))
 t3 := Tryz.underlying3
 a3 := Tryz.isAgg3
 z3 := Tryz.sizeOf3
 v3 := Tryz.zeroValue3
 t4 := Tryz.underlying4
 a4 := Tryz.isAgg4
 z4 := Tryz.sizeOf4
 v4 := Tryz.zeroValue4
 t5 := Tryz.underlying5
 a5 := Tryz.isAgg5
 z5 := Tryz.sizeOf5
 v5 := Tryz.zeroValue5
 t9 := Tryz.underlying9
 a9 := Tryz.isAgg9
 z9 := Tryz.sizeOf9
 v9 := Tryz.zeroValue9
 t46 := Tryz.underlying46
 a46 := Tryz.isAgg46
 z46 := Tryz.sizeOf46
 v46 := Tryz.zeroValue46
 t51 := Tryz.underlying80
 a51 := Tryz.isAgg80
 z51 := Tryz.sizeOf80
 v51 := Tryz.zeroValue80
 t146 := Tryz.underlying81
 a146 := Tryz.isAgg81
 z146 := Tryz.sizeOf81
 v146 := Tryz.zeroValue81
 g1 := by kernel_rfl }
open Go.RowKit Go.Lib in
theorem Tryz.strings_Index (s sub : ByteArray) (m : Int) (w : World) (hs : s.size < 4294967281) (hm : w.cell? ⟨0,0,none⟩ = some (.int .i64 m)) :
  Calls Tryz.prog 47 #[.string s,.string sub] w fun e w' => e = .returned (.int .i64 (Lib.index s.data.toList sub.data.toList)) ∧ w' = w := Any.strings_Index Tryz.lays143 s sub m w hs hm
def Tryz.lays144_ren : Go.Shelf.Ren := ⟨fun | 144 => 78 | 143 => 47 | 219 => 77 | 217 => 76 | 225 => 94 | 224 => 95 | 267 => 96 | 266 => 93 | 314 => 109 | n => n,fun | 9 => 9 | 4 => 4 | 3 => 3 | 5 => 5 | 46 => 46 | 146 => 81 | 51 => 80 | n => n,fun | 1 => 0 | n => n⟩
theorem Tryz.lays144 : Go.Proofs.Lays.n144 Tryz.prog Tryz.lays144_ren := {
 mixed := by kernel_rfl
 f143 := Tryz.func47.trans (congrArg some (by kernel_rfl))
 f144 := Tryz.func78.trans (congrArg some (by kernel_rfl))
 f217 := Tryz.func76.trans (congrArg some (by kernel_rfl))
 f219 := Tryz.func77.trans (congrArg some (by kernel_rfl))
 f224 := Tryz.func95.trans (congrArg some (by kernel_rfl))
 f225 := Tryz.func94.trans (congrArg some (by kernel_rfl))
 f266 := Tryz.func93.trans (congrArg some (by kernel_rfl))
 f267 := Tryz.func96.trans (congrArg some (by kernel_rfl))
 f314 := Tryz.func109.trans (congrArg some (by kernel_rfl))
 t3 := Tryz.underlying3
 a3 := Tryz.isAgg3
 z3 := Tryz.sizeOf3
 v3 := Tryz.zeroValue3
 t4 := Tryz.underlying4
 a4 := Tryz.isAgg4
 z4 := Tryz.sizeOf4
 v4 := Tryz.zeroValue4
 t5 := Tryz.underlying5
 a5 := Tryz.isAgg5
 z5 := Tryz.sizeOf5
 v5 := Tryz.zeroValue5
 t9 := Tryz.underlying9
 a9 := Tryz.isAgg9
 z9 := Tryz.sizeOf9
 v9 := Tryz.zeroValue9
 t46 := Tryz.underlying46
 a46 := Tryz.isAgg46
 z46 := Tryz.sizeOf46
 v46 := Tryz.zeroValue46
 t51 := Tryz.underlying80
 a51 := Tryz.isAgg80
 z51 := Tryz.sizeOf80
 v51 := Tryz.zeroValue80
 t146 := Tryz.underlying81
 a146 := Tryz.isAgg81
 z146 := Tryz.sizeOf81
 v146 := Tryz.zeroValue81
 g1 := by kernel_rfl }
open Go.RowKit Go.Lib in
theorem Tryz.strings_Contains (s sub : ByteArray) (m : Int) (w : World) (hs : s.size < 4294967281) (hm : w.cell? ⟨0,0,none⟩ = some (.int .i64 m)) :
  Calls Tryz.prog 78 #[.string s,.string sub] w fun e w' => e = .returned (.bool (Lib.contains s.data.toList sub.data.toList)) ∧ w' = w := Any.strings_Contains Tryz.lays144 s sub m w hs hm
def Tryz.lays99_ren : Go.Shelf.Ren := ⟨fun | 99 => 16 | 206 => 37 | n => n,fun | 9 => 9 | 4 => 4 | 3 => 3 | n => n,fun | n => n⟩
theorem Tryz.lays99 : Go.Proofs.Lays.n99 Tryz.prog Tryz.lays99_ren := {
 mixed := by kernel_rfl
 f99 := Tryz.func16.trans (congrArg some (by kernel_rfl))
 f206 := Tryz.func37.trans (congrArg some (by kernel_rfl))
 t3 := Tryz.underlying3
 a3 := Tryz.isAgg3
 z3 := Tryz.sizeOf3
 v3 := Tryz.zeroValue3
 t4 := Tryz.underlying4
 a4 := Tryz.isAgg4
 z4 := Tryz.sizeOf4
 v4 := Tryz.zeroValue4
 t9 := Tryz.underlying9
 a9 := Tryz.isAgg9
 z9 := Tryz.sizeOf9
 v9 := Tryz.zeroValue9 }
open Go.RowKit Go.Lib in
theorem Tryz.strings_HasPrefix (s p : ByteArray) (w : World) :
  Calls Tryz.prog 16 #[.string s,.string p] w fun e w' => e = .returned (.bool (Lib.hasPrefix s.data.toList p.data.toList)) ∧ w' = w := Any.strings_HasPrefix Tryz.lays99 s p w
def Tryz.lays157_ren : Go.Shelf.Ren := ⟨fun | 157 => 100 | 229 => 114 | 199 => 115 | 261 => 124 | 311 => 129 | 312 => 130 | n => n,fun | 9 => 9 | 31 => 36 | 3 => 3 | 5 => 5 | 4 => 4 | 119 => 139 | 0 => 0 | 40 => 141 | 152 => 151 | 21 => 21 | 154 => 153 | 51 => 80 | 141 => 155 | 196 => 162 | 193 => 159 | 198 => 165 | 49 => 163 | 194 => 160 | 201 => 168 | 226 => 174 | 46 => 46 | 227 => 175 | n => n,fun | 0 => 2 | 6 => 8 | n => n⟩
theorem Tryz.lays157 : Go.Proofs.Lays.n157 Tryz.prog Tryz.lays157_ren := {
 mixed := by kernel_rfl
 f157 := Tryz.func100.trans (congrArg some (by kernel_rfl))
 f199 := Tryz.func115.trans (congrArg some (by kernel_rfl))
 f229 := Tryz.func114.trans (congrArg some (by kernel_rfl))
 f261 := Tryz.func124.trans (congrArg some (by kernel_rfl))
 f311 := Tryz.func129.trans (congrArg some (by kernel_rfl))
 f312 := Tryz.func130.trans (congrArg some (by kernel_rfl))
 t0 := Tryz.underlying0
 a0 := Tryz.isAgg0
 z0 := Tryz.sizeOf0
 v0 := Tryz.zeroValue0
 t3 := Tryz.underlying3
 a3 := Tryz.isAgg3
 z3 := Tryz.sizeOf3
 v3 := Tryz.zeroValue3
 t4 := Tryz.underlying4
 a4 := Tryz.isAgg4
 z4 := Tryz.sizeOf4
 v4 := Tryz.zeroValue4
 t5 := Tryz.underlying5
 a5 := Tryz.isAgg5
 z5 := Tryz.sizeOf5
 v5 := Tryz.zeroValue5
 t9 := Tryz.underlying9
 a9 := Tryz.isAgg9
 z9 := Tryz.sizeOf9
 v9 := Tryz.zeroValue9
 t21 := Tryz.underlying21
 a21 := Tryz.isAgg21
 z21 := Tryz.sizeOf21
 v21 := Tryz.zeroValue21
 t31 := Tryz.underlying36
 a31 := Tryz.isAgg36
 z31 := Tryz.sizeOf36
 v31 := Tryz.zeroValue36
 t40 := Tryz.underlying141
 a40 := Tryz.isAgg141
 z40 := Tryz.sizeOf141
 v40 := Tryz.zeroValue141
 t46 := Tryz.underlying46
 a46 := Tryz.isAgg46
 z46 := Tryz.sizeOf46
 v46 := Tryz.zeroValue46
 t49 := Tryz.underlying163
 a49 := Tryz.isAgg163
 z49 := Tryz.sizeOf163
 v49 := Tryz.zeroValue163
 t51 := Tryz.underlying80
 a51 := Tryz.isAgg80
 z51 := Tryz.sizeOf80
 v51 := Tryz.zeroValue80
 t119 := Tryz.underlying139
 a119 := Tryz.isAgg139
 z119 := Tryz.sizeOf139
 t141 := Tryz.underlying155
 a141 := Tryz.isAgg155
 z141 := Tryz.sizeOf155
 v141 := Tryz.zeroValue155
 t152 := Tryz.underlying151
 a152 := Tryz.isAgg151
 z152 := Tryz.sizeOf151
 v152 := Tryz.zeroValue151
 t154 := Tryz.underlying153
 a154 := Tryz.isAgg153
 z154 := Tryz.sizeOf153
 v154 := Tryz.zeroValue153
 t193 := Tryz.underlying159
 a193 := Tryz.isAgg159
 z193 := Tryz.sizeOf159
 v193 := Tryz.zeroValue159
 t194 := Tryz.underlying160
 a194 := Tryz.isAgg160
 z194 := Tryz.sizeOf160
 v194 := Tryz.zeroValue160
 t196 := Tryz.underlying162
 a196 := Tryz.isAgg162
 z196 := Tryz.sizeOf162
 v196 := Tryz.zeroValue162
 t198 := Tryz.underlying165
 a198 := Tryz.isAgg165
 z198 := Tryz.sizeOf165
 v198 := Tryz.zeroValue165
 t201 := Tryz.underlying168
 a201 := Tryz.isAgg168
 z201 := Tryz.sizeOf168
 v201 := Tryz.zeroValue168
 t226 := Tryz.underlying174
 a226 := Tryz.isAgg174
 z226 := Tryz.sizeOf174
 v226 := Tryz.zeroValue174
 t227 := Tryz.underlying175
 a227 := Tryz.isAgg175
 z227 := Tryz.sizeOf175
 v227 := Tryz.zeroValue175
 g0 := by kernel_rfl
 g6 := by kernel_rfl }
open Go.RowKit Go.Lib in
theorem Tryz.strings_Fields (s : ByteArray) (w : World) (hs : s.size < 4294967281) (hascii : ∀ (j : Nat) b,s.data.toList[j]? = some b → b.toNat < 128) (htab : Lib.TabIs Tryz.prog w "strings.asciiSpace" .u8 Lib.asciiSpaceTab) :
  Calls Tryz.prog 100 #[.string s] w fun e w' =>
   e = .returned (.slice (some ⟨w.heap.size,0,none⟩) (Lib.fields s.data.toList).length (Lib.fields s.data.toList).length) ∧ w' = w.alloc (.cells ((Lib.fields s.data.toList).map fun l => Value.string ⟨l.toArray⟩).toArray 9) := Any.strings_Fields Tryz.lays157 (by kernel_rfl) (by kernel_rfl) s w hs hascii htab
open Go.RowKit Go.Lib in
def Tryz.lays105_ren : Go.Shelf.Ren := ⟨fun | 105 => 7 | 212 => 15 | 99 => 16 | 165 => 17 | 166 => 18 | 170 => 19 | 169 => 20 | 263 => 35 | 264 => 36 | 206 => 37 | 240 => 38 | 241 => 39 | 276 => 68 | 277 => 69 | n => n,fun | 9 => 9 | 3 => 3 | 4 => 4 | 20 => 20 | 0 => 0 | 46 => 46 | 109 => 47 | 5 => 5 | 72 => 53 | 76 => 57 | 51 => 80 | 146 => 81 | 53 => 83 | 148 => 84 | 70 => 50 | 37 => 51 | 75 => 56 | 127 => 86 | 164 => 106 | 80 => 60 | n => n,fun | n => n⟩
theorem Tryz.lays105 : Go.Proofs.Lays.n105 Tryz.prog Tryz.lays105_ren := {
 mixed := by kernel_rfl
 f99 := Tryz.func16.trans (congrArg some (by kernel_rfl))
 f105 := Tryz.func7.trans (congrArg some (by kernel_rfl))
 f165 := Tryz.func17.trans (congrArg some (by kernel_rfl))
 f166 := Tryz.func18.trans (congrArg some (by kernel_rfl))
 f169 := Tryz.func20.trans (congrArg some (by kernel_rfl))
 f170 := Tryz.func19.trans (congrArg some (by kernel_rfl))
 f206 := Tryz.func37.trans (congrArg some (by kernel_rfl))
 f212 := Tryz.func15.trans (congrArg some (by kernel_rfl))
 f240 := Tryz.func38.trans (congrArg some (by kernel_rfl))
 f241 := Tryz.func39.trans (congrArg some (by kernel_rfl))
 f263 := Tryz.func35.trans (congrArg some (by kernel_rfl))
 f264 := Tryz.func36.trans (congrArg some (by kernel_rfl))
 f276 := Tryz.func68.trans (congrArg some (by kernel_rfl))
 f277 := Tryz.func69.trans (congrArg some (by kernel_rfl))
 t0 := Tryz.underlying0
 a0 := Tryz.isAgg0
 z0 := Tryz.sizeOf0
 v0 := Tryz.zeroValue0
 t3 := Tryz.underlying3
 a3 := Tryz.isAgg3
 z3 := Tryz.sizeOf3
 v3 := Tryz.zeroValue3
 t4 := Tryz.underlying4
 a4 := Tryz.isAgg4
 z4 := Tryz.sizeOf4
 v4 := Tryz.zeroValue4
 t5 := Tryz.underlying5
 a5 := Tryz.isAgg5
 z5 := Tryz.sizeOf5
 v5 := Tryz.zeroValue5
 t9 := Tryz.underlying9
 a9 := Tryz.isAgg9
 z9 := Tryz.sizeOf9
 v9 := Tryz.zeroValue9
 t20 := Tryz.underlying20
 a20 := Tryz.isAgg20
 z20 := Tryz.sizeOf20
 v20 := Tryz.zeroValue20
 t37 := Tryz.underlying51
 a37 := Tryz.isAgg51
 z37 := Tryz.sizeOf51
 v37 := Tryz.zeroValue51
 t46 := Tryz.underlying46
 a46 := Tryz.isAgg46
 z46 := Tryz.sizeOf46
 v46 := Tryz.zeroValue46
 t51 := Tryz.underlying80
 a51 := Tryz.isAgg80
 z51 := Tryz.sizeOf80
 v51 := Tryz.zeroValue80
 t53 := Tryz.underlying83
 a53 := Tryz.isAgg83
 z53 := Tryz.sizeOf83
 v53 := Tryz.zeroValue83
 t70 := Tryz.underlying50
 a70 := Tryz.isAgg50
 z70 := Tryz.sizeOf50
 v70 := Tryz.zeroValue50
 t72 := Tryz.underlying53
 a72 := Tryz.isAgg53
 z72 := Tryz.sizeOf53
 v72 := Tryz.zeroValue53
 t75 := Tryz.underlying56
 a75 := Tryz.isAgg56
 z75 := Tryz.sizeOf56
 v75 := Tryz.zeroValue56
 t76 := Tryz.underlying57
 a76 := Tryz.isAgg57
 z76 := Tryz.sizeOf57
 v76 := Tryz.zeroValue57
 t109 := Tryz.underlying47
 a109 := Tryz.isAgg47
 z109 := Tryz.sizeOf47
 v109 := Tryz.zeroValue47
 t127 := Tryz.underlying86
 a127 := Tryz.isAgg86
 z127 := Tryz.sizeOf86
 v127 := Tryz.zeroValue86
 t146 := Tryz.underlying81
 a146 := Tryz.isAgg81
 z146 := Tryz.sizeOf81
 v146 := Tryz.zeroValue81
 t148 := Tryz.underlying84
 a148 := Tryz.isAgg84
 z148 := Tryz.sizeOf84
 v148 := Tryz.zeroValue84
 t164 := Tryz.underlying106
 a164 := Tryz.isAgg106
 z164 := Tryz.sizeOf106
 v164 := Tryz.zeroValue106 }
theorem Tryz.Builder_Extra_105 : Builder.Extra Tryz.prog Tryz.lays105_ren := {
 sizeBuilder := by kernel_rfl
 liesBuilder := by kernel_rfl
 t5 := Tryz.underlying5
 a5 := Tryz.isAgg5
 z5 := Tryz.sizeOf5
 v5 := Tryz.zeroValue5
 infoByte := by kernel_rfl
 cellsByte := by kernel_rfl
 sizeByte := by kernel_rfl
 neB5 := by decide }
open Go.RowKit Go.Lib in
theorem Tryz.strings_Repeat (s : ByteArray) (c : Nat) (w : World) (hc : c ≤ 9223372036854775807) (hlen : s.size * c ≤ 140737488355328) :
  Calls Tryz.prog 7 #[.string s,.int .i64 c] w fun e w' => e = .returned (.string ⟨(Lib.repeatL s.data.toList c).toArray⟩) ∧ Below w.heap.size w w' := Any.strings_Repeat Tryz.lays105 Tryz.Builder_Extra_105 s c w hc hlen
end Go.Proofs
