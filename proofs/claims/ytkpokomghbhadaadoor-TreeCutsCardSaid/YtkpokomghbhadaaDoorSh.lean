/-
 Contracts of the library at this program (laid by the shelf's own program, in plain words); these alone that are taken.
-/
import Derived.Shelf.Strings.Builder1
import Derived.Shelf.Strings.Builder2
import Derived.Shelf.Strings.OnBuilder
import Derived.Shelf.Small.Utf8
import Derived.Shelf.Small.Strs
import Derived.Shelf.Strings.BuilderF
import Derived.Shelf.Strings.BuilderK
import Derived.Shelf.Strings.BuilderRune
import Derived.Shelf.Utf8.AppendRune
import Derived.Shelf.Utf8.AppendRunePlain
import Derived.Shelf.Strings.Builder2Cap
import Derived.Shelf.Strings.Search1
import Derived.Shelf.Strings.Search2
import Derived.Shelf.Strings.Search3
import Derived.Shelf.LaysM
import Derived.Shelf.Strings.Shaped
import Derived.Shelf.Strings.Prefix
import Derived.Shelf.Strings.Fields
import Derived.Shelf.Strings.SplitShaped
import Derived.Shelf.Unicode.Latin
import Derived.Shelf.Unicode.Decode
import Derived.Shelf.Unicode.DecodeSlow
import Derived.Shelf.Unicode.DecodeAny
import Derived.Shelf.Unicode.Is16White
import Derived.Shelf.Unicode.IsSpaceAny
import Derived.Shelf.Unicode.Is16WhiteD
import Derived.Shelf.Unicode.IsSpaceAnyD
import Derived.Shelf.Strings.FieldsAny
import Derived.Shelf.Strings.FieldsFuncAny
import Derived.Shelf.Unicode.CaseLookup
import Derived.Shelf.Unicode.CaseConvert
import Derived.Shelf.Unicode.CaseTo
import Derived.Shelf.Unicode.CaseLaid
import Derived.Shelf.Unicode.Is16Any
import Derived.Shelf.Unicode.Is32Any
import Derived.Shelf.Unicode.ExclAny
import Derived.Shelf.Strings.BuilderCap
import Derived.Test.YtkpokomghbhadaaDoorProg
namespace Go.Proofs
open Go.Shelf
def Tryd.lays159_ren : Go.Shelf.Ren := ⟨fun | 159 => 46 | 165 => 57 | 166 => 58 | 167 => 59 | 169 => 60 | 230 => 61 | 204 => 62 | 240 => 68 | 241 => 69 | 197 => 70 | 118 => 71 | 168 => 72 | 270 => 73 | 262 => 74 | 276 => 83 | 277 => 84 | 260 => 85 | 242 => 86 | 313 => 87 | 278 => 90 | 274 => 91 | 275 => 92 | n => n, fun | 9 => 9 | 4 => 4 | 3 => 3 | 5 => 5 | 72 => 85 | 0 => 0 | 76 => 89 | 75 => 88 | 107 => 94 | 70 => 82 | 20 => 20 | 37 => 83 | 127 => 101 | 21 => 21 | 105 => 102 | 164 => 110 | 162 => 116 | 203 => 114 | 119 => 107 | 46 => 81 | 139 => 124 | 138 => 123 | 51 => 98 | 160 => 125 | 208 => 142 | 206 => 140 | 80 => 92 | n => n, fun | 13 => 2 | 3 => 4 | 4 => 5 | n => n⟩
theorem Tryd.lays159 : Go.Proofs.Lays.n159 Tryd.prog Tryd.lays159_ren := {
 mixed := by kernel_rfl
 f118 := Tryd.func71.trans (congrArg some (by kernel_rfl))
 f159 := Tryd.func46.trans (congrArg some (by kernel_rfl))
 f165 := Tryd.func57.trans (congrArg some (by kernel_rfl))
 f166 := Tryd.func58.trans (congrArg some (by kernel_rfl))
 f167 := Tryd.func59.trans (congrArg some (by kernel_rfl))
 f168 := Tryd.func72.trans (congrArg some (by kernel_rfl))
 f169 := Tryd.func60.trans (congrArg some (by kernel_rfl))
 f197 := Tryd.func70.trans (congrArg some (by kernel_rfl))
 f204 := Tryd.func62.trans (congrArg some (by kernel_rfl))
 f230 := Tryd.func61.trans (congrArg some (by kernel_rfl))
 f240 := Tryd.func68.trans (congrArg some (by kernel_rfl))
 f241 := Tryd.func69.trans (congrArg some (by kernel_rfl))
 f242 := Tryd.func86.trans (congrArg some (by kernel_rfl))
 f260 := Tryd.func85.trans (congrArg some (by kernel_rfl))
 f262 := Tryd.func74.trans (congrArg some (by kernel_rfl))
 f270 := Tryd.func73.trans (congrArg some (by kernel_rfl))
 f274 := Tryd.func91.trans (congrArg some (by kernel_rfl))
 f275 := Tryd.func92.trans (congrArg some (by kernel_rfl))
 f276 := Tryd.func83.trans (congrArg some (by kernel_rfl))
 f277 := Tryd.func84.trans (congrArg some (by kernel_rfl))
 f278 := Tryd.func90.trans (congrArg some (by kernel_rfl))
 f313 := Tryd.func87.trans (congrArg some (by kernel_rfl))
 t0 := Tryd.underlying0
 a0 := Tryd.isAgg0
 z0 := Tryd.sizeOf0
 v0 := Tryd.zeroValue0
 t3 := Tryd.underlying3
 a3 := Tryd.isAgg3
 z3 := Tryd.sizeOf3
 v3 := Tryd.zeroValue3
 t4 := Tryd.underlying4
 a4 := Tryd.isAgg4
 z4 := Tryd.sizeOf4
 v4 := Tryd.zeroValue4
 t5 := Tryd.underlying5
 a5 := Tryd.isAgg5
 z5 := Tryd.sizeOf5
 v5 := Tryd.zeroValue5
 t9 := Tryd.underlying9
 a9 := Tryd.isAgg9
 z9 := Tryd.sizeOf9
 v9 := Tryd.zeroValue9
 t20 := Tryd.underlying20
 a20 := Tryd.isAgg20
 z20 := Tryd.sizeOf20
 v20 := Tryd.zeroValue20
 t21 := Tryd.underlying21
 a21 := Tryd.isAgg21
 z21 := Tryd.sizeOf21
 v21 := Tryd.zeroValue21
 t37 := Tryd.underlying83
 a37 := Tryd.isAgg83
 z37 := Tryd.sizeOf83
 v37 := Tryd.zeroValue83
 t46 := Tryd.underlying81
 a46 := Tryd.isAgg81
 z46 := Tryd.sizeOf81
 v46 := Tryd.zeroValue81
 t51 := Tryd.underlying98
 a51 := Tryd.isAgg98
 z51 := Tryd.sizeOf98
 v51 := Tryd.zeroValue98
 t70 := Tryd.underlying82
 a70 := Tryd.isAgg82
 z70 := Tryd.sizeOf82
 v70 := Tryd.zeroValue82
 t72 := Tryd.underlying85
 a72 := Tryd.isAgg85
 z72 := Tryd.sizeOf85
 v72 := Tryd.zeroValue85
 t75 := Tryd.underlying88
 a75 := Tryd.isAgg88
 z75 := Tryd.sizeOf88
 v75 := Tryd.zeroValue88
 t76 := Tryd.underlying89
 a76 := Tryd.isAgg89
 z76 := Tryd.sizeOf89
 v76 := Tryd.zeroValue89
 t105 := Tryd.underlying102
 a105 := Tryd.isAgg102
 z105 := Tryd.sizeOf102
 v105 := Tryd.zeroValue102
 t107 := Tryd.underlying94
 a107 := Tryd.isAgg94
 z107 := Tryd.sizeOf94
 v107 := Tryd.zeroValue94
 t119 := Tryd.underlying107
 a119 := Tryd.isAgg107
 z119 := Tryd.sizeOf107
 t127 := Tryd.underlying101
 a127 := Tryd.isAgg101
 z127 := Tryd.sizeOf101
 v127 := Tryd.zeroValue101
 t138 := Tryd.underlying123
 a138 := Tryd.isAgg123
 z138 := Tryd.sizeOf123
 v138 := Tryd.zeroValue123
 t139 := Tryd.underlying124
 a139 := Tryd.isAgg124
 z139 := Tryd.sizeOf124
 v139 := Tryd.zeroValue124
 t160 := Tryd.underlying125
 a160 := Tryd.isAgg125
 z160 := Tryd.sizeOf125
 v160 := Tryd.zeroValue125
 t162 := Tryd.underlying116
 a162 := Tryd.isAgg116
 z162 := Tryd.sizeOf116
 v162 := Tryd.zeroValue116
 t164 := Tryd.underlying110
 a164 := Tryd.isAgg110
 z164 := Tryd.sizeOf110
 v164 := Tryd.zeroValue110
 t203 := Tryd.underlying114
 a203 := Tryd.isAgg114
 z203 := Tryd.sizeOf114
 v203 := Tryd.zeroValue114
 t206 := Tryd.underlying140
 a206 := Tryd.isAgg140
 z206 := Tryd.sizeOf140
 v206 := Tryd.zeroValue140
 t208 := Tryd.underlying142
 a208 := Tryd.isAgg142
 z208 := Tryd.sizeOf142
 v208 := Tryd.zeroValue142
 g3 := by kernel_rfl
 g4 := by kernel_rfl
 g13 := by kernel_rfl }
theorem Tryd.Builder_Extra_159 : Builder.Extra Tryd.prog Tryd.lays159_ren := {
 sizeBuilder := by kernel_rfl
 liesBuilder := by kernel_rfl
 t5 := Tryd.underlying5
 a5 := Tryd.isAgg5
 z5 := Tryd.sizeOf5
 v5 := Tryd.zeroValue5
 infoByte := by kernel_rfl
 cellsByte := by kernel_rfl
 sizeByte := by kernel_rfl
 neB5 := by decide }
open Go.RowKit in
theorem Tryd.strings_ToLower_ascii (s : ByteArray) (w : World) (hs : s.size ≤ 140737488355328) (hascii : ∀ (j : Nat) (b : UInt8), s.data.toList[j]? = some b → b.toNat < 128) :
  Calls Tryd.prog 46 #[.string s] w fun e w' => e = .returned (.string ⟨(Lib.toLowerA s.data.toList).toArray⟩) ∧ Below w.heap.size w w' := Any.strings_ToLower_ascii Tryd.lays159 Tryd.Builder_Extra_159 s w hs hascii
def Tryd.lays137_ren : Go.Shelf.Ren := ⟨fun | 137 => 19 | 217 => 42 | 266 => 53 | n => n, fun | 9 => 9 | 5 => 5 | 3 => 3 | n => n, fun | n => n⟩
theorem Tryd.lays137 : Go.Proofs.Lays.n137 Tryd.prog Tryd.lays137_ren := {
 mixed := by kernel_rfl
 f137 := Tryd.func19.trans (congrArg some (by kernel_rfl))
 f217 := Tryd.func42.trans (congrArg some (by kernel_rfl))
 f266 := Tryd.func53.trans (congrArg some (by kernel_rfl))
 t3 := Tryd.underlying3
 a3 := Tryd.isAgg3
 z3 := Tryd.sizeOf3
 v3 := Tryd.zeroValue3
 t5 := Tryd.underlying5
 a5 := Tryd.isAgg5
 z5 := Tryd.sizeOf5
 v5 := Tryd.zeroValue5
 t9 := Tryd.underlying9
 a9 := Tryd.isAgg9
 z9 := Tryd.sizeOf9
 v9 := Tryd.zeroValue9 }
open Go.RowKit in
theorem Tryd.strings_IndexByte (s : ByteArray) (c : Int) (w : World) :
  Calls Tryd.prog 19 #[.string s, .int .u8 c] w fun e w' => e = .returned (.int .i64 (Lib.indexByte s.data.toList c.toNat.toUInt8)) ∧ w' = w := Any.strings_IndexByte Tryd.lays137 s c w
def Tryd.lays143_ren : Go.Shelf.Ren := ⟨fun | 143 => 21 | 219 => 44 | 217 => 42 | 225 => 54 | 224 => 55 | 267 => 56 | 266 => 53 | 314 => 67 | n => n, fun | 9 => 9 | 3 => 3 | 4 => 4 | 5 => 5 | 46 => 81 | 146 => 99 | 51 => 98 | n => n, fun | 1 => 0 | n => n⟩
theorem Tryd.lays143 : Go.Proofs.Lays.n143 Tryd.prog Tryd.lays143_ren := {
 mixed := by kernel_rfl
 f143 := Tryd.func21.trans (congrArg some (by kernel_rfl))
 f217 := Tryd.func42.trans (congrArg some (by kernel_rfl))
 f219 := Tryd.func44.trans (congrArg some (by kernel_rfl))
 f224 := Tryd.func55.trans (congrArg some (by kernel_rfl))
 f225 := Tryd.func54.trans (congrArg some (by kernel_rfl))
 f266 := Tryd.func53.trans (congrArg some (by kernel_rfl))
 f267 := Tryd.func56.trans (congrArg some (by kernel_rfl))
 f314 := Tryd.func67.trans (congrArg some (by kernel_rfl))
 t3 := Tryd.underlying3
 a3 := Tryd.isAgg3
 z3 := Tryd.sizeOf3
 v3 := Tryd.zeroValue3
 t4 := Tryd.underlying4
 a4 := Tryd.isAgg4
 z4 := Tryd.sizeOf4
 v4 := Tryd.zeroValue4
 t5 := Tryd.underlying5
 a5 := Tryd.isAgg5
 z5 := Tryd.sizeOf5
 v5 := Tryd.zeroValue5
 t9 := Tryd.underlying9
 a9 := Tryd.isAgg9
 z9 := Tryd.sizeOf9
 v9 := Tryd.zeroValue9
 t46 := Tryd.underlying81
 a46 := Tryd.isAgg81
 z46 := Tryd.sizeOf81
 v46 := Tryd.zeroValue81
 t51 := Tryd.underlying98
 a51 := Tryd.isAgg98
 z51 := Tryd.sizeOf98
 v51 := Tryd.zeroValue98
 t146 := Tryd.underlying99
 a146 := Tryd.isAgg99
 z146 := Tryd.sizeOf99
 v146 := Tryd.zeroValue99
 g1 := by kernel_rfl }
open Go.RowKit Go.Lib in
theorem Tryd.strings_Index (s sub : ByteArray) (m : Int) (w : World) (hs : s.size < 4294967281) (hm : w.cell? ⟨0, 0, none⟩ = some (.int .i64 m)) :
  Calls Tryd.prog 21 #[.string s, .string sub] w fun e w' => e = .returned (.int .i64 (Lib.index s.data.toList sub.data.toList)) ∧ w' = w := Any.strings_Index Tryd.lays143 s sub m w hs hm
def Tryd.lays144_ren : Go.Shelf.Ren := ⟨fun | 144 => 45 | 143 => 21 | 219 => 44 | 217 => 42 | 225 => 54 | 224 => 55 | 267 => 56 | 266 => 53 | 314 => 67 | n => n, fun | 9 => 9 | 4 => 4 | 3 => 3 | 5 => 5 | 46 => 81 | 146 => 99 | 51 => 98 | n => n, fun | 1 => 0 | n => n⟩
theorem Tryd.lays144 : Go.Proofs.Lays.n144 Tryd.prog Tryd.lays144_ren := {
 mixed := by kernel_rfl
 f143 := Tryd.func21.trans (congrArg some (by kernel_rfl))
 f144 := Tryd.func45.trans (congrArg some (by kernel_rfl))
 f217 := Tryd.func42.trans (congrArg some (by kernel_rfl))
 f219 := Tryd.func44.trans (congrArg some (by kernel_rfl))
 f224 := Tryd.func55.trans (congrArg some (by kernel_rfl))
 f225 := Tryd.func54.trans (congrArg some (by kernel_rfl))
 f266 := Tryd.func53.trans (congrArg some (by kernel_rfl))
 f267 := Tryd.func56.trans (congrArg some (by kernel_rfl))
 f314 := Tryd.func67.trans (congrArg some (by kernel_rfl))
 t3 := Tryd.underlying3
 a3 := Tryd.isAgg3
 z3 := Tryd.sizeOf3
 v3 := Tryd.zeroValue3
 t4 := Tryd.underlying4
 a4 := Tryd.isAgg4
 z4 := Tryd.sizeOf4
 v4 := Tryd.zeroValue4
 t5 := Tryd.underlying5
 a5 := Tryd.isAgg5
 z5 := Tryd.sizeOf5
 v5 := Tryd.zeroValue5
 t9 := Tryd.underlying9
 a9 := Tryd.isAgg9
 z9 := Tryd.sizeOf9
 v9 := Tryd.zeroValue9
 t46 := Tryd.underlying81
 a46 := Tryd.isAgg81
 z46 := Tryd.sizeOf81
 v46 := Tryd.zeroValue81
 t51 := Tryd.underlying98
 a51 := Tryd.isAgg98
 z51 := Tryd.sizeOf98
 v51 := Tryd.zeroValue98
 t146 := Tryd.underlying99
 a146 := Tryd.isAgg99
 z146 := Tryd.sizeOf99
 v146 := Tryd.zeroValue99
 g1 := by kernel_rfl }
open Go.RowKit Go.Lib in
theorem Tryd.strings_Contains (s sub : ByteArray) (m : Int) (w : World) (hs : s.size < 4294967281) (hm : w.cell? ⟨0, 0, none⟩ = some (.int .i64 m)) :
  Calls Tryd.prog 45 #[.string s, .string sub] w fun e w' => e = .returned (.bool (Lib.contains s.data.toList sub.data.toList)) ∧ w' = w := Any.strings_Contains Tryd.lays144 s sub m w hs hm
def Tryd.lays99_ren : Go.Shelf.Ren := ⟨fun | 99 => 20 | 206 => 43 | n => n, fun | 9 => 9 | 4 => 4 | 3 => 3 | n => n, fun | n => n⟩
theorem Tryd.lays99 : Go.Proofs.Lays.n99 Tryd.prog Tryd.lays99_ren := {
 mixed := by kernel_rfl
 f99 := Tryd.func20.trans (congrArg some (by kernel_rfl))
 f206 := Tryd.func43.trans (congrArg some (by kernel_rfl))
 t3 := Tryd.underlying3
 a3 := Tryd.isAgg3
 z3 := Tryd.sizeOf3
 v3 := Tryd.zeroValue3
 t4 := Tryd.underlying4
 a4 := Tryd.isAgg4
 z4 := Tryd.sizeOf4
 v4 := Tryd.zeroValue4
 t9 := Tryd.underlying9
 a9 := Tryd.isAgg9
 z9 := Tryd.sizeOf9
 v9 := Tryd.zeroValue9 }
open Go.RowKit Go.Lib in
theorem Tryd.strings_HasPrefix (s p : ByteArray) (w : World) :
  Calls Tryd.prog 20 #[.string s, .string p] w fun e w' => e = .returned (.bool (Lib.hasPrefix s.data.toList p.data.toList)) ∧ w' = w := Any.strings_HasPrefix Tryd.lays99 s p w
def Tryd.lays157_ren : Go.Shelf.Ren := ⟨fun | 157 => 63 | 229 => 75 | 199 => 76 | 261 => 88 | 311 => 93 | 312 => 94 | n => n, fun | 9 => 9 | 31 => 76 | 3 => 3 | 5 => 5 | 4 => 4 | 119 => 107 | 0 => 0 | 40 => 109 | 152 => 117 | 21 => 21 | 154 => 119 | 51 => 98 | 141 => 121 | 196 => 131 | 193 => 128 | 198 => 134 | 49 => 132 | 194 => 129 | 201 => 137 | 226 => 143 | 46 => 81 | 227 => 144 | n => n, fun | 0 => 1 | 6 => 3 | n => n⟩
theorem Tryd.lays157 : Go.Proofs.Lays.n157 Tryd.prog Tryd.lays157_ren := {
 mixed := by kernel_rfl
 f157 := Tryd.func63.trans (congrArg some (by kernel_rfl))
 f199 := Tryd.func76.trans (congrArg some (by kernel_rfl))
 f229 := Tryd.func75.trans (congrArg some (by kernel_rfl))
 f261 := Tryd.func88.trans (congrArg some (by kernel_rfl))
 f311 := Tryd.func93.trans (congrArg some (by kernel_rfl))
 f312 := Tryd.func94.trans (congrArg some (by kernel_rfl))
 t0 := Tryd.underlying0
 a0 := Tryd.isAgg0
 z0 := Tryd.sizeOf0
 v0 := Tryd.zeroValue0
 t3 := Tryd.underlying3
 a3 := Tryd.isAgg3
 z3 := Tryd.sizeOf3
 v3 := Tryd.zeroValue3
 t4 := Tryd.underlying4
 a4 := Tryd.isAgg4
 z4 := Tryd.sizeOf4
 v4 := Tryd.zeroValue4
 t5 := Tryd.underlying5
 a5 := Tryd.isAgg5
 z5 := Tryd.sizeOf5
 v5 := Tryd.zeroValue5
 t9 := Tryd.underlying9
 a9 := Tryd.isAgg9
 z9 := Tryd.sizeOf9
 v9 := Tryd.zeroValue9
 t21 := Tryd.underlying21
 a21 := Tryd.isAgg21
 z21 := Tryd.sizeOf21
 v21 := Tryd.zeroValue21
 t31 := Tryd.underlying76
 a31 := Tryd.isAgg76
 z31 := Tryd.sizeOf76
 v31 := Tryd.zeroValue76
 t40 := Tryd.underlying109
 a40 := Tryd.isAgg109
 z40 := Tryd.sizeOf109
 v40 := Tryd.zeroValue109
 t46 := Tryd.underlying81
 a46 := Tryd.isAgg81
 z46 := Tryd.sizeOf81
 v46 := Tryd.zeroValue81
 t49 := Tryd.underlying132
 a49 := Tryd.isAgg132
 z49 := Tryd.sizeOf132
 v49 := Tryd.zeroValue132
 t51 := Tryd.underlying98
 a51 := Tryd.isAgg98
 z51 := Tryd.sizeOf98
 v51 := Tryd.zeroValue98
 t119 := Tryd.underlying107
 a119 := Tryd.isAgg107
 z119 := Tryd.sizeOf107
 t141 := Tryd.underlying121
 a141 := Tryd.isAgg121
 z141 := Tryd.sizeOf121
 v141 := Tryd.zeroValue121
 t152 := Tryd.underlying117
 a152 := Tryd.isAgg117
 z152 := Tryd.sizeOf117
 v152 := Tryd.zeroValue117
 t154 := Tryd.underlying119
 a154 := Tryd.isAgg119
 z154 := Tryd.sizeOf119
 v154 := Tryd.zeroValue119
 t193 := Tryd.underlying128
 a193 := Tryd.isAgg128
 z193 := Tryd.sizeOf128
 v193 := Tryd.zeroValue128
 t194 := Tryd.underlying129
 a194 := Tryd.isAgg129
 z194 := Tryd.sizeOf129
 v194 := Tryd.zeroValue129
 t196 := Tryd.underlying131
 a196 := Tryd.isAgg131
 z196 := Tryd.sizeOf131
 v196 := Tryd.zeroValue131
 t198 := Tryd.underlying134
 a198 := Tryd.isAgg134
 z198 := Tryd.sizeOf134
 v198 := Tryd.zeroValue134
 t201 := Tryd.underlying137
 a201 := Tryd.isAgg137
 z201 := Tryd.sizeOf137
 v201 := Tryd.zeroValue137
 t226 := Tryd.underlying143
 a226 := Tryd.isAgg143
 z226 := Tryd.sizeOf143
 v226 := Tryd.zeroValue143
 t227 := Tryd.underlying144
 a227 := Tryd.isAgg144
 z227 := Tryd.sizeOf144
 v227 := Tryd.zeroValue144
 g0 := by kernel_rfl
 g6 := by kernel_rfl }
open Go.RowKit Go.Lib in
theorem Tryd.strings_Fields (s : ByteArray) (w : World) (hs : s.size < 4294967281) (hascii : ∀ (j : Nat) b, s.data.toList[j]? = some b → b.toNat < 128) (htab : Lib.TabIs Tryd.prog w "strings.asciiSpace" .u8 Lib.asciiSpaceTab) :
  Calls Tryd.prog 63 #[.string s] w fun e w' =>
   e = .returned (.slice (some ⟨w.heap.size, 0, none⟩) (Lib.fields s.data.toList).length (Lib.fields s.data.toList).length) ∧ w' = w.alloc (.cells ((Lib.fields s.data.toList).map fun l => Value.string ⟨l.toArray⟩).toArray 9) := Any.strings_Fields Tryd.lays157 (by kernel_rfl) (by kernel_rfl) s w hs hascii htab
end Go.Proofs
