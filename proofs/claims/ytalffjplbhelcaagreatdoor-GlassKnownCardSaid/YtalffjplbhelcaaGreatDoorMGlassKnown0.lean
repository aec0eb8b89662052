import Derived.Shelf.Strings.Builder1
import Derived.Shelf.Strings.Builder2
import Derived.Shelf.Strings.Trim
import Derived.Shelf.Small.Utf8
import Derived.Shelf.Small.Strs
import Derived.Shelf.Small.Wraps
import Derived.Shelf.Strings.BuilderF
import Derived.Shelf.Strings.BuilderK
import Derived.Shelf.Strconv.Atoi
import Derived.Shelf.Strconv.Itoa0
import Derived.Shelf.Strconv.Itoa1
import Derived.Shelf.LaysM
import Derived.Shelf.Strconv.Itoa2
import Derived.Shelf.Strconv.Itoa3
import Derived.Shelf.Strings.Search1
import Derived.Shelf.Strings.Search2
import Derived.Shelf.Strings.Cut
import Derived.Shelf.Strings.Shaped
import Derived.Shelf.Strings.Prefix
import Derived.Shelf.Strings.Runes
import Derived.Shelf.Strings.AsciiSet
import Derived.Shelf.Bits.Mul64
import Derived.Shelf.Strings.Repeat
import Derived.Shelf.Unicode.DecodeSlow
import Derived.Test.YtalffjplbhelcaaGreatDoorProg
import Derived.WalkKit
import Derived.WalkSpells
import Derived.WalkLawsBesides
import Derived.LoopN
import Derived.Orders
/-
 DERIVED: THE SHELF's CONTRACTS AT THIS DUMP, IN PLAIN WORDS (tools/lay-plain.mjs out of 'TryzShelf.lean', which tools/lay-shelf.mjs wrote): THE SAME DECLARATIONS UNDER THE SAME NAMES: 'import', 'namespace', 'open', 'def', 'theorem' AND NOTHING ELSE: no command of the shelf's: FOR A HAND-IN. Each laying: the table of numbers ('.._ren') and one theorem, a field a fact of the dump's own or the kernel's comparison; each contract: ONE APPLICATION.
-/
namespace Go.Proofs.YtalffjplbhelcaaGreatDoor
open Go.Shelf
def Tryz.lays169_ren : Go.Shelf.Ren := ⟨fun | 169 => 83 | n => n, fun | 70 => 91 | 9 => 9 | 0 => 0 | 72 => 93 | 37 => 76 | 127 => 124 | 3 => 3 | 5 => 5 | n => n, fun | n => n⟩
theorem Tryz.lays169 : Go.Proofs.Lays.n169 Tryz.prog Tryz.lays169_ren := {
 mixed := by kernel_rfl
 f169 := Tryz.func83.trans (congrArg some (by kernel_rfl))
 t0 := Tryz.underlying0
 a0 := Tryz.isAgg0
 z0 := Tryz.sizeOf0
 v0 := Tryz.zeroValue0
 t3 := Tryz.underlying3
 a3 := Tryz.isAgg3
 z3 := Tryz.sizeOf3
 v3 := Tryz.zeroValue3
 t9 := Tryz.underlying9
 a9 := Tryz.isAgg9
 z9 := Tryz.sizeOf9
 v9 := Tryz.zeroValue9
 t37 := Tryz.underlying76
 a37 := Tryz.isAgg76
 z37 := Tryz.sizeOf76
 v37 := Tryz.zeroValue76
 t70 := Tryz.underlying91
 a70 := Tryz.isAgg91
 z70 := Tryz.sizeOf91
 v70 := Tryz.zeroValue91
 t72 := Tryz.underlying93
 a72 := Tryz.isAgg93
 z72 := Tryz.sizeOf93
 v72 := Tryz.zeroValue93
 t127 := Tryz.underlying124
 a127 := Tryz.isAgg124
 z127 := Tryz.sizeOf124
 v127 := Tryz.zeroValue124 }
theorem Tryz.Builder_Extra_169 : Builder.Extra Tryz.prog Tryz.lays169_ren := {
 sizeBuilder := by kernel_rfl
 liesBuilder := by kernel_rfl
 t5 := Tryz.underlying5
 a5 := Tryz.isAgg5
 z5 := Tryz.sizeOf5
 v5 := Tryz.zeroValue5
 infoByte := by kernel_rfl
 cellsByte := by kernel_rfl
 sizeByte := by kernel_rfl
 neB5 := by decide }
def Tryz.lays162_ren : Go.Shelf.Ren := ⟨fun | 162 => 69 | 232 => 111 | 227 => 112 | 234 => 113 | 236 => 114 | 228 => 132 | 271 => 133 | 151 => 134 | 120 => 150 | 197 => 149 | 152 => 151 | 260 => 162 | 137 => 163 | 119 => 164 | 224 => 147 | 225 => 146 | 217 => 145 | 266 => 160 | n => n, fun | 9 => 9 | 4 => 4 | 3 => 3 | 5 => 5 | 117 => 113 | 116 => 112 | 0 => 0 | 124 => 116 | 21 => 21 | 105 => 131 | 46 => 118 | 119 => 173 | 139 => 176 | 138 => 175 | n => n, fun | 3 => 4 | 4 => 5 | n => n⟩
theorem Tryz.lays162 : Go.Proofs.Lays.n162 Tryz.prog Tryz.lays162_ren := {
 mixed := by kernel_rfl
 f119 := Tryz.func164.trans (congrArg some (by kernel_rfl))
 f120 := Tryz.func150.trans (congrArg some (by kernel_rfl))
 f137 := Tryz.func163.trans (congrArg some (by kernel_rfl))
 f151 := Tryz.func134.trans (congrArg some (by kernel_rfl))
 f152 := Tryz.func151.trans (congrArg some (by kernel_rfl))
 f162 := Tryz.func69.trans (congrArg some (by kernel_rfl))
 f197 := Tryz.func149.trans (congrArg some (by kernel_rfl))
 f217 := Tryz.func145.trans (congrArg some (by kernel_rfl))
 f224 := Tryz.func147.trans (congrArg some (by kernel_rfl))
 f225 := Tryz.func146.trans (congrArg some (by kernel_rfl))
 f227 := Tryz.func112.trans (congrArg some (by kernel_rfl))
 f228 := Tryz.func132.trans (congrArg some (by kernel_rfl))
 f232 := Tryz.func111.trans (congrArg some (by kernel_rfl))
 f234 := Tryz.func113.trans (congrArg some (by kernel_rfl))
 f236 := Tryz.func114.trans (congrArg some (by kernel_rfl))
 f260 := Tryz.func162.trans (congrArg some (by kernel_rfl))
 f266 := Tryz.func160.trans (congrArg some (by kernel_rfl))
 f271 := Tryz.func133.trans (congrArg some (by kernel_rfl))
 t0 := Tryz.underlying0
 a0 := Tryz.isAgg0
 z0 := Tryz.sizeOf0
 v0 := Tryz.zeroValue0
 t3 := Tryz.underlying3
 a3 := Tryz.isAgg3
 z3 := Tryz.sizeOf3
 v3 := Tryz.zeroValue3
 t4 := Tryz.underlying4
 a4 := Tryz.isAgg4
 z4 := Tryz.sizeOf4
 v4 := Tryz.zeroValue4
 t5 := Tryz.underlying5
 a5 := Tryz.isAgg5
 z5 := Tryz.sizeOf5
 v5 := Tryz.zeroValue5
 t9 := Tryz.underlying9
 a9 := Tryz.isAgg9
 z9 := Tryz.sizeOf9
 v9 := Tryz.zeroValue9
 t21 := Tryz.underlying21
 a21 := Tryz.isAgg21
 z21 := Tryz.sizeOf21
 v21 := Tryz.zeroValue21
 t46 := Tryz.underlying118
 a46 := Tryz.isAgg118
 z46 := Tryz.sizeOf118
 v46 := Tryz.zeroValue118
 t105 := Tryz.underlying131
 a105 := Tryz.isAgg131
 z105 := Tryz.sizeOf131
 v105 := Tryz.zeroValue131
 t116 := Tryz.underlying112
 a116 := Tryz.isAgg112
 z116 := Tryz.sizeOf112
 t117 := Tryz.underlying113
 a117 := Tryz.isAgg113
 z117 := Tryz.sizeOf113
 v117 := Tryz.zeroValue113
 t119 := Tryz.underlying173
 a119 := Tryz.isAgg173
 z119 := Tryz.sizeOf173
 t124 := Tryz.underlying116
 a124 := Tryz.isAgg116
 z124 := Tryz.sizeOf116
 v124 := Tryz.zeroValue116
 t138 := Tryz.underlying175
 a138 := Tryz.isAgg175
 z138 := Tryz.sizeOf175
 v138 := Tryz.zeroValue175
 t139 := Tryz.underlying176
 a139 := Tryz.isAgg176
 z139 := Tryz.sizeOf176
 v139 := Tryz.zeroValue176
 g3 := by kernel_rfl
 g4 := by kernel_rfl }
open Go.RowKit in
theorem Tryz.strings_TrimRight_one (s : ByteArray) (c : UInt8) (hc : c.toNat < 128) (w : World) (hs : s.size ≤ 9223372036854775807) :
  Calls Tryz.prog 69 #[.string s, .string ⟨#[c]⟩] w fun e w' => e = .returned (.string ⟨(Lib.trimRightB s.data.toList c).toArray⟩) ∧ w' = w := Any.strings_TrimRight_one Tryz.lays162 s c hc w hs
def Tryz.lays160_ren : Go.Shelf.Ren := ⟨fun | 160 => 110 | 232 => 111 | 231 => 129 | 227 => 112 | 234 => 113 | 233 => 130 | 236 => 114 | 235 => 131 | 228 => 132 | 271 => 133 | 151 => 134 | 197 => 149 | 120 => 150 | 152 => 151 | 260 => 162 | 137 => 163 | 119 => 164 | 224 => 147 | 225 => 146 | 217 => 145 | 266 => 160 | n => n, fun | 9 => 9 | 4 => 4 | 3 => 3 | 5 => 5 | 117 => 113 | 116 => 112 | 0 => 0 | 124 => 116 | 21 => 21 | 105 => 131 | 46 => 118 | 119 => 173 | 139 => 176 | 138 => 175 | n => n, fun | 3 => 4 | 4 => 5 | n => n⟩
theorem Tryz.lays160 : Go.Proofs.Lays.n160 Tryz.prog Tryz.lays160_ren := {
 mixed := by kernel_rfl
 f119 := Tryz.func164.trans (congrArg some (by kernel_rfl))
 f120 := Tryz.func150.trans (congrArg some (by kernel_rfl))
 f137 := Tryz.func163.trans (congrArg some (by kernel_rfl))
 f151 := Tryz.func134.trans (congrArg some (by kernel_rfl))
 f152 := Tryz.func151.trans (congrArg some (by kernel_rfl))
 f160 := Tryz.func110.trans (congrArg some (by kernel_rfl))
 f197 := Tryz.func149.trans (congrArg some (by kernel_rfl))
 f217 := Tryz.func145.trans (congrArg some (by kernel_rfl))
 f224 := Tryz.func147.trans (congrArg some (by kernel_rfl))
 f225 := Tryz.func146.trans (congrArg some (by kernel_rfl))
 f227 := Tryz.func112.trans (congrArg some (by kernel_rfl))
 f228 := Tryz.func132.trans (congrArg some (by kernel_rfl))
 f231 := Tryz.func129.trans (congrArg some (by kernel_rfl))
 f232 := Tryz.func111.trans (congrArg some (by kernel_rfl))
 f233 := Tryz.func130.trans (congrArg some (by kernel_rfl))
 f234 := Tryz.func113.trans (congrArg some (by kernel_rfl))
 f235 := Tryz.func131.trans (congrArg some (by kernel_rfl))
 f236 := Tryz.func114.trans (congrArg some (by kernel_rfl))
 f260 := Tryz.func162.trans (congrArg some (by kernel_rfl))
 f266 := Tryz.func160.trans (congrArg some (by kernel_rfl))
 f271 := Tryz.func133.trans (congrArg some (by kernel_rfl))
 t0 := Tryz.underlying0
 a0 := Tryz.isAgg0
 z0 := Tryz.sizeOf0
 v0 := Tryz.zeroValue0
 t3 := Tryz.underlying3
 a3 := Tryz.isAgg3
 z3 := Tryz.sizeOf3
 v3 := Tryz.zeroValue3
 t4 := Tryz.underlying4
 a4 := Tryz.isAgg4
 z4 := Tryz.sizeOf4
 v4 := Tryz.zeroValue4
 t5 := Tryz.underlying5
 a5 := Tryz.isAgg5
 z5 := Tryz.sizeOf5
 v5 := Tryz.zeroValue5
 t9 := Tryz.underlying9
 a9 := Tryz.isAgg9
 z9 := Tryz.sizeOf9
 v9 := Tryz.zeroValue9
 t21 := Tryz.underlying21
 a21 := Tryz.isAgg21
 z21 := Tryz.sizeOf21
 v21 := Tryz.zeroValue21
 t46 := Tryz.underlying118
 a46 := Tryz.isAgg118
 z46 := Tryz.sizeOf118
 v46 := Tryz.zeroValue118
 t105 := Tryz.underlying131
 a105 := Tryz.isAgg131
 z105 := Tryz.sizeOf131
 v105 := Tryz.zeroValue131
 t116 := Tryz.underlying112
 a116 := Tryz.isAgg112
 z116 := Tryz.sizeOf112
 t117 := Tryz.underlying113
 a117 := Tryz.isAgg113
 z117 := Tryz.sizeOf113
 v117 := Tryz.zeroValue113
 t119 := Tryz.underlying173
 a119 := Tryz.isAgg173
 z119 := Tryz.sizeOf173
 t124 := Tryz.underlying116
 a124 := Tryz.isAgg116
 z124 := Tryz.sizeOf116
 v124 := Tryz.zeroValue116
 t138 := Tryz.underlying175
 a138 := Tryz.isAgg175
 z138 := Tryz.sizeOf175
 v138 := Tryz.zeroValue175
 t139 := Tryz.underlying176
 a139 := Tryz.isAgg176
 z139 := Tryz.sizeOf176
 v139 := Tryz.zeroValue176
 g3 := by kernel_rfl
 g4 := by kernel_rfl }
def Tryz.lays103_ren : Go.Shelf.Ren := ⟨fun | 103 => 66 | 210 => 108 | 206 => 127 | n => n, fun | 9 => 9 | 4 => 4 | 24 => 79 | 3 => 3 | n => n, fun | n => n⟩
theorem Tryz.lays103 : Go.Proofs.Lays.n103 Tryz.prog Tryz.lays103_ren := {
 mixed := by kernel_rfl
 f103 := Tryz.func66.trans (congrArg some (by kernel_rfl))
 f206 := Tryz.func127.trans (congrArg some (by kernel_rfl))
 f210 := Tryz.func108.trans (congrArg some (by kernel_rfl))
 t3 := Tryz.underlying3
 a3 := Tryz.isAgg3
 z3 := Tryz.sizeOf3
 v3 := Tryz.zeroValue3
 t4 := Tryz.underlying4
 a4 := Tryz.isAgg4
 z4 := Tryz.sizeOf4
 v4 := Tryz.zeroValue4
 t9 := Tryz.underlying9
 a9 := Tryz.isAgg9
 z9 := Tryz.sizeOf9
 v9 := Tryz.zeroValue9
 t24 := Tryz.underlying79
 a24 := Tryz.isAgg79
 z24 := Tryz.sizeOf79
 v24 := Tryz.zeroValue79 }
open Go.RowKit in
theorem Tryz.strings_CutPrefix (s p : ByteArray) (w : World) :
  Calls Tryz.prog 66 #[.string s, .string p] w fun e w' => e = .returned (.tuple #[.string ⟨(Lib.trimPrefix s.data.toList p.data.toList).toArray⟩, .bool (Lib.hasPrefix s.data.toList p.data.toList)]) ∧ w' = w := Any.strings_CutPrefix Tryz.lays103 s p w
def Tryz.lays172_ren : Go.Shelf.Ren := ⟨fun | 172 => 70 | 244 => 115 | 245 => 116 | 247 => 135 | 279 => 136 | 280 => 137 | 281 => 138 | 282 => 139 | 287 => 152 | 316 => 153 | 171 => 73 | 205 => 154 | 321 => 165 | 322 => 166 | 243 => 117 | 246 => 140 | 283 => 155 | 284 => 156 | 285 => 157 | 286 => 158 | 129 => 168 | 317 => 167 | 318 => 169 | 319 => 170 | 320 => 171 | 337 => 172 | 338 => 173 | n => n, fun | 9 => 9 | 3 => 3 | 75 => 86 | 76 => 87 | 4 => 4 | 5 => 5 | 167 => 134 | 37 => 76 | 0 => 0 | 85 => 135 | 2 => 2 | 168 => 137 | 53 => 144 | 175 => 151 | 46 => 118 | 210 => 155 | 127 => 124 | 145 => 168 | 143 => 166 | 21 => 21 | 171 => 157 | 173 => 160 | 212 => 170 | 51 => 141 | 20 => 20 | 213 => 171 | 232 => 178 | 233 => 179 | 80 => 96 | n => n, fun | 15 => 1 | 16 => 2 | 17 => 3 | 18 => 6 | 19 => 7 | n => n⟩
theorem Tryz.lays172 : Go.Proofs.Lays.n172 Tryz.prog Tryz.lays172_ren := {
 mixed := by kernel_rfl
 f129 := Tryz.func168.trans (congrArg some (by kernel_rfl))
 f171 := Tryz.func73.trans (congrArg some (by kernel_rfl))
 f172 := Tryz.func70.trans (congrArg some (by kernel_rfl))
 f205 := Tryz.func154.trans (congrArg some (by kernel_rfl))
 f243 := Tryz.func117.trans (congrArg some (by kernel_rfl))
 f244 := Tryz.func115.trans (congrArg some (by kernel_rfl))
 f245 := Tryz.func116.trans (congrArg some (by kernel_rfl))
 f246 := Tryz.func140.trans (congrArg some (by kernel_rfl))
 f247 := Tryz.func135.trans (congrArg some (by kernel_rfl))
 f279 := Tryz.func136.trans (congrArg some (by kernel_rfl))
 f280 := Tryz.func137.trans (congrArg some (by kernel_rfl))
 f281 := Tryz.func138.trans (congrArg some (by kernel_rfl))
 f282 := Tryz.func139.trans (congrArg some (by kernel_rfl))
 f283 := Tryz.func155.trans (congrArg some (by kernel_rfl))
 f284 := Tryz.func156.trans (congrArg some (by kernel_rfl))
 f285 := Tryz.func157.trans (congrArg some (by kernel_rfl))
 f286 := Tryz.func158.trans (congrArg some (by kernel_rfl))
 f287 := Tryz.func152.trans (congrArg some (by kernel_rfl))
 f316 := Tryz.func153.trans (congrArg some (by kernel_rfl))
 f317 := Tryz.func167.trans (congrArg some (by kernel_rfl))
 f318 := Tryz.func169.trans (congrArg some (by kernel_rfl))
 f319 := Tryz.func170.trans (congrArg some (by kernel_rfl))
 f320 := Tryz.func171.trans (congrArg some (by kernel_rfl))
 f321 := Tryz.func165.trans (congrArg some (by kernel_rfl))
 f322 := Tryz.func166.trans (congrArg some (by kernel_rfl))
 f337 := Tryz.func172.trans (congrArg some (by kernel_rfl))
 f338 := Tryz.func173.trans (congrArg some (by kernel_rfl))
 t0 := Tryz.underlying0
 a0 := Tryz.isAgg0
 z0 := Tryz.sizeOf0
 v0 := Tryz.zeroValue0
 t2 := Tryz.underlying2
 a2 := Tryz.isAgg2
 z2 := Tryz.sizeOf2
 v2 := Tryz.zeroValue2
 t3 := Tryz.underlying3
 a3 := Tryz.isAgg3
 z3 := Tryz.sizeOf3
 v3 := Tryz.zeroValue3
 t4 := Tryz.underlying4
 a4 := Tryz.isAgg4
 z4 := Tryz.sizeOf4
 v4 := Tryz.zeroValue4
 t5 := Tryz.underlying5
 a5 := Tryz.isAgg5
 z5 := Tryz.sizeOf5
 v5 := Tryz.zeroValue5
 t9 := Tryz.underlying9
 a9 := Tryz.isAgg9
 z9 := Tryz.sizeOf9
 v9 := Tryz.zeroValue9
 t20 := Tryz.underlying20
 a20 := Tryz.isAgg20
 z20 := Tryz.sizeOf20
 v20 := Tryz.zeroValue20
 t21 := Tryz.underlying21
 a21 := Tryz.isAgg21
 z21 := Tryz.sizeOf21
 v21 := Tryz.zeroValue21
 t37 := Tryz.underlying76
 a37 := Tryz.isAgg76
 z37 := Tryz.sizeOf76
 v37 := Tryz.zeroValue76
 t46 := Tryz.underlying118
 a46 := Tryz.isAgg118
 z46 := Tryz.sizeOf118
 v46 := Tryz.zeroValue118
 t51 := Tryz.underlying141
 a51 := Tryz.isAgg141
 z51 := Tryz.sizeOf141
 v51 := Tryz.zeroValue141
 t53 := Tryz.underlying144
 a53 := Tryz.isAgg144
 z53 := Tryz.sizeOf144
 v53 := Tryz.zeroValue144
 t75 := Tryz.underlying86
 a75 := Tryz.isAgg86
 z75 := Tryz.sizeOf86
 v75 := Tryz.zeroValue86
 t76 := Tryz.underlying87
 a76 := Tryz.isAgg87
 z76 := Tryz.sizeOf87
 v76 := Tryz.zeroValue87
 t85 := Tryz.underlying135
 a85 := Tryz.isAgg135
 z85 := Tryz.sizeOf135
 v85 := Tryz.zeroValue135
 t127 := Tryz.underlying124
 a127 := Tryz.isAgg124
 z127 := Tryz.sizeOf124
 v127 := Tryz.zeroValue124
 t143 := Tryz.underlying166
 a143 := Tryz.isAgg166
 z143 := Tryz.sizeOf166
 v143 := Tryz.zeroValue166
 t145 := Tryz.underlying168
 a145 := Tryz.isAgg168
 z145 := Tryz.sizeOf168
 v145 := Tryz.zeroValue168
 t167 := Tryz.underlying134
 a167 := Tryz.isAgg134
 z167 := Tryz.sizeOf134
 v167 := Tryz.zeroValue134
 t168 := Tryz.underlying137
 a168 := Tryz.isAgg137
 z168 := Tryz.sizeOf137
 v168 := Tryz.zeroValue137
 t171 := Tryz.underlying157
 a171 := Tryz.isAgg157
 z171 := Tryz.sizeOf157
 v171 := Tryz.zeroValue157
 t173 := Tryz.underlying160
 a173 := Tryz.isAgg160
 z173 := Tryz.sizeOf160
 v173 := Tryz.zeroValue160
 t175 := Tryz.underlying151
 a175 := Tryz.isAgg151
 z175 := Tryz.sizeOf151
 v175 := Tryz.zeroValue151
 t210 := Tryz.underlying155
 a210 := Tryz.isAgg155
 z210 := Tryz.sizeOf155
 v210 := Tryz.zeroValue155
 t212 := Tryz.underlying170
 a212 := Tryz.isAgg170
 z212 := Tryz.sizeOf170
 v212 := Tryz.zeroValue170
 t213 := Tryz.underlying171
 a213 := Tryz.isAgg171
 z213 := Tryz.sizeOf171
 t232 := Tryz.underlying178
 a232 := Tryz.isAgg178
 z232 := Tryz.sizeOf178
 v232 := Tryz.zeroValue178
 t233 := Tryz.underlying179
 a233 := Tryz.isAgg179
 z233 := Tryz.sizeOf179
 v233 := Tryz.zeroValue179
 g15 := by kernel_rfl
 g16 := by kernel_rfl
 g17 := by kernel_rfl
 g18 := by kernel_rfl
 g19 := by kernel_rfl }
open Go.RowKit in
theorem Tryz.strconv_Atoi (s : ByteArray) (n : Int) (hl : s.size ≤ 18) (h : Lib.atoi s.data.toList = some n) (w : World) :
  Calls Tryz.prog 70 #[.string s] w fun e w' => e = .returned (.tuple #[.int .i64 n, .nilIface]) ∧ ∃ t, w' = Lib.bytesWorld w 5 t := Any.strconv_Atoi Tryz.lays172 s n hl h w
def Tryz.laysM246_ren : Go.Shelf.Ren := ⟨fun | 246 => 140 | 283 => 155 | 284 => 156 | 285 => 157 | 286 => 158 | 129 => 168 | 317 => 167 | 318 => 169 | 319 => 170 | 320 => 171 | 337 => 172 | 338 => 173 | n => n, fun | 2 => 2 | 3 => 3 | 9 => 9 | 4 => 4 | 171 => 157 | 0 => 0 | 53 => 144 | 37 => 76 | 5 => 5 | 173 => 160 | 212 => 170 | 51 => 141 | 20 => 20 | 213 => 171 | 46 => 118 | 232 => 178 | 233 => 179 | n => n, fun | 17 => 3 | 18 => 6 | 19 => 7 | n => n⟩
def Tryz.laysM243_ren : Go.Shelf.Ren := ⟨fun | 243 => 117 | 246 => 140 | 283 => 155 | 284 => 156 | 285 => 157 | 286 => 158 | 129 => 168 | 317 => 167 | 318 => 169 | 319 => 170 | 320 => 171 | 337 => 172 | 338 => 173 | n => n, fun | 3 => 3 | 9 => 9 | 2 => 2 | 4 => 4 | 171 => 157 | 0 => 0 | 53 => 144 | 37 => 76 | 5 => 5 | 173 => 160 | 212 => 170 | 51 => 141 | 20 => 20 | 213 => 171 | 46 => 118 | 232 => 178 | 233 => 179 | n => n, fun | 17 => 3 | 18 => 6 | 19 => 7 | n => n⟩
def Tryz.laysM171_ren : Go.Shelf.Ren := ⟨fun | 171 => 73 | 243 => 117 | 246 => 140 | 283 => 155 | 284 => 156 | 285 => 157 | 286 => 158 | 129 => 168 | 317 => 167 | 318 => 169 | 319 => 170 | 320 => 171 | 337 => 172 | 338 => 173 | n => n, fun | 3 => 3 | 9 => 9 | 2 => 2 | 4 => 4 | 171 => 157 | 0 => 0 | 53 => 144 | 37 => 76 | 5 => 5 | 173 => 160 | 212 => 170 | 51 => 141 | 20 => 20 | 213 => 171 | 46 => 118 | 232 => 178 | 233 => 179 | n => n, fun | 17 => 3 | 18 => 6 | 19 => 7 | n => n⟩
theorem Tryz.laysM171 : Go.Proofs.LaysM.n171 Tryz.prog Tryz.laysM171_ren := {
 mixed := by kernel_rfl
 f129 := Tryz.func168.trans (congrArg some (by kernel_rfl))
 f171 := Tryz.func73.trans (congrArg some (by kernel_rfl))
 f243 := Tryz.func117.trans (congrArg some (by kernel_rfl))
 f246 := Tryz.func140.trans (congrArg some (by kernel_rfl))
 f283 := Tryz.func155.trans (congrArg some (by kernel_rfl))
 f284 := Tryz.func156.trans (congrArg some (by kernel_rfl))
 f285 := Tryz.func157.trans (congrArg some (by kernel_rfl))
 f286 := Tryz.func158.trans (congrArg some (by kernel_rfl))
 f317 := Tryz.func167.trans (congrArg some (by kernel_rfl))
 f318 := Tryz.func169.trans (congrArg some (by kernel_rfl))
 f319 := Tryz.func170.trans (congrArg some (by kernel_rfl))
 f320 := Tryz.func171.trans (congrArg some (by kernel_rfl))
 f337 := Tryz.func172.trans (congrArg some (by kernel_rfl))
 f338 := Tryz.func173.trans (congrArg some (by kernel_rfl))
 t0 := Tryz.underlying0
 a0 := Tryz.isAgg0
 z0 := Tryz.sizeOf0
 v0 := Tryz.zeroValue0
 t2 := Tryz.underlying2
 a2 := Tryz.isAgg2
 z2 := Tryz.sizeOf2
 v2 := Tryz.zeroValue2
 t3 := Tryz.underlying3
 a3 := Tryz.isAgg3
 z3 := Tryz.sizeOf3
 v3 := Tryz.zeroValue3
 t4 := Tryz.underlying4
 a4 := Tryz.isAgg4
 z4 := Tryz.sizeOf4
 v4 := Tryz.zeroValue4
 t5 := Tryz.underlying5
 a5 := Tryz.isAgg5
 z5 := Tryz.sizeOf5
 v5 := Tryz.zeroValue5
 t9 := Tryz.underlying9
 a9 := Tryz.isAgg9
 z9 := Tryz.sizeOf9
 v9 := Tryz.zeroValue9
 t20 := Tryz.underlying20
 a20 := Tryz.isAgg20
 z20 := Tryz.sizeOf20
 v20 := Tryz.zeroValue20
 t37 := Tryz.underlying76
 a37 := Tryz.isAgg76
 z37 := Tryz.sizeOf76
 v37 := Tryz.zeroValue76
 t46 := Tryz.underlying118
 a46 := Tryz.isAgg118
 z46 := Tryz.sizeOf118
 v46 := Tryz.zeroValue118
 t51 := Tryz.underlying141
 a51 := Tryz.isAgg141
 z51 := Tryz.sizeOf141
 v51 := Tryz.zeroValue141
 t53 := Tryz.underlying144
 a53 := Tryz.isAgg144
 z53 := Tryz.sizeOf144
 v53 := Tryz.zeroValue144
 t171 := Tryz.underlying157
 a171 := Tryz.isAgg157
 z171 := Tryz.sizeOf157
 v171 := Tryz.zeroValue157
 t173 := Tryz.underlying160
 a173 := Tryz.isAgg160
 z173 := Tryz.sizeOf160
 v173 := Tryz.zeroValue160
 t212 := Tryz.underlying170
 a212 := Tryz.isAgg170
 z212 := Tryz.sizeOf170
 v212 := Tryz.zeroValue170
 t213 := Tryz.underlying171
 a213 := Tryz.isAgg171
 z213 := Tryz.sizeOf171
 t232 := Tryz.underlying178
 a232 := Tryz.isAgg178
 z232 := Tryz.sizeOf178
 v232 := Tryz.zeroValue178
 t233 := Tryz.underlying179
 a233 := Tryz.isAgg179
 z233 := Tryz.sizeOf179
 v233 := Tryz.zeroValue179
 g17 := by kernel_rfl
 g18 := by kernel_rfl
 g19 := by kernel_rfl
 i0 := by kernel_rfl
 i2 := by kernel_rfl
 i3 := by kernel_rfl
 i4 := by kernel_rfl
 i5 := by kernel_rfl
 i9 := by kernel_rfl
 i20 := by kernel_rfl
 i37 := by kernel_rfl
 i46 := by kernel_rfl
 i51 := by kernel_rfl
 i53 := by kernel_rfl
 i171 := by kernel_rfl
 i173 := by kernel_rfl
 i212 := by kernel_rfl
 i232 := by kernel_rfl
 i233 := by kernel_rfl
 m17 := by kernel_rfl
 m18 := by kernel_rfl
 m19 := by kernel_rfl }
open Go.RowKit Go.Sort Go.Lib in
theorem Tryz.strconv_Itoa (n : Int) (h0 : -9223372036854775808 ≤ n) (h1 : n ≤ 9223372036854775807) (w : World) (htab : Lib.TabIs Tryz.prog w "internal/strconv.uint64pow10" .u64 Lib.pow10Tab) :
  Calls Tryz.prog 73 #[.int .i64 n] w fun e w' => e = .returned (.string ⟨(Lib.itoa n).toArray⟩) ∧ ∃ k os, w' = grow (w.drewN k) os := Any.strconv_Itoa Tryz.laysM171 n h0 h1 w htab
def Tryz.lays219_ren : Go.Shelf.Ren := ⟨fun | 219 => 128 | 217 => 145 | 225 => 146 | 224 => 147 | 267 => 148 | 266 => 160 | 314 => 161 | n => n, fun | 9 => 9 | 3 => 3 | 4 => 4 | 5 => 5 | 46 => 118 | 146 => 142 | 51 => 141 | n => n, fun | 1 => 0 | n => n⟩
theorem Tryz.lays219 : Go.Proofs.Lays.n219 Tryz.prog Tryz.lays219_ren := {
 mixed := by kernel_rfl
 f217 := Tryz.func145.trans (congrArg some (by kernel_rfl))
 f219 := Tryz.func128.trans (congrArg some (by kernel_rfl))
 f224 := Tryz.func147.trans (congrArg some (by kernel_rfl))
 f225 := Tryz.func146.trans (congrArg some (by kernel_rfl))
 f266 := Tryz.func160.trans (congrArg some (by kernel_rfl))
 f267 := Tryz.func148.trans (congrArg some (by kernel_rfl))
 f314 := Tryz.func161.trans (congrArg some (by kernel_rfl))
 t3 := Tryz.underlying3
 a3 := Tryz.isAgg3
 z3 := Tryz.sizeOf3
 v3 := Tryz.zeroValue3
 t4 := Tryz.underlying4
 a4 := Tryz.isAgg4
 z4 := Tryz.sizeOf4
 v4 := Tryz.zeroValue4
 t5 := Tryz.underlying5
 a5 := Tryz.isAgg5
 z5 := Tryz.sizeOf5
 v5 := Tryz.zeroValue5
 t9 := Tryz.underlying9
 a9 := Tryz.isAgg9
 z9 := Tryz.sizeOf9
 v9 := Tryz.zeroValue9
 t46 := Tryz.underlying118
 a46 := Tryz.isAgg118
 z46 := Tryz.sizeOf118
 v46 := Tryz.zeroValue118
 t51 := Tryz.underlying141
 a51 := Tryz.isAgg141
 z51 := Tryz.sizeOf141
 v51 := Tryz.zeroValue141
 t146 := Tryz.underlying142
 a146 := Tryz.isAgg142
 z146 := Tryz.sizeOf142
 v146 := Tryz.zeroValue142
 g1 := by kernel_rfl }
open Go.RowKit Go.Lib in
theorem Tryz.stringslite_Index_one (s : ByteArray) (c : UInt8) (w : World) :
  Calls Tryz.prog 128 #[.string s, .string ⟨#[c]⟩] w fun e w' => e = .returned (.int .i64 (Lib.indexByte s.data.toList c)) ∧ w' = w := Any.stringslite_Index_one Tryz.lays219 s c w
def Tryz.lays105_ren : Go.Shelf.Ren := ⟨fun | 105 => 74 | 212 => 118 | 99 => 119 | 165 => 120 | 166 => 81 | 170 => 121 | 169 => 83 | 263 => 141 | 264 => 142 | 206 => 127 | 240 => 122 | 241 => 143 | 276 => 144 | 277 => 159 | n => n, fun | 9 => 9 | 3 => 3 | 4 => 4 | 20 => 20 | 0 => 0 | 46 => 118 | 109 => 119 | 5 => 5 | 72 => 93 | 76 => 87 | 51 => 141 | 146 => 142 | 53 => 144 | 148 => 145 | 70 => 91 | 37 => 76 | 75 => 86 | 127 => 124 | 164 => 147 | 80 => 96 | n => n, fun | n => n⟩
theorem Tryz.lays105 : Go.Proofs.Lays.n105 Tryz.prog Tryz.lays105_ren := {
 mixed := by kernel_rfl
 f99 := Tryz.func119.trans (congrArg some (by kernel_rfl))
 f105 := Tryz.func74.trans (congrArg some (by kernel_rfl))
 f165 := Tryz.func120.trans (congrArg some (by kernel_rfl))
 f166 := Tryz.func81.trans (congrArg some (by kernel_rfl))
 f169 := Tryz.func83.trans (congrArg some (by kernel_rfl))
 f170 := Tryz.func121.trans (congrArg some (by kernel_rfl))
 f206 := Tryz.func127.trans (congrArg some (by kernel_rfl))
 f212 := Tryz.func118.trans (congrArg some (by kernel_rfl))
 f240 := Tryz.func122.trans (congrArg some (by kernel_rfl))
 f241 := Tryz.func143.trans (congrArg some (by kernel_rfl))
 f263 := Tryz.func141.trans (congrArg some (by kernel_rfl))
 f264 := Tryz.func142.trans (congrArg some (by kernel_rfl))
 f276 := Tryz.func144.trans (congrArg some (by kernel_rfl))
 f277 := Tryz.func159.trans (congrArg some (by kernel_rfl))
 t0 := Tryz.underlying0
 a0 := Tryz.isAgg0
 z0 := Tryz.sizeOf0
 v0 := Tryz.zeroValue0
 t3 := Tryz.underlying3
 a3 := Tryz.isAgg3
 z3 := Tryz.sizeOf3
 v3 := Tryz.zeroValue3
 t4 := Tryz.underlying4
 a4 := Tryz.isAgg4
 z4 := Tryz.sizeOf4
 v4 := Tryz.zeroValue4
 t5 := Tryz.underlying5
 a5 := Tryz.isAgg5
 z5 := Tryz.sizeOf5
 v5 := Tryz.zeroValue5
 t9 := Tryz.underlying9
 a9 := Tryz.isAgg9
 z9 := Tryz.sizeOf9
 v9 := Tryz.zeroValue9
 t20 := Tryz.underlying20
 a20 := Tryz.isAgg20
 z20 := Tryz.sizeOf20
 v20 := Tryz.zeroValue20
 t37 := Tryz.underlying76
 a37 := Tryz.isAgg76
 z37 := Tryz.sizeOf76
 v37 := Tryz.zeroValue76
 t46 := Tryz.underlying118
 a46 := Tryz.isAgg118
 z46 := Tryz.sizeOf118
 v46 := Tryz.zeroValue118
 t51 := Tryz.underlying141
 a51 := Tryz.isAgg141
 z51 := Tryz.sizeOf141
 v51 := Tryz.zeroValue141
 t53 := Tryz.underlying144
 a53 := Tryz.isAgg144
 z53 := Tryz.sizeOf144
 v53 := Tryz.zeroValue144
 t70 := Tryz.underlying91
 a70 := Tryz.isAgg91
 z70 := Tryz.sizeOf91
 v70 := Tryz.zeroValue91
 t72 := Tryz.underlying93
 a72 := Tryz.isAgg93
 z72 := Tryz.sizeOf93
 v72 := Tryz.zeroValue93
 t75 := Tryz.underlying86
 a75 := Tryz.isAgg86
 z75 := Tryz.sizeOf86
 v75 := Tryz.zeroValue86
 t76 := Tryz.underlying87
 a76 := Tryz.isAgg87
 z76 := Tryz.sizeOf87
 v76 := Tryz.zeroValue87
 t109 := Tryz.underlying119
 a109 := Tryz.isAgg119
 z109 := Tryz.sizeOf119
 v109 := Tryz.zeroValue119
 t127 := Tryz.underlying124
 a127 := Tryz.isAgg124
 z127 := Tryz.sizeOf124
 v127 := Tryz.zeroValue124
 t146 := Tryz.underlying142
 a146 := Tryz.isAgg142
 z146 := Tryz.sizeOf142
 v146 := Tryz.zeroValue142
 t148 := Tryz.underlying145
 a148 := Tryz.isAgg145
 z148 := Tryz.sizeOf145
 v148 := Tryz.zeroValue145
 t164 := Tryz.underlying147
 a164 := Tryz.isAgg147
 z164 := Tryz.sizeOf147
 v164 := Tryz.zeroValue147 }
theorem Tryz.Builder_Extra_105 : Builder.Extra Tryz.prog Tryz.lays105_ren := {
 sizeBuilder := by kernel_rfl
 liesBuilder := by kernel_rfl
 t5 := Tryz.underlying5
 a5 := Tryz.isAgg5
 z5 := Tryz.sizeOf5
 v5 := Tryz.zeroValue5
 infoByte := by kernel_rfl
 cellsByte := by kernel_rfl
 sizeByte := by kernel_rfl
 neB5 := by decide }
open Go.RowKit Go.Lib in
theorem Tryz.strings_Repeat (s : ByteArray) (c : Nat) (w : World) (hc : c ≤ 9223372036854775807) (hlen : s.size * c ≤ 140737488355328) :
  Calls Tryz.prog 74 #[.string s, .int .i64 c] w fun e w' => e = .returned (.string ⟨(Lib.repeatL s.data.toList c).toArray⟩) ∧ Below w.heap.size w w' := Any.strings_Repeat Tryz.lays105 Tryz.Builder_Extra_105 s c w hc hlen
end Go.Proofs.YtalffjplbhelcaaGreatDoor
set_option linter.unusedVariables false
set_option linter.unusedSimpArgs false
namespace Go.Proofs.YtalffjplbhelcaaGreatDoor
open Go.RowKit
structure Box where
  g : Nat
  cs : List Value
  t : TypeId
  ro : Bool
structure Base where
  W : Nat → Prop
  w0 : World
def Base.may (β : Base) (k : Nat) : Prop := β.w0.heap.size ≤ k ∨ β.W k
structure Keeps (β : Base) (w : World) : Prop where
  base : Below 0 β.w0 w
  block : ∀ k, ¬ β.may k → w.heap[k]? = β.w0.heap[k]?
theorem Keeps.refl (W : Nat → Prop) (w : World) : Keeps ⟨W, w⟩ w := ⟨Below.refl _ _, fun _ _ => rfl⟩
theorem Keeps.size {β : Base} {w : World} (h : Keeps β w) : β.w0.heap.size ≤ w.heap.size := h.base.size
theorem Keeps.trans {β : Base} {w w' : World} (h : Keeps β w) (k : Below w.heap.size w w') : Keeps β w' :=
  ⟨h.base.trans (k.mono (Nat.zero_le _)), fun i hi => by
    have h1 : i < w.heap.size := by
      refine Nat.lt_of_lt_of_le (Nat.lt_of_not_le fun hle => hi (.inl hle)) h.size
    rw [k.block i h1, h.block i hi]⟩
theorem Keeps.alloc {β : Base} {w : World} (h : Keeps β w) (o : Obj) : Keeps β (w.alloc o) := h.trans ((Below.refl _ w).alloc (Nat.le_refl _) o)
theorem Keeps.drew {β : Base} {w : World} (h : Keeps β w) : Keeps β w.drew := ⟨h.base.drew, h.block⟩
theorem Keeps.below {w0 w : World} (h : Keeps ⟨fun _ => False, w0⟩ w) : Below w0.heap.size w0 w :=
  ⟨h.base.os, h.base.tape, h.base.output, h.base.size, fun k hk => h.block k (fun hm => hm.elim (fun h => absurd hk (Nat.not_lt.2 h)) id)⟩
theorem Keeps.setRow {β : Base} {w : World} (h : Keeps β w) (g : Nat) (cs : Array Value) (hg : β.may g) : Keeps β (w.setRow g cs) :=
  ⟨h.base.trans ⟨rfl, rfl, rfl, by simp, fun k hk => absurd hk (Nat.not_lt_zero _)⟩, fun k hk => by
    have hne : k ≠ g := fun e => hk (e ▸ hg)
    rw [setRow_other w g k cs hne]
    exact h.block k hk⟩
structure Own (β : Base) (H : List Box) (w : World) : Prop where
  size : β.w0.heap.size ≤ w.heap.size
  at_ : ∀ b ∈ H, (b.ro = true ∨ β.may b.g) ∧ ∃ fr, (b.ro = false → fr = (0, 0)) ∧ w.heap[b.g]? = some (.cells b.cs.toArray b.t fr)
  apart : (H.map Box.g).Nodup
theorem Own.nil (W : Nat → Prop) (w : World) : Own ⟨W, w⟩ [] w := ⟨Nat.le_refl _, by simp, by simp⟩
theorem Own.below {β : Base} {H : List Box} {w w' : World} (h : Own β H w) (hb : Below w.heap.size w w') : Own β H w' :=
  ⟨Nat.le_trans h.size hb.size, fun b hb' => ⟨(h.at_ b hb').1, by
    obtain ⟨fr, hf, this⟩ := (h.at_ b hb').2
    exact ⟨fr, hf, by rw [hb.block _ (Array.getElem?_eq_some_iff.1 this).1]; exact this⟩⟩, h.apart⟩
theorem Own.drew {β : Base} {H : List Box} {w : World} (h : Own β H w) : Own β H w.drew := ⟨h.size, h.at_, h.apart⟩
theorem Own.lt {β : Base} {H : List Box} {w : World} (h : Own β H w) {b : Box} (hb : b ∈ H) : b.g < w.heap.size := by
  obtain ⟨_, fr, _, hh⟩ := h.at_ b hb
  exact (Array.getElem?_eq_some_iff.1 hh).1
theorem Own.alloc {β : Base} {H : List Box} {w : World} (h : Own β H w) (cs : List Value) (t : TypeId) : Own β (⟨w.heap.size, cs, t, false⟩ :: H) (w.alloc (.cells cs.toArray t (0, 0))) := by
  refine ⟨Nat.le_trans h.size (by simp), ?_, ?_⟩
  · intro b hb
    rcases List.mem_cons.1 hb with rfl | hb
    · exact ⟨.inr (.inl h.size), (0, 0), fun _ => rfl, heap_alloc_new w _⟩
    · obtain ⟨h1, fr, hf, hh⟩ := h.at_ b hb
      exact ⟨h1, fr, hf, (Below.heap_alloc w _ _ (h.lt hb)).trans hh⟩
  · simp only [List.map_cons, List.nodup_cons]
    refine ⟨?_, h.apart⟩
    intro hm
    obtain ⟨b, hb, e⟩ := List.mem_map.1 hm
    have := h.lt hb
    omega
theorem Own.perm {β : Base} {H H' : List Box} {w : World} (h : Own β H w) (hp : H.Perm H') : Own β H' w :=
  ⟨h.size, fun b hb => h.at_ b (hp.mem_iff.2 hb), (hp.map Box.g).nodup_iff.1 h.apart⟩
def upd (H : List Box) (i : Nat) (cs : List Value) : List Box := H.modify i (fun b => { b with cs := cs })
theorem upd_g (H : List Box) (i : Nat) (cs : List Value) : (upd H i cs).map Box.g = H.map Box.g := by
  unfold upd
  apply List.ext_getElem?
  intro j
  simp only [List.getElem?_map, List.getElem?_modify]
  cases hj : H[j]? with
  | none => simp
  | some x => by_cases h : i = j <;> simp [h]
theorem upd_append (H F : List Box) (i : Nat) (b : Box) (hi : H[i]? = some b) (cs : List Value) : upd (H ++ F) i cs = upd H i cs ++ F := by
  have hlt : i < H.length := (List.getElem?_eq_some_iff.1 hi).1
  unfold upd
  apply List.ext_getElem?
  intro j
  rw [List.getElem?_modify]
  by_cases hj : j < H.length
  · rw [List.getElem?_append_left hj, List.getElem?_append_left (by simpa using hj), List.getElem?_modify]
  · rw [List.getElem?_append_right (by omega), List.getElem?_append_right (by simpa using Nat.le_of_not_lt hj)]
    have : ¬ i = j := by omega
    simp [this]
theorem Own.set {β : Base} {H : List Box} {w : World} (h : Own β H w) (i : Nat) (b : Box) (hi : H[i]? = some b) (hro : b.ro = false) (cs : List Value) : Own β (upd H i cs) (w.setRow b.g cs.toArray) := by
  have hb : b ∈ H := List.mem_of_getElem? hi
  refine ⟨by simpa using h.size, ?_, by rw [upd_g]; exact h.apart⟩
  intro x hx
  obtain ⟨j, hj⟩ := List.mem_iff_getElem?.1 hx
  unfold upd at hj
  rw [List.getElem?_modify] at hj
  cases hy : H[j]? with
  | none => simp [hy] at hj
  | some y =>
    have hym : y ∈ H := List.mem_of_getElem? hy
    simp only [hy, Option.map_some, Option.some.injEq] at hj
    by_cases hij : i = j
    · subst hij
      rw [hi] at hy
      cases hy
      simp at hj
      subst hj
      obtain ⟨h1, fr, hf, hh⟩ := h.at_ b hb
      obtain rfl := hf hro
      exact ⟨h1, (0, 0), fun _ => rfl, setRow_heap w b.g b.cs.toArray cs.toArray b.t (0, 0) hh⟩
    · simp [hij] at hj
      subst hj
      have hne : y.g ≠ b.g := by
        intro e
        have hn := h.apart
        rw [List.nodup_iff_pairwise_ne, List.pairwise_iff_getElem] at hn
        have h1 : i < (H.map Box.g).length := by simpa using (List.getElem?_eq_some_iff.1 hi).1
        have h2 : j < (H.map Box.g).length := by simpa using (List.getElem?_eq_some_iff.1 hy).1
        have e1 : (H.map Box.g)[i] = b.g := by simp [(List.getElem?_eq_some_iff.1 hi).2]
        have e2 : (H.map Box.g)[j] = y.g := by simp [(List.getElem?_eq_some_iff.1 hy).2]
        rcases Nat.lt_or_ge i j with hlt | hge
        · exact hn i j h1 h2 hlt (by rw [e1, e2, e])
        · exact hn j i h2 h1 (by omega) (by rw [e1, e2, e])
      obtain ⟨h1, fr, hf, hh⟩ := h.at_ y hym
      exact ⟨h1, fr, hf, (setRow_other w b.g y.g cs.toArray hne).trans hh⟩
abbrev Env := Nat → Value
def Env.put (E : Env) (d : Option Nat) (v : Value) : Env :=
  match d with
  | some d => fun t => bif Nat.beq t d then v else E t
  | none => E
def ev (n : Nat) (E : Env) : Operand → Value
  | .tmp t => bif Nat.blt t n then E t else undef
  | .const v => v
  | .global g => .pointer (some ⟨g, 0, none⟩)
  | .func f => .func (.func f) #[] #[]
structure Sees (n : Nat) (E : Env) (a : Act) : Prop where
  defers : a.defers = []
  size : a.tmps.size = n
  at_ : ∀ t, t < n → a.tmps[t]? = some (E t)
theorem Sees.eval {n : Nat} {E : Env} {a : Act} (h : Sees n E a) : a.eval = ev n E := by
  funext x
  cases x with
  | tmp t =>
    simp only [Act.eval, ev]
    by_cases ht : t < n
    · have hb : Nat.blt t n = true := by simpa [Nat.blt_eq] using ht
      rw [hb]
      simp [h.at_ t ht]
    · have hb : Nat.blt t n = false := by
        rw [Bool.eq_false_iff]; intro hc; exact ht (by simpa [Nat.blt_eq] using hc)
      rw [hb]
      have : a.tmps[t]? = none := by
        rw [Array.getElem?_eq_none_iff]
        exact Nat.le_trans (Nat.le_of_eq h.size) (Nat.le_of_not_lt ht)
      simp [this]
  | const v => rfl
  | global g => rfl
  | func f => rfl
theorem Sees.put {n : Nat} {E : Env} {a : Act} (h : Sees n E a) (d : Option Nat) (v : Value) : Sees n (E.put d v) (a.put d v) := by
  cases d with
  | none => exact h
  | some d =>
    refine ⟨h.defers, by simp [Act.put, h.size], fun t ht => ?_⟩
    simp only [Act.put, Env.put]
    by_cases htd : t = d
    · subst htd
      have : Nat.beq t t = true := by simp
      rw [this]
      simp [h.size, ht]
    · have : Nat.beq t d = false := by
        rw [Bool.eq_false_iff]; intro hc; exact htd (Nat.eq_of_beq_eq_true hc)
      rw [this]
      simp [Array.getElem?_setIfInBounds_ne (Ne.symm htd), h.at_ t ht]
def yld (n : Nat) (ops : Array Oper) (E : Env) (o : Oper) : Bool :=
  match o.guard with
  | none => true
  | some (j, want) => match (ops[j]?).bind (·.dst) with
    | some t => (match ev n E (.tmp t) with | .bool b => b == want | _ => false)
    | none => false
theorem Sees.yld {n : Nat} {E : Env} {a : Act} (h : Sees n E a) (ops : Array Oper) (o : Oper) : Region.wanted o (yielded ops a.tmps) = yld n ops E o := by
  unfold Region.wanted YtalffjplbhelcaaGreatDoor.yld
  cases o.guard with
  | none => rfl
  | some gw =>
    obtain ⟨j, want⟩ := gw
    simp only [yielded]
    cases (ops[j]?).bind (·.dst) with
    | none => rfl
    | some t =>
      have e : a.eval (.tmp t) = ev n E (.tmp t) := by rw [h.eval]
      simp only [Option.bind_some]
      simp only [Act.eval] at e
      have e2 : a.tmps.getD t undef = (a.tmps[t]?).getD undef := by simp
      rw [e2] at e
      cases hq : a.tmps[t]? with
      | none =>
        rw [hq] at e
        rw [← e]
        rfl
      | some v =>
        rw [hq] at e
        simp only [Option.getD_some] at e
        rw [← e]
        cases v <;> rfl
def aggD (d : TypeDesc) : Bool := match d with | .struct _ | .array _ _ => true | _ => false
abbrev Post := Value → List Box → Prop
def Step (p : Program) (ρ : Operand → Value) (o : Oper) (H : List Box) (K : Post) : Prop :=
  ∀ F β w, Own β (H ++ F) w → Keeps β w →
    match (execOp ρ o).run p w with
    | .ok (.value v) w' => ∃ H', K v H' ∧ Own β (H' ++ F) w' ∧ Keeps β w'
    | .ok .skip w' => ∃ H', K undef H' ∧ Own β (H' ++ F) w' ∧ Keeps β w'
    | .ok (.enter f args) w' => Calls p f args w' fun e w'' => ∃ v H', e = .returned v ∧ K v H' ∧ Own β (H' ++ F) w'' ∧ Keeps β w''
    | _ => False
theorem Step.mono {p : Program} {ρ : Operand → Value} {o : Oper} {H : List Box} {K K' : Post} (h : Step p ρ o H K) (hk : ∀ v H', K v H' → K' v H') : Step p ρ o H K' := by
  intro F β w hO hB
  have := h F β w hO hB
  revert this
  cases (execOp ρ o).run p w with
  | ok x w' =>
    cases x <;> intro this <;> first | exact this | skip
    case value v => obtain ⟨H', a, b⟩ := this; exact ⟨H', hk _ _ a, b⟩
    case skip => obtain ⟨H', a, b⟩ := this; exact ⟨H', hk _ _ a, b⟩
    case enter f args => exact this.mono fun e w'' ⟨v, H', a, b, c⟩ => ⟨v, H', a, hk _ _ b, c⟩
  | halt x w' => exact id
theorem Step.wpF {p : Program} {n : Nat} {E : Env} {a : Act} {o : Oper} {H F : List Box} {K : Post} {β : Base} {w : World} {next : Act → World → Prop} {Q : Exit → Act → World → Prop}
    (h : Step p (ev n E) o H K) (hs : Sees n E a) (hO : Own β (H ++ F) w) (hB : Keeps β w)
    (hn : ∀ v H' w', K v H' → Own β (H' ++ F) w' → Keeps β w' → next (a.put o.dst v) w') : o.wp p a w next Q := by
  have := h F β w hO hB
  unfold Oper.wp
  rw [hs.eval]
  revert this
  cases (execOp (ev n E) o).run p w with
  | ok x w' =>
    cases x <;> intro this <;> first | exact this.elim | skip
    case value v => obtain ⟨H', a, b, c⟩ := this; exact hn _ _ _ a b c
    case skip => obtain ⟨H', a, b, c⟩ := this; exact hn _ _ _ a b c
    case enter f args =>
      refine Calls.mono this fun e w'' ⟨v, H', a, b, c, d⟩ => ?_
      subst a
      exact hn _ _ _ b c d
  | halt x w' => exact fun h => h.elim
theorem Step.wp {p : Program} {n : Nat} {E : Env} {a : Act} {o : Oper} {H : List Box} {K : Post} {β : Base} {w : World} {next : Act → World → Prop} {Q : Exit → Act → World → Prop}
    (h : Step p (ev n E) o H K) (hs : Sees n E a) (hO : Own β H w) (hB : Keeps β w)
    (hn : ∀ v H' w', K v H' → Own β H' w' → Keeps β w' → next (a.put o.dst v) w') : o.wp p a w next Q :=
  h.wpF (F := []) hs (by simpa using hO) hB (fun v H' w' k hO' hB' => hn v H' w' k (by simpa using hO') hB')
def Gets (p : Program) (f : FuncId) (args : Array Value) (v : Value) : Prop :=
  ∀ w, Calls p f args w fun e w' => e = .returned v ∧ Below w.heap.size w w'
section
variable {p : Program} {ρ : Operand → Value} {o : Oper} {H : List Box} {K : Post}
theorem st_val {v : Value} (h : ∀ w, (execOp ρ o).run p w = .ok (.value v) w) (k : K v H) : Step p ρ o H K := by
  intro F β w hO hB
  rw [h w]
  exact ⟨H, k, hO, hB⟩
theorem st_move {x : Operand} {v : Value} (ho : o.op = .move x) (hx : ρ x = v) (k : K v H) : Step p ρ o H K := st_val (fun w => by rw [execOp, ho, ← hx]; rfl) k
theorem st_assign {x : Operand} {v : Value} (ho : o.op = .assign x) (hx : ρ x = v) (k : K v H) : Step p ρ o H K := st_val (fun w => by rw [execOp, ho, ← hx]; rfl) k
theorem st_pick {c x y : Operand} {b : Bool} {v u r : Value} (ho : o.op = .pick c x y) (hc : ρ c = .bool b) (hx : ρ x = v) (hy : ρ y = u) (hr : (if b then v else u) = r) (k : K r H) : Step p ρ o H K :=
  st_val (fun w => by rw [execOp, ho, ← hr, ← hx, ← hy]; simp only [hc]; rfl) k
theorem st_call {f : FuncId} {args : List Operand} {ts : Array TypeId} {vs : List Value} {r : Value} {fn : Func} {c : Code} (ho : o.op = .call { callee := .value (.func f), args := args.toArray, argTypes := ts })
    (hf : ρ (.func f) = .func (.func f) #[] #[]) (hv : args.map ρ = vs) (hfn : p.funcs[f]? = some fn) (hb : fn.body = some c) (hnm : (fn.name == "runtime.NumGoroutine") = false) (h : Gets p f vs.toArray r) (k : K r H) : Step p ρ o H K := by
  intro F β w hO hB
  have e : (execOp ρ o).run p w = .ok (.enter f vs.toArray) w := by
    rw [execOp, ho]
    simp only [resolve, hf, Deferred.ofValue, List.map_toArray, hv]
    have hnm' : ¬ fn.name = "runtime.NumGoroutine" := by simpa using hnm
    simp [Sem.run_bind, invoke, callFunc, hfn, hnm', hb]
  rw [e]
  exact (h w).mono fun e w' ⟨he, hb'⟩ => ⟨r, H, he, k, hO.below hb', hB.trans hb'⟩
theorem st_alloc {t : TypeId} {z : Value} (ho : o.op = .alloc t) (hi : (p.info? t).map (·.zero) = some (some z)) {cs : List Value} (hc : z.cells = cs.toArray) (k : ∀ g, K (.pointer (some ⟨g, 0, none⟩)) (⟨g, cs, t, false⟩ :: H)) : Step p ρ o H K := by
  intro F β w hO hB
  have e : (execOp ρ o).run p w = .ok (.value (.pointer (some ⟨w.heap.size, 0, none⟩))) (w.alloc (.cells cs.toArray t (0, 0))) := by
    rw [← hc]
    rw [execOp, ho]
    cases hq : p.info? t with
    | none => simp [hq] at hi
    | some i =>
      have hz : i.zero = some z := by simpa [hq] using hi
      simp [Instr.alloc, zeroValue, typeInfo, hq, hz, newVar, newRow, Sem.run_bind]
  rw [e]
  exact ⟨_, k _, hO.alloc _ _, hB.alloc _⟩
theorem st_box {t : TypeId} {x : Operand} {v : Value} {cs : List Value} (ho : o.op = .box t x) (hx : ρ x = v) (hc : v.cells = cs.toArray) (k : ∀ g, K (.pointer (some ⟨g, 0, none⟩)) (⟨g, cs, t, false⟩ :: H)) : Step p ρ o H K := by
  intro F β w hO hB
  have e : (execOp ρ o).run p w = .ok (.value (.pointer (some ⟨w.heap.size, 0, none⟩))) (w.alloc (.cells cs.toArray t (0, 0))) := by
    rw [execOp, ho]
    simp [Instr.box, newVar, newRow, Sem.run_bind, hx, hc]
  rw [e]
  exact ⟨_, k _, hO.alloc _ _, hB.alloc _⟩
theorem add_at (g off j : Nat) : (⟨g, off, none⟩ : Addr).add j = ⟨g, off + j, none⟩ := by unfold Addr.add; split <;> simp_all
theorem st_load_agg {t : TypeId} {x : Operand} {g off : Nat} {b : Box} {d : TypeDesc} {vs : List Value} (i : Nat) (ho : o.op = .load t x) (hx : ρ x = .pointer (some ⟨g, off, none⟩)) (hm : H[i]? = some b) (hg : b.g = g)
    (hu : p.underlying t = some d) (hd : aggD d = true) (hi : (p.info? t).map (·.size) = some vs.length) (hv : (b.cs.drop off).take vs.length = vs) (k : K (.agg vs.toArray) H) : Step p ρ o H K := by
  intro F β w hO hB
  obtain ⟨fr, _, hb⟩ := (hO.at_ b (List.mem_append_left _ (List.mem_of_getElem? hm))).2
  have e : (execOp ρ o).run p w = .ok (.value (.agg vs.toArray)) w := by
    rw [execOp, ho]
    simp only [hx]
    have hl : (loadCells ⟨g, off, none⟩ vs.length).run p w = .ok vs.toArray w :=
      run_loadCells_list (P := p) w ⟨g, off, none⟩ vs (fun j v hv' => by
        rw [add_at, ← hg, cell_of_row w b.g (off + j) b.cs.toArray b.t fr hb]
        rw [← hv, List.getElem?_take] at hv'
        split at hv'
        · rw [List.getElem?_drop] at hv'
          simpa using hv'
        · cases hv')
    cases hq : p.info? t with
    | none => simp [hq] at hi
    | some inf =>
      have hs : inf.size = vs.length := by simpa [hq] using hi
      have hagg : (isAgg t).run p w = .ok true w := by
        unfold isAgg
        rw [Sem.run_bind, run_underlying hu w]
        cases d <;> simp_all [aggD]
      simp [Instr.loadAt, Instr.sureAddr, loadVar, Sem.run_bind, hagg, sizeOf, typeInfo, hq, hs, hl]
  rw [e]
  exact ⟨H, k, hO, hB⟩
theorem st_load {t : TypeId} {x : Operand} {g off : Nat} {b : Box} {d : TypeDesc} {v : Value} (i : Nat) (ho : o.op = .load t x) (hx : ρ x = .pointer (some ⟨g, off, none⟩)) (hm : H[i]? = some b) (hg : b.g = g)
    (hu : p.underlying t = some d) (hd : aggD d = false) (hv : b.cs[off]? = some v) (k : K v H) : Step p ρ o H K := by
  intro F β w hO hB
  obtain ⟨fr, _, hb⟩ := (hO.at_ b (List.mem_append_left _ (List.mem_of_getElem? hm))).2
  have e : (execOp ρ o).run p w = .ok (.value v) w := by
    rw [execOp, ho]
    simp only [hx]
    have hc : w.cell? ⟨g, off, none⟩ = some v := by rw [← hg, cell_of_row w b.g off b.cs.toArray b.t fr hb]; simpa using hv
    have hagg : (isAgg t).run p w = .ok false w := by
      unfold isAgg
      rw [Sem.run_bind, run_underlying hu w]
      cases d <;> simp_all [aggD]
    simp [Instr.loadAt, Instr.sureAddr, loadVar, Sem.run_bind, hagg, hc]
  rw [e]
  exact ⟨H, k, hO, hB⟩
theorem st_store {t : TypeId} {x y : Operand} {g off : Nat} {b : Box} {u : Value} {us cs : List Value} (i : Nat) (ho : o.op = .store t x y) (hx : ρ x = .pointer (some ⟨g, off, none⟩)) (hy : ρ y = u) (hu : u.cells = us.toArray) (hm : H[i]? = some b) (hg : b.g = g)
    (hi : (p.info? t).map (·.size) = some us.length) (hle : Nat.ble (off + us.length) b.cs.length = true) (h1 : us.all (·.oneCell') = true)
    (hcs : b.cs.take off ++ us ++ b.cs.drop (off + us.length) = cs) (k : K undef (upd H i cs)) (hro : b.ro = false := by rfl) : Step p ρ o H K := by
  intro F β w hO hB
  have hbm := List.mem_append_left F (List.mem_of_getElem? hm)
  have hmF : (H ++ F)[i]? = some b := by rw [List.getElem?_append_left (List.getElem?_eq_some_iff.1 hm).1]; exact hm
  obtain ⟨fr, hf, hb⟩ := (hO.at_ b hbm).2
  obtain rfl := hf hro
  have e : (execOp ρ o).run p w = .ok .skip (w.setRow b.g cs.toArray) := by
    rw [execOp, ho]
    simp only [hx, hy]
    have hs := run_storeCells_at (P := p) b.g off b.t us 0 b.cs.toArray w hb (by have := Nat.le_of_ble_eq_true hle; simpa using this) (fun v hv => (List.all_eq_true.1 h1) v hv)
    simp only [Nat.add_zero] at hs
    rw [hcs] at hs
    cases hq : p.info? t with
    | none => simp [hq] at hi
    | some inf =>
      have hsz : inf.size = us.length := by simpa [hq] using hi
      subst hg
      simp [Instr.storeAt, Instr.sureAddr, storeVar, Sem.run_bind, sizeOf, typeInfo, hq, hsz, hs, hu]
  rw [e]
  exact ⟨_, k, by rw [← upd_append H F i b hm]; exact hO.set i b hmF hro cs, hB.setRow _ _ ((hO.at_ b hbm).1.resolve_left (by rw [hro]; exact Bool.false_ne_true))⟩
end
def AQ (n : Nat) (β : Base) (Q : Exit → Env → List Box → Prop) : Exit → Act → World → Prop := fun e a w => ∃ E H, Q e E H ∧ Sees n E a ∧ Own β H w ∧ Keeps β w
def AR (p : Program) (n : Nat) (ops : Array Oper) (Q : Exit → Env → List Box → Prop) (l : List Oper) (E : Env) (H : List Box) : Prop :=
  ∀ β w a, Own β H w → Keeps β w → Sees n E a → wpList p ops (AQ n β Q) l a w
def AC (p : Program) (n : Nat) (c : Code) (Q : Exit → Env → List Box → Prop) (E : Env) (H : List Box) : Prop :=
  ∀ β w a, Own β H w → Keeps β w → Sees n E a → c.wp p (AQ n β Q) a w
section
variable {p : Program} {n : Nat} {ops : Array Oper} {Q : Exit → Env → List Box → Prop} {l : List Oper} {E : Env} {H : List Box} {o : Oper}
theorem ar_nil (h : Q .normal E H) : AR p n ops Q [] E H := fun β w a hO hB hs => ⟨E, H, h, hs, hO, hB⟩
theorem ar_step (hg : yld n ops E o = true) (h : Step p (ev n E) o H fun v H' => AR p n ops Q l (E.put o.dst v) H') : AR p n ops Q (o :: l) E H := by
  intro β w a hO hB hs
  unfold wpList
  rw [hs.yld, hg, if_pos rfl]
  exact .inl (h.wp hs hO hB fun v H' w' k hO' hB' => k β w' _ hO' hB' (hs.put _ _))
theorem ar_plain (hg : o.guard = none) (h : Step p (ev n E) o H fun v H' => AR p n ops Q l (E.put o.dst v) H') : AR p n ops Q (o :: l) E H := ar_step (by unfold yld; rw [hg]) h
theorem ar_skip (hg : yld n ops E o = false) (h : AR p n ops Q l (E.put o.dst undef) H) : AR p n ops Q (o :: l) E H := by
  intro β w a hO hB hs
  unfold wpList
  rw [hs.yld, hg, if_neg (by simp)]
  exact h β w _ hO hB (hs.put _ _)
theorem ac_region {id : Nat} (h : AR p n ops Q ops.toList E H) : AC p n (.region id ops false) Q E H :=
  fun β w a hO hB hs => wp_region_list (h β w a hO hB hs)
theorem ac_region_lit {id : Nat} {l : List Oper} (h : AR p n l.toArray Q l E H) : AC p n (.region id l.toArray false) Q E H := ac_region h
def AThen (next : Env → List Box → Prop) (Q : Exit → Env → List Box → Prop) : Exit → Env → List Box → Prop
  | .normal, E, H => next E H
  | e, E, H => Q e E H
def ABlock (id : Nat) (Q : Exit → Env → List Box → Prop) : Exit → Env → List Box → Prop
  | .exit id', E, H => if id' = id then Q .normal E H else Q (.exit id') E H
  | e, E, H => Q e E H
theorem AC.mono {c : Code} {Q' : Exit → Env → List Box → Prop} (h : AC p n c Q E H) (hq : ∀ e E H, Q e E H → Q' e E H) : AC p n c Q' E H :=
  fun β w a hO hB hs => Code.wp_mono (fun e a w ⟨E, H, q, r⟩ => ⟨E, H, hq _ _ _ q, r⟩) (h β w a hO hB hs)
theorem ac_seq {x y : Code} (h : AC p n x (AThen (AC p n y Q) Q) E H) : AC p n (.seq x y) Q E H := by
  intro β w a hO hB hs
  refine wp_seq (Code.wp_mono ?_ (h β w a hO hB hs))
  rintro e a w ⟨E', H', q, hs', hO', hB'⟩
  cases e <;> first | exact ⟨E', H', q, hs', hO', hB'⟩ | exact q β w a hO' hB' hs'
theorem ac_cond {c : Operand} {x y : Code} {t : Bool} (hc : ev n E c = .bool t) (ht : t = true → AC p n x Q E H) (hf : t = false → AC p n y Q E H) : AC p n (.cond c x y) Q E H := by
  intro β w a hO hB hs
  refine wp_cond_split (t := t) (by rw [hs.eval]; exact hc) (fun h => ht h β w a hO hB hs) (fun h => hf h β w a hO hB hs)
theorem ac_then {c : Operand} {x y : Code} (hc : ev n E c = .bool true) (ht : AC p n x Q E H) : AC p n (.cond c x y) Q E H := ac_cond hc (fun _ => ht) (fun h => by cases h)
theorem ac_else {c : Operand} {x y : Code} (hc : ev n E c = .bool false) (ht : AC p n y Q E H) : AC p n (.cond c x y) Q E H := ac_cond hc (fun h => by cases h) (fun _ => ht)
theorem ac_skip (h : Q .normal E H) : AC p n .skip Q E H := fun β w a hO hB hs => wp_skip ⟨E, H, h, hs, hO, hB⟩
theorem ac_ret (h : Q .ret E H) : AC p n .ret Q E H := fun β w a hO hB hs => wp_ret ⟨E, H, h, hs, hO, hB⟩
theorem ac_exit {id : Nat} (h : Q (.exit id) E H) : AC p n (.exit id) Q E H := fun β w a hO hB hs => wp_exit ⟨E, H, h, hs, hO, hB⟩
theorem ac_block {id : Nat} {c : Code} (h : AC p n c (ABlock id Q) E H) : AC p n (.block id c) Q E H := by
  intro β w a hO hB hs
  refine wp_block (Code.wp_mono ?_ (h β w a hO hB hs))
  rintro e a w ⟨E', H', q, hs', hO', hB'⟩
  cases e <;> first | exact ⟨E', H', q, hs', hO', hB'⟩ | skip
  case exit id' =>
    simp only [ABlock] at q
    simp only [Exit.inBlock]
    split
    · rename_i hi; rw [if_pos hi] at q; exact ⟨E', H', q, hs', hO', hB'⟩
    · rename_i hi; rw [if_neg hi] at q; exact ⟨E', H', q, hs', hO', hB'⟩
def ARounds (p : Program) (n : Nat) (c : Code) (Q : Exit → Env → List Box → Prop) : Nat → Env → List Box → Prop
  | 0, _, _ => False
  | k + 1, E, H => AC p n c (AThen (ARounds p n c Q k) Q) E H
theorem ac_rounds {c : Code} (k : Nat) (h : ARounds p n c Q k E H) : AC p n (.loop c) Q E H := by
  intro β w a hO hB hs
  refine wp_loop_rounds k ?_
  revert h hO hB hs
  induction k generalizing E H a w with
  | zero => intro h; exact h.elim
  | succ k ih =>
    intro h hO hB hs
    rw [rounds_succ]
    refine Code.wp_mono ?_ (h β w a hO hB hs)
    rintro e a w ⟨E', H', q, hs', hO', hB'⟩
    cases e <;> first | exact ⟨E', H', q, hs', hO', hB'⟩ | exact ih w a q hO' hB' hs'
end
def envOf (args : Array Value) : Env := fun t => args.toList.getD t undef
def Res (p : Program) (fn : Func) (n : Nat) (E : Env) (H : List Box) (v : Value) : Prop :=
  ∀ β w a, Own β H w → Sees n E a → (results fn a.tmps).run p w = .ok v w
theorem gets_of {p : Program} {f : FuncId} {fn : Func} {c : Code} {args : Array Value} {v : Value} {n : Nat} (hf : p.funcs[f]? = some fn) (hb : fn.body = some c) (hn : fn.ntmps = n) (ha : Nat.ble args.size n = true)
    (h : AC p n c (fun e E H => (e = .ret ∨ e = .normal) ∧ Res p fn n E H v) (envOf args) []) : Gets p f args v := by
  intro w
  replace ha := Nat.le_of_ble_eq_true ha
  refine calls_of_wp hf hb ?_
  refine Code.wp_mono ?_ (h ⟨fun _ => False, w⟩ w _ (Own.nil _ w) (Keeps.refl _ _) ⟨rfl, by simp; omega, ?_⟩)
  · rintro e a w' ⟨E, H, ⟨he, hr⟩, hs, hO, hB⟩
    rcases he with rfl | rfl
    · exact ⟨hs.defers, v, hr _ _ _ hO hs, rfl, hB.below⟩
    · exact ⟨hs.defers, v, hr _ _ _ hO hs, rfl, hB.below⟩
  · intro t ht
    have ht' : (t : Nat) < n := ht
    subst hn
    simp only [envOf, List.getD_eq_getElem?_getD, Array.getElem?_toList]
    by_cases h1 : (t : Nat) < args.size
    · rw [Array.getElem?_append_left h1, Array.getElem?_eq_getElem h1]
      rfl
    · have h3 : args.size ≤ (t : Nat) := Nat.le_of_not_lt h1
      have h2 : (t : Nat) - args.size < fn.ntmps - args.size := by omega
      rw [Array.getElem?_append_right h3, Array.getElem?_eq_none h3, Array.getElem?_replicate, if_pos h2]
      rfl
theorem res_tmp {p : Program} {fn : Func} {n : Nat} {E : Env} {H : List Box} {v : Value} {t : Nat} (h : fn.results = #[.tmp t]) (hv : ev n E (.tmp t) = v) : Res p fn n E H v := by
  intro β w a hO hs
  rw [results_tmp h, ← hv, ← hs.eval]
  rfl
theorem res_cell {p : Program} {fn : Func} {n : Nat} {E : Env} {H : List Box} {t ty : Nat} {b : Box} {g : Nat} {d : TypeDesc} {v : Value} (i : Nat) (h : fn.results = #[.cell t ty]) (hv : ev n E (.tmp t) = .pointer (some ⟨g, 0, none⟩)) (hm : H[i]? = some b) (hg : b.g = g)
    (hu : p.underlying ty = some d) (hd : aggD d = true) (hi : (p.info? ty).map (·.size) = some b.cs.length) (hvv : v = .agg b.cs.toArray) : Res p fn n E H v := by
  intro β w a hO hs
  subst hg hvv
  obtain ⟨fr, _, hh⟩ := (hO.at_ b (List.mem_of_getElem? hm)).2
  refine results_cell_row h _ w b.g b.t b.cs.toArray fr d ?_ hh hu (by cases d <;> first | rfl | cases hd) (by simpa using hi)
  rw [← hv, ← hs.eval]
  rfl
end Go.Proofs.YtalffjplbhelcaaGreatDoor
