import Derived.Shelf.Strings.Builder1
import Derived.Shelf.Strings.Builder2
import Derived.Shelf.Strings.Trim
import Derived.Shelf.Small.Utf8
import Derived.Shelf.Small.Strs
import Derived.Shelf.Small.Wraps
import Derived.Shelf.Strings.BuilderF
import Derived.Shelf.Strings.BuilderK
import Derived.Shelf.Strconv.Atoi
import Derived.Shelf.Strconv.Itoa0
import Derived.Shelf.Strconv.Itoa1
import Derived.Shelf.LaysM
import Derived.Shelf.Strconv.Itoa2
import Derived.Shelf.Strconv.Itoa3
import Derived.Shelf.Strings.Search1
import Derived.Shelf.Strings.Search2
import Derived.Shelf.Strings.Cut
import Derived.Shelf.Strings.Shaped
import Derived.Shelf.Strings.Prefix
import Derived.Shelf.Strings.Runes
import Derived.Shelf.Strings.AsciiSet
import Derived.Shelf.Bits.Mul64
import Derived.Shelf.Strings.Repeat
import Derived.Shelf.Unicode.DecodeSlow
import Derived.Test.YtalffjplbhelcaaDoorProg
import Derived.WalkKit
import Derived.WalkSpells
import Derived.WalkLawsBesides
import Derived.LoopN
import Derived.Orders
/-
 DERIVED: THE SHELF's CONTRACTS AT THIS DUMP, IN PLAIN WORDS (tools/lay-plain.mjs out of 'TrydShelf.lean', which tools/lay-shelf.mjs wrote): THE SAME DECLARATIONS UNDER THE SAME NAMES: 'import', 'namespace', 'open', 'def', 'theorem' AND NOTHING ELSE: no command of the shelf's: FOR A HAND-IN. Each laying: the table of numbers ('.._ren') and one theorem, a field a fact of the dump's own or the kernel's comparison; each contract: ONE APPLICATION.
-/
namespace Go.Proofs.YtalffjplbhelcaaDoor
open Go.Shelf
def Tryd.lays162_ren : Go.Shelf.Ren := ⟨fun | 162 => 40 | 232 => 51 | 227 => 52 | 234 => 53 | 236 => 54 | 228 => 69 | 271 => 70 | 151 => 71 | 120 => 87 | 197 => 86 | 152 => 88 | 260 => 100 | 137 => 101 | 119 => 102 | 224 => 84 | 225 => 83 | 217 => 82 | 266 => 98 | n => n, fun | 9 => 9 | 4 => 4 | 3 => 3 | 5 => 5 | 117 => 86 | 116 => 85 | 0 => 0 | 124 => 89 | 21 => 21 | 105 => 102 | 46 => 91 | 119 => 146 | 139 => 149 | 138 => 148 | n => n, fun | 3 => 4 | 4 => 5 | n => n⟩
theorem Tryd.lays162 : Go.Proofs.Lays.n162 Tryd.prog Tryd.lays162_ren := {
 mixed := by kernel_rfl
 f119 := Tryd.func102.trans (congrArg some (by kernel_rfl))
 f120 := Tryd.func87.trans (congrArg some (by kernel_rfl))
 f137 := Tryd.func101.trans (congrArg some (by kernel_rfl))
 f151 := Tryd.func71.trans (congrArg some (by kernel_rfl))
 f152 := Tryd.func88.trans (congrArg some (by kernel_rfl))
 f162 := Tryd.func40.trans (congrArg some (by kernel_rfl))
 f197 := Tryd.func86.trans (congrArg some (by kernel_rfl))
 f217 := Tryd.func82.trans (congrArg some (by kernel_rfl))
 f224 := Tryd.func84.trans (congrArg some (by kernel_rfl))
 f225 := Tryd.func83.trans (congrArg some (by kernel_rfl))
 f227 := Tryd.func52.trans (congrArg some (by kernel_rfl))
 f228 := Tryd.func69.trans (congrArg some (by kernel_rfl))
 f232 := Tryd.func51.trans (congrArg some (by kernel_rfl))
 f234 := Tryd.func53.trans (congrArg some (by kernel_rfl))
 f236 := Tryd.func54.trans (congrArg some (by kernel_rfl))
 f260 := Tryd.func100.trans (congrArg some (by kernel_rfl))
 f266 := Tryd.func98.trans (congrArg some (by kernel_rfl))
 f271 := Tryd.func70.trans (congrArg some (by kernel_rfl))
 t0 := Tryd.underlying0
 a0 := Tryd.isAgg0
 z0 := Tryd.sizeOf0
 v0 := Tryd.zeroValue0
 t3 := Tryd.underlying3
 a3 := Tryd.isAgg3
 z3 := Tryd.sizeOf3
 v3 := Tryd.zeroValue3
 t4 := Tryd.underlying4
 a4 := Tryd.isAgg4
 z4 := Tryd.sizeOf4
 v4 := Tryd.zeroValue4
 t5 := Tryd.underlying5
 a5 := Tryd.isAgg5
 z5 := Tryd.sizeOf5
 v5 := Tryd.zeroValue5
 t9 := Tryd.underlying9
 a9 := Tryd.isAgg9
 z9 := Tryd.sizeOf9
 v9 := Tryd.zeroValue9
 t21 := Tryd.underlying21
 a21 := Tryd.isAgg21
 z21 := Tryd.sizeOf21
 v21 := Tryd.zeroValue21
 t46 := Tryd.underlying91
 a46 := Tryd.isAgg91
 z46 := Tryd.sizeOf91
 v46 := Tryd.zeroValue91
 t105 := Tryd.underlying102
 a105 := Tryd.isAgg102
 z105 := Tryd.sizeOf102
 v105 := Tryd.zeroValue102
 t116 := Tryd.underlying85
 a116 := Tryd.isAgg85
 z116 := Tryd.sizeOf85
 t117 := Tryd.underlying86
 a117 := Tryd.isAgg86
 z117 := Tryd.sizeOf86
 v117 := Tryd.zeroValue86
 t119 := Tryd.underlying146
 a119 := Tryd.isAgg146
 z119 := Tryd.sizeOf146
 t124 := Tryd.underlying89
 a124 := Tryd.isAgg89
 z124 := Tryd.sizeOf89
 v124 := Tryd.zeroValue89
 t138 := Tryd.underlying148
 a138 := Tryd.isAgg148
 z138 := Tryd.sizeOf148
 v138 := Tryd.zeroValue148
 t139 := Tryd.underlying149
 a139 := Tryd.isAgg149
 z139 := Tryd.sizeOf149
 v139 := Tryd.zeroValue149
 g3 := by kernel_rfl
 g4 := by kernel_rfl }
open Go.RowKit in
theorem Tryd.strings_TrimRight_one (s : ByteArray) (c : UInt8) (hc : c.toNat < 128) (w : World) (hs : s.size ≤ 9223372036854775807) :
  Calls Tryd.prog 40 #[.string s, .string ⟨#[c]⟩] w fun e w' => e = .returned (.string ⟨(Lib.trimRightB s.data.toList c).toArray⟩) ∧ w' = w := Any.strings_TrimRight_one Tryd.lays162 s c hc w hs
def Tryd.lays160_ren : Go.Shelf.Ren := ⟨fun | 160 => 50 | 232 => 51 | 231 => 66 | 227 => 52 | 234 => 53 | 233 => 67 | 236 => 54 | 235 => 68 | 228 => 69 | 271 => 70 | 151 => 71 | 197 => 86 | 120 => 87 | 152 => 88 | 260 => 100 | 137 => 101 | 119 => 102 | 224 => 84 | 225 => 83 | 217 => 82 | 266 => 98 | n => n, fun | 9 => 9 | 4 => 4 | 3 => 3 | 5 => 5 | 117 => 86 | 116 => 85 | 0 => 0 | 124 => 89 | 21 => 21 | 105 => 102 | 46 => 91 | 119 => 146 | 139 => 149 | 138 => 148 | n => n, fun | 3 => 4 | 4 => 5 | n => n⟩
theorem Tryd.lays160 : Go.Proofs.Lays.n160 Tryd.prog Tryd.lays160_ren := {
 mixed := by kernel_rfl
 f119 := Tryd.func102.trans (congrArg some (by kernel_rfl))
 f120 := Tryd.func87.trans (congrArg some (by kernel_rfl))
 f137 := Tryd.func101.trans (congrArg some (by kernel_rfl))
 f151 := Tryd.func71.trans (congrArg some (by kernel_rfl))
 f152 := Tryd.func88.trans (congrArg some (by kernel_rfl))
 f160 := Tryd.func50.trans (congrArg some (by kernel_rfl))
 f197 := Tryd.func86.trans (congrArg some (by kernel_rfl))
 f217 := Tryd.func82.trans (congrArg some (by kernel_rfl))
 f224 := Tryd.func84.trans (congrArg some (by kernel_rfl))
 f225 := Tryd.func83.trans (congrArg some (by kernel_rfl))
 f227 := Tryd.func52.trans (congrArg some (by kernel_rfl))
 f228 := Tryd.func69.trans (congrArg some (by kernel_rfl))
 f231 := Tryd.func66.trans (congrArg some (by kernel_rfl))
 f232 := Tryd.func51.trans (congrArg some (by kernel_rfl))
 f233 := Tryd.func67.trans (congrArg some (by kernel_rfl))
 f234 := Tryd.func53.trans (congrArg some (by kernel_rfl))
 f235 := Tryd.func68.trans (congrArg some (by kernel_rfl))
 f236 := Tryd.func54.trans (congrArg some (by kernel_rfl))
 f260 := Tryd.func100.trans (congrArg some (by kernel_rfl))
 f266 := Tryd.func98.trans (congrArg some (by kernel_rfl))
 f271 := Tryd.func70.trans (congrArg some (by kernel_rfl))
 t0 := Tryd.underlying0
 a0 := Tryd.isAgg0
 z0 := Tryd.sizeOf0
 v0 := Tryd.zeroValue0
 t3 := Tryd.underlying3
 a3 := Tryd.isAgg3
 z3 := Tryd.sizeOf3
 v3 := Tryd.zeroValue3
 t4 := Tryd.underlying4
 a4 := Tryd.isAgg4
 z4 := Tryd.sizeOf4
 v4 := Tryd.zeroValue4
 t5 := Tryd.underlying5
 a5 := Tryd.isAgg5
 z5 := Tryd.sizeOf5
 v5 := Tryd.zeroValue5
 t9 := Tryd.underlying9
 a9 := Tryd.isAgg9
 z9 := Tryd.sizeOf9
 v9 := Tryd.zeroValue9
 t21 := Tryd.underlying21
 a21 := Tryd.isAgg21
 z21 := Tryd.sizeOf21
 v21 := Tryd.zeroValue21
 t46 := Tryd.underlying91
 a46 := Tryd.isAgg91
 z46 := Tryd.sizeOf91
 v46 := Tryd.zeroValue91
 t105 := Tryd.underlying102
 a105 := Tryd.isAgg102
 z105 := Tryd.sizeOf102
 v105 := Tryd.zeroValue102
 t116 := Tryd.underlying85
 a116 := Tryd.isAgg85
 z116 := Tryd.sizeOf85
 t117 := Tryd.underlying86
 a117 := Tryd.isAgg86
 z117 := Tryd.sizeOf86
 v117 := Tryd.zeroValue86
 t119 := Tryd.underlying146
 a119 := Tryd.isAgg146
 z119 := Tryd.sizeOf146
 t124 := Tryd.underlying89
 a124 := Tryd.isAgg89
 z124 := Tryd.sizeOf89
 v124 := Tryd.zeroValue89
 t138 := Tryd.underlying148
 a138 := Tryd.isAgg148
 z138 := Tryd.sizeOf148
 v138 := Tryd.zeroValue148
 t139 := Tryd.underlying149
 a139 := Tryd.isAgg149
 z139 := Tryd.sizeOf149
 v139 := Tryd.zeroValue149
 g3 := by kernel_rfl
 g4 := by kernel_rfl }
def Tryd.lays103_ren : Go.Shelf.Ren := ⟨fun | 103 => 37 | 210 => 48 | 206 => 64 | n => n, fun | 9 => 9 | 4 => 4 | 24 => 70 | 3 => 3 | n => n, fun | n => n⟩
theorem Tryd.lays103 : Go.Proofs.Lays.n103 Tryd.prog Tryd.lays103_ren := {
 mixed := by kernel_rfl
 f103 := Tryd.func37.trans (congrArg some (by kernel_rfl))
 f206 := Tryd.func64.trans (congrArg some (by kernel_rfl))
 f210 := Tryd.func48.trans (congrArg some (by kernel_rfl))
 t3 := Tryd.underlying3
 a3 := Tryd.isAgg3
 z3 := Tryd.sizeOf3
 v3 := Tryd.zeroValue3
 t4 := Tryd.underlying4
 a4 := Tryd.isAgg4
 z4 := Tryd.sizeOf4
 v4 := Tryd.zeroValue4
 t9 := Tryd.underlying9
 a9 := Tryd.isAgg9
 z9 := Tryd.sizeOf9
 v9 := Tryd.zeroValue9
 t24 := Tryd.underlying70
 a24 := Tryd.isAgg70
 z24 := Tryd.sizeOf70
 v24 := Tryd.zeroValue70 }
open Go.RowKit in
theorem Tryd.strings_CutPrefix (s p : ByteArray) (w : World) :
  Calls Tryd.prog 37 #[.string s, .string p] w fun e w' => e = .returned (.tuple #[.string ⟨(Lib.trimPrefix s.data.toList p.data.toList).toArray⟩, .bool (Lib.hasPrefix s.data.toList p.data.toList)]) ∧ w' = w := Any.strings_CutPrefix Tryd.lays103 s p w
def Tryd.lays172_ren : Go.Shelf.Ren := ⟨fun | 172 => 41 | 244 => 55 | 245 => 56 | 247 => 72 | 279 => 73 | 280 => 74 | 281 => 75 | 282 => 76 | 287 => 89 | 316 => 90 | 171 => 42 | 205 => 91 | 321 => 103 | 322 => 104 | 243 => 57 | 246 => 77 | 283 => 92 | 284 => 93 | 285 => 94 | 286 => 95 | 129 => 106 | 317 => 105 | 318 => 107 | 319 => 108 | 320 => 109 | 337 => 110 | 338 => 111 | n => n, fun | 9 => 9 | 3 => 3 | 75 => 77 | 76 => 78 | 4 => 4 | 5 => 5 | 167 => 105 | 37 => 29 | 0 => 0 | 85 => 106 | 2 => 2 | 168 => 108 | 53 => 115 | 175 => 121 | 46 => 91 | 210 => 125 | 127 => 118 | 145 => 141 | 143 => 139 | 21 => 21 | 171 => 127 | 173 => 130 | 212 => 143 | 51 => 112 | 20 => 20 | 213 => 144 | 232 => 151 | 233 => 152 | 80 => 100 | n => n, fun | 15 => 1 | 16 => 2 | 17 => 3 | 18 => 6 | 19 => 7 | n => n⟩
theorem Tryd.lays172 : Go.Proofs.Lays.n172 Tryd.prog Tryd.lays172_ren := {
 mixed := by kernel_rfl
 f129 := Tryd.func106.trans (congrArg some (by kernel_rfl))
 f171 := Tryd.func42.trans (congrArg some (by kernel_rfl))
 f172 := Tryd.func41.trans (congrArg some (by kernel_rfl))
 f205 := Tryd.func91.trans (congrArg some (by kernel_rfl))
 f243 := Tryd.func57.trans (congrArg some (by kernel_rfl))
 f244 := Tryd.func55.trans (congrArg some (by kernel_rfl))
 f245 := Tryd.func56.trans (congrArg some (by kernel_rfl))
 f246 := Tryd.func77.trans (congrArg some (by kernel_rfl))
 f247 := Tryd.func72.trans (congrArg some (by kernel_rfl))
 f279 := Tryd.func73.trans (congrArg some (by kernel_rfl))
 f280 := Tryd.func74.trans (congrArg some (by kernel_rfl))
 f281 := Tryd.func75.trans (congrArg some (by kernel_rfl))
 f282 := Tryd.func76.trans (congrArg some (by kernel_rfl))
 f283 := Tryd.func92.trans (congrArg some (by kernel_rfl))
 f284 := Tryd.func93.trans (congrArg some (by kernel_rfl))
 f285 := Tryd.func94.trans (congrArg some (by kernel_rfl))
 f286 := Tryd.func95.trans (congrArg some (by kernel_rfl))
 f287 := Tryd.func89.trans (congrArg some (by kernel_rfl))
 f316 := Tryd.func90.trans (congrArg some (by kernel_rfl))
 f317 := Tryd.func105.trans (congrArg some (by kernel_rfl))
 f318 := Tryd.func107.trans (congrArg some (by kernel_rfl))
 f319 := Tryd.func108.trans (congrArg some (by kernel_rfl))
 f320 := Tryd.func109.trans (congrArg some (by kernel_rfl))
 f321 := Tryd.func103.trans (congrArg some (by kernel_rfl))
 f322 := Tryd.func104.trans (congrArg some (by kernel_rfl))
 f337 := Tryd.func110.trans (congrArg some (by kernel_rfl))
 f338 := Tryd.func111.trans (congrArg some (by kernel_rfl))
 t0 := Tryd.underlying0
 a0 := Tryd.isAgg0
 z0 := Tryd.sizeOf0
 v0 := Tryd.zeroValue0
 t2 := Tryd.underlying2
 a2 := Tryd.isAgg2
 z2 := Tryd.sizeOf2
 v2 := Tryd.zeroValue2
 t3 := Tryd.underlying3
 a3 := Tryd.isAgg3
 z3 := Tryd.sizeOf3
 v3 := Tryd.zeroValue3
 t4 := Tryd.underlying4
 a4 := Tryd.isAgg4
 z4 := Tryd.sizeOf4
 v4 := Tryd.zeroValue4
 t5 := Tryd.underlying5
 a5 := Tryd.isAgg5
 z5 := Tryd.sizeOf5
 v5 := Tryd.zeroValue5
 t9 := Tryd.underlying9
 a9 := Tryd.isAgg9
 z9 := Tryd.sizeOf9
 v9 := Tryd.zeroValue9
 t20 := Tryd.underlying20
 a20 := Tryd.isAgg20
 z20 := Tryd.sizeOf20
 v20 := Tryd.zeroValue20
 t21 := Tryd.underlying21
 a21 := Tryd.isAgg21
 z21 := Tryd.sizeOf21
 v21 := Tryd.zeroValue21
 t37 := Tryd.underlying29
 a37 := Tryd.isAgg29
 z37 := Tryd.sizeOf29
 v37 := Tryd.zeroValue29
 t46 := Tryd.underlying91
 a46 := Tryd.isAgg91
 z46 := Tryd.sizeOf91
 v46 := Tryd.zeroValue91
 t51 := Tryd.underlying112
 a51 := Tryd.isAgg112
 z51 := Tryd.sizeOf112
 v51 := Tryd.zeroValue112
 t53 := Tryd.underlying115
 a53 := Tryd.isAgg115
 z53 := Tryd.sizeOf115
 v53 := Tryd.zeroValue115
 t75 := Tryd.underlying77
 a75 := Tryd.isAgg77
 z75 := Tryd.sizeOf77
 v75 := Tryd.zeroValue77
 t76 := Tryd.underlying78
 a76 := Tryd.isAgg78
 z76 := Tryd.sizeOf78
 v76 := Tryd.zeroValue78
 t85 := Tryd.underlying106
 a85 := Tryd.isAgg106
 z85 := Tryd.sizeOf106
 v85 := Tryd.zeroValue106
 t127 := Tryd.underlying118
 a127 := Tryd.isAgg118
 z127 := Tryd.sizeOf118
 v127 := Tryd.zeroValue118
 t143 := Tryd.underlying139
 a143 := Tryd.isAgg139
 z143 := Tryd.sizeOf139
 v143 := Tryd.zeroValue139
 t145 := Tryd.underlying141
 a145 := Tryd.isAgg141
 z145 := Tryd.sizeOf141
 v145 := Tryd.zeroValue141
 t167 := Tryd.underlying105
 a167 := Tryd.isAgg105
 z167 := Tryd.sizeOf105
 v167 := Tryd.zeroValue105
 t168 := Tryd.underlying108
 a168 := Tryd.isAgg108
 z168 := Tryd.sizeOf108
 v168 := Tryd.zeroValue108
 t171 := Tryd.underlying127
 a171 := Tryd.isAgg127
 z171 := Tryd.sizeOf127
 v171 := Tryd.zeroValue127
 t173 := Tryd.underlying130
 a173 := Tryd.isAgg130
 z173 := Tryd.sizeOf130
 v173 := Tryd.zeroValue130
 t175 := Tryd.underlying121
 a175 := Tryd.isAgg121
 z175 := Tryd.sizeOf121
 v175 := Tryd.zeroValue121
 t210 := Tryd.underlying125
 a210 := Tryd.isAgg125
 z210 := Tryd.sizeOf125
 v210 := Tryd.zeroValue125
 t212 := Tryd.underlying143
 a212 := Tryd.isAgg143
 z212 := Tryd.sizeOf143
 v212 := Tryd.zeroValue143
 t213 := Tryd.underlying144
 a213 := Tryd.isAgg144
 z213 := Tryd.sizeOf144
 t232 := Tryd.underlying151
 a232 := Tryd.isAgg151
 z232 := Tryd.sizeOf151
 v232 := Tryd.zeroValue151
 t233 := Tryd.underlying152
 a233 := Tryd.isAgg152
 z233 := Tryd.sizeOf152
 v233 := Tryd.zeroValue152
 g15 := by kernel_rfl
 g16 := by kernel_rfl
 g17 := by kernel_rfl
 g18 := by kernel_rfl
 g19 := by kernel_rfl }
open Go.RowKit in
theorem Tryd.strconv_Atoi (s : ByteArray) (n : Int) (hl : s.size ≤ 18) (h : Lib.atoi s.data.toList = some n) (w : World) :
  Calls Tryd.prog 41 #[.string s] w fun e w' => e = .returned (.tuple #[.int .i64 n, .nilIface]) ∧ ∃ t, w' = Lib.bytesWorld w 5 t := Any.strconv_Atoi Tryd.lays172 s n hl h w
def Tryd.laysM246_ren : Go.Shelf.Ren := ⟨fun | 246 => 77 | 283 => 92 | 284 => 93 | 285 => 94 | 286 => 95 | 129 => 106 | 317 => 105 | 318 => 107 | 319 => 108 | 320 => 109 | 337 => 110 | 338 => 111 | n => n, fun | 2 => 2 | 3 => 3 | 9 => 9 | 4 => 4 | 171 => 127 | 0 => 0 | 53 => 115 | 37 => 29 | 5 => 5 | 173 => 130 | 212 => 143 | 51 => 112 | 20 => 20 | 213 => 144 | 46 => 91 | 232 => 151 | 233 => 152 | n => n, fun | 17 => 3 | 18 => 6 | 19 => 7 | n => n⟩
def Tryd.laysM243_ren : Go.Shelf.Ren := ⟨fun | 243 => 57 | 246 => 77 | 283 => 92 | 284 => 93 | 285 => 94 | 286 => 95 | 129 => 106 | 317 => 105 | 318 => 107 | 319 => 108 | 320 => 109 | 337 => 110 | 338 => 111 | n => n, fun | 3 => 3 | 9 => 9 | 2 => 2 | 4 => 4 | 171 => 127 | 0 => 0 | 53 => 115 | 37 => 29 | 5 => 5 | 173 => 130 | 212 => 143 | 51 => 112 | 20 => 20 | 213 => 144 | 46 => 91 | 232 => 151 | 233 => 152 | n => n, fun | 17 => 3 | 18 => 6 | 19 => 7 | n => n⟩
def Tryd.laysM171_ren : Go.Shelf.Ren := ⟨fun | 171 => 42 | 243 => 57 | 246 => 77 | 283 => 92 | 284 => 93 | 285 => 94 | 286 => 95 | 129 => 106 | 317 => 105 | 318 => 107 | 319 => 108 | 320 => 109 | 337 => 110 | 338 => 111 | n => n, fun | 3 => 3 | 9 => 9 | 2 => 2 | 4 => 4 | 171 => 127 | 0 => 0 | 53 => 115 | 37 => 29 | 5 => 5 | 173 => 130 | 212 => 143 | 51 => 112 | 20 => 20 | 213 => 144 | 46 => 91 | 232 => 151 | 233 => 152 | n => n, fun | 17 => 3 | 18 => 6 | 19 => 7 | n => n⟩
theorem Tryd.laysM171 : Go.Proofs.LaysM.n171 Tryd.prog Tryd.laysM171_ren := {
 mixed := by kernel_rfl
 f129 := Tryd.func106.trans (congrArg some (by kernel_rfl))
 f171 := Tryd.func42.trans (congrArg some (by kernel_rfl))
 f243 := Tryd.func57.trans (congrArg some (by kernel_rfl))
 f246 := Tryd.func77.trans (congrArg some (by kernel_rfl))
 f283 := Tryd.func92.trans (congrArg some (by kernel_rfl))
 f284 := Tryd.func93.trans (congrArg some (by kernel_rfl))
 f285 := Tryd.func94.trans (congrArg some (by kernel_rfl))
 f286 := Tryd.func95.trans (congrArg some (by kernel_rfl))
 f317 := Tryd.func105.trans (congrArg some (by kernel_rfl))
 f318 := Tryd.func107.trans (congrArg some (by kernel_rfl))
 f319 := Tryd.func108.trans (congrArg some (by kernel_rfl))
 f320 := Tryd.func109.trans (congrArg some (by kernel_rfl))
 f337 := Tryd.func110.trans (congrArg some (by kernel_rfl))
 f338 := Tryd.func111.trans (congrArg some (by kernel_rfl))
 t0 := Tryd.underlying0
 a0 := Tryd.isAgg0
 z0 := Tryd.sizeOf0
 v0 := Tryd.zeroValue0
 t2 := Tryd.underlying2
 a2 := Tryd.isAgg2
 z2 := Tryd.sizeOf2
 v2 := Tryd.zeroValue2
 t3 := Tryd.underlying3
 a3 := Tryd.isAgg3
 z3 := Tryd.sizeOf3
 v3 := Tryd.zeroValue3
 t4 := Tryd.underlying4
 a4 := Tryd.isAgg4
 z4 := Tryd.sizeOf4
 v4 := Tryd.zeroValue4
 t5 := Tryd.underlying5
 a5 := Tryd.isAgg5
 z5 := Tryd.sizeOf5
 v5 := Tryd.zeroValue5
 t9 := Tryd.underlying9
 a9 := Tryd.isAgg9
 z9 := Tryd.sizeOf9
 v9 := Tryd.zeroValue9
 t20 := Tryd.underlying20
 a20 := Tryd.isAgg20
 z20 := Tryd.sizeOf20
 v20 := Tryd.zeroValue20
 t37 := Tryd.underlying29
 a37 := Tryd.isAgg29
 z37 := Tryd.sizeOf29
 v37 := Tryd.zeroValue29
 t46 := Tryd.underlying91
 a46 := Tryd.isAgg91
 z46 := Tryd.sizeOf91
 v46 := Tryd.zeroValue91
 t51 := Tryd.underlying112
 a51 := Tryd.isAgg112
 z51 := Tryd.sizeOf112
 v51 := Tryd.zeroValue112
 t53 := Tryd.underlying115
 a53 := Tryd.isAgg115
 z53 := Tryd.sizeOf115
 v53 := Tryd.zeroValue115
 t171 := Tryd.underlying127
 a171 := Tryd.isAgg127
 z171 := Tryd.sizeOf127
 v171 := Tryd.zeroValue127
 t173 := Tryd.underlying130
 a173 := Tryd.isAgg130
 z173 := Tryd.sizeOf130
 v173 := Tryd.zeroValue130
 t212 := Tryd.underlying143
 a212 := Tryd.isAgg143
 z212 := Tryd.sizeOf143
 v212 := Tryd.zeroValue143
 t213 := Tryd.underlying144
 a213 := Tryd.isAgg144
 z213 := Tryd.sizeOf144
 t232 := Tryd.underlying151
 a232 := Tryd.isAgg151
 z232 := Tryd.sizeOf151
 v232 := Tryd.zeroValue151
 t233 := Tryd.underlying152
 a233 := Tryd.isAgg152
 z233 := Tryd.sizeOf152
 v233 := Tryd.zeroValue152
 g17 := by kernel_rfl
 g18 := by kernel_rfl
 g19 := by kernel_rfl
 i0 := by kernel_rfl
 i2 := by kernel_rfl
 i3 := by kernel_rfl
 i4 := by kernel_rfl
 i5 := by kernel_rfl
 i9 := by kernel_rfl
 i20 := by kernel_rfl
 i37 := by kernel_rfl
 i46 := by kernel_rfl
 i51 := by kernel_rfl
 i53 := by kernel_rfl
 i171 := by kernel_rfl
 i173 := by kernel_rfl
 i212 := by kernel_rfl
 i232 := by kernel_rfl
 i233 := by kernel_rfl
 m17 := by kernel_rfl
 m18 := by kernel_rfl
 m19 := by kernel_rfl }
open Go.RowKit Go.Sort Go.Lib in
theorem Tryd.strconv_Itoa (n : Int) (h0 : -9223372036854775808 ≤ n) (h1 : n ≤ 9223372036854775807) (w : World) (htab : Lib.TabIs Tryd.prog w "internal/strconv.uint64pow10" .u64 Lib.pow10Tab) :
  Calls Tryd.prog 42 #[.int .i64 n] w fun e w' => e = .returned (.string ⟨(Lib.itoa n).toArray⟩) ∧ ∃ k os, w' = grow (w.drewN k) os := Any.strconv_Itoa Tryd.laysM171 n h0 h1 w htab
def Tryd.lays219_ren : Go.Shelf.Ren := ⟨fun | 219 => 65 | 217 => 82 | 225 => 83 | 224 => 84 | 267 => 85 | 266 => 98 | 314 => 99 | n => n, fun | 9 => 9 | 3 => 3 | 4 => 4 | 5 => 5 | 46 => 91 | 146 => 113 | 51 => 112 | n => n, fun | 1 => 0 | n => n⟩
theorem Tryd.lays219 : Go.Proofs.Lays.n219 Tryd.prog Tryd.lays219_ren := {
 mixed := by kernel_rfl
 f217 := Tryd.func82.trans (congrArg some (by kernel_rfl))
 f219 := Tryd.func65.trans (congrArg some (by kernel_rfl))
 f224 := Tryd.func84.trans (congrArg some (by kernel_rfl))
 f225 := Tryd.func83.trans (congrArg some (by kernel_rfl))
 f266 := Tryd.func98.trans (congrArg some (by kernel_rfl))
 f267 := Tryd.func85.trans (congrArg some (by kernel_rfl))
 f314 := Tryd.func99.trans (congrArg some (by kernel_rfl))
 t3 := Tryd.underlying3
 a3 := Tryd.isAgg3
 z3 := Tryd.sizeOf3
 v3 := Tryd.zeroValue3
 t4 := Tryd.underlying4
 a4 := Tryd.isAgg4
 z4 := Tryd.sizeOf4
 v4 := Tryd.zeroValue4
 t5 := Tryd.underlying5
 a5 := Tryd.isAgg5
 z5 := Tryd.sizeOf5
 v5 := Tryd.zeroValue5
 t9 := Tryd.underlying9
 a9 := Tryd.isAgg9
 z9 := Tryd.sizeOf9
 v9 := Tryd.zeroValue9
 t46 := Tryd.underlying91
 a46 := Tryd.isAgg91
 z46 := Tryd.sizeOf91
 v46 := Tryd.zeroValue91
 t51 := Tryd.underlying112
 a51 := Tryd.isAgg112
 z51 := Tryd.sizeOf112
 v51 := Tryd.zeroValue112
 t146 := Tryd.underlying113
 a146 := Tryd.isAgg113
 z146 := Tryd.sizeOf113
 v146 := Tryd.zeroValue113
 g1 := by kernel_rfl }
open Go.RowKit Go.Lib in
theorem Tryd.stringslite_Index_one (s : ByteArray) (c : UInt8) (w : World) :
  Calls Tryd.prog 65 #[.string s, .string ⟨#[c]⟩] w fun e w' => e = .returned (.int .i64 (Lib.indexByte s.data.toList c)) ∧ w' = w := Any.stringslite_Index_one Tryd.lays219 s c w
def Tryd.lays105_ren : Go.Shelf.Ren := ⟨fun | 105 => 43 | 212 => 58 | 99 => 59 | 165 => 60 | 166 => 61 | 170 => 62 | 169 => 63 | 263 => 78 | 264 => 79 | 206 => 64 | 240 => 80 | 241 => 81 | 276 => 96 | 277 => 97 | n => n, fun | 9 => 9 | 3 => 3 | 4 => 4 | 20 => 20 | 0 => 0 | 46 => 91 | 109 => 92 | 5 => 5 | 72 => 97 | 76 => 78 | 51 => 112 | 146 => 113 | 53 => 115 | 148 => 116 | 70 => 95 | 37 => 29 | 75 => 77 | 127 => 118 | 164 => 132 | 80 => 100 | n => n, fun | n => n⟩
theorem Tryd.lays105 : Go.Proofs.Lays.n105 Tryd.prog Tryd.lays105_ren := {
 mixed := by kernel_rfl
 f99 := Tryd.func59.trans (congrArg some (by kernel_rfl))
 f105 := Tryd.func43.trans (congrArg some (by kernel_rfl))
 f165 := Tryd.func60.trans (congrArg some (by kernel_rfl))
 f166 := Tryd.func61.trans (congrArg some (by kernel_rfl))
 f169 := Tryd.func63.trans (congrArg some (by kernel_rfl))
 f170 := Tryd.func62.trans (congrArg some (by kernel_rfl))
 f206 := Tryd.func64.trans (congrArg some (by kernel_rfl))
 f212 := Tryd.func58.trans (congrArg some (by kernel_rfl))
 f240 := Tryd.func80.trans (congrArg some (by kernel_rfl))
 f241 := Tryd.func81.trans (congrArg some (by kernel_rfl))
 f263 := Tryd.func78.trans (congrArg some (by kernel_rfl))
 f264 := Tryd.func79.trans (congrArg some (by kernel_rfl))
 f276 := Tryd.func96.trans (congrArg some (by kernel_rfl))
 f277 := Tryd.func97.trans (congrArg some (by kernel_rfl))
 t0 := Tryd.underlying0
 a0 := Tryd.isAgg0
 z0 := Tryd.sizeOf0
 v0 := Tryd.zeroValue0
 t3 := Tryd.underlying3
 a3 := Tryd.isAgg3
 z3 := Tryd.sizeOf3
 v3 := Tryd.zeroValue3
 t4 := Tryd.underlying4
 a4 := Tryd.isAgg4
 z4 := Tryd.sizeOf4
 v4 := Tryd.zeroValue4
 t5 := Tryd.underlying5
 a5 := Tryd.isAgg5
 z5 := Tryd.sizeOf5
 v5 := Tryd.zeroValue5
 t9 := Tryd.underlying9
 a9 := Tryd.isAgg9
 z9 := Tryd.sizeOf9
 v9 := Tryd.zeroValue9
 t20 := Tryd.underlying20
 a20 := Tryd.isAgg20
 z20 := Tryd.sizeOf20
 v20 := Tryd.zeroValue20
 t37 := Tryd.underlying29
 a37 := Tryd.isAgg29
 z37 := Tryd.sizeOf29
 v37 := Tryd.zeroValue29
 t46 := Tryd.underlying91
 a46 := Tryd.isAgg91
 z46 := Tryd.sizeOf91
 v46 := Tryd.zeroValue91
 t51 := Tryd.underlying112
 a51 := Tryd.isAgg112
 z51 := Tryd.sizeOf112
 v51 := Tryd.zeroValue112
 t53 := Tryd.underlying115
 a53 := Tryd.isAgg115
 z53 := Tryd.sizeOf115
 v53 := Tryd.zeroValue115
 t70 := Tryd.underlying95
 a70 := Tryd.isAgg95
 z70 := Tryd.sizeOf95
 v70 := Tryd.zeroValue95
 t72 := Tryd.underlying97
 a72 := Tryd.isAgg97
 z72 := Tryd.sizeOf97
 v72 := Tryd.zeroValue97
 t75 := Tryd.underlying77
 a75 := Tryd.isAgg77
 z75 := Tryd.sizeOf77
 v75 := Tryd.zeroValue77
 t76 := Tryd.underlying78
 a76 := Tryd.isAgg78
 z76 := Tryd.sizeOf78
 v76 := Tryd.zeroValue78
 t109 := Tryd.underlying92
 a109 := Tryd.isAgg92
 z109 := Tryd.sizeOf92
 v109 := Tryd.zeroValue92
 t127 := Tryd.underlying118
 a127 := Tryd.isAgg118
 z127 := Tryd.sizeOf118
 v127 := Tryd.zeroValue118
 t146 := Tryd.underlying113
 a146 := Tryd.isAgg113
 z146 := Tryd.sizeOf113
 v146 := Tryd.zeroValue113
 t148 := Tryd.underlying116
 a148 := Tryd.isAgg116
 z148 := Tryd.sizeOf116
 v148 := Tryd.zeroValue116
 t164 := Tryd.underlying132
 a164 := Tryd.isAgg132
 z164 := Tryd.sizeOf132
 v164 := Tryd.zeroValue132 }
theorem Tryd.Builder_Extra_105 : Builder.Extra Tryd.prog Tryd.lays105_ren := {
 sizeBuilder := by kernel_rfl
 liesBuilder := by kernel_rfl
 t5 := Tryd.underlying5
 a5 := Tryd.isAgg5
 z5 := Tryd.sizeOf5
 v5 := Tryd.zeroValue5
 infoByte := by kernel_rfl
 cellsByte := by kernel_rfl
 sizeByte := by kernel_rfl
 neB5 := by decide }
open Go.RowKit Go.Lib in
theorem Tryd.strings_Repeat (s : ByteArray) (c : Nat) (w : World) (hc : c ≤ 9223372036854775807) (hlen : s.size * c ≤ 140737488355328) :
  Calls Tryd.prog 43 #[.string s, .int .i64 c] w fun e w' => e = .returned (.string ⟨(Lib.repeatL s.data.toList c).toArray⟩) ∧ Below w.heap.size w w' := Any.strings_Repeat Tryd.lays105 Tryd.Builder_Extra_105 s c w hc hlen
end Go.Proofs.YtalffjplbhelcaaDoor
set_option linter.unusedVariables false
set_option linter.unusedSimpArgs false
namespace Go.Proofs.YtalffjplbhelcaaDoor
open Go.RowKit
structure Box where
  g : Nat
  cs : List Value
  t : TypeId
  ro : Bool
structure Base where
  W : Nat → Prop
  w0 : World
def Base.may (β : Base) (k : Nat) : Prop := β.w0.heap.size ≤ k ∨ β.W k
structure Keeps (β : Base) (w : World) : Prop where
  base : Below 0 β.w0 w
  block : ∀ k, ¬ β.may k → w.heap[k]? = β.w0.heap[k]?
theorem Keeps.refl (W : Nat → Prop) (w : World) : Keeps ⟨W, w⟩ w := ⟨Below.refl _ _, fun _ _ => rfl⟩
theorem Keeps.size {β : Base} {w : World} (h : Keeps β w) : β.w0.heap.size ≤ w.heap.size := h.base.size
theorem Keeps.trans {β : Base} {w w' : World} (h : Keeps β w) (k : Below w.heap.size w w') : Keeps β w' :=
  ⟨h.base.trans (k.mono (Nat.zero_le _)), fun i hi => by
    have h1 : i < w.heap.size := by
      refine Nat.lt_of_lt_of_le (Nat.lt_of_not_le fun hle => hi (.inl hle)) h.size
    rw [k.block i h1, h.block i hi]⟩
theorem Keeps.alloc {β : Base} {w : World} (h : Keeps β w) (o : Obj) : Keeps β (w.alloc o) := h.trans ((Below.refl _ w).alloc (Nat.le_refl _) o)
theorem Keeps.drew {β : Base} {w : World} (h : Keeps β w) : Keeps β w.drew := ⟨h.base.drew, h.block⟩
theorem Keeps.below {w0 w : World} (h : Keeps ⟨fun _ => False, w0⟩ w) : Below w0.heap.size w0 w :=
  ⟨h.base.os, h.base.tape, h.base.output, h.base.size, fun k hk => h.block k (fun hm => hm.elim (fun h => absurd hk (Nat.not_lt.2 h)) id)⟩
theorem Keeps.setRow {β : Base} {w : World} (h : Keeps β w) (g : Nat) (cs : Array Value) (hg : β.may g) : Keeps β (w.setRow g cs) :=
  ⟨h.base.trans ⟨rfl, rfl, rfl, by simp, fun k hk => absurd hk (Nat.not_lt_zero _)⟩, fun k hk => by
    have hne : k ≠ g := fun e => hk (e ▸ hg)
    rw [setRow_other w g k cs hne]
    exact h.block k hk⟩
structure Own (β : Base) (H : List Box) (w : World) : Prop where
  size : β.w0.heap.size ≤ w.heap.size
  at_ : ∀ b ∈ H, (b.ro = true ∨ β.may b.g) ∧ ∃ fr, (b.ro = false → fr = (0, 0)) ∧ w.heap[b.g]? = some (.cells b.cs.toArray b.t fr)
  apart : (H.map Box.g).Nodup
theorem Own.nil (W : Nat → Prop) (w : World) : Own ⟨W, w⟩ [] w := ⟨Nat.le_refl _, by simp, by simp⟩
theorem Own.below {β : Base} {H : List Box} {w w' : World} (h : Own β H w) (hb : Below w.heap.size w w') : Own β H w' :=
  ⟨Nat.le_trans h.size hb.size, fun b hb' => ⟨(h.at_ b hb').1, by
    obtain ⟨fr, hf, this⟩ := (h.at_ b hb').2
    exact ⟨fr, hf, by rw [hb.block _ (Array.getElem?_eq_some_iff.1 this).1]; exact this⟩⟩, h.apart⟩
theorem Own.drew {β : Base} {H : List Box} {w : World} (h : Own β H w) : Own β H w.drew := ⟨h.size, h.at_, h.apart⟩
theorem Own.lt {β : Base} {H : List Box} {w : World} (h : Own β H w) {b : Box} (hb : b ∈ H) : b.g < w.heap.size := by
  obtain ⟨_, fr, _, hh⟩ := h.at_ b hb
  exact (Array.getElem?_eq_some_iff.1 hh).1
theorem Own.alloc {β : Base} {H : List Box} {w : World} (h : Own β H w) (cs : List Value) (t : TypeId) : Own β (⟨w.heap.size, cs, t, false⟩ :: H) (w.alloc (.cells cs.toArray t (0, 0))) := by
  refine ⟨Nat.le_trans h.size (by simp), ?_, ?_⟩
  · intro b hb
    rcases List.mem_cons.1 hb with rfl | hb
    · exact ⟨.inr (.inl h.size), (0, 0), fun _ => rfl, heap_alloc_new w _⟩
    · obtain ⟨h1, fr, hf, hh⟩ := h.at_ b hb
      exact ⟨h1, fr, hf, (Below.heap_alloc w _ _ (h.lt hb)).trans hh⟩
  · simp only [List.map_cons, List.nodup_cons]
    refine ⟨?_, h.apart⟩
    intro hm
    obtain ⟨b, hb, e⟩ := List.mem_map.1 hm
    have := h.lt hb
    omega
theorem Own.perm {β : Base} {H H' : List Box} {w : World} (h : Own β H w) (hp : H.Perm H') : Own β H' w :=
  ⟨h.size, fun b hb => h.at_ b (hp.mem_iff.2 hb), (hp.map Box.g).nodup_iff.1 h.apart⟩
def upd (H : List Box) (i : Nat) (cs : List Value) : List Box := H.modify i (fun b => { b with cs := cs })
theorem upd_g (H : List Box) (i : Nat) (cs : List Value) : (upd H i cs).map Box.g = H.map Box.g := by
  unfold upd
  apply List.ext_getElem?
  intro j
  simp only [List.getElem?_map, List.getElem?_modify]
  cases hj : H[j]? with
  | none => simp
  | some x => by_cases h : i = j <;> simp [h]
theorem upd_append (H F : List Box) (i : Nat) (b : Box) (hi : H[i]? = some b) (cs : List Value) : upd (H ++ F) i cs = upd H i cs ++ F := by
  have hlt : i < H.length := (List.getElem?_eq_some_iff.1 hi).1
  unfold upd
  apply List.ext_getElem?
  intro j
  rw [List.getElem?_modify]
  by_cases hj : j < H.length
  · rw [List.getElem?_append_left hj, List.getElem?_append_left (by simpa using hj), List.getElem?_modify]
  · rw [List.getElem?_append_right (by omega), List.getElem?_append_right (by simpa using Nat.le_of_not_lt hj)]
    have : ¬ i = j := by omega
    simp [this]
theorem Own.set {β : Base} {H : List Box} {w : World} (h : Own β H w) (i : Nat) (b : Box) (hi : H[i]? = some b) (hro : b.ro = false) (cs : List Value) : Own β (upd H i cs) (w.setRow b.g cs.toArray) := by
  have hb : b ∈ H := List.mem_of_getElem? hi
  refine ⟨by simpa using h.size, ?_, by rw [upd_g]; exact h.apart⟩
  intro x hx
  obtain ⟨j, hj⟩ := List.mem_iff_getElem?.1 hx
  unfold upd at hj
  rw [List.getElem?_modify] at hj
  cases hy : H[j]? with
  | none => simp [hy] at hj
  | some y =>
    have hym : y ∈ H := List.mem_of_getElem? hy
    simp only [hy, Option.map_some, Option.some.injEq] at hj
    by_cases hij : i = j
    · subst hij
      rw [hi] at hy
      cases hy
      simp at hj
      subst hj
      obtain ⟨h1, fr, hf, hh⟩ := h.at_ b hb
      obtain rfl := hf hro
      exact ⟨h1, (0, 0), fun _ => rfl, setRow_heap w b.g b.cs.toArray cs.toArray b.t (0, 0) hh⟩
    · simp [hij] at hj
      subst hj
      have hne : y.g ≠ b.g := by
        intro e
        have hn := h.apart
        rw [List.nodup_iff_pairwise_ne, List.pairwise_iff_getElem] at hn
        have h1 : i < (H.map Box.g).length := by simpa using (List.getElem?_eq_some_iff.1 hi).1
        have h2 : j < (H.map Box.g).length := by simpa using (List.getElem?_eq_some_iff.1 hy).1
        have e1 : (H.map Box.g)[i] = b.g := by simp [(List.getElem?_eq_some_iff.1 hi).2]
        have e2 : (H.map Box.g)[j] = y.g := by simp [(List.getElem?_eq_some_iff.1 hy).2]
        rcases Nat.lt_or_ge i j with hlt | hge
        · exact hn i j h1 h2 hlt (by rw [e1, e2, e])
        · exact hn j i h2 h1 (by omega) (by rw [e1, e2, e])
      obtain ⟨h1, fr, hf, hh⟩ := h.at_ y hym
      exact ⟨h1, fr, hf, (setRow_other w b.g y.g cs.toArray hne).trans hh⟩
abbrev Env := Nat → Value
def Env.put (E : Env) (d : Option Nat) (v : Value) : Env :=
  match d with
  | some d => fun t => bif Nat.beq t d then v else E t
  | none => E
def ev (n : Nat) (E : Env) : Operand → Value
  | .tmp t => bif Nat.blt t n then E t else undef
  | .const v => v
  | .global g => .pointer (some ⟨g, 0, none⟩)
  | .func f => .func (.func f) #[] #[]
structure Sees (n : Nat) (E : Env) (a : Act) : Prop where
  defers : a.defers = []
  size : a.tmps.size = n
  at_ : ∀ t, t < n → a.tmps[t]? = some (E t)
theorem Sees.eval {n : Nat} {E : Env} {a : Act} (h : Sees n E a) : a.eval = ev n E := by
  funext x
  cases x with
  | tmp t =>
    simp only [Act.eval, ev]
    by_cases ht : t < n
    · have hb : Nat.blt t n = true := by simpa [Nat.blt_eq] using ht
      rw [hb]
      simp [h.at_ t ht]
    · have hb : Nat.blt t n = false := by
        rw [Bool.eq_false_iff]; intro hc; exact ht (by simpa [Nat.blt_eq] using hc)
      rw [hb]
      have : a.tmps[t]? = none := by
        rw [Array.getElem?_eq_none_iff]
        exact Nat.le_trans (Nat.le_of_eq h.size) (Nat.le_of_not_lt ht)
      simp [this]
  | const v => rfl
  | global g => rfl
  | func f => rfl
theorem Sees.put {n : Nat} {E : Env} {a : Act} (h : Sees n E a) (d : Option Nat) (v : Value) : Sees n (E.put d v) (a.put d v) := by
  cases d with
  | none => exact h
  | some d =>
    refine ⟨h.defers, by simp [Act.put, h.size], fun t ht => ?_⟩
    simp only [Act.put, Env.put]
    by_cases htd : t = d
    · subst htd
      have : Nat.beq t t = true := by simp
      rw [this]
      simp [h.size, ht]
    · have : Nat.beq t d = false := by
        rw [Bool.eq_false_iff]; intro hc; exact htd (Nat.eq_of_beq_eq_true hc)
      rw [this]
      simp [Array.getElem?_setIfInBounds_ne (Ne.symm htd), h.at_ t ht]
def yld (n : Nat) (ops : Array Oper) (E : Env) (o : Oper) : Bool :=
  match o.guard with
  | none => true
  | some (j, want) => match (ops[j]?).bind (·.dst) with
    | some t => (match ev n E (.tmp t) with | .bool b => b == want | _ => false)
    | none => false
theorem Sees.yld {n : Nat} {E : Env} {a : Act} (h : Sees n E a) (ops : Array Oper) (o : Oper) : Region.wanted o (yielded ops a.tmps) = yld n ops E o := by
  unfold Region.wanted YtalffjplbhelcaaDoor.yld
  cases o.guard with
  | none => rfl
  | some gw =>
    obtain ⟨j, want⟩ := gw
    simp only [yielded]
    cases (ops[j]?).bind (·.dst) with
    | none => rfl
    | some t =>
      have e : a.eval (.tmp t) = ev n E (.tmp t) := by rw [h.eval]
      simp only [Option.bind_some]
      simp only [Act.eval] at e
      have e2 : a.tmps.getD t undef = (a.tmps[t]?).getD undef := by simp
      rw [e2] at e
      cases hq : a.tmps[t]? with
      | none =>
        rw [hq] at e
        rw [← e]
        rfl
      | some v =>
        rw [hq] at e
        simp only [Option.getD_some] at e
        rw [← e]
        cases v <;> rfl
def aggD (d : TypeDesc) : Bool := match d with | .struct _ | .array _ _ => true | _ => false
abbrev Post := Value → List Box → Prop
def Step (p : Program) (ρ : Operand → Value) (o : Oper) (H : List Box) (K : Post) : Prop :=
  ∀ F β w, Own β (H ++ F) w → Keeps β w →
    match (execOp ρ o).run p w with
    | .ok (.value v) w' => ∃ H', K v H' ∧ Own β (H' ++ F) w' ∧ Keeps β w'
    | .ok .skip w' => ∃ H', K undef H' ∧ Own β (H' ++ F) w' ∧ Keeps β w'
    | .ok (.enter f args) w' => Calls p f args w' fun e w'' => ∃ v H', e = .returned v ∧ K v H' ∧ Own β (H' ++ F) w'' ∧ Keeps β w''
    | _ => False
theorem Step.wpF {p : Program} {n : Nat} {E : Env} {a : Act} {o : Oper} {H F : List Box} {K : Post} {β : Base} {w : World} {next : Act → World → Prop} {Q : Exit → Act → World → Prop}
    (h : Step p (ev n E) o H K) (hs : Sees n E a) (hO : Own β (H ++ F) w) (hB : Keeps β w)
    (hn : ∀ v H' w', K v H' → Own β (H' ++ F) w' → Keeps β w' → next (a.put o.dst v) w') : o.wp p a w next Q := by
  have := h F β w hO hB
  unfold Oper.wp
  rw [hs.eval]
  revert this
  cases (execOp (ev n E) o).run p w with
  | ok x w' =>
    cases x <;> intro this <;> first | exact this.elim | skip
    case value v => obtain ⟨H', a, b, c⟩ := this; exact hn _ _ _ a b c
    case skip => obtain ⟨H', a, b, c⟩ := this; exact hn _ _ _ a b c
    case enter f args =>
      refine Calls.mono this fun e w'' ⟨v, H', a, b, c, d⟩ => ?_
      subst a
      exact hn _ _ _ b c d
  | halt x w' => exact fun h => h.elim
theorem Step.wp {p : Program} {n : Nat} {E : Env} {a : Act} {o : Oper} {H : List Box} {K : Post} {β : Base} {w : World} {next : Act → World → Prop} {Q : Exit → Act → World → Prop}
    (h : Step p (ev n E) o H K) (hs : Sees n E a) (hO : Own β H w) (hB : Keeps β w)
    (hn : ∀ v H' w', K v H' → Own β H' w' → Keeps β w' → next (a.put o.dst v) w') : o.wp p a w next Q :=
  h.wpF (F := []) hs (by simpa using hO) hB (fun v H' w' k hO' hB' => hn v H' w' k (by simpa using hO') hB')
def Gets (p : Program) (f : FuncId) (args : Array Value) (v : Value) : Prop :=
  ∀ w, Calls p f args w fun e w' => e = .returned v ∧ Below w.heap.size w w'
section
variable {p : Program} {ρ : Operand → Value} {o : Oper} {H : List Box} {K : Post}
theorem st_val {v : Value} (h : ∀ w, (execOp ρ o).run p w = .ok (.value v) w) (k : K v H) : Step p ρ o H K := by
  intro F β w hO hB
  rw [h w]
  exact ⟨H, k, hO, hB⟩
theorem st_move {x : Operand} {v : Value} (ho : o.op = .move x) (hx : ρ x = v) (k : K v H) : Step p ρ o H K := st_val (fun w => by rw [execOp, ho, ← hx]; rfl) k
theorem st_assign {x : Operand} {v : Value} (ho : o.op = .assign x) (hx : ρ x = v) (k : K v H) : Step p ρ o H K := st_val (fun w => by rw [execOp, ho, ← hx]; rfl) k
theorem st_pick {c x y : Operand} {b : Bool} {v u r : Value} (ho : o.op = .pick c x y) (hc : ρ c = .bool b) (hx : ρ x = v) (hy : ρ y = u) (hr : (if b then v else u) = r) (k : K r H) : Step p ρ o H K :=
  st_val (fun w => by rw [execOp, ho, ← hr, ← hx, ← hy]; simp only [hc]; rfl) k
theorem st_call {f : FuncId} {args : List Operand} {ts : Array TypeId} {vs : List Value} {r : Value} {fn : Func} {c : Code} (ho : o.op = .call { callee := .value (.func f), args := args.toArray, argTypes := ts })
    (hf : ρ (.func f) = .func (.func f) #[] #[]) (hv : args.map ρ = vs) (hfn : p.funcs[f]? = some fn) (hb : fn.body = some c) (hnm : (fn.name == "runtime.NumGoroutine") = false) (h : Gets p f vs.toArray r) (k : K r H) : Step p ρ o H K := by
  intro F β w hO hB
  have e : (execOp ρ o).run p w = .ok (.enter f vs.toArray) w := by
    rw [execOp, ho]
    simp only [resolve, hf, Deferred.ofValue, List.map_toArray, hv]
    have hnm' : ¬ fn.name = "runtime.NumGoroutine" := by simpa using hnm
    simp [Sem.run_bind, invoke, callFunc, hfn, hnm', hb]
  rw [e]
  exact (h w).mono fun e w' ⟨he, hb'⟩ => ⟨r, H, he, k, hO.below hb', hB.trans hb'⟩
theorem st_alloc {t : TypeId} {z : Value} (ho : o.op = .alloc t) (hi : (p.info? t).map (·.zero) = some (some z)) {cs : List Value} (hc : z.cells = cs.toArray) (k : ∀ g, K (.pointer (some ⟨g, 0, none⟩)) (⟨g, cs, t, false⟩ :: H)) : Step p ρ o H K := by
  intro F β w hO hB
  have e : (execOp ρ o).run p w = .ok (.value (.pointer (some ⟨w.heap.size, 0, none⟩))) (w.alloc (.cells cs.toArray t (0, 0))) := by
    rw [← hc]
    rw [execOp, ho]
    cases hq : p.info? t with
    | none => simp [hq] at hi
    | some i =>
      have hz : i.zero = some z := by simpa [hq] using hi
      simp [Instr.alloc, zeroValue, typeInfo, hq, hz, newVar, newRow, Sem.run_bind]
  rw [e]
  exact ⟨_, k _, hO.alloc _ _, hB.alloc _⟩
theorem st_box {t : TypeId} {x : Operand} {v : Value} {cs : List Value} (ho : o.op = .box t x) (hx : ρ x = v) (hc : v.cells = cs.toArray) (k : ∀ g, K (.pointer (some ⟨g, 0, none⟩)) (⟨g, cs, t, false⟩ :: H)) : Step p ρ o H K := by
  intro F β w hO hB
  have e : (execOp ρ o).run p w = .ok (.value (.pointer (some ⟨w.heap.size, 0, none⟩))) (w.alloc (.cells cs.toArray t (0, 0))) := by
    rw [execOp, ho]
    simp [Instr.box, newVar, newRow, Sem.run_bind, hx, hc]
  rw [e]
  exact ⟨_, k _, hO.alloc _ _, hB.alloc _⟩
theorem add_at (g off j : Nat) : (⟨g, off, none⟩ : Addr).add j = ⟨g, off + j, none⟩ := by unfold Addr.add; split <;> simp_all
theorem st_load_agg {t : TypeId} {x : Operand} {g off : Nat} {b : Box} {d : TypeDesc} {vs : List Value} (i : Nat) (ho : o.op = .load t x) (hx : ρ x = .pointer (some ⟨g, off, none⟩)) (hm : H[i]? = some b) (hg : b.g = g)
    (hu : p.underlying t = some d) (hd : aggD d = true) (hi : (p.info? t).map (·.size) = some vs.length) (hv : (b.cs.drop off).take vs.length = vs) (k : K (.agg vs.toArray) H) : Step p ρ o H K := by
  intro F β w hO hB
  obtain ⟨fr, _, hb⟩ := (hO.at_ b (List.mem_append_left _ (List.mem_of_getElem? hm))).2
  have e : (execOp ρ o).run p w = .ok (.value (.agg vs.toArray)) w := by
    rw [execOp, ho]
    simp only [hx]
    have hl : (loadCells ⟨g, off, none⟩ vs.length).run p w = .ok vs.toArray w :=
      run_loadCells_list (P := p) w ⟨g, off, none⟩ vs (fun j v hv' => by
        rw [add_at, ← hg, cell_of_row w b.g (off + j) b.cs.toArray b.t fr hb]
        rw [← hv, List.getElem?_take] at hv'
        split at hv'
        · rw [List.getElem?_drop] at hv'
          simpa using hv'
        · cases hv')
    cases hq : p.info? t with
    | none => simp [hq] at hi
    | some inf =>
      have hs : inf.size = vs.length := by simpa [hq] using hi
      have hagg : (isAgg t).run p w = .ok true w := by
        unfold isAgg
        rw [Sem.run_bind, run_underlying hu w]
        cases d <;> simp_all [aggD]
      simp [Instr.loadAt, Instr.sureAddr, loadVar, Sem.run_bind, hagg, sizeOf, typeInfo, hq, hs, hl]
  rw [e]
  exact ⟨H, k, hO, hB⟩
theorem st_load {t : TypeId} {x : Operand} {g off : Nat} {b : Box} {d : TypeDesc} {v : Value} (i : Nat) (ho : o.op = .load t x) (hx : ρ x = .pointer (some ⟨g, off, none⟩)) (hm : H[i]? = some b) (hg : b.g = g)
    (hu : p.underlying t = some d) (hd : aggD d = false) (hv : b.cs[off]? = some v) (k : K v H) : Step p ρ o H K := by
  intro F β w hO hB
  obtain ⟨fr, _, hb⟩ := (hO.at_ b (List.mem_append_left _ (List.mem_of_getElem? hm))).2
  have e : (execOp ρ o).run p w = .ok (.value v) w := by
    rw [execOp, ho]
    simp only [hx]
    have hc : w.cell? ⟨g, off, none⟩ = some v := by rw [← hg, cell_of_row w b.g off b.cs.toArray b.t fr hb]; simpa using hv
    have hagg : (isAgg t).run p w = .ok false w := by
      unfold isAgg
      rw [Sem.run_bind, run_underlying hu w]
      cases d <;> simp_all [aggD]
    simp [Instr.loadAt, Instr.sureAddr, loadVar, Sem.run_bind, hagg, hc]
  rw [e]
  exact ⟨H, k, hO, hB⟩
theorem st_store {t : TypeId} {x y : Operand} {g off : Nat} {b : Box} {u : Value} {us cs : List Value} (i : Nat) (ho : o.op = .store t x y) (hx : ρ x = .pointer (some ⟨g, off, none⟩)) (hy : ρ y = u) (hu : u.cells = us.toArray) (hm : H[i]? = some b) (hg : b.g = g)
    (hi : (p.info? t).map (·.size) = some us.length) (hle : Nat.ble (off + us.length) b.cs.length = true) (h1 : us.all (·.oneCell') = true)
    (hcs : b.cs.take off ++ us ++ b.cs.drop (off + us.length) = cs) (k : K undef (upd H i cs)) (hro : b.ro = false := by rfl) : Step p ρ o H K := by
  intro F β w hO hB
  have hbm := List.mem_append_left F (List.mem_of_getElem? hm)
  have hmF : (H ++ F)[i]? = some b := by rw [List.getElem?_append_left (List.getElem?_eq_some_iff.1 hm).1]; exact hm
  obtain ⟨fr, hf, hb⟩ := (hO.at_ b hbm).2
  obtain rfl := hf hro
  have e : (execOp ρ o).run p w = .ok .skip (w.setRow b.g cs.toArray) := by
    rw [execOp, ho]
    simp only [hx, hy]
    have hs := run_storeCells_at (P := p) b.g off b.t us 0 b.cs.toArray w hb (by have := Nat.le_of_ble_eq_true hle; simpa using this) (fun v hv => (List.all_eq_true.1 h1) v hv)
    simp only [Nat.add_zero] at hs
    rw [hcs] at hs
    cases hq : p.info? t with
    | none => simp [hq] at hi
    | some inf =>
      have hsz : inf.size = us.length := by simpa [hq] using hi
      subst hg
      simp [Instr.storeAt, Instr.sureAddr, storeVar, Sem.run_bind, sizeOf, typeInfo, hq, hsz, hs, hu]
  rw [e]
  exact ⟨_, k, by rw [← upd_append H F i b hm]; exact hO.set i b hmF hro cs, hB.setRow _ _ ((hO.at_ b hbm).1.resolve_left (by rw [hro]; exact Bool.false_ne_true))⟩
end
def AQ (n : Nat) (β : Base) (Q : Exit → Env → List Box → Prop) : Exit → Act → World → Prop := fun e a w => ∃ E H, Q e E H ∧ Sees n E a ∧ Own β H w ∧ Keeps β w
def AR (p : Program) (n : Nat) (ops : Array Oper) (Q : Exit → Env → List Box → Prop) (l : List Oper) (E : Env) (H : List Box) : Prop :=
  ∀ β w a, Own β H w → Keeps β w → Sees n E a → wpList p ops (AQ n β Q) l a w
def AC (p : Program) (n : Nat) (c : Code) (Q : Exit → Env → List Box → Prop) (E : Env) (H : List Box) : Prop :=
  ∀ β w a, Own β H w → Keeps β w → Sees n E a → c.wp p (AQ n β Q) a w
section
variable {p : Program} {n : Nat} {ops : Array Oper} {Q : Exit → Env → List Box → Prop} {l : List Oper} {E : Env} {H : List Box} {o : Oper}
theorem ar_nil (h : Q .normal E H) : AR p n ops Q [] E H := fun β w a hO hB hs => ⟨E, H, h, hs, hO, hB⟩
theorem ar_step (hg : yld n ops E o = true) (h : Step p (ev n E) o H fun v H' => AR p n ops Q l (E.put o.dst v) H') : AR p n ops Q (o :: l) E H := by
  intro β w a hO hB hs
  unfold wpList
  rw [hs.yld, hg, if_pos rfl]
  exact .inl (h.wp hs hO hB fun v H' w' k hO' hB' => k β w' _ hO' hB' (hs.put _ _))
theorem ar_plain (hg : o.guard = none) (h : Step p (ev n E) o H fun v H' => AR p n ops Q l (E.put o.dst v) H') : AR p n ops Q (o :: l) E H := ar_step (by unfold yld; rw [hg]) h
theorem ar_skip (hg : yld n ops E o = false) (h : AR p n ops Q l (E.put o.dst undef) H) : AR p n ops Q (o :: l) E H := by
  intro β w a hO hB hs
  unfold wpList
  rw [hs.yld, hg, if_neg (by simp)]
  exact h β w _ hO hB (hs.put _ _)
theorem ac_region {id : Nat} (h : AR p n ops Q ops.toList E H) : AC p n (.region id ops false) Q E H :=
  fun β w a hO hB hs => wp_region_list (h β w a hO hB hs)
theorem ac_region_lit {id : Nat} {l : List Oper} (h : AR p n l.toArray Q l E H) : AC p n (.region id l.toArray false) Q E H := ac_region h
def AThen (next : Env → List Box → Prop) (Q : Exit → Env → List Box → Prop) : Exit → Env → List Box → Prop
  | .normal, E, H => next E H
  | e, E, H => Q e E H
def ABlock (id : Nat) (Q : Exit → Env → List Box → Prop) : Exit → Env → List Box → Prop
  | .exit id', E, H => if id' = id then Q .normal E H else Q (.exit id') E H
  | e, E, H => Q e E H
theorem AC.mono {c : Code} {Q' : Exit → Env → List Box → Prop} (h : AC p n c Q E H) (hq : ∀ e E H, Q e E H → Q' e E H) : AC p n c Q' E H :=
  fun β w a hO hB hs => Code.wp_mono (fun e a w ⟨E, H, q, r⟩ => ⟨E, H, hq _ _ _ q, r⟩) (h β w a hO hB hs)
theorem ac_seq {x y : Code} (h : AC p n x (AThen (AC p n y Q) Q) E H) : AC p n (.seq x y) Q E H := by
  intro β w a hO hB hs
  refine wp_seq (Code.wp_mono ?_ (h β w a hO hB hs))
  rintro e a w ⟨E', H', q, hs', hO', hB'⟩
  cases e <;> first | exact ⟨E', H', q, hs', hO', hB'⟩ | exact q β w a hO' hB' hs'
theorem ac_cond {c : Operand} {x y : Code} {t : Bool} (hc : ev n E c = .bool t) (ht : t = true → AC p n x Q E H) (hf : t = false → AC p n y Q E H) : AC p n (.cond c x y) Q E H := by
  intro β w a hO hB hs
  refine wp_cond_split (t := t) (by rw [hs.eval]; exact hc) (fun h => ht h β w a hO hB hs) (fun h => hf h β w a hO hB hs)
theorem ac_then {c : Operand} {x y : Code} (hc : ev n E c = .bool true) (ht : AC p n x Q E H) : AC p n (.cond c x y) Q E H := ac_cond hc (fun _ => ht) (fun h => by cases h)
theorem ac_else {c : Operand} {x y : Code} (hc : ev n E c = .bool false) (ht : AC p n y Q E H) : AC p n (.cond c x y) Q E H := ac_cond hc (fun h => by cases h) (fun _ => ht)
theorem ac_skip (h : Q .normal E H) : AC p n .skip Q E H := fun β w a hO hB hs => wp_skip ⟨E, H, h, hs, hO, hB⟩
theorem ac_ret (h : Q .ret E H) : AC p n .ret Q E H := fun β w a hO hB hs => wp_ret ⟨E, H, h, hs, hO, hB⟩
theorem ac_exit {id : Nat} (h : Q (.exit id) E H) : AC p n (.exit id) Q E H := fun β w a hO hB hs => wp_exit ⟨E, H, h, hs, hO, hB⟩
theorem ac_block {id : Nat} {c : Code} (h : AC p n c (ABlock id Q) E H) : AC p n (.block id c) Q E H := by
  intro β w a hO hB hs
  refine wp_block (Code.wp_mono ?_ (h β w a hO hB hs))
  rintro e a w ⟨E', H', q, hs', hO', hB'⟩
  cases e <;> first | exact ⟨E', H', q, hs', hO', hB'⟩ | skip
  case exit id' =>
    simp only [ABlock] at q
    simp only [Exit.inBlock]
    split
    · rename_i hi; rw [if_pos hi] at q; exact ⟨E', H', q, hs', hO', hB'⟩
    · rename_i hi; rw [if_neg hi] at q; exact ⟨E', H', q, hs', hO', hB'⟩
def ARounds (p : Program) (n : Nat) (c : Code) (Q : Exit → Env → List Box → Prop) : Nat → Env → List Box → Prop
  | 0, _, _ => False
  | k + 1, E, H => AC p n c (AThen (ARounds p n c Q k) Q) E H
theorem ac_rounds {c : Code} (k : Nat) (h : ARounds p n c Q k E H) : AC p n (.loop c) Q E H := by
  intro β w a hO hB hs
  refine wp_loop_rounds k ?_
  revert h hO hB hs
  induction k generalizing E H a w with
  | zero => intro h; exact h.elim
  | succ k ih =>
    intro h hO hB hs
    rw [rounds_succ]
    refine Code.wp_mono ?_ (h β w a hO hB hs)
    rintro e a w ⟨E', H', q, hs', hO', hB'⟩
    cases e <;> first | exact ⟨E', H', q, hs', hO', hB'⟩ | exact ih w a q hO' hB' hs'
end
def envOf (args : Array Value) : Env := fun t => args.toList.getD t undef
def Res (p : Program) (fn : Func) (n : Nat) (E : Env) (H : List Box) (v : Value) : Prop :=
  ∀ β w a, Own β H w → Sees n E a → (results fn a.tmps).run p w = .ok v w
theorem gets_of {p : Program} {f : FuncId} {fn : Func} {c : Code} {args : Array Value} {v : Value} {n : Nat} (hf : p.funcs[f]? = some fn) (hb : fn.body = some c) (hn : fn.ntmps = n) (ha : Nat.ble args.size n = true)
    (h : AC p n c (fun e E H => (e = .ret ∨ e = .normal) ∧ Res p fn n E H v) (envOf args) []) : Gets p f args v := by
  intro w
  replace ha := Nat.le_of_ble_eq_true ha
  refine calls_of_wp hf hb ?_
  refine Code.wp_mono ?_ (h ⟨fun _ => False, w⟩ w _ (Own.nil _ w) (Keeps.refl _ _) ⟨rfl, by simp; omega, ?_⟩)
  · rintro e a w' ⟨E, H, ⟨he, hr⟩, hs, hO, hB⟩
    rcases he with rfl | rfl
    · exact ⟨hs.defers, v, hr _ _ _ hO hs, rfl, hB.below⟩
    · exact ⟨hs.defers, v, hr _ _ _ hO hs, rfl, hB.below⟩
  · intro t ht
    have ht' : (t : Nat) < n := ht
    subst hn
    simp only [envOf, List.getD_eq_getElem?_getD, Array.getElem?_toList]
    by_cases h1 : (t : Nat) < args.size
    · rw [Array.getElem?_append_left h1, Array.getElem?_eq_getElem h1]
      rfl
    · have h3 : args.size ≤ (t : Nat) := Nat.le_of_not_lt h1
      have h2 : (t : Nat) - args.size < fn.ntmps - args.size := by omega
      rw [Array.getElem?_append_right h3, Array.getElem?_eq_none h3, Array.getElem?_replicate, if_pos h2]
      rfl
theorem res_tmp {p : Program} {fn : Func} {n : Nat} {E : Env} {H : List Box} {v : Value} {t : Nat} (h : fn.results = #[.tmp t]) (hv : ev n E (.tmp t) = v) : Res p fn n E H v := by
  intro β w a hO hs
  rw [results_tmp h, ← hv, ← hs.eval]
  rfl
theorem res_cell {p : Program} {fn : Func} {n : Nat} {E : Env} {H : List Box} {t ty : Nat} {b : Box} {g : Nat} {d : TypeDesc} {v : Value} (i : Nat) (h : fn.results = #[.cell t ty]) (hv : ev n E (.tmp t) = .pointer (some ⟨g, 0, none⟩)) (hm : H[i]? = some b) (hg : b.g = g)
    (hu : p.underlying ty = some d) (hd : aggD d = true) (hi : (p.info? ty).map (·.size) = some b.cs.length) (hvv : v = .agg b.cs.toArray) : Res p fn n E H v := by
  intro β w a hO hs
  subst hg hvv
  obtain ⟨fr, _, hh⟩ := (hO.at_ b (List.mem_of_getElem? hm)).2
  refine results_cell_row h _ w b.g b.t b.cs.toArray fr d ?_ hh hu (by cases d <;> first | rfl | cases hd) (by simpa using hi)
  rw [← hv, ← hs.eval]
  rfl
end Go.Proofs.YtalffjplbhelcaaDoor
