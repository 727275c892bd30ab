/- Joined out of the texts of this proof that bear the names Shelf GivA: what each shows stands over it there. -/
import Derived.Test.YtkifdadhojbohaaDoorFW1
import Derived.Shelf.Strings.Builder1
import Derived.Shelf.Strings.Builder2
import Derived.Shelf.Strings.Trim
import Derived.Shelf.Small.Utf8
import Derived.Shelf.Small.Strs
import Derived.Shelf.Strconv.Itoa0
import Derived.Shelf.Strconv.Itoa1
import Derived.Shelf.LaysM
import Derived.Shelf.Strconv.Itoa2
import Derived.Shelf.Strconv.Itoa3
import Derived.Shelf.Strconv.Itoa4
import Derived.Shelf.Strconv.ParseIntEmpty
import Derived.Shelf.Strconv.Clone
import Derived.Shelf.Strconv.SyntaxError
import Derived.Shelf.LaysC
import Derived.Shelf.Strconv.ToError
import Derived.Shelf.Strconv.Lower
import Derived.Shelf.Strconv.ParseUint10
import Derived.Shelf.Strconv.ParseUint10Empty
import Derived.Shelf.Strconv.ParseUint10Any
import Derived.Shelf.Strconv.ParseInt10
import Derived.Shelf.Strconv.RangeError
import Derived.Shelf.Strconv.ToErrorRange
import Derived.Shelf.Strconv.ParseUintEmpty
import Derived.Shelf.Strconv.ParseUint10b64
import Derived.Shelf.Strconv.ParseUint10b32
import Derived.Shelf.Strconv.ParseUint10b16
import Derived.Shelf.Strconv.ParseUint10b8
import Derived.Shelf.Strconv.ParseUint10At
import Derived.Shelf.Strconv.ParseInt10At64
import Derived.Shelf.Strconv.ParseInt10At32
import Derived.Shelf.Strconv.ParseInt10At16
import Derived.Shelf.Strconv.ParseInt10At8
import Derived.Shelf.Strconv.ParseInt10All
import Derived.Shelf.Strconv.ParseIntPublic10
import Derived.Shelf.Strings.Search1
import Derived.Shelf.Strings.Search2
import Derived.Shelf.Strings.Search3
import Derived.Shelf.Strings.Cut
import Derived.Shelf.Strings.Count
import Derived.Shelf.Strings.Shaped
import Derived.Shelf.Strings.LastIndex
import Derived.Shelf.Strings.Split
import Derived.Shelf.Strings.Runes
import Derived.Shelf.Strings.AsciiSet
import Derived.Shelf.Unicode.DecodeSlow
import Derived.Shelf.Unicode.DecodeAny
import Derived.Shelf.Unicode.DecodeLast
import Derived.Test.YtkifdadhojbohaaDoorProg
import Derived.Laws.Tables
import Derived.Laws.CopyOwn
import Derived.Deep.Light
import Derived.WalkSpells
import Derived.Deep.QuietTactic
import Derived.BigQuiet
import Derived.Lib.SmallJoins
set_option linter.unusedVariables false
set_option linter.unusedSimpArgs false
set_option maxHeartbeats 8000000
set_option maxRecDepth 100000
namespace Go.Proofs
open Go.Shelf
def Tryd.lays162_ren : Go.Shelf.Ren := ⟨fun | 162 => 62 | 232 => 87 | 227 => 88 | 234 => 89 | 236 => 90 | 228 => 111 | 271 => 112 | 151 => 113 | 120 => 130 | 197 => 131 | 152 => 132 | 260 => 145 | 137 => 114 | 119 => 146 | 224 => 135 | 225 => 134 | 217 => 133 | 266 => 147 | n => n, fun | 9 => 9 | 4 => 4 | 3 => 3 | 5 => 5 | 117 => 107 | 116 => 106 | 0 => 0 | 124 => 110 | 21 => 21 | 105 => 130 | 46 => 144 | 119 => 81 | 139 => 165 | 138 => 164 | n => n, fun | 3 => 4 | 4 => 5 | n => n⟩
theorem Tryd.lays162 : Go.Proofs.Lays.n162 Tryd.prog Tryd.lays162_ren := {
  mixed := by kernel_rfl
  f119 := Tryd.func146.trans (congrArg some (by kernel_rfl))
  f120 := Tryd.func130.trans (congrArg some (by kernel_rfl))
  f137 := Tryd.func114.trans (congrArg some (by kernel_rfl))
  f151 := Tryd.func113.trans (congrArg some (by kernel_rfl))
  f152 := Tryd.func132.trans (congrArg some (by kernel_rfl))
  f162 := Tryd.func62.trans (congrArg some (by kernel_rfl))
  f197 := Tryd.func131.trans (congrArg some (by kernel_rfl))
  f217 := Tryd.func133.trans (congrArg some (by kernel_rfl))
  f224 := Tryd.func135.trans (congrArg some (by kernel_rfl))
  f225 := Tryd.func134.trans (congrArg some (by kernel_rfl))
  f227 := Tryd.func88.trans (congrArg some (by kernel_rfl))
  f228 := Tryd.func111.trans (congrArg some (by kernel_rfl))
  f232 := Tryd.func87.trans (congrArg some (by kernel_rfl))
  f234 := Tryd.func89.trans (congrArg some (by kernel_rfl))
  f236 := Tryd.func90.trans (congrArg some (by kernel_rfl))
  f260 := Tryd.func145.trans (congrArg some (by kernel_rfl))
  f266 := Tryd.func147.trans (congrArg some (by kernel_rfl))
  f271 := Tryd.func112.trans (congrArg some (by kernel_rfl))
  t0 := Tryd.underlying0
  a0 := Tryd.isAgg0
  z0 := Tryd.sizeOf0
  v0 := Tryd.zeroValue0
  t3 := Tryd.underlying3
  a3 := Tryd.isAgg3
  z3 := Tryd.sizeOf3
  v3 := Tryd.zeroValue3
  t4 := Tryd.underlying4
  a4 := Tryd.isAgg4
  z4 := Tryd.sizeOf4
  v4 := Tryd.zeroValue4
  t5 := Tryd.underlying5
  a5 := Tryd.isAgg5
  z5 := Tryd.sizeOf5
  v5 := Tryd.zeroValue5
  t9 := Tryd.underlying9
  a9 := Tryd.isAgg9
  z9 := Tryd.sizeOf9
  v9 := Tryd.zeroValue9
  t21 := Tryd.underlying21
  a21 := Tryd.isAgg21
  z21 := Tryd.sizeOf21
  v21 := Tryd.zeroValue21
  t46 := Tryd.underlying144
  a46 := Tryd.isAgg144
  z46 := Tryd.sizeOf144
  v46 := Tryd.zeroValue144
  t105 := Tryd.underlying130
  a105 := Tryd.isAgg130
  z105 := Tryd.sizeOf130
  v105 := Tryd.zeroValue130
  t116 := Tryd.underlying106
  a116 := Tryd.isAgg106
  z116 := Tryd.sizeOf106
  t117 := Tryd.underlying107
  a117 := Tryd.isAgg107
  z117 := Tryd.sizeOf107
  v117 := Tryd.zeroValue107
  t119 := Tryd.underlying81
  a119 := Tryd.isAgg81
  z119 := Tryd.sizeOf81
  t124 := Tryd.underlying110
  a124 := Tryd.isAgg110
  z124 := Tryd.sizeOf110
  v124 := Tryd.zeroValue110
  t138 := Tryd.underlying164
  a138 := Tryd.isAgg164
  z138 := Tryd.sizeOf164
  v138 := Tryd.zeroValue164
  t139 := Tryd.underlying165
  a139 := Tryd.isAgg165
  z139 := Tryd.sizeOf165
  v139 := Tryd.zeroValue165
  g3 := by kernel_rfl
  g4 := by kernel_rfl }
open Go.RowKit in
theorem Tryd.strings_TrimRight_one (s : ByteArray) (c : UInt8) (hc : c.toNat < 128) (w : World) (hs : s.size ≤ 9223372036854775807) :
    Calls Tryd.prog 62 #[.string s, .string ⟨#[c]⟩] w fun e w' => e = .returned (.string ⟨(Lib.trimRightB s.data.toList c).toArray⟩) ∧ w' = w := Any.strings_TrimRight_one Tryd.lays162 s c hc w hs
def Tryd.lays137_ren : Go.Shelf.Ren := ⟨fun | 137 => 114 | 217 => 133 | 266 => 147 | n => n, fun | 9 => 9 | 5 => 5 | 3 => 3 | n => n, fun | n => n⟩
theorem Tryd.lays137 : Go.Proofs.Lays.n137 Tryd.prog Tryd.lays137_ren := {
  mixed := by kernel_rfl
  f137 := Tryd.func114.trans (congrArg some (by kernel_rfl))
  f217 := Tryd.func133.trans (congrArg some (by kernel_rfl))
  f266 := Tryd.func147.trans (congrArg some (by kernel_rfl))
  t3 := Tryd.underlying3
  a3 := Tryd.isAgg3
  z3 := Tryd.sizeOf3
  v3 := Tryd.zeroValue3
  t5 := Tryd.underlying5
  a5 := Tryd.isAgg5
  z5 := Tryd.sizeOf5
  v5 := Tryd.zeroValue5
  t9 := Tryd.underlying9
  a9 := Tryd.isAgg9
  z9 := Tryd.sizeOf9
  v9 := Tryd.zeroValue9 }
open Go.RowKit in
theorem Tryd.strings_IndexByte (s : ByteArray) (c : Int) (w : World) :
    Calls Tryd.prog 114 #[.string s, .int .u8 c] w fun e w' => e = .returned (.int .i64 (Lib.indexByte s.data.toList c.toNat.toUInt8)) ∧ w' = w := Any.strings_IndexByte Tryd.lays137 s c w
def Tryd.laysM173_ren : Go.Shelf.Ren := ⟨fun | 173 => 61 | 246 => 86 | 283 => 107 | 284 => 108 | 285 => 109 | 286 => 110 | 129 => 126 | 317 => 125 | 318 => 127 | 319 => 128 | 320 => 129 | 337 => 143 | 338 => 144 | n => n, fun | 2 => 2 | 3 => 3 | 9 => 9 | 4 => 4 | 171 => 124 | 0 => 0 | 53 => 125 | 37 => 92 | 5 => 5 | 173 => 128 | 212 => 140 | 51 => 141 | 20 => 20 | 213 => 142 | 46 => 144 | 232 => 161 | 233 => 162 | n => n, fun | 17 => 1 | 18 => 2 | 19 => 3 | n => n⟩
theorem Tryd.laysM173 : Go.Proofs.LaysM.n173 Tryd.prog Tryd.laysM173_ren := {
  mixed := by kernel_rfl
  f129 := Tryd.func126.trans (congrArg some (by kernel_rfl))
  f173 := Tryd.func61.trans (congrArg some (by kernel_rfl))
  f246 := Tryd.func86.trans (congrArg some (by kernel_rfl))
  f283 := Tryd.func107.trans (congrArg some (by kernel_rfl))
  f284 := Tryd.func108.trans (congrArg some (by kernel_rfl))
  f285 := Tryd.func109.trans (congrArg some (by kernel_rfl))
  f286 := Tryd.func110.trans (congrArg some (by kernel_rfl))
  f317 := Tryd.func125.trans (congrArg some (by kernel_rfl))
  f318 := Tryd.func127.trans (congrArg some (by kernel_rfl))
  f319 := Tryd.func128.trans (congrArg some (by kernel_rfl))
  f320 := Tryd.func129.trans (congrArg some (by kernel_rfl))
  f337 := Tryd.func143.trans (congrArg some (by kernel_rfl))
  f338 := Tryd.func144.trans (congrArg some (by kernel_rfl))
  t0 := Tryd.underlying0
  a0 := Tryd.isAgg0
  z0 := Tryd.sizeOf0
  v0 := Tryd.zeroValue0
  t2 := Tryd.underlying2
  a2 := Tryd.isAgg2
  z2 := Tryd.sizeOf2
  v2 := Tryd.zeroValue2
  t3 := Tryd.underlying3
  a3 := Tryd.isAgg3
  z3 := Tryd.sizeOf3
  v3 := Tryd.zeroValue3
  t4 := Tryd.underlying4
  a4 := Tryd.isAgg4
  z4 := Tryd.sizeOf4
  v4 := Tryd.zeroValue4
  t5 := Tryd.underlying5
  a5 := Tryd.isAgg5
  z5 := Tryd.sizeOf5
  v5 := Tryd.zeroValue5
  t9 := Tryd.underlying9
  a9 := Tryd.isAgg9
  z9 := Tryd.sizeOf9
  v9 := Tryd.zeroValue9
  t20 := Tryd.underlying20
  a20 := Tryd.isAgg20
  z20 := Tryd.sizeOf20
  v20 := Tryd.zeroValue20
  t37 := Tryd.underlying92
  a37 := Tryd.isAgg92
  z37 := Tryd.sizeOf92
  v37 := Tryd.zeroValue92
  t46 := Tryd.underlying144
  a46 := Tryd.isAgg144
  z46 := Tryd.sizeOf144
  v46 := Tryd.zeroValue144
  t51 := Tryd.underlying141
  a51 := Tryd.isAgg141
  z51 := Tryd.sizeOf141
  v51 := Tryd.zeroValue141
  t53 := Tryd.underlying125
  a53 := Tryd.isAgg125
  z53 := Tryd.sizeOf125
  v53 := Tryd.zeroValue125
  t171 := Tryd.underlying124
  a171 := Tryd.isAgg124
  z171 := Tryd.sizeOf124
  v171 := Tryd.zeroValue124
  t173 := Tryd.underlying128
  a173 := Tryd.isAgg128
  z173 := Tryd.sizeOf128
  v173 := Tryd.zeroValue128
  t212 := Tryd.underlying140
  a212 := Tryd.isAgg140
  z212 := Tryd.sizeOf140
  v212 := Tryd.zeroValue140
  t213 := Tryd.underlying142
  a213 := Tryd.isAgg142
  z213 := Tryd.sizeOf142
  t232 := Tryd.underlying161
  a232 := Tryd.isAgg161
  z232 := Tryd.sizeOf161
  v232 := Tryd.zeroValue161
  t233 := Tryd.underlying162
  a233 := Tryd.isAgg162
  z233 := Tryd.sizeOf162
  v233 := Tryd.zeroValue162
  g17 := by kernel_rfl
  g18 := by kernel_rfl
  g19 := by kernel_rfl
  i0 := by kernel_rfl
  i2 := by kernel_rfl
  i3 := by kernel_rfl
  i4 := by kernel_rfl
  i5 := by kernel_rfl
  i9 := by kernel_rfl
  i20 := by kernel_rfl
  i37 := by kernel_rfl
  i46 := by kernel_rfl
  i51 := by kernel_rfl
  i53 := by kernel_rfl
  i171 := by kernel_rfl
  i173 := by kernel_rfl
  i212 := by kernel_rfl
  i232 := by kernel_rfl
  i233 := by kernel_rfl
  m17 := by kernel_rfl
  m18 := by kernel_rfl
  m19 := by kernel_rfl }
open Go.RowKit Go.Sort Go.Lib in
theorem Tryd.strconv_FormatInt_10 (n : Int) (h0 : -9223372036854775808 ≤ n) (h1 : n ≤ 9223372036854775807) (w : World) (htab : Lib.TabIs Tryd.prog w "internal/strconv.uint64pow10" .u64 Lib.pow10Tab) :
    Calls Tryd.prog 61 #[.int .i64 n, .int .i64 10] w fun e w' => e = .returned (.string ⟨(Lib.itoa n).toArray⟩) ∧ ∃ k os, w' = grow (w.drewN k) os := Any.strconv_FormatInt_10 Tryd.laysM173 n h0 h1 w htab
def Tryd.laysC174_ren : Go.Shelf.Ren := ⟨fun | 174 => 124 | 247 => 141 | 245 => 142 | 287 => 149 | 279 => 150 | 280 => 151 | 281 => 152 | 282 => 153 | 321 => 154 | 322 => 155 | 316 => 156 | 171 => 158 | 205 => 157 | 243 => 159 | 246 => 86 | 283 => 107 | 284 => 108 | 285 => 109 | 286 => 110 | 129 => 126 | 317 => 125 | 318 => 127 | 319 => 128 | 320 => 129 | 337 => 143 | 338 => 144 | n => n, fun | 9 => 9 | 3 => 3 | 2 => 2 | 75 => 117 | 85 => 136 | 4 => 4 | 167 => 155 | 5 => 5 | 53 => 125 | 175 => 156 | 46 => 144 | 168 => 158 | 37 => 92 | 0 => 0 | 210 => 169 | 21 => 21 | 127 => 122 | 145 => 173 | 143 => 171 | 171 => 124 | 173 => 128 | 212 => 140 | 51 => 141 | 20 => 20 | 213 => 142 | 232 => 161 | 233 => 162 | 80 => 97 | n => n, fun | 15 => 6 | 16 => 7 | 17 => 1 | 18 => 2 | 19 => 3 | n => n⟩
theorem Tryd.laysC174 : Go.Proofs.LaysC.n174 Tryd.prog Tryd.laysC174_ren := {
  mixed := by kernel_rfl
  f129 := Tryd.func126.trans (congrArg some (by kernel_rfl))
  f171 := Tryd.func158.trans (congrArg some (by kernel_rfl))
  f174 := Tryd.func124.trans (congrArg some (by kernel_rfl))
  f205 := Tryd.func157.trans (congrArg some (by kernel_rfl))
  f243 := Tryd.func159.trans (congrArg some (by kernel_rfl))
  f245 := Tryd.func142.trans (congrArg some (by kernel_rfl))
  f246 := Tryd.func86.trans (congrArg some (by kernel_rfl))
  f247 := Tryd.func141.trans (congrArg some (by kernel_rfl))
  f279 := Tryd.func150.trans (congrArg some (by kernel_rfl))
  f280 := Tryd.func151.trans (congrArg some (by kernel_rfl))
  f281 := Tryd.func152.trans (congrArg some (by kernel_rfl))
  f282 := Tryd.func153.trans (congrArg some (by kernel_rfl))
  f283 := Tryd.func107.trans (congrArg some (by kernel_rfl))
  f284 := Tryd.func108.trans (congrArg some (by kernel_rfl))
  f285 := Tryd.func109.trans (congrArg some (by kernel_rfl))
  f286 := Tryd.func110.trans (congrArg some (by kernel_rfl))
  f287 := Tryd.func149.trans (congrArg some (by kernel_rfl))
  f316 := Tryd.func156.trans (congrArg some (by kernel_rfl))
  f317 := Tryd.func125.trans (congrArg some (by kernel_rfl))
  f318 := Tryd.func127.trans (congrArg some (by kernel_rfl))
  f319 := Tryd.func128.trans (congrArg some (by kernel_rfl))
  f320 := Tryd.func129.trans (congrArg some (by kernel_rfl))
  f321 := Tryd.func154.trans (congrArg some (by kernel_rfl))
  f322 := Tryd.func155.trans (congrArg some (by kernel_rfl))
  f337 := Tryd.func143.trans (congrArg some (by kernel_rfl))
  f338 := Tryd.func144.trans (congrArg some (by kernel_rfl))
  t0 := Tryd.underlying0
  a0 := Tryd.isAgg0
  z0 := Tryd.sizeOf0
  v0 := Tryd.zeroValue0
  t2 := Tryd.underlying2
  a2 := Tryd.isAgg2
  z2 := Tryd.sizeOf2
  v2 := Tryd.zeroValue2
  t3 := Tryd.underlying3
  a3 := Tryd.isAgg3
  z3 := Tryd.sizeOf3
  v3 := Tryd.zeroValue3
  t4 := Tryd.underlying4
  a4 := Tryd.isAgg4
  z4 := Tryd.sizeOf4
  v4 := Tryd.zeroValue4
  t5 := Tryd.underlying5
  a5 := Tryd.isAgg5
  z5 := Tryd.sizeOf5
  v5 := Tryd.zeroValue5
  t9 := Tryd.underlying9
  a9 := Tryd.isAgg9
  z9 := Tryd.sizeOf9
  v9 := Tryd.zeroValue9
  t20 := Tryd.underlying20
  a20 := Tryd.isAgg20
  z20 := Tryd.sizeOf20
  v20 := Tryd.zeroValue20
  t21 := Tryd.underlying21
  a21 := Tryd.isAgg21
  z21 := Tryd.sizeOf21
  v21 := Tryd.zeroValue21
  t37 := Tryd.underlying92
  a37 := Tryd.isAgg92
  z37 := Tryd.sizeOf92
  v37 := Tryd.zeroValue92
  t46 := Tryd.underlying144
  a46 := Tryd.isAgg144
  z46 := Tryd.sizeOf144
  v46 := Tryd.zeroValue144
  t51 := Tryd.underlying141
  a51 := Tryd.isAgg141
  z51 := Tryd.sizeOf141
  v51 := Tryd.zeroValue141
  t53 := Tryd.underlying125
  a53 := Tryd.isAgg125
  z53 := Tryd.sizeOf125
  v53 := Tryd.zeroValue125
  t75 := Tryd.underlying117
  a75 := Tryd.isAgg117
  z75 := Tryd.sizeOf117
  v75 := Tryd.zeroValue117
  t85 := Tryd.underlying136
  a85 := Tryd.isAgg136
  z85 := Tryd.sizeOf136
  v85 := Tryd.zeroValue136
  t127 := Tryd.underlying122
  a127 := Tryd.isAgg122
  z127 := Tryd.sizeOf122
  v127 := Tryd.zeroValue122
  t143 := Tryd.underlying171
  a143 := Tryd.isAgg171
  z143 := Tryd.sizeOf171
  v143 := Tryd.zeroValue171
  t145 := Tryd.underlying173
  a145 := Tryd.isAgg173
  z145 := Tryd.sizeOf173
  v145 := Tryd.zeroValue173
  t167 := Tryd.underlying155
  a167 := Tryd.isAgg155
  z167 := Tryd.sizeOf155
  v167 := Tryd.zeroValue155
  t168 := Tryd.underlying158
  a168 := Tryd.isAgg158
  z168 := Tryd.sizeOf158
  v168 := Tryd.zeroValue158
  t171 := Tryd.underlying124
  a171 := Tryd.isAgg124
  z171 := Tryd.sizeOf124
  v171 := Tryd.zeroValue124
  t173 := Tryd.underlying128
  a173 := Tryd.isAgg128
  z173 := Tryd.sizeOf128
  v173 := Tryd.zeroValue128
  t175 := Tryd.underlying156
  a175 := Tryd.isAgg156
  z175 := Tryd.sizeOf156
  v175 := Tryd.zeroValue156
  t210 := Tryd.underlying169
  a210 := Tryd.isAgg169
  z210 := Tryd.sizeOf169
  v210 := Tryd.zeroValue169
  t212 := Tryd.underlying140
  a212 := Tryd.isAgg140
  z212 := Tryd.sizeOf140
  v212 := Tryd.zeroValue140
  t213 := Tryd.underlying142
  a213 := Tryd.isAgg142
  z213 := Tryd.sizeOf142
  t232 := Tryd.underlying161
  a232 := Tryd.isAgg161
  z232 := Tryd.sizeOf161
  v232 := Tryd.zeroValue161
  t233 := Tryd.underlying162
  a233 := Tryd.isAgg162
  z233 := Tryd.sizeOf162
  v233 := Tryd.zeroValue162
  g15 := by kernel_rfl
  g16 := by kernel_rfl
  g17 := by kernel_rfl
  g18 := by kernel_rfl
  g19 := by kernel_rfl
  t80 := Tryd.underlying97
  a80 := Tryd.isAgg97
  z80 := Tryd.sizeOf97
  v80 := Tryd.zeroValue97
  i0 := by kernel_rfl
  i2 := by kernel_rfl
  i3 := by kernel_rfl
  i4 := by kernel_rfl
  i5 := by kernel_rfl
  i9 := by kernel_rfl
  i20 := by kernel_rfl
  i21 := by kernel_rfl
  i37 := by kernel_rfl
  i46 := by kernel_rfl
  i51 := by kernel_rfl
  i53 := by kernel_rfl
  i75 := by kernel_rfl
  i80 := by kernel_rfl
  i85 := by kernel_rfl
  i127 := by kernel_rfl
  i143 := by kernel_rfl
  i145 := by kernel_rfl
  i167 := by kernel_rfl
  i168 := by kernel_rfl
  i171 := by kernel_rfl
  i173 := by kernel_rfl
  i175 := by kernel_rfl
  i210 := by kernel_rfl
  i212 := by kernel_rfl
  i232 := by kernel_rfl
  i233 := by kernel_rfl
  m15 := by kernel_rfl
  m16 := by kernel_rfl
  m17 := by kernel_rfl
  m18 := by kernel_rfl
  m19 := by kernel_rfl
  c0 := by kernel_rfl
  c2 := by kernel_rfl
  c3 := by kernel_rfl
  c4 := by kernel_rfl
  c5 := by kernel_rfl
  c9 := by kernel_rfl
  c20 := by kernel_rfl
  c21 := by kernel_rfl
  c37 := by kernel_rfl
  c46 := by kernel_rfl
  c51 := by kernel_rfl
  c53 := by kernel_rfl
  c75 := by kernel_rfl
  c80 := by kernel_rfl
  c85 := by kernel_rfl
  c127 := by kernel_rfl
  c143 := by kernel_rfl
  c145 := by kernel_rfl
  c167 := by kernel_rfl
  c168 := by kernel_rfl
  c171 := by kernel_rfl
  c173 := by kernel_rfl
  c175 := by kernel_rfl
  c210 := by kernel_rfl
  c212 := by kernel_rfl
  c213 := by kernel_rfl
  c232 := by kernel_rfl
  c233 := by kernel_rfl }
open Go.RowKit in
theorem Tryd.strconv_ParseInt_10_at64_ok (s : ByteArray) (hmax : s.size ≤ 9223372036854775806) (v : Int) (h : Lib.parseIntB 64 s.data.toList = .ok v) (w : World) :
    Calls Tryd.prog 124 #[.string s, .int .i64 10, .int .i64 64] w fun e w' => e = .returned (.tuple #[.int .i64 v, .nilIface]) ∧ (w' = w ∨ ∃ t, w' = Lib.bytesWorld w 5 t) := Any.strconv_ParseInt_10_at64_ok Tryd.laysC174 s hmax v h w
def Tryd.lays219_ren : Go.Shelf.Ren := ⟨fun | 219 => 118 | 217 => 133 | 225 => 134 | 224 => 135 | 267 => 136 | 266 => 147 | 314 => 148 | n => n, fun | 9 => 9 | 3 => 3 | 4 => 4 | 5 => 5 | 46 => 144 | 146 => 153 | 51 => 141 | n => n, fun | 1 => 0 | n => n⟩
theorem Tryd.lays219 : Go.Proofs.Lays.n219 Tryd.prog Tryd.lays219_ren := {
  mixed := by kernel_rfl
  f217 := Tryd.func133.trans (congrArg some (by kernel_rfl))
  f219 := Tryd.func118.trans (congrArg some (by kernel_rfl))
  f224 := Tryd.func135.trans (congrArg some (by kernel_rfl))
  f225 := Tryd.func134.trans (congrArg some (by kernel_rfl))
  f266 := Tryd.func147.trans (congrArg some (by kernel_rfl))
  f267 := Tryd.func136.trans (congrArg some (by kernel_rfl))
  f314 := Tryd.func148.trans (congrArg some (by kernel_rfl))
  t3 := Tryd.underlying3
  a3 := Tryd.isAgg3
  z3 := Tryd.sizeOf3
  v3 := Tryd.zeroValue3
  t4 := Tryd.underlying4
  a4 := Tryd.isAgg4
  z4 := Tryd.sizeOf4
  v4 := Tryd.zeroValue4
  t5 := Tryd.underlying5
  a5 := Tryd.isAgg5
  z5 := Tryd.sizeOf5
  v5 := Tryd.zeroValue5
  t9 := Tryd.underlying9
  a9 := Tryd.isAgg9
  z9 := Tryd.sizeOf9
  v9 := Tryd.zeroValue9
  t46 := Tryd.underlying144
  a46 := Tryd.isAgg144
  z46 := Tryd.sizeOf144
  v46 := Tryd.zeroValue144
  t51 := Tryd.underlying141
  a51 := Tryd.isAgg141
  z51 := Tryd.sizeOf141
  v51 := Tryd.zeroValue141
  t146 := Tryd.underlying153
  a146 := Tryd.isAgg153
  z146 := Tryd.sizeOf153
  v146 := Tryd.zeroValue153
  g1 := by kernel_rfl }
open Go.RowKit Go.Lib in
theorem Tryd.stringslite_Index_one (s : ByteArray) (c : UInt8) (w : World) :
    Calls Tryd.prog 118 #[.string s, .string ⟨#[c]⟩] w fun e w' => e = .returned (.int .i64 (Lib.indexByte s.data.toList c)) ∧ w' = w := Any.stringslite_Index_one Tryd.lays219 s c w
def Tryd.lays138_ren : Go.Shelf.Ren := ⟨fun | 138 => 68 | 195 => 98 | 218 => 99 | 143 => 100 | 219 => 118 | 217 => 133 | 225 => 134 | 224 => 135 | 267 => 136 | 266 => 147 | 314 => 148 | n => n, fun | 9 => 9 | 3 => 3 | 4 => 4 | 5 => 5 | 0 => 0 | 46 => 144 | 146 => 153 | 51 => 141 | n => n, fun | 1 => 0 | n => n⟩
theorem Tryd.lays138 : Go.Proofs.Lays.n138 Tryd.prog Tryd.lays138_ren := {
  mixed := by kernel_rfl
  f138 := Tryd.func68.trans (congrArg some (by kernel_rfl))
  f143 := Tryd.func100.trans (congrArg some (by kernel_rfl))
  f195 := Tryd.func98.trans (congrArg some (by kernel_rfl))
  f217 := Tryd.func133.trans (congrArg some (by kernel_rfl))
  f218 := Tryd.func99.trans (congrArg some (by kernel_rfl))
  f219 := Tryd.func118.trans (congrArg some (by kernel_rfl))
  f224 := Tryd.func135.trans (congrArg some (by kernel_rfl))
  f225 := Tryd.func134.trans (congrArg some (by kernel_rfl))
  f266 := Tryd.func147.trans (congrArg some (by kernel_rfl))
  f267 := Tryd.func136.trans (congrArg some (by kernel_rfl))
  f314 := Tryd.func148.trans (congrArg some (by kernel_rfl))
  t0 := Tryd.underlying0
  a0 := Tryd.isAgg0
  z0 := Tryd.sizeOf0
  v0 := Tryd.zeroValue0
  t3 := Tryd.underlying3
  a3 := Tryd.isAgg3
  z3 := Tryd.sizeOf3
  v3 := Tryd.zeroValue3
  t4 := Tryd.underlying4
  a4 := Tryd.isAgg4
  z4 := Tryd.sizeOf4
  v4 := Tryd.zeroValue4
  t5 := Tryd.underlying5
  a5 := Tryd.isAgg5
  z5 := Tryd.sizeOf5
  v5 := Tryd.zeroValue5
  t9 := Tryd.underlying9
  a9 := Tryd.isAgg9
  z9 := Tryd.sizeOf9
  v9 := Tryd.zeroValue9
  t46 := Tryd.underlying144
  a46 := Tryd.isAgg144
  z46 := Tryd.sizeOf144
  v46 := Tryd.zeroValue144
  t51 := Tryd.underlying141
  a51 := Tryd.isAgg141
  z51 := Tryd.sizeOf141
  v51 := Tryd.zeroValue141
  t146 := Tryd.underlying153
  a146 := Tryd.isAgg153
  z146 := Tryd.sizeOf153
  v146 := Tryd.zeroValue153
  g1 := by kernel_rfl }
open Go.RowKit Go.Lib in
theorem Tryd.strings_Count_one (s : ByteArray) (c : UInt8) (w : World) :
    Calls Tryd.prog 68 #[.string s, .string ⟨#[c]⟩] w fun e w' => e = .returned (.int .i64 (Lib.countByte s.data.toList c)) ∧ w' = w := Any.strings_Count_one Tryd.lays138 s c w
def Tryd.lays149_ren : Go.Shelf.Ren := ⟨fun | 149 => 69 | 222 => 101 | n => n, fun | 9 => 9 | 5 => 5 | 3 => 3 | 4 => 4 | n => n, fun | n => n⟩
theorem Tryd.lays149 : Go.Proofs.Lays.n149 Tryd.prog Tryd.lays149_ren := {
  mixed := by kernel_rfl
  f149 := Tryd.func69.trans (congrArg some (by kernel_rfl))
  f222 := Tryd.func101.trans (congrArg some (by kernel_rfl))
  t3 := Tryd.underlying3
  a3 := Tryd.isAgg3
  z3 := Tryd.sizeOf3
  v3 := Tryd.zeroValue3
  t4 := Tryd.underlying4
  a4 := Tryd.isAgg4
  z4 := Tryd.sizeOf4
  v4 := Tryd.zeroValue4
  t5 := Tryd.underlying5
  a5 := Tryd.isAgg5
  z5 := Tryd.sizeOf5
  v5 := Tryd.zeroValue5
  t9 := Tryd.underlying9
  a9 := Tryd.isAgg9
  z9 := Tryd.sizeOf9
  v9 := Tryd.zeroValue9 }
open Go.RowKit Go.Lib in
theorem Tryd.strings_LastIndexByte (s : ByteArray) (c : Int) (hs : s.size < 4611686018427387904) (w : World) :
    Calls Tryd.prog 69 #[.string s, .int .u8 c] w fun e w' => e = .returned (.int .i64 (Lib.lastIndexByte s c)) ∧ w' = w := Any.strings_LastIndexByte Tryd.lays149 s c hs w
end Go.Proofs
namespace Go.Proofs.YtkifdadhojbohaaDoor
open Go.RowKit Go.Proofs.YtkifdadhojbohaaDoorW.PrintWords Go.Proofs.YtkifdadhojbohaaDoorW.PrintLast Go.Proofs.YtkifdadhojbohaaDoorW.PrintMore
set_option linter.unusedVariables false
set_option linter.unusedSimpArgs false
def kindOf (n : Nat) : Nat :=
  if n = 32 ∨ n = 9 ∨ n = 10 ∨ n = 13 then 1
  else if 97 ≤ n ∧ n ≤ 122 ∨ 65 ≤ n ∧ n ≤ 90 ∨ n = 95 then 2
  else if 48 ≤ n ∧ n ≤ 57 then 3
  else if n = 46 then 4
  else if n = 40 ∨ n = 41 ∨ n = 43 ∨ n = 45 ∨ n = 42 ∨ n = 47 ∨ n = 44 ∨ n = 61 ∨ n = 59 ∨ n = 123 ∨ n = 125 then 5
  else 0
def tabAt (k : Nat) : Array Value := ((List.range 256).map fun i => Value.int .u8 (if i < k then (kindOf i : Int) else 0)).toArray
theorem tabAt_set (k : Nat) (hk : k < 256) : (tabAt k).setIfInBounds k (.int .u8 (kindOf k : Int)) = tabAt (k + 1) := by
  apply Array.ext
  · simp [tabAt]
  · intro i h1 h2
    have h3 : i < 256 := by simpa [tabAt] using h2
    rw [Array.getElem_setIfInBounds (by simpa [tabAt] using h3)]
    simp only [tabAt, List.getElem_toArray, List.getElem_map, List.getElem_range]
    by_cases e : k = i
    · subst e; simp
    · rw [if_neg e]
      by_cases h : i < k
      · rw [if_pos h, if_pos (by omega)]
      · rw [if_neg h, if_neg (by omega)]
theorem tabAt_keep (k : Nat) (h0 : kindOf k = 0) : tabAt k = tabAt (k + 1) := by
  apply Array.ext
  · simp [tabAt]
  · intro i h1 h2
    simp only [tabAt, List.getElem_toArray, List.getElem_map, List.getElem_range]
    by_cases e : k = i
    · subst e; simp [h0]
    · by_cases h : i < k
      · rw [if_pos h, if_pos (by omega)]
      · rw [if_neg h, if_neg (by omega)]
theorem ix_iff (l : List UInt8) (k : Nat) : (0 ≤ Lib.indexByte l (UInt8.ofNat k)) ↔ (UInt8.ofNat k) ∈ l := by
  have h := Lib.contains_iff_indexByte l (UInt8.ofNat k)
  rw [Bool.eq_iff_iff] at h
  simpa using h.symm
theorem ix1 (k : Nat) (hk : k < 256) : (0 ≤ Lib.indexByte [32, 9, 10, 13] (UInt8.ofNat k)) ↔ (k = 32 ∨ k = 9 ∨ k = 10 ∨ k = 13) := by
  rw [ix_iff]
  simp only [List.mem_cons, List.not_mem_nil, or_false, ← UInt8.toNat_inj, UInt8.toNat_ofNat']
  rw [Nat.mod_eq_of_lt hk]; rfl
theorem ix2 (k : Nat) (hk : k < 256) : (0 ≤ Lib.indexByte [40, 41, 43, 45, 42, 47, 44, 61, 59, 123, 125] (UInt8.ofNat k)) ↔ (k = 40 ∨ k = 41 ∨ k = 43 ∨ k = 45 ∨ k = 42 ∨ k = 47 ∨ k = 44 ∨ k = 61 ∨ k = 59 ∨ k = 123 ∨ k = 125) := by
  rw [ix_iff]
  simp only [List.mem_cons, List.not_mem_nil, or_false, ← UInt8.toNat_inj, UInt8.toNat_ofNat']
  rw [Nat.mod_eq_of_lt hk]; rfl
theorem fin_store {w wr : World} {k g0 g1 : Nat} (x : Int) (B0 : Aside0 (wr.heap[g0]? = some (.cells (tabAt 0) 81 (0, 0)))) (B1 : Aside0 (wr.heap[g1]? = some (.cells (tabAt k) 81 (0, 0)))) (HB : Aside0 (Below w.heap.size w wr)) (HN : Aside0 (g0 ≠ g1)) (W1 : Aside0 (w.heap.size ≤ g1)) (hk : k < 256) (hv : (kindOf k : Int) = x) :
    Aside0 ((wr.setCell ⟨g1, k, none⟩ (.int .u8 x)).heap[g0]? = some (.cells (tabAt 0) 81 (0, 0))) ∧ Aside0 ((wr.setCell ⟨g1, k, none⟩ (.int .u8 x)).heap[g1]? = some (.cells (tabAt (k + 1)) 81 (0, 0))) ∧ Aside0 (Below w.heap.size w (wr.setCell ⟨g1, k, none⟩ (.int .u8 x))) := by
  subst hv
  refine ⟨⟨blk_far B0.out HN.out _⟩, ⟨?_⟩, ⟨HB.out.setCell W1.out _⟩⟩
  rw [blk_set B1.out, tabAt_set k hk]
theorem fin_keep {w wr : World} {k g0 g1 : Nat} (B0 : Aside0 (wr.heap[g0]? = some (.cells (tabAt 0) 81 (0, 0)))) (B1 : Aside0 (wr.heap[g1]? = some (.cells (tabAt k) 81 (0, 0)))) (HB : Aside0 (Below w.heap.size w wr)) (hv : kindOf k = 0) :
    Aside0 (wr.heap[g0]? = some (.cells (tabAt 0) 81 (0, 0))) ∧ Aside0 (wr.heap[g1]? = some (.cells (tabAt (k + 1)) 81 (0, 0))) ∧ Aside0 (Below w.heap.size w wr) := by
  refine ⟨B0, ⟨?_⟩, HB⟩
  rw [B1.out, tabAt_keep k hv]
set_option maxHeartbeats 1000000 in
theorem table_calls (w : World) :
    Calls Tryd.prog 92 #[] w fun e w' => e = .returned (.agg (tabAt 256)) ∧ Below w.heap.size w w' := by
  have HB := Aside0.mk (Below.refl w.heap.size w)
  go_enter Tryd.func92, Tryd.ntmps92
  go_wp2_with (first
    | ((with_reducible refine gate_dst (N := 0) rfl ?_); refine box_event ?hg (N := 0) ?hd (cs := tabAt 0) (t := 81) ?hr ?_; (case hd => rfl); (case hg => rfl); (case hr => kernel_rfl); intro g0 hg0 w1 hb0 hB0; clear HB; have HB := Aside0.mk hB0; have B0 := Aside0.mk hb0; have G0 := Aside0.mk hg0; clear hg0 hb0 hB0)
    | ((with_reducible refine gate_dst (N := 1) rfl ?_); refine box_event ?hg (N := 1) ?hd (cs := tabAt 0) (t := 81) ?hr ?_; (case hd => rfl); (case hg => rfl); (case hr => kernel_rfl); intro g1 hg1 w2 hb1 hB1; have B1 := Aside0.mk hb1; have G1 := Aside0.mk hg1; have HB1 := Aside0.mk hB1; clear hg1 hb1 hB1))
  have hs1 := blk_lt B0.out
  have hne : g0 ≠ g1 := by rw [G1.out]; omega
  have HN := Aside0.mk hne
  have HB' := Aside0.mk (below_step HB.out HB1.out)
  have B0' := Aside0.mk (blk_below B0.out HB1.out)
  have hG0 : w.heap.size ≤ g0 := by rw [G0.out]; exact Nat.le_refl _
  have hG1 : w.heap.size ≤ g1 := by rw [G1.out]; exact Nat.le_trans hG0 (by omega)
  have W0 := Aside0.mk hG0
  have W1 := Aside0.mk hG1
  clear hs1 hne hG0 hG1 HB HB1 B0 G0 G1
  go_loopw [4] (fun v4 wr => ∃ k : Nat, k ≤ 256 ∧ v4 = .int .i64 k ∧ Aside0 (wr.heap[g0]? = some (.cells (tabAt 0) 81 (0, 0))) ∧ Aside0 (wr.heap[g1]? = some (.cells (tabAt k) 81 (0, 0))) ∧ Aside0 (Below w.heap.size w wr)) (fun v4 _ => 256 - (intOf v4).toNat)
  case atStart => exact ⟨0, by omega, rfl, B0', B1, HB'⟩
  case round =>
    clear B0' B1 HB'
    obtain ⟨k, hk, rfl, B0, B1, HB⟩ := hrel
    by_cases hlt : k < 256
    · have hcell : wr.cell? ⟨g1, k, none⟩ = some (.int .u8 0) := by
        rw [blk_cell B1.out]; simp [tabAt, hlt]
      have hfro := blk_frozen B1.out k
      go_wp2_with (go_at_call 114; refine (Tryd.strings_IndexByte _ _ _).mono ?_; rintro e w' ⟨rfl, rfl⟩)
      all_goals
        go_roundw
        case measure => simp [intOf]; omega
        case rel =>
          have i1 := ix1 k hlt
          have i2 := ix2 k hlt
          clear hcell hfro
          go_light
          first
          | refine ⟨k + 1, by omega, by go_num, fin_store _ B0 B1 HB HN W1 hlt ?_⟩
          | refine ⟨k + 1, by omega, by go_num, fin_keep B0 B1 HB ?_⟩
          all_goals
            clear B0 B1 HB HN W1
            try simp only [beq_iff_eq, beq_eq_false_iff_ne, ne_eq] at *
            unfold kindOf
            (repeat' split) <;> first | rfl | omega
    · obtain rfl : k = 256 := by omega
      have e0 : (0 : Nat) < 1 := by omega
      go_wp2_with (first
        | refine wpList_load_row rfl 81 _ rfl g1 rfl 81 (tabAt 256) (0, 0) _ B1.out Tryd.underlying81 rfl (by kernel_rfl) ?_
        | refine wpList_store_row rfl 81 _ _ rfl g0 (tabAt 256) rfl rfl 81 (tabAt 0) B0.out (by kernel_rfl) (by kernel_rfl) (by kernel_rfl) ?_)
      exact bodyPost_ret (results_cell_row rfl _ _ g0 81 (tabAt 256) (0, 0) _ rfl (setRow_heap _ g0 (tabAt 0) _ 81 (0, 0) B0.out) Tryd.underlying81 rfl (by kernel_rfl)) rfl ⟨rfl, below_setRow HB.out W0.out _⟩
theorem kinds_calls (w : World) :
    Calls Tryd.prog 65 #[] w fun e w' => e = .returned (.agg (tabAt 256)) ∧ Below w.heap.size w w' := by
  have HB := Aside0.mk (Below.refl w.heap.size w)
  go_enter Tryd.func65, Tryd.ntmps65
  go_wp2_with (first
    | ((with_reducible refine gate_dst (N := 0) rfl ?_); refine box_event ?hg (N := 0) ?hd (cs := tabAt 0) (t := 81) ?hr ?_; (case hd => rfl); (case hg => rfl); (case hr => kernel_rfl); intro g0 hg0 w1 hb0 hB0; clear HB; have HB := Aside0.mk hB0; have B0 := Aside0.mk hb0; have G0 := Aside0.mk hg0; clear hg0 hb0 hB0)
    | (go_at_call 92; refine (table_calls _).mono ?_; rintro e w2 ⟨rfl, hb1⟩; have B0' := Aside0.mk (blk_below B0.out hb1); have HB' := Aside0.mk (below_step HB.out hb1); clear B0 HB hb1)
    | refine wpList_store_row rfl 81 _ _ rfl g0 (tabAt 256) rfl rfl 81 (tabAt 0) B0'.out (by kernel_rfl) (by kernel_rfl) (by kernel_rfl) ?_)
  have W0 : w.heap.size ≤ g0 := by rw [G0.out]; exact Nat.le_refl _
  exact bodyPost_ret (results_cell_row rfl _ _ g0 81 (tabAt 256) (0, 0) _ rfl (setRow_heap _ g0 (tabAt 0) _ 81 (0, 0) B0'.out) Tryd.underlying81 rfl (by kernel_rfl)) rfl ⟨rfl, below_setRow HB'.out W0 _⟩
set_option maxHeartbeats 1000000 in
theorem cut140_none (s : ByteArray) (w : World) (hn : Lib.indexByte s.data.toList 46 = -1) :
    Calls Tryd.prog 140 #[.string s, .string ⟨#[46]⟩] w fun e w' => e = .returned (.tuple #[.string s, .string ⟨#[]⟩, .bool false]) ∧ Drawn0 w w' := by
  have HN := Aside0.mk hn
  clear hn
  go_enter Tryd.func140, Tryd.ntmps140
  go_wp2_with (go_at_call 118; refine (Tryd.stringslite_Index_one _ _ _).mono ?_; rintro e w' ⟨rfl, rfl⟩; rw [HN.out])
  go_ret3
  exact ⟨rfl, Drawn0.refl _⟩
set_option maxHeartbeats 1000000 in
theorem cut140_some (s : ByteArray) (w : World) (n : Nat) (hn : Lib.indexByte s.data.toList 46 = (n : Int)) (hlt : n + 1 ≤ s.size) (hs : s.size ≤ 9223372036854775806) :
    Calls Tryd.prog 140 #[.string s, .string ⟨#[46]⟩] w fun e w' => e = .returned (.tuple #[.string (s.extract 0 n), .string (s.extract (n + 1) s.size), .bool true]) ∧ Drawn0 w w' := by
  have HN := Aside0.mk hn
  clear hn
  go_enter Tryd.func140, Tryd.ntmps140
  go_wp2_with (go_at_call 118; refine (Tryd.stringslite_Index_one _ _ _).mono ?_; rintro e w' ⟨rfl, rfl⟩; rw [HN.out])
  go_quiet (fail)
  go_wp2
  go_ret3
  exact ⟨rfl, by repeat (first | exact Drawn0.refl _ | apply Drawn0.step)⟩
set_option maxHeartbeats 1000000 in
theorem cut123_any (s : ByteArray) (w : World) (a b : ByteArray) (c : Bool) (h : ∀ w : World, Calls Tryd.prog 140 #[.string s, .string ⟨#[46]⟩] w fun e w' => e = .returned (.tuple #[.string a, .string b, .bool c]) ∧ Drawn0 w w') :
    Calls Tryd.prog 123 #[.string s, .string ⟨#[46]⟩] w fun e w' => e = .returned (.tuple #[.string a, .string b, .bool c]) ∧ Drawn0 w w' := by
  have H := Lib.hid h
  clear h
  go_enter Tryd.func123, Tryd.ntmps123
  go_wp2_with (go_at_call 140; refine (H.out _).mono ?_; rintro e w' ⟨rfl, ⟨nd, rfl⟩⟩)
  go_ret3
  exact ⟨rfl, by repeat (first | exact Drawn0.refl _ | apply Drawn0.step)⟩
def lexer_kinds.at_ (j : Int) : Int := (kindOf j.toNat : Int)
def lexer_kinds.f : Option Value := some (.agg (tabAt 256))
theorem lexer_kinds.at_run {r : Value} (h : lexer_kinds.f = some r) (j : Int) (h0 : 0 ≤ j) (h1 : j < 256) :
    ∀ W : World, (Instr.index 81 r (.int .u8 j)).run Tryd.prog W = .ok (.int .u8 (lexer_kinds.at_ j)) W := by
  intro W
  obtain rfl := Option.some.inj h
  obtain ⟨n, rfl⟩ := Int.eq_ofNat_of_zero_le h0
  have hn : n < 256 := by omega
  have hcell : (tabAt 256)[n]? = some (.int .u8 (kindOf n : Int)) := by
    simp [tabAt, hn]
  have hs : (Sem.run Tryd.prog (sizeOf 5) W) = .ok 1 W := by kernel_rfl
  have hp := run_part_plain (P := Tryd.prog) W (e := 5) (by kernel_rfl) (xs := tabAt 256) (off := n) hcell
  simp only [Instr.index, Sem.run_bind, asIntOf, run_underlying Tryd.underlying81, Sem.run_pure, Result.andThen_ok, lexer_kinds.at_]
  rw [if_pos ⟨by omega, by omega⟩]
  simp only [Sem.run_bind, hs, Result.andThen_ok, Int.toNat_natCast, Nat.mul_one, hp]
theorem lexer_kinds.calls (r : Value) (w : World) (h : lexer_kinds.f = some r) :
    Calls Tryd.prog 65 #[] w fun e w' => e = .returned r ∧ Below w.heap.size w w' := by
  obtain rfl := Option.some.inj h
  exact kinds_calls w
def cutDot (s : ByteArray) : ByteArray × ByteArray × Bool :=
  let i := s.data.toList.findIdx (· == 46)
  if i < s.size then (s.extract 0 i, s.extract (i + 1) s.size, true) else (s, ⟨#[]⟩, false)
def strings_Cut.f (s sep : ByteArray) : Option (ByteArray × ByteArray × Bool) := if sep.data.toList = [46] ∧ s.size ≤ 4294967296 then some (cutDot s) else none
theorem indexByte_findIdx (l : List UInt8) (c : UInt8) : Lib.indexByte l c = if l.findIdx (· == c) < l.length then ((l.findIdx (· == c) : Nat) : Int) else -1 := by
  induction l with
  | nil => rfl
  | cons b l ih =>
    unfold Lib.indexByte
    rw [List.findIdx_cons, List.length_cons]
    by_cases hb : b = c
    · subst hb
      rw [beq_self_eq_true, if_pos rfl, cond_true, if_pos (by omega)]; rfl
    · have hb2 : (b == c) = false := by simp [hb]
      rw [hb2, cond_false, if_neg (by decide)]
      by_cases h : l.findIdx (· == c) < l.length
      · have e1 : Lib.indexByte l c = ((l.findIdx (· == c) : Nat) : Int) := by rw [ih, if_pos h]
        have e2 : ¬ ((((l.findIdx (· == c) : Nat) : Int) == -1) = true) := by rw [beq_iff_eq]; omega
        rw [e1, if_neg e2, if_pos (by omega)]
        rfl
      · have e1 : Lib.indexByte l c = -1 := by rw [ih, if_neg h]
        rw [e1, if_neg (show ¬ (l.findIdx (· == c) + 1 < l.length + 1) by omega)]
        rfl
theorem strings_Cut.calls (a0 a1 : ByteArray) (r1 r2 : ByteArray) (r3 : Bool) (w : World) (h : strings_Cut.f a0 a1 = some (r1, r2, r3)) :
    Calls Tryd.prog 123 #[.string a0, .string a1] w fun e w' => e = .returned (.tuple #[.string r1, .string r2, .bool r3]) ∧ Below w.heap.size w w' := by
  unfold strings_Cut.f at h
  split at h
  · rename_i h1
    obtain ⟨h1, h2⟩ := h1
    obtain rfl : a1 = ⟨#[46]⟩ := by
      cases a1 with
      | mk d => cases d; simp at h1; subst h1; rfl
    have h3 := Option.some.inj h
    unfold cutDot at h3
    have hi := indexByte_findIdx a0.data.toList 46
    have hl : a0.data.toList.length = a0.size := rfl
    dsimp only at h3
    split at h3
    · rename_i h4
      rw [if_pos (by rw [hl]; exact h4)] at hi
      simp only [Prod.mk.injEq] at h3
      obtain ⟨rfl, rfl, rfl⟩ := h3
      exact (cut123_any _ w _ _ _ (fun w => cut140_some a0 w _ hi (by omega) (by omega))).mono fun e w' hh => ⟨hh.1, hh.2.below⟩
    · rename_i h4
      rw [if_neg (by rw [hl]; exact h4)] at hi
      simp only [Prod.mk.injEq] at h3
      obtain ⟨rfl, rfl, rfl⟩ := h3
      exact (cut123_any _ w _ _ _ (fun w => cut140_none a0 w hi)).mono fun e w' hh => ⟨hh.1, hh.2.below⟩
  · cases h
def digitsVal (l : List UInt8) : Nat := l.foldl (fun n c => n * 10 + (c.toNat - 48)) 0
def strconv_ParseInt.f (s : ByteArray) (base bits : Int) : Option (Int × Value) :=
  if base = 10 ∧ bits = 64 ∧ 1 ≤ s.size ∧ s.size ≤ 18 ∧ s.data.toList.all (fun c => 48 ≤ c.toNat && c.toNat ≤ 57) = true then some ((digitsVal s.data.toList : Int), .nilIface) else none
theorem parseUintM_digits (M : Nat) (hM : 10 ^ 18 ≤ M) : ∀ (l : List UInt8) (acc k : Nat), l.all (fun c => 48 ≤ c.toNat && c.toNat ≤ 57) = true → acc < 10 ^ k → k + l.length ≤ 18 →
    Lib.parseUintM M acc l = .ok (l.foldl (fun n c => n * 10 + (c.toNat - 48)) acc) ∧ l.foldl (fun n c => n * 10 + (c.toNat - 48)) acc < 10 ^ 18
  | [], acc, k, _, ha, hk => ⟨rfl, Nat.lt_of_lt_of_le ha (Nat.pow_le_pow_right (by omega) (by simpa using hk))⟩
  | c :: l, acc, k, hd, ha, hk => by
    simp only [List.all_cons, Bool.and_eq_true, decide_eq_true_eq] at hd
    have hp : 10 ^ (k + 1) ≤ 10 ^ 18 := Nat.pow_le_pow_right (by omega) (by simp at hk; omega)
    have he : 10 ^ (k + 1) = 10 ^ k * 10 := Nat.pow_succ ..
    have hlt : acc * 10 + (c.toNat - 48) < 10 ^ (k + 1) := by omega
    unfold Lib.parseUintM
    rw [if_pos hd.1, if_neg (by omega), if_neg (by omega)]
    exact parseUintM_digits M hM l _ (k + 1) hd.2 hlt (by simp at hk; omega)
theorem strconv_ParseInt.calls (a0 : ByteArray) (a1 a2 : Int) (r1 : Int) (r2 : Value) (w : World) (h : strconv_ParseInt.f a0 a1 a2 = some (r1, r2)) :
    Calls Tryd.prog 124 #[.string a0, .int .i64 a1, .int .i64 a2] w fun e w' => e = .returned (.tuple #[.int .i64 r1, r2]) ∧ Below w.heap.size w w' := by
  unfold strconv_ParseInt.f at h
  split at h
  · rename_i h1
    obtain ⟨rfl, rfl, h2, h3, h4⟩ := h1
    simp only [Option.some.injEq, Prod.mk.injEq] at h
    obtain ⟨rfl, rfl⟩ := h
    have hl : a0.data.toList.length = a0.size := rfl
    have hok : Lib.parseIntB 64 a0.data.toList = .ok (digitsVal a0.data.toList : Int) := by
      cases e : a0.data.toList with
      | nil => rw [e] at hl; simp at hl; omega
      | cons c l =>
        rw [e] at h4 hl
        obtain ⟨g1, g2⟩ := parseUintM_digits (2 ^ 64 - 1) (by decide) (c :: l) 0 0 h4 (by omega) (by omega)
        have hc : 48 ≤ c.toNat ∧ c.toNat ≤ 57 := by
          simp only [List.all_cons, Bool.and_eq_true, decide_eq_true_eq] at h4
          exact h4.1
        unfold Lib.parseIntB
        dsimp only
        rw [if_neg (by omega)]
        unfold Lib.parseUintB
        rw [if_neg (by simp), g1]
        dsimp only
        have hn : ¬ (c.toNat = 45) := by omega
        rw [if_neg (by have : (10 : Nat) ^ 18 ≤ 2 ^ (64 - 1) := by decide
                       omega), if_neg (by omega), if_neg hn]
        rfl
    refine (Tryd.strconv_ParseInt_10_at64_ok a0 (by omega) _ hok w).mono fun e w' hh => ⟨hh.1, ?_⟩
    rcases hh.2 with rfl | ⟨t, rfl⟩
    · exact Below.refl _ _
    · exact Joins.below_bytesWorld _ _ _ _ (Nat.le_refl _)
  · cases h
end Go.Proofs.YtkifdadhojbohaaDoor
