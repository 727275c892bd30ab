/- Joined out of the texts of this proof that bear the names Shelf GivA: what each shows stands over it there. -/
import Derived.Test.YtkifdadhojbohaaGreatDoorEW1
import Derived.Shelf.Strings.Builder1
import Derived.Shelf.Strings.Trim
import Derived.Shelf.Small.Utf8
import Derived.Shelf.Small.Strs
import Derived.Shelf.Strconv.Itoa0
import Derived.Shelf.Strconv.Itoa1
import Derived.Shelf.LaysM
import Derived.Shelf.Strconv.Itoa2
import Derived.Shelf.Strconv.Itoa3
import Derived.Shelf.Strconv.Itoa4
import Derived.Shelf.Strconv.ParseIntEmpty
import Derived.Shelf.Strconv.Clone
import Derived.Shelf.Strconv.SyntaxError
import Derived.Shelf.LaysC
import Derived.Shelf.Strconv.ToError
import Derived.Shelf.Strconv.Lower
import Derived.Shelf.Strconv.ParseUint10
import Derived.Shelf.Strconv.ParseUint10Empty
import Derived.Shelf.Strconv.ParseUint10Any
import Derived.Shelf.Strconv.ParseInt10
import Derived.Shelf.Strconv.RangeError
import Derived.Shelf.Strconv.ToErrorRange
import Derived.Shelf.Strconv.ParseUintEmpty
import Derived.Shelf.Strconv.ParseUint10b64
import Derived.Shelf.Strconv.ParseUint10b32
import Derived.Shelf.Strconv.ParseUint10b16
import Derived.Shelf.Strconv.ParseUint10b8
import Derived.Shelf.Strconv.ParseUint10At
import Derived.Shelf.Strconv.ParseInt10At64
import Derived.Shelf.Strconv.ParseInt10At32
import Derived.Shelf.Strconv.ParseInt10At16
import Derived.Shelf.Strconv.ParseInt10At8
import Derived.Shelf.Strconv.ParseInt10All
import Derived.Shelf.Strconv.ParseIntPublic10
import Derived.Shelf.Strings.Search1
import Derived.Shelf.Strings.Search2
import Derived.Shelf.Strings.Search3
import Derived.Shelf.Strings.Cut
import Derived.Shelf.Strings.Shaped
import Derived.Shelf.Unicode.Decode
import Derived.Shelf.Strings.Runes
import Derived.Shelf.Strings.AsciiSet
import Derived.Shelf.Unicode.DecodeSlow
import Derived.Shelf.Unicode.DecodeAny
import Derived.Shelf.Unicode.DecodeLast
import Derived.Test.YtkifdadhojbohaaGreatDoorProg
import Derived.Laws.Tables
import Derived.Laws.CopyOwn
import Derived.Deep.Light
import Derived.WalkSpells
import Derived.Deep.QuietTactic
import Derived.BigQuiet
import Derived.Lib.SmallJoins
set_option linter.unusedVariables false
set_option linter.unusedSimpArgs false
set_option maxHeartbeats 8000000
set_option maxRecDepth 100000
namespace Go.Proofs
open Go.Shelf
def Tryz.lays162_ren : Go.Shelf.Ren := ⟨fun | 162 => 63 | 232 => 76 | 227 => 77 | 234 => 78 | 236 => 79 | 228 => 96 | 271 => 97 | 151 => 98 | 120 => 113 | 197 => 114 | 152 => 115 | 260 => 122 | 137 => 103 | 119 => 123 | 224 => 106 | 225 => 105 | 217 => 104 | 266 => 118 | n => n, fun | 9 => 9 | 4 => 4 | 3 => 3 | 5 => 5 | 117 => 105 | 116 => 104 | 0 => 0 | 124 => 108 | 21 => 21 | 105 => 122 | 46 => 127 | 119 => 97 | 139 => 148 | 138 => 147 | n => n, fun | 3 => 4 | 4 => 5 | n => n⟩
theorem Tryz.lays162 : Go.Proofs.Lays.n162 Tryz.prog Tryz.lays162_ren := {
  mixed := by kernel_rfl
  f119 := Tryz.func123.trans (congrArg some (by kernel_rfl))
  f120 := Tryz.func113.trans (congrArg some (by kernel_rfl))
  f137 := Tryz.func103.trans (congrArg some (by kernel_rfl))
  f151 := Tryz.func98.trans (congrArg some (by kernel_rfl))
  f152 := Tryz.func115.trans (congrArg some (by kernel_rfl))
  f162 := Tryz.func63.trans (congrArg some (by kernel_rfl))
  f197 := Tryz.func114.trans (congrArg some (by kernel_rfl))
  f217 := Tryz.func104.trans (congrArg some (by kernel_rfl))
  f224 := Tryz.func106.trans (congrArg some (by kernel_rfl))
  f225 := Tryz.func105.trans (congrArg some (by kernel_rfl))
  f227 := Tryz.func77.trans (congrArg some (by kernel_rfl))
  f228 := Tryz.func96.trans (congrArg some (by kernel_rfl))
  f232 := Tryz.func76.trans (congrArg some (by kernel_rfl))
  f234 := Tryz.func78.trans (congrArg some (by kernel_rfl))
  f236 := Tryz.func79.trans (congrArg some (by kernel_rfl))
  f260 := Tryz.func122.trans (congrArg some (by kernel_rfl))
  f266 := Tryz.func118.trans (congrArg some (by kernel_rfl))
  f271 := Tryz.func97.trans (congrArg some (by kernel_rfl))
  t0 := Tryz.underlying0
  a0 := Tryz.isAgg0
  z0 := Tryz.sizeOf0
  v0 := Tryz.zeroValue0
  t3 := Tryz.underlying3
  a3 := Tryz.isAgg3
  z3 := Tryz.sizeOf3
  v3 := Tryz.zeroValue3
  t4 := Tryz.underlying4
  a4 := Tryz.isAgg4
  z4 := Tryz.sizeOf4
  v4 := Tryz.zeroValue4
  t5 := Tryz.underlying5
  a5 := Tryz.isAgg5
  z5 := Tryz.sizeOf5
  v5 := Tryz.zeroValue5
  t9 := Tryz.underlying9
  a9 := Tryz.isAgg9
  z9 := Tryz.sizeOf9
  v9 := Tryz.zeroValue9
  t21 := Tryz.underlying21
  a21 := Tryz.isAgg21
  z21 := Tryz.sizeOf21
  v21 := Tryz.zeroValue21
  t46 := Tryz.underlying127
  a46 := Tryz.isAgg127
  z46 := Tryz.sizeOf127
  v46 := Tryz.zeroValue127
  t105 := Tryz.underlying122
  a105 := Tryz.isAgg122
  z105 := Tryz.sizeOf122
  v105 := Tryz.zeroValue122
  t116 := Tryz.underlying104
  a116 := Tryz.isAgg104
  z116 := Tryz.sizeOf104
  t117 := Tryz.underlying105
  a117 := Tryz.isAgg105
  z117 := Tryz.sizeOf105
  v117 := Tryz.zeroValue105
  t119 := Tryz.underlying97
  a119 := Tryz.isAgg97
  z119 := Tryz.sizeOf97
  t124 := Tryz.underlying108
  a124 := Tryz.isAgg108
  z124 := Tryz.sizeOf108
  v124 := Tryz.zeroValue108
  t138 := Tryz.underlying147
  a138 := Tryz.isAgg147
  z138 := Tryz.sizeOf147
  v138 := Tryz.zeroValue147
  t139 := Tryz.underlying148
  a139 := Tryz.isAgg148
  z139 := Tryz.sizeOf148
  v139 := Tryz.zeroValue148
  g3 := by kernel_rfl
  g4 := by kernel_rfl }
open Go.RowKit in
theorem Tryz.strings_TrimRight_one (s : ByteArray) (c : UInt8) (hc : c.toNat < 128) (w : World) (hs : s.size ≤ 9223372036854775807) :
    Calls Tryz.prog 63 #[.string s, .string ⟨#[c]⟩] w fun e w' => e = .returned (.string ⟨(Lib.trimRightB s.data.toList c).toArray⟩) ∧ w' = w := Any.strings_TrimRight_one Tryz.lays162 s c hc w hs
def Tryz.lays137_ren : Go.Shelf.Ren := ⟨fun | 137 => 103 | 217 => 104 | 266 => 118 | n => n, fun | 9 => 9 | 5 => 5 | 3 => 3 | n => n, fun | n => n⟩
theorem Tryz.lays137 : Go.Proofs.Lays.n137 Tryz.prog Tryz.lays137_ren := {
  mixed := by kernel_rfl
  f137 := Tryz.func103.trans (congrArg some (by kernel_rfl))
  f217 := Tryz.func104.trans (congrArg some (by kernel_rfl))
  f266 := Tryz.func118.trans (congrArg some (by kernel_rfl))
  t3 := Tryz.underlying3
  a3 := Tryz.isAgg3
  z3 := Tryz.sizeOf3
  v3 := Tryz.zeroValue3
  t5 := Tryz.underlying5
  a5 := Tryz.isAgg5
  z5 := Tryz.sizeOf5
  v5 := Tryz.zeroValue5
  t9 := Tryz.underlying9
  a9 := Tryz.isAgg9
  z9 := Tryz.sizeOf9
  v9 := Tryz.zeroValue9 }
open Go.RowKit in
theorem Tryz.strings_IndexByte (s : ByteArray) (c : Int) (w : World) :
    Calls Tryz.prog 103 #[.string s, .int .u8 c] w fun e w' => e = .returned (.int .i64 (Lib.indexByte s.data.toList c.toNat.toUInt8)) ∧ w' = w := Any.strings_IndexByte Tryz.lays137 s c w
def Tryz.laysM173_ren : Go.Shelf.Ren := ⟨fun | 173 => 62 | 246 => 75 | 283 => 92 | 284 => 93 | 285 => 94 | 286 => 95 | 129 => 109 | 317 => 108 | 318 => 110 | 319 => 111 | 320 => 112 | 337 => 120 | 338 => 121 | n => n, fun | 2 => 2 | 3 => 3 | 9 => 9 | 4 => 4 | 171 => 116 | 0 => 0 | 53 => 117 | 37 => 53 | 5 => 5 | 173 => 120 | 212 => 129 | 51 => 130 | 20 => 20 | 213 => 131 | 46 => 127 | 232 => 144 | 233 => 145 | n => n, fun | 17 => 1 | 18 => 2 | 19 => 3 | n => n⟩
theorem Tryz.laysM173 : Go.Proofs.LaysM.n173 Tryz.prog Tryz.laysM173_ren := {
  mixed := by kernel_rfl
  f129 := Tryz.func109.trans (congrArg some (by kernel_rfl))
  f173 := Tryz.func62.trans (congrArg some (by kernel_rfl))
  f246 := Tryz.func75.trans (congrArg some (by kernel_rfl))
  f283 := Tryz.func92.trans (congrArg some (by kernel_rfl))
  f284 := Tryz.func93.trans (congrArg some (by kernel_rfl))
  f285 := Tryz.func94.trans (congrArg some (by kernel_rfl))
  f286 := Tryz.func95.trans (congrArg some (by kernel_rfl))
  f317 := Tryz.func108.trans (congrArg some (by kernel_rfl))
  f318 := Tryz.func110.trans (congrArg some (by kernel_rfl))
  f319 := Tryz.func111.trans (congrArg some (by kernel_rfl))
  f320 := Tryz.func112.trans (congrArg some (by kernel_rfl))
  f337 := Tryz.func120.trans (congrArg some (by kernel_rfl))
  f338 := Tryz.func121.trans (congrArg some (by kernel_rfl))
  t0 := Tryz.underlying0
  a0 := Tryz.isAgg0
  z0 := Tryz.sizeOf0
  v0 := Tryz.zeroValue0
  t2 := Tryz.underlying2
  a2 := Tryz.isAgg2
  z2 := Tryz.sizeOf2
  v2 := Tryz.zeroValue2
  t3 := Tryz.underlying3
  a3 := Tryz.isAgg3
  z3 := Tryz.sizeOf3
  v3 := Tryz.zeroValue3
  t4 := Tryz.underlying4
  a4 := Tryz.isAgg4
  z4 := Tryz.sizeOf4
  v4 := Tryz.zeroValue4
  t5 := Tryz.underlying5
  a5 := Tryz.isAgg5
  z5 := Tryz.sizeOf5
  v5 := Tryz.zeroValue5
  t9 := Tryz.underlying9
  a9 := Tryz.isAgg9
  z9 := Tryz.sizeOf9
  v9 := Tryz.zeroValue9
  t20 := Tryz.underlying20
  a20 := Tryz.isAgg20
  z20 := Tryz.sizeOf20
  v20 := Tryz.zeroValue20
  t37 := Tryz.underlying53
  a37 := Tryz.isAgg53
  z37 := Tryz.sizeOf53
  v37 := Tryz.zeroValue53
  t46 := Tryz.underlying127
  a46 := Tryz.isAgg127
  z46 := Tryz.sizeOf127
  v46 := Tryz.zeroValue127
  t51 := Tryz.underlying130
  a51 := Tryz.isAgg130
  z51 := Tryz.sizeOf130
  v51 := Tryz.zeroValue130
  t53 := Tryz.underlying117
  a53 := Tryz.isAgg117
  z53 := Tryz.sizeOf117
  v53 := Tryz.zeroValue117
  t171 := Tryz.underlying116
  a171 := Tryz.isAgg116
  z171 := Tryz.sizeOf116
  v171 := Tryz.zeroValue116
  t173 := Tryz.underlying120
  a173 := Tryz.isAgg120
  z173 := Tryz.sizeOf120
  v173 := Tryz.zeroValue120
  t212 := Tryz.underlying129
  a212 := Tryz.isAgg129
  z212 := Tryz.sizeOf129
  v212 := Tryz.zeroValue129
  t213 := Tryz.underlying131
  a213 := Tryz.isAgg131
  z213 := Tryz.sizeOf131
  t232 := Tryz.underlying144
  a232 := Tryz.isAgg144
  z232 := Tryz.sizeOf144
  v232 := Tryz.zeroValue144
  t233 := Tryz.underlying145
  a233 := Tryz.isAgg145
  z233 := Tryz.sizeOf145
  v233 := Tryz.zeroValue145
  g17 := by kernel_rfl
  g18 := by kernel_rfl
  g19 := by kernel_rfl
  i0 := by kernel_rfl
  i2 := by kernel_rfl
  i3 := by kernel_rfl
  i4 := by kernel_rfl
  i5 := by kernel_rfl
  i9 := by kernel_rfl
  i20 := by kernel_rfl
  i37 := by kernel_rfl
  i46 := by kernel_rfl
  i51 := by kernel_rfl
  i53 := by kernel_rfl
  i171 := by kernel_rfl
  i173 := by kernel_rfl
  i212 := by kernel_rfl
  i232 := by kernel_rfl
  i233 := by kernel_rfl
  m17 := by kernel_rfl
  m18 := by kernel_rfl
  m19 := by kernel_rfl }
open Go.RowKit Go.Sort Go.Lib in
theorem Tryz.strconv_FormatInt_10 (n : Int) (h0 : -9223372036854775808 ≤ n) (h1 : n ≤ 9223372036854775807) (w : World) (htab : Lib.TabIs Tryz.prog w "internal/strconv.uint64pow10" .u64 Lib.pow10Tab) :
    Calls Tryz.prog 62 #[.int .i64 n, .int .i64 10] w fun e w' => e = .returned (.string ⟨(Lib.itoa n).toArray⟩) ∧ ∃ k os, w' = grow (w.drewN k) os := Any.strconv_FormatInt_10 Tryz.laysM173 n h0 h1 w htab
def Tryz.laysC174_ren : Go.Shelf.Ren := ⟨fun | 174 => 117 | 247 => 125 | 245 => 126 | 287 => 127 | 279 => 128 | 280 => 129 | 281 => 130 | 282 => 131 | 321 => 132 | 322 => 133 | 316 => 134 | 171 => 136 | 205 => 135 | 243 => 137 | 246 => 75 | 283 => 92 | 284 => 93 | 285 => 94 | 286 => 95 | 129 => 109 | 317 => 108 | 318 => 110 | 319 => 111 | 320 => 112 | 337 => 120 | 338 => 121 | n => n, fun | 9 => 9 | 3 => 3 | 2 => 2 | 75 => 68 | 85 => 137 | 4 => 4 | 167 => 149 | 5 => 5 | 53 => 117 | 175 => 150 | 46 => 127 | 168 => 152 | 37 => 53 | 0 => 0 | 210 => 158 | 21 => 21 | 127 => 76 | 145 => 162 | 143 => 160 | 171 => 116 | 173 => 120 | 212 => 129 | 51 => 130 | 20 => 20 | 213 => 131 | 232 => 144 | 233 => 145 | 80 => 58 | n => n, fun | 15 => 6 | 16 => 7 | 17 => 1 | 18 => 2 | 19 => 3 | n => n⟩
theorem Tryz.laysC174 : Go.Proofs.LaysC.n174 Tryz.prog Tryz.laysC174_ren := {
  mixed := by kernel_rfl
  f129 := Tryz.func109.trans (congrArg some (by kernel_rfl))
  f171 := Tryz.func136.trans (congrArg some (by kernel_rfl))
  f174 := Tryz.func117.trans (congrArg some (by kernel_rfl))
  f205 := Tryz.func135.trans (congrArg some (by kernel_rfl))
  f243 := Tryz.func137.trans (congrArg some (by kernel_rfl))
  f245 := Tryz.func126.trans (congrArg some (by kernel_rfl))
  f246 := Tryz.func75.trans (congrArg some (by kernel_rfl))
  f247 := Tryz.func125.trans (congrArg some (by kernel_rfl))
  f279 := Tryz.func128.trans (congrArg some (by kernel_rfl))
  f280 := Tryz.func129.trans (congrArg some (by kernel_rfl))
  f281 := Tryz.func130.trans (congrArg some (by kernel_rfl))
  f282 := Tryz.func131.trans (congrArg some (by kernel_rfl))
  f283 := Tryz.func92.trans (congrArg some (by kernel_rfl))
  f284 := Tryz.func93.trans (congrArg some (by kernel_rfl))
  f285 := Tryz.func94.trans (congrArg some (by kernel_rfl))
  f286 := Tryz.func95.trans (congrArg some (by kernel_rfl))
  f287 := Tryz.func127.trans (congrArg some (by kernel_rfl))
  f316 := Tryz.func134.trans (congrArg some (by kernel_rfl))
  f317 := Tryz.func108.trans (congrArg some (by kernel_rfl))
  f318 := Tryz.func110.trans (congrArg some (by kernel_rfl))
  f319 := Tryz.func111.trans (congrArg some (by kernel_rfl))
  f320 := Tryz.func112.trans (congrArg some (by kernel_rfl))
  f321 := Tryz.func132.trans (congrArg some (by kernel_rfl))
  f322 := Tryz.func133.trans (congrArg some (by kernel_rfl))
  f337 := Tryz.func120.trans (congrArg some (by kernel_rfl))
  f338 := Tryz.func121.trans (congrArg some (by kernel_rfl))
  t0 := Tryz.underlying0
  a0 := Tryz.isAgg0
  z0 := Tryz.sizeOf0
  v0 := Tryz.zeroValue0
  t2 := Tryz.underlying2
  a2 := Tryz.isAgg2
  z2 := Tryz.sizeOf2
  v2 := Tryz.zeroValue2
  t3 := Tryz.underlying3
  a3 := Tryz.isAgg3
  z3 := Tryz.sizeOf3
  v3 := Tryz.zeroValue3
  t4 := Tryz.underlying4
  a4 := Tryz.isAgg4
  z4 := Tryz.sizeOf4
  v4 := Tryz.zeroValue4
  t5 := Tryz.underlying5
  a5 := Tryz.isAgg5
  z5 := Tryz.sizeOf5
  v5 := Tryz.zeroValue5
  t9 := Tryz.underlying9
  a9 := Tryz.isAgg9
  z9 := Tryz.sizeOf9
  v9 := Tryz.zeroValue9
  t20 := Tryz.underlying20
  a20 := Tryz.isAgg20
  z20 := Tryz.sizeOf20
  v20 := Tryz.zeroValue20
  t21 := Tryz.underlying21
  a21 := Tryz.isAgg21
  z21 := Tryz.sizeOf21
  v21 := Tryz.zeroValue21
  t37 := Tryz.underlying53
  a37 := Tryz.isAgg53
  z37 := Tryz.sizeOf53
  v37 := Tryz.zeroValue53
  t46 := Tryz.underlying127
  a46 := Tryz.isAgg127
  z46 := Tryz.sizeOf127
  v46 := Tryz.zeroValue127
  t51 := Tryz.underlying130
  a51 := Tryz.isAgg130
  z51 := Tryz.sizeOf130
  v51 := Tryz.zeroValue130
  t53 := Tryz.underlying117
  a53 := Tryz.isAgg117
  z53 := Tryz.sizeOf117
  v53 := Tryz.zeroValue117
  t75 := Tryz.underlying68
  a75 := Tryz.isAgg68
  z75 := Tryz.sizeOf68
  v75 := Tryz.zeroValue68
  t85 := Tryz.underlying137
  a85 := Tryz.isAgg137
  z85 := Tryz.sizeOf137
  v85 := Tryz.zeroValue137
  t127 := Tryz.underlying76
  a127 := Tryz.isAgg76
  z127 := Tryz.sizeOf76
  v127 := Tryz.zeroValue76
  t143 := Tryz.underlying160
  a143 := Tryz.isAgg160
  z143 := Tryz.sizeOf160
  v143 := Tryz.zeroValue160
  t145 := Tryz.underlying162
  a145 := Tryz.isAgg162
  z145 := Tryz.sizeOf162
  v145 := Tryz.zeroValue162
  t167 := Tryz.underlying149
  a167 := Tryz.isAgg149
  z167 := Tryz.sizeOf149
  v167 := Tryz.zeroValue149
  t168 := Tryz.underlying152
  a168 := Tryz.isAgg152
  z168 := Tryz.sizeOf152
  v168 := Tryz.zeroValue152
  t171 := Tryz.underlying116
  a171 := Tryz.isAgg116
  z171 := Tryz.sizeOf116
  v171 := Tryz.zeroValue116
  t173 := Tryz.underlying120
  a173 := Tryz.isAgg120
  z173 := Tryz.sizeOf120
  v173 := Tryz.zeroValue120
  t175 := Tryz.underlying150
  a175 := Tryz.isAgg150
  z175 := Tryz.sizeOf150
  v175 := Tryz.zeroValue150
  t210 := Tryz.underlying158
  a210 := Tryz.isAgg158
  z210 := Tryz.sizeOf158
  v210 := Tryz.zeroValue158
  t212 := Tryz.underlying129
  a212 := Tryz.isAgg129
  z212 := Tryz.sizeOf129
  v212 := Tryz.zeroValue129
  t213 := Tryz.underlying131
  a213 := Tryz.isAgg131
  z213 := Tryz.sizeOf131
  t232 := Tryz.underlying144
  a232 := Tryz.isAgg144
  z232 := Tryz.sizeOf144
  v232 := Tryz.zeroValue144
  t233 := Tryz.underlying145
  a233 := Tryz.isAgg145
  z233 := Tryz.sizeOf145
  v233 := Tryz.zeroValue145
  g15 := by kernel_rfl
  g16 := by kernel_rfl
  g17 := by kernel_rfl
  g18 := by kernel_rfl
  g19 := by kernel_rfl
  t80 := Tryz.underlying58
  a80 := Tryz.isAgg58
  z80 := Tryz.sizeOf58
  v80 := Tryz.zeroValue58
  i0 := by kernel_rfl
  i2 := by kernel_rfl
  i3 := by kernel_rfl
  i4 := by kernel_rfl
  i5 := by kernel_rfl
  i9 := by kernel_rfl
  i20 := by kernel_rfl
  i21 := by kernel_rfl
  i37 := by kernel_rfl
  i46 := by kernel_rfl
  i51 := by kernel_rfl
  i53 := by kernel_rfl
  i75 := by kernel_rfl
  i80 := by kernel_rfl
  i85 := by kernel_rfl
  i127 := by kernel_rfl
  i143 := by kernel_rfl
  i145 := by kernel_rfl
  i167 := by kernel_rfl
  i168 := by kernel_rfl
  i171 := by kernel_rfl
  i173 := by kernel_rfl
  i175 := by kernel_rfl
  i210 := by kernel_rfl
  i212 := by kernel_rfl
  i232 := by kernel_rfl
  i233 := by kernel_rfl
  m15 := by kernel_rfl
  m16 := by kernel_rfl
  m17 := by kernel_rfl
  m18 := by kernel_rfl
  m19 := by kernel_rfl
  c0 := by kernel_rfl
  c2 := by kernel_rfl
  c3 := by kernel_rfl
  c4 := by kernel_rfl
  c5 := by kernel_rfl
  c9 := by kernel_rfl
  c20 := by kernel_rfl
  c21 := by kernel_rfl
  c37 := by kernel_rfl
  c46 := by kernel_rfl
  c51 := by kernel_rfl
  c53 := by kernel_rfl
  c75 := by kernel_rfl
  c80 := by kernel_rfl
  c85 := by kernel_rfl
  c127 := by kernel_rfl
  c143 := by kernel_rfl
  c145 := by kernel_rfl
  c167 := by kernel_rfl
  c168 := by kernel_rfl
  c171 := by kernel_rfl
  c173 := by kernel_rfl
  c175 := by kernel_rfl
  c210 := by kernel_rfl
  c212 := by kernel_rfl
  c213 := by kernel_rfl
  c232 := by kernel_rfl
  c233 := by kernel_rfl }
open Go.RowKit in
theorem Tryz.strconv_ParseInt_10_at64_ok (s : ByteArray) (hmax : s.size ≤ 9223372036854775806) (v : Int) (h : Lib.parseIntB 64 s.data.toList = .ok v) (w : World) :
    Calls Tryz.prog 117 #[.string s, .int .i64 10, .int .i64 64] w fun e w' => e = .returned (.tuple #[.int .i64 v, .nilIface]) ∧ (w' = w ∨ ∃ t, w' = Lib.bytesWorld w 5 t) := Any.strconv_ParseInt_10_at64_ok Tryz.laysC174 s hmax v h w
def Tryz.lays219_ren : Go.Shelf.Ren := ⟨fun | 219 => 91 | 217 => 104 | 225 => 105 | 224 => 106 | 267 => 107 | 266 => 118 | 314 => 119 | n => n, fun | 9 => 9 | 3 => 3 | 4 => 4 | 5 => 5 | 46 => 127 | 146 => 139 | 51 => 130 | n => n, fun | 1 => 0 | n => n⟩
theorem Tryz.lays219 : Go.Proofs.Lays.n219 Tryz.prog Tryz.lays219_ren := {
  mixed := by kernel_rfl
  f217 := Tryz.func104.trans (congrArg some (by kernel_rfl))
  f219 := Tryz.func91.trans (congrArg some (by kernel_rfl))
  f224 := Tryz.func106.trans (congrArg some (by kernel_rfl))
  f225 := Tryz.func105.trans (congrArg some (by kernel_rfl))
  f266 := Tryz.func118.trans (congrArg some (by kernel_rfl))
  f267 := Tryz.func107.trans (congrArg some (by kernel_rfl))
  f314 := Tryz.func119.trans (congrArg some (by kernel_rfl))
  t3 := Tryz.underlying3
  a3 := Tryz.isAgg3
  z3 := Tryz.sizeOf3
  v3 := Tryz.zeroValue3
  t4 := Tryz.underlying4
  a4 := Tryz.isAgg4
  z4 := Tryz.sizeOf4
  v4 := Tryz.zeroValue4
  t5 := Tryz.underlying5
  a5 := Tryz.isAgg5
  z5 := Tryz.sizeOf5
  v5 := Tryz.zeroValue5
  t9 := Tryz.underlying9
  a9 := Tryz.isAgg9
  z9 := Tryz.sizeOf9
  v9 := Tryz.zeroValue9
  t46 := Tryz.underlying127
  a46 := Tryz.isAgg127
  z46 := Tryz.sizeOf127
  v46 := Tryz.zeroValue127
  t51 := Tryz.underlying130
  a51 := Tryz.isAgg130
  z51 := Tryz.sizeOf130
  v51 := Tryz.zeroValue130
  t146 := Tryz.underlying139
  a146 := Tryz.isAgg139
  z146 := Tryz.sizeOf139
  v146 := Tryz.zeroValue139
  g1 := by kernel_rfl }
open Go.RowKit Go.Lib in
theorem Tryz.stringslite_Index_one (s : ByteArray) (c : UInt8) (w : World) :
    Calls Tryz.prog 91 #[.string s, .string ⟨#[c]⟩] w fun e w' => e = .returned (.int .i64 (Lib.indexByte s.data.toList c)) ∧ w' = w := Any.stringslite_Index_one Tryz.lays219 s c w
def Tryz.lays144_ren : Go.Shelf.Ren := ⟨fun | 144 => 61 | 143 => 74 | 219 => 91 | 217 => 104 | 225 => 105 | 224 => 106 | 267 => 107 | 266 => 118 | 314 => 119 | n => n, fun | 9 => 9 | 4 => 4 | 3 => 3 | 5 => 5 | 46 => 127 | 146 => 139 | 51 => 130 | n => n, fun | 1 => 0 | n => n⟩
theorem Tryz.lays144 : Go.Proofs.Lays.n144 Tryz.prog Tryz.lays144_ren := {
  mixed := by kernel_rfl
  f143 := Tryz.func74.trans (congrArg some (by kernel_rfl))
  f144 := Tryz.func61.trans (congrArg some (by kernel_rfl))
  f217 := Tryz.func104.trans (congrArg some (by kernel_rfl))
  f219 := Tryz.func91.trans (congrArg some (by kernel_rfl))
  f224 := Tryz.func106.trans (congrArg some (by kernel_rfl))
  f225 := Tryz.func105.trans (congrArg some (by kernel_rfl))
  f266 := Tryz.func118.trans (congrArg some (by kernel_rfl))
  f267 := Tryz.func107.trans (congrArg some (by kernel_rfl))
  f314 := Tryz.func119.trans (congrArg some (by kernel_rfl))
  t3 := Tryz.underlying3
  a3 := Tryz.isAgg3
  z3 := Tryz.sizeOf3
  v3 := Tryz.zeroValue3
  t4 := Tryz.underlying4
  a4 := Tryz.isAgg4
  z4 := Tryz.sizeOf4
  v4 := Tryz.zeroValue4
  t5 := Tryz.underlying5
  a5 := Tryz.isAgg5
  z5 := Tryz.sizeOf5
  v5 := Tryz.zeroValue5
  t9 := Tryz.underlying9
  a9 := Tryz.isAgg9
  z9 := Tryz.sizeOf9
  v9 := Tryz.zeroValue9
  t46 := Tryz.underlying127
  a46 := Tryz.isAgg127
  z46 := Tryz.sizeOf127
  v46 := Tryz.zeroValue127
  t51 := Tryz.underlying130
  a51 := Tryz.isAgg130
  z51 := Tryz.sizeOf130
  v51 := Tryz.zeroValue130
  t146 := Tryz.underlying139
  a146 := Tryz.isAgg139
  z146 := Tryz.sizeOf139
  v146 := Tryz.zeroValue139
  g1 := by kernel_rfl }
open Go.RowKit Go.Lib in
theorem Tryz.strings_Contains_one (s : ByteArray) (c : UInt8) (w : World) :
    Calls Tryz.prog 61 #[.string s, .string ⟨#[c]⟩] w fun e w' => e = .returned (.bool (decide (0 ≤ Lib.indexByte s.data.toList c))) ∧ w' = w := Any.strings_Contains_one Tryz.lays144 s c w
end Go.Proofs
namespace Go.Proofs.YtkifdadhojbohaaGreatDoor
open Go.RowKit Go.Proofs.YtkifdadhojbohaaGreatDoorW.PrintWords Go.Proofs.YtkifdadhojbohaaGreatDoorW.PrintLast Go.Proofs.YtkifdadhojbohaaGreatDoorW.PrintMore
def kindOf (n : Nat) : Nat :=
  if n = 32 ∨ n = 9 ∨ n = 10 ∨ n = 13 then 1
  else if 97 ≤ n ∧ n ≤ 122 ∨ 65 ≤ n ∧ n ≤ 90 ∨ n = 95 then 2
  else if 48 ≤ n ∧ n ≤ 57 then 3
  else if n = 46 then 4
  else if n = 40 ∨ n = 41 ∨ n = 43 ∨ n = 45 ∨ n = 42 ∨ n = 47 ∨ n = 44 ∨ n = 61 ∨ n = 59 ∨ n = 123 ∨ n = 125 then 5
  else 0
def fV (k : Nat) : Array Value := ((List.range 256).map fun i => Value.int .u8 (if i < k then (kindOf i : Int) else 0)).toArray
theorem tabAt_set (k : Nat) (hk : k < 256) : (fV k).setIfInBounds k (.int .u8 (kindOf k : Int)) = fV (k + 1) := by
  apply Array.ext
  · simp [fV]
  · intro i h1 h2
    have h3 : i < 256 := by simpa [fV] using h2
    rw [Array.getElem_setIfInBounds (by simpa [fV] using h3)]
    simp only [fV, List.getElem_toArray, List.getElem_map, List.getElem_range]
    by_cases e : k = i
    · subst e; simp
    · rw [if_neg e]
      by_cases h : i < k
      · rw [if_pos h, if_pos (by omega)]
      · rw [if_neg h, if_neg (by omega)]
theorem tabAt_keep (k : Nat) (h0 : kindOf k = 0) : fV k = fV (k + 1) := by
  apply Array.ext
  · simp [fV]
  · intro i h1 h2
    simp only [fV, List.getElem_toArray, List.getElem_map, List.getElem_range]
    by_cases e : k = i
    · subst e; simp [h0]
    · by_cases h : i < k
      · rw [if_pos h, if_pos (by omega)]
      · rw [if_neg h, if_neg (by omega)]
theorem ix_iff (l : List UInt8) (k : Nat) : (0 ≤ Lib.indexByte l (UInt8.ofNat k)) ↔ (UInt8.ofNat k) ∈ l := by
  have h := Lib.contains_iff_indexByte l (UInt8.ofNat k)
  rw [Bool.eq_iff_iff] at h
  simpa using h.symm
theorem ix1 (k : Nat) (hk : k < 256) : (0 ≤ Lib.indexByte [32, 9, 10, 13] (UInt8.ofNat k)) ↔ (k = 32 ∨ k = 9 ∨ k = 10 ∨ k = 13) := by
  rw [ix_iff]
  simp only [List.mem_cons, List.not_mem_nil, or_false, ← UInt8.toNat_inj, UInt8.toNat_ofNat']
  rw [Nat.mod_eq_of_lt hk]; rfl
theorem ix2 (k : Nat) (hk : k < 256) : (0 ≤ Lib.indexByte [40, 41, 43, 45, 42, 47, 44, 61, 59, 123, 125] (UInt8.ofNat k)) ↔ (k = 40 ∨ k = 41 ∨ k = 43 ∨ k = 45 ∨ k = 42 ∨ k = 47 ∨ k = 44 ∨ k = 61 ∨ k = 59 ∨ k = 123 ∨ k = 125) := by
  rw [ix_iff]
  simp only [List.mem_cons, List.not_mem_nil, or_false, ← UInt8.toNat_inj, UInt8.toNat_ofNat']
  rw [Nat.mod_eq_of_lt hk]; rfl
theorem fin_store {w wr : World} {k g0 g1 : Nat} (x : Int) (B0 : af (wr.heap[g0]? = some (.cells (fV 0) 97 (0, 0)))) (B1 : af (wr.heap[g1]? = some (.cells (fV k) 97 (0, 0)))) (HB : af (Below w.heap.size w wr)) (HN : af (g0 ≠ g1)) (W1 : af (w.heap.size ≤ g1)) (hk : k < 256) (hv : (kindOf k : Int) = x) :
    af ((wr.setCell ⟨g1, k, none⟩ (.int .u8 x)).heap[g0]? = some (.cells (fV 0) 97 (0, 0))) ∧ af ((wr.setCell ⟨g1, k, none⟩ (.int .u8 x)).heap[g1]? = some (.cells (fV (k + 1)) 97 (0, 0))) ∧ af (Below w.heap.size w (wr.setCell ⟨g1, k, none⟩ (.int .u8 x))) := by
  subst hv
  refine ⟨⟨blk_far B0.1 HN.1 _⟩, ⟨?_⟩, ⟨HB.1.setCell W1.1 _⟩⟩
  rw [lD B1.1, tabAt_set k hk]
theorem fin_keep {w wr : World} {k g0 g1 : Nat} (B0 : af (wr.heap[g0]? = some (.cells (fV 0) 97 (0, 0)))) (B1 : af (wr.heap[g1]? = some (.cells (fV k) 97 (0, 0)))) (HB : af (Below w.heap.size w wr)) (hv : kindOf k = 0) :
    af (wr.heap[g0]? = some (.cells (fV 0) 97 (0, 0))) ∧ af (wr.heap[g1]? = some (.cells (fV (k + 1)) 97 (0, 0))) ∧ af (Below w.heap.size w wr) := by
  refine ⟨B0, ⟨?_⟩, HB⟩
  rw [B1.1, tabAt_keep k hv]
set_option maxHeartbeats 1000000 in
theorem table_calls (w : World) :
    Calls Tryz.prog 90 #[] w fun e w' => e = .returned (.agg (fV 256)) ∧ Below w.heap.size w w' := by
  have HB := af.mk (Below.refl w.heap.size w)
  go_enter Tryz.func90, Tryz.ntmps90
  go_wp2_with (first
    | ((with_reducible refine aA (N := 0) rfl ?_); refine eY ?hg (N := 0) ?hd (cs := fV 0) (t := 97) ?hr ?_; (case hd => rfl); (case hg => rfl); (case hr => kernel_rfl); intro g0 hg0 w1 hb0 hB0; clear HB; have HB := af.mk hB0; have B0 := af.mk hb0; have G0 := af.mk hg0; clear hg0 hb0 hB0)
    | ((with_reducible refine aA (N := 1) rfl ?_); refine eY ?hg (N := 1) ?hd (cs := fV 0) (t := 97) ?hr ?_; (case hd => rfl); (case hg => rfl); (case hr => kernel_rfl); intro g1 hg1 w2 hb1 hB1; have B1 := af.mk hb1; have G1 := af.mk hg1; have HB1 := af.mk hB1; clear hg1 hb1 hB1))
  have hs1 := gy B0.1
  have hne : g0 ≠ g1 := by rw [G1.1]; omega
  have HN := af.mk hne
  have HB' := af.mk (ah HB.1 HB1.1)
  have B0' := af.mk (aZ B0.1 HB1.1)
  have hG0 : w.heap.size ≤ g0 := by rw [G0.1]; exact Nat.le_refl _
  have hG1 : w.heap.size ≤ g1 := by rw [G1.1]; exact Nat.le_trans hG0 (by omega)
  have W0 := af.mk hG0
  have W1 := af.mk hG1
  clear hs1 hne hG0 hG1 HB HB1 B0 G0 G1
  go_loopw [4] (fun v4 wr => ∃ k : Nat, k ≤ 256 ∧ v4 = .int .i64 k ∧ af (wr.heap[g0]? = some (.cells (fV 0) 97 (0, 0))) ∧ af (wr.heap[g1]? = some (.cells (fV k) 97 (0, 0))) ∧ af (Below w.heap.size w wr)) (fun v4 _ => 256 - (intOf v4).toNat)
  case atStart => exact ⟨0, by omega, rfl, B0', B1, HB'⟩
  case round =>
    clear B0' B1 HB'
    obtain ⟨k, hk, rfl, B0, B1, HB⟩ := hrel
    by_cases hlt : k < 256
    · have hcell : wr.cell? ⟨g1, k, none⟩ = some (.int .u8 0) := by
        rw [ax B1.1]; simp [fV, hlt]
      have hfro := aC B1.1 k
      go_wp2_with (go_at_call 103; refine (Tryz.strings_IndexByte _ _ _).mono ?_; rintro e w' ⟨rfl, rfl⟩)
      all_goals
        go_roundw
        case measure => simp [intOf]; omega
        case rel =>
          have i1 := ix1 k hlt
          have i2 := ix2 k hlt
          clear hcell hfro
          go_light
          first
          | refine ⟨k + 1, by omega, by go_num, fin_store _ B0 B1 HB HN W1 hlt ?_⟩
          | refine ⟨k + 1, by omega, by go_num, fin_keep B0 B1 HB ?_⟩
          all_goals
            clear B0 B1 HB HN W1
            try simp only [beq_iff_eq, beq_eq_false_iff_ne, ne_eq] at *
            unfold kindOf
            (repeat' split) <;> first | rfl | omega
    · obtain rfl : k = 256 := by omega
      have e0 : (0 : Nat) < 1 := by omega
      go_wp2_with (first
        | refine wpList_load_row rfl 97 _ rfl g1 rfl 97 (fV 256) (0, 0) _ B1.1 Tryz.underlying97 rfl (by kernel_rfl) ?_
        | refine wpList_store_row rfl 97 _ _ rfl g0 (fV 256) rfl rfl 97 (fV 0) B0.1 (by kernel_rfl) (by kernel_rfl) (by kernel_rfl) ?_)
      exact bodyPost_ret (results_cell_row rfl _ _ g0 97 (fV 256) (0, 0) _ rfl (setRow_heap _ g0 (fV 0) _ 97 (0, 0) B0.1) Tryz.underlying97 rfl (by kernel_rfl)) rfl ⟨rfl, below_setRow HB.1 W0.1 _⟩
theorem kinds_calls (w : World) :
    Calls Tryz.prog 72 #[] w fun e w' => e = .returned (.agg (fV 256)) ∧ Below w.heap.size w w' := by
  have HB := af.mk (Below.refl w.heap.size w)
  go_enter Tryz.func72, Tryz.ntmps72
  go_wp2_with (first
    | ((with_reducible refine aA (N := 0) rfl ?_); refine eY ?hg (N := 0) ?hd (cs := fV 0) (t := 97) ?hr ?_; (case hd => rfl); (case hg => rfl); (case hr => kernel_rfl); intro g0 hg0 w1 hb0 hB0; clear HB; have HB := af.mk hB0; have B0 := af.mk hb0; have G0 := af.mk hg0; clear hg0 hb0 hB0)
    | (go_at_call 90; refine (table_calls _).mono ?_; rintro e w2 ⟨rfl, hb1⟩; have B0' := af.mk (aZ B0.1 hb1); have HB' := af.mk (ah HB.1 hb1); clear B0 HB hb1)
    | refine wpList_store_row rfl 97 _ _ rfl g0 (fV 256) rfl rfl 97 (fV 0) B0'.1 (by kernel_rfl) (by kernel_rfl) (by kernel_rfl) ?_)
  have W0 : w.heap.size ≤ g0 := by rw [G0.1]; exact Nat.le_refl _
  exact bodyPost_ret (results_cell_row rfl _ _ g0 97 (fV 256) (0, 0) _ rfl (setRow_heap _ g0 (fV 0) _ 97 (0, 0) B0'.1) Tryz.underlying97 rfl (by kernel_rfl)) rfl ⟨rfl, below_setRow HB'.1 W0 _⟩
set_option maxHeartbeats 1000000 in
theorem cut140_none (s : ByteArray) (w : World) (hn : Lib.indexByte s.data.toList 46 = -1) :
    Calls Tryz.prog 124 #[.string s, .string ⟨#[46]⟩] w fun e w' => e = .returned (.tuple #[.string s, .string ⟨#[]⟩, .bool false]) ∧ aK w w' := by
  have HN := af.mk hn
  clear hn
  go_enter Tryz.func124, Tryz.ntmps124
  go_wp2_with (go_at_call 91; refine (Tryz.stringslite_Index_one _ _ _).mono ?_; rintro e w' ⟨rfl, rfl⟩; rw [HN.1])
  go_ret3
  exact ⟨rfl, aK.refl _⟩
set_option maxHeartbeats 1000000 in
theorem cut140_some (s : ByteArray) (w : World) (n : Nat) (hn : Lib.indexByte s.data.toList 46 = (n : Int)) (hlt : n + 1 ≤ s.size) (hs : s.size ≤ 9223372036854775806) :
    Calls Tryz.prog 124 #[.string s, .string ⟨#[46]⟩] w fun e w' => e = .returned (.tuple #[.string (s.extract 0 n), .string (s.extract (n + 1) s.size), .bool true]) ∧ aK w w' := by
  have HN := af.mk hn
  clear hn
  go_enter Tryz.func124, Tryz.ntmps124
  go_wp2_with (go_at_call 91; refine (Tryz.stringslite_Index_one _ _ _).mono ?_; rintro e w' ⟨rfl, rfl⟩; rw [HN.1])
  go_quiet (fail)
  go_wp2
  go_ret3
  exact ⟨rfl, by repeat (first | exact aK.refl _ | apply aK.step)⟩
set_option maxHeartbeats 1000000 in
theorem cut123_any (s : ByteArray) (w : World) (a b : ByteArray) (c : Bool) (h : ∀ w : World, Calls Tryz.prog 124 #[.string s, .string ⟨#[46]⟩] w fun e w' => e = .returned (.tuple #[.string a, .string b, .bool c]) ∧ aK w w') :
    Calls Tryz.prog 116 #[.string s, .string ⟨#[46]⟩] w fun e w' => e = .returned (.tuple #[.string a, .string b, .bool c]) ∧ aK w w' := by
  have H := Lib.hid h
  clear h
  go_enter Tryz.func116, Tryz.ntmps116
  go_wp2_with (go_at_call 124; refine (H.out _).mono ?_; rintro e w' ⟨rfl, ⟨nd, rfl⟩⟩)
  go_ret3
  exact ⟨rfl, by repeat (first | exact aK.refl _ | apply aK.step)⟩
def aR.at_ (j : Int) : Int := (kindOf j.toNat : Int)
def aR.f : Option Value := some (.agg (fV 256))
theorem aR.at_run {r : Value} (h : aR.f = some r) (j : Int) (h0 : 0 ≤ j) (h1 : j < 256) :
    ∀ W : World, (Instr.index 97 r (.int .u8 j)).run Tryz.prog W = .ok (.int .u8 (aR.at_ j)) W := by
  intro W
  obtain rfl := Option.some.inj h
  obtain ⟨n, rfl⟩ := Int.eq_ofNat_of_zero_le h0
  have hn : n < 256 := by omega
  have hcell : (fV 256)[n]? = some (.int .u8 (kindOf n : Int)) := by
    simp [fV, hn]
  have hs : (Sem.run Tryz.prog (sizeOf 5) W) = .ok 1 W := by kernel_rfl
  have hp := run_part_plain (P := Tryz.prog) W (e := 5) (by kernel_rfl) (xs := fV 256) (off := n) hcell
  simp only [Instr.index, Sem.run_bind, asIntOf, run_underlying Tryz.underlying97, Sem.run_pure, Result.andThen_ok, aR.at_]
  rw [if_pos ⟨by omega, by omega⟩]
  simp only [Sem.run_bind, hs, Result.andThen_ok, Int.toNat_natCast, Nat.mul_one, hp]
theorem aR.calls (r : Value) (w : World) (h : aR.f = some r) :
    Calls Tryz.prog 72 #[] w fun e w' => e = .returned r ∧ Below w.heap.size w w' := by
  obtain rfl := Option.some.inj h
  exact kinds_calls w
def cutDot (s : ByteArray) : ByteArray × ByteArray × Bool :=
  let i := s.data.toList.findIdx (· == 46)
  if i < s.size then (s.extract 0 i, s.extract (i + 1) s.size, true) else (s, ⟨#[]⟩, false)
def strings_Cut.f (s sep : ByteArray) : Option (ByteArray × ByteArray × Bool) := if sep.data.toList = [46] ∧ s.size ≤ 4294967296 then some (cutDot s) else none
theorem kE (l : List UInt8) (c : UInt8) : Lib.indexByte l c = if l.findIdx (· == c) < l.length then ((l.findIdx (· == c) : Nat) : Int) else -1 := by
  induction l with
  | nil => rfl
  | cons b l ih =>
    unfold Lib.indexByte
    rw [List.findIdx_cons, List.length_cons]
    by_cases hb : b = c
    · subst hb
      rw [beq_self_eq_true, if_pos rfl, cond_true, if_pos (by omega)]; rfl
    · have hb2 : (b == c) = false := by simp [hb]
      rw [hb2, cond_false, if_neg (by decide)]
      by_cases h : l.findIdx (· == c) < l.length
      · have e1 : Lib.indexByte l c = ((l.findIdx (· == c) : Nat) : Int) := by rw [ih, if_pos h]
        have e2 : ¬ ((((l.findIdx (· == c) : Nat) : Int) == -1) = true) := by rw [beq_iff_eq]; omega
        rw [e1, if_neg e2, if_pos (by omega)]
        rfl
      · have e1 : Lib.indexByte l c = -1 := by rw [ih, if_neg h]
        rw [e1, if_neg (show ¬ (l.findIdx (· == c) + 1 < l.length + 1) by omega)]
        rfl
theorem strings_Cut.calls (a0 a1 : ByteArray) (r1 r2 : ByteArray) (r3 : Bool) (w : World) (h : strings_Cut.f a0 a1 = some (r1, r2, r3)) :
    Calls Tryz.prog 116 #[.string a0, .string a1] w fun e w' => e = .returned (.tuple #[.string r1, .string r2, .bool r3]) ∧ Below w.heap.size w w' := by
  unfold strings_Cut.f at h
  split at h
  · rename_i h1
    obtain ⟨h1, h2⟩ := h1
    obtain rfl : a1 = ⟨#[46]⟩ := by
      cases a1 with
      | mk d => cases d; simp at h1; subst h1; rfl
    have h3 := Option.some.inj h
    unfold cutDot at h3
    have hi := kE a0.data.toList 46
    have hl : a0.data.toList.length = a0.size := rfl
    dsimp only at h3
    split at h3
    · rename_i h4
      rw [if_pos (by rw [hl]; exact h4)] at hi
      simp only [Prod.mk.injEq] at h3
      obtain ⟨rfl, rfl, rfl⟩ := h3
      exact (cut123_any _ w _ _ _ (fun w => cut140_some a0 w _ hi (by omega) (by omega))).mono fun e w' hh => ⟨hh.1, hh.2.below⟩
    · rename_i h4
      rw [if_neg (by rw [hl]; exact h4)] at hi
      simp only [Prod.mk.injEq] at h3
      obtain ⟨rfl, rfl, rfl⟩ := h3
      exact (cut123_any _ w _ _ _ (fun w => cut140_none a0 w hi)).mono fun e w' hh => ⟨hh.1, hh.2.below⟩
  · cases h
def dQ (l : List UInt8) : Nat := l.foldl (fun n c => n * 10 + (c.toNat - 48)) 0
def dJ.f (s : ByteArray) (base bits : Int) : Option (Int × Value) :=
  if base = 10 ∧ bits = 64 ∧ 1 ≤ s.size ∧ s.size ≤ 18 ∧ s.data.toList.all (fun c => 48 ≤ c.toNat && c.toNat ≤ 57) = true then some ((dQ s.data.toList : Int), .nilIface) else none
theorem jd (M : Nat) (hM : 10 ^ 18 ≤ M) : ∀ (l : List UInt8) (acc k : Nat), l.all (fun c => 48 ≤ c.toNat && c.toNat ≤ 57) = true → acc < 10 ^ k → k + l.length ≤ 18 →
    Lib.parseUintM M acc l = .ok (l.foldl (fun n c => n * 10 + (c.toNat - 48)) acc) ∧ l.foldl (fun n c => n * 10 + (c.toNat - 48)) acc < 10 ^ 18
  | [], acc, k, _, ha, hk => ⟨rfl, Nat.lt_of_lt_of_le ha (Nat.pow_le_pow_right (by omega) (by simpa using hk))⟩
  | c :: l, acc, k, hd, ha, hk => by
    simp only [List.all_cons, Bool.and_eq_true, decide_eq_true_eq] at hd
    have hp : 10 ^ (k + 1) ≤ 10 ^ 18 := Nat.pow_le_pow_right (by omega) (by simp at hk; omega)
    have he : 10 ^ (k + 1) = 10 ^ k * 10 := Nat.pow_succ ..
    have hlt : acc * 10 + (c.toNat - 48) < 10 ^ (k + 1) := by omega
    unfold Lib.parseUintM
    rw [if_pos hd.1, if_neg (by omega), if_neg (by omega)]
    exact jd M hM l _ (k + 1) hd.2 hlt (by simp at hk; omega)
theorem dJ.calls (a0 : ByteArray) (a1 a2 : Int) (r1 : Int) (r2 : Value) (w : World) (h : dJ.f a0 a1 a2 = some (r1, r2)) :
    Calls Tryz.prog 117 #[.string a0, .int .i64 a1, .int .i64 a2] w fun e w' => e = .returned (.tuple #[.int .i64 r1, r2]) ∧ Below w.heap.size w w' := by
  unfold dJ.f at h
  split at h
  · rename_i h1
    obtain ⟨rfl, rfl, h2, h3, h4⟩ := h1
    simp only [Option.some.injEq, Prod.mk.injEq] at h
    obtain ⟨rfl, rfl⟩ := h
    have hl : a0.data.toList.length = a0.size := rfl
    have hok : Lib.parseIntB 64 a0.data.toList = .ok (dQ a0.data.toList : Int) := by
      cases e : a0.data.toList with
      | nil => rw [e] at hl; simp at hl; omega
      | cons c l =>
        rw [e] at h4 hl
        obtain ⟨g1, g2⟩ := jd (2 ^ 64 - 1) (by decide) (c :: l) 0 0 h4 (by omega) (by omega)
        have hc : 48 ≤ c.toNat ∧ c.toNat ≤ 57 := by
          simp only [List.all_cons, Bool.and_eq_true, decide_eq_true_eq] at h4
          exact h4.1
        unfold Lib.parseIntB
        dsimp only
        rw [if_neg (by omega)]
        unfold Lib.parseUintB
        rw [if_neg (by simp), g1]
        dsimp only
        have hn : ¬ (c.toNat = 45) := by omega
        rw [if_neg (by have : (10 : Nat) ^ 18 ≤ 2 ^ (64 - 1) := by decide
                       omega), if_neg (by omega), if_neg hn]
        rfl
    refine (Tryz.strconv_ParseInt_10_at64_ok a0 (by omega) _ hok w).mono fun e w' hh => ⟨hh.1, ?_⟩
    rcases hh.2 with rfl | ⟨t, rfl⟩
    · exact Below.refl _ _
    · exact Joins.below_bytesWorld _ _ _ _ (Nat.le_refl _)
  · cases h
end Go.Proofs.YtkifdadhojbohaaGreatDoor
