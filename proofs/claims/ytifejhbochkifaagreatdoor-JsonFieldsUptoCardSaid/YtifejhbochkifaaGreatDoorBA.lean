import Derived.Shelf.LaysM
import Derived.Shelf.Strings.Trim
import Derived.Shelf.Small.Strs
import Derived.Shelf.Small.Wraps
import Derived.Shelf.Strconv.Itoa3
import Derived.Shelf.Strconv.ParseIntPublic10
import Derived.Shelf.Strconv.ErrVarParseInt
import Derived.Shelf.Strings.Search1
import Derived.Shelf.Sort.Plain
import Derived.Shelf.Slices.CompactS
import Derived.Shelf.Slices.In.SortNone
import Derived.Test.YtifejhbochkifaaGreatDoorProg
import Derived.Lib.Strings
import Derived.Lib.Slices
import Derived.Lib.Walk
import Derived.Lib.Builder
import Derived.Lib.AppendStr
import Derived.Lib.UnsafeStr
import Derived.Lib.MakeNoZero
import Derived.WalkKit
import Derived.Laws.Externs
import Derived.Laws.IdiomCopy
import Derived.Laws.BitsLemmas
import Derived.KernelRfl
import Derived.Lib.Join
import Derived.BigCall
import Derived.BigGuard
import Derived.Lib.IndexLaws
import Derived.Test.YtifejhbochkifaaGreatDoorBW
import Derived.Test.YtifejhbochkifaaGreatDoorX0
import Derived.Lib.CutLaws
import Derived.Lib.IndexMore
import Derived.Lib.AppendIntMem
import Derived.Lib.SmallJoins
import Derived.Deep.LoopGhost
import Derived.Lib.LazyBuf
/-! Shelf -/
namespace Go.Proofs
open Go.Shelf
def Tryz.lays161_ren : Go.Shelf.Ren := ⟨fun | 161 => 64 | 231 => 79 | 227 => 80 | 233 => 81 | 235 => 82 | 228 => 95 | 197 => 96 | 151 => 97 | 260 => 113 | 152 => 114 | 137 => 78 | 119 => 132 | 224 => 133 | 225 => 134 | 217 => 94 | 266 => 112 | n => n, fun | 9 => 9 | 4 => 4 | 3 => 3 | 5 => 5 | 117 => 105 | 116 => 104 | 0 => 0 | 124 => 108 | 105 => 119 | 21 => 21 | 119 => 152 | 46 => 95 | 139 => 155 | 138 => 154 | n => n, fun | 3 => 4 | 4 => 5 | n => n⟩
theorem Tryz.lays161 : Go.Proofs.Lays.n161 Tryz.prog Tryz.lays161_ren := {
  mixed := by kernel_rfl
  f119 := Tryz.func132.trans (congrArg some (by kernel_rfl))
  f137 := Tryz.func78.trans (congrArg some (by kernel_rfl))
  f151 := Tryz.func97.trans (congrArg some (by kernel_rfl))
  f152 := Tryz.func114.trans (congrArg some (by kernel_rfl))
  f161 := Tryz.func64.trans (congrArg some (by kernel_rfl))
  f197 := Tryz.func96.trans (congrArg some (by kernel_rfl))
  f217 := Tryz.func94.trans (congrArg some (by kernel_rfl))
  f224 := Tryz.func133.trans (congrArg some (by kernel_rfl))
  f225 := Tryz.func134.trans (congrArg some (by kernel_rfl))
  f227 := Tryz.func80.trans (congrArg some (by kernel_rfl))
  f228 := Tryz.func95.trans (congrArg some (by kernel_rfl))
  f231 := Tryz.func79.trans (congrArg some (by kernel_rfl))
  f233 := Tryz.func81.trans (congrArg some (by kernel_rfl))
  f235 := Tryz.func82.trans (congrArg some (by kernel_rfl))
  f260 := Tryz.func113.trans (congrArg some (by kernel_rfl))
  f266 := Tryz.func112.trans (congrArg some (by kernel_rfl))
  t0 := Tryz.underlying0
  a0 := Tryz.isAgg0
  z0 := Tryz.sizeOf0
  v0 := Tryz.zeroValue0
  t3 := Tryz.underlying3
  a3 := Tryz.isAgg3
  z3 := Tryz.sizeOf3
  v3 := Tryz.zeroValue3
  t4 := Tryz.underlying4
  a4 := Tryz.isAgg4
  z4 := Tryz.sizeOf4
  v4 := Tryz.zeroValue4
  t5 := Tryz.underlying5
  a5 := Tryz.isAgg5
  z5 := Tryz.sizeOf5
  v5 := Tryz.zeroValue5
  t9 := Tryz.underlying9
  a9 := Tryz.isAgg9
  z9 := Tryz.sizeOf9
  v9 := Tryz.zeroValue9
  t21 := Tryz.underlying21
  a21 := Tryz.isAgg21
  z21 := Tryz.sizeOf21
  v21 := Tryz.zeroValue21
  t46 := Tryz.underlying95
  a46 := Tryz.isAgg95
  z46 := Tryz.sizeOf95
  v46 := Tryz.zeroValue95
  t105 := Tryz.underlying119
  a105 := Tryz.isAgg119
  z105 := Tryz.sizeOf119
  v105 := Tryz.zeroValue119
  t116 := Tryz.underlying104
  a116 := Tryz.isAgg104
  z116 := Tryz.sizeOf104
  t117 := Tryz.underlying105
  a117 := Tryz.isAgg105
  z117 := Tryz.sizeOf105
  v117 := Tryz.zeroValue105
  t119 := Tryz.underlying152
  a119 := Tryz.isAgg152
  z119 := Tryz.sizeOf152
  t124 := Tryz.underlying108
  a124 := Tryz.isAgg108
  z124 := Tryz.sizeOf108
  v124 := Tryz.zeroValue108
  t138 := Tryz.underlying154
  a138 := Tryz.isAgg154
  z138 := Tryz.sizeOf154
  v138 := Tryz.zeroValue154
  t139 := Tryz.underlying155
  a139 := Tryz.isAgg155
  z139 := Tryz.sizeOf155
  v139 := Tryz.zeroValue155
  g3 := by kernel_rfl
  g4 := by kernel_rfl }
open Go.RowKit in
theorem Tryz.strings_TrimLeft_one (s : ByteArray) (c : UInt8) (hc : c.toNat < 128) (w : World) :
    Calls Tryz.prog 64 #[.string s, .string ⟨#[c]⟩] w fun e w' => e = .returned (.string ⟨(Lib.trimLeftB s.data.toList c).toArray⟩) ∧ w' = w := Any.strings_TrimLeft_one Tryz.lays161 s c hc w
def Tryz.lays137_ren : Go.Shelf.Ren := ⟨fun | 137 => 78 | 217 => 94 | 266 => 112 | n => n, fun | 9 => 9 | 5 => 5 | 3 => 3 | n => n, fun | n => n⟩
theorem Tryz.lays137 : Go.Proofs.Lays.n137 Tryz.prog Tryz.lays137_ren := {
  mixed := by kernel_rfl
  f137 := Tryz.func78.trans (congrArg some (by kernel_rfl))
  f217 := Tryz.func94.trans (congrArg some (by kernel_rfl))
  f266 := Tryz.func112.trans (congrArg some (by kernel_rfl))
  t3 := Tryz.underlying3
  a3 := Tryz.isAgg3
  z3 := Tryz.sizeOf3
  v3 := Tryz.zeroValue3
  t5 := Tryz.underlying5
  a5 := Tryz.isAgg5
  z5 := Tryz.sizeOf5
  v5 := Tryz.zeroValue5
  t9 := Tryz.underlying9
  a9 := Tryz.isAgg9
  z9 := Tryz.sizeOf9
  v9 := Tryz.zeroValue9 }
open Go.RowKit in
theorem Tryz.strings_IndexByte (s : ByteArray) (c : Int) (w : World) :
    Calls Tryz.prog 78 #[.string s, .int .u8 c] w fun e w' => e = .returned (.int .i64 (Lib.indexByte s.data.toList c.toNat.toUInt8)) ∧ w' = w := Any.strings_IndexByte Tryz.lays137 s c w
def Tryz.lays121_ren : Go.Shelf.Ren := ⟨fun | 121 => 47 | 214 => 70 | n => n, fun | 4 => 4 | 9 => 9 | n => n, fun | n => n⟩
theorem Tryz.lays121 : Go.Proofs.Lays.n121 Tryz.prog Tryz.lays121_ren := {
  mixed := by kernel_rfl
  f121 := Tryz.func47.trans (congrArg some (by kernel_rfl))
  f214 := Tryz.func70.trans (congrArg some (by kernel_rfl))
  t4 := Tryz.underlying4
  a4 := Tryz.isAgg4
  z4 := Tryz.sizeOf4
  v4 := Tryz.zeroValue4
  t9 := Tryz.underlying9
  a9 := Tryz.isAgg9
  z9 := Tryz.sizeOf9
  v9 := Tryz.zeroValue9 }
open Go.RowKit in
theorem Tryz.strconv_FormatBool (b : Bool) (w : World) :
    Calls Tryz.prog 47 #[.bool b] w fun e w' => e = .returned (.string ⟨(Lib.formatBool b).toArray⟩) ∧ w' = w := Any.strconv_FormatBool Tryz.lays121 b w
def Tryz.laysM246_ren : Go.Shelf.Ren := ⟨fun | 246 => 71 | 283 => 88 | 284 => 89 | 285 => 90 | 286 => 91 | 129 => 107 | 317 => 106 | 318 => 108 | 319 => 109 | 320 => 110 | 337 => 130 | 338 => 131 | n => n, fun | 2 => 2 | 3 => 3 | 9 => 9 | 4 => 4 | 171 => 111 | 0 => 0 | 53 => 99 | 37 => 77 | 5 => 5 | 173 => 114 | 212 => 133 | 51 => 134 | 20 => 20 | 213 => 135 | 46 => 95 | 232 => 167 | 233 => 168 | n => n, fun | 17 => 0 | 18 => 6 | 19 => 7 | n => n⟩
theorem Tryz.laysM246 : Go.Proofs.LaysM.n246 Tryz.prog Tryz.laysM246_ren := {
  mixed := by kernel_rfl
  f129 := Tryz.func107.trans (congrArg some (by kernel_rfl))
  f246 := Tryz.func71.trans (congrArg some (by kernel_rfl))
  f283 := Tryz.func88.trans (congrArg some (by kernel_rfl))
  f284 := Tryz.func89.trans (congrArg some (by kernel_rfl))
  f285 := Tryz.func90.trans (congrArg some (by kernel_rfl))
  f286 := Tryz.func91.trans (congrArg some (by kernel_rfl))
  f317 := Tryz.func106.trans (congrArg some (by kernel_rfl))
  f318 := Tryz.func108.trans (congrArg some (by kernel_rfl))
  f319 := Tryz.func109.trans (congrArg some (by kernel_rfl))
  f320 := Tryz.func110.trans (congrArg some (by kernel_rfl))
  f337 := Tryz.func130.trans (congrArg some (by kernel_rfl))
  f338 := Tryz.func131.trans (congrArg some (by kernel_rfl))
  t0 := Tryz.underlying0
  a0 := Tryz.isAgg0
  z0 := Tryz.sizeOf0
  v0 := Tryz.zeroValue0
  t2 := Tryz.underlying2
  a2 := Tryz.isAgg2
  z2 := Tryz.sizeOf2
  v2 := Tryz.zeroValue2
  t3 := Tryz.underlying3
  a3 := Tryz.isAgg3
  z3 := Tryz.sizeOf3
  v3 := Tryz.zeroValue3
  t4 := Tryz.underlying4
  a4 := Tryz.isAgg4
  z4 := Tryz.sizeOf4
  v4 := Tryz.zeroValue4
  t5 := Tryz.underlying5
  a5 := Tryz.isAgg5
  z5 := Tryz.sizeOf5
  v5 := Tryz.zeroValue5
  t9 := Tryz.underlying9
  a9 := Tryz.isAgg9
  z9 := Tryz.sizeOf9
  v9 := Tryz.zeroValue9
  t20 := Tryz.underlying20
  a20 := Tryz.isAgg20
  z20 := Tryz.sizeOf20
  v20 := Tryz.zeroValue20
  t37 := Tryz.underlying77
  a37 := Tryz.isAgg77
  z37 := Tryz.sizeOf77
  v37 := Tryz.zeroValue77
  t46 := Tryz.underlying95
  a46 := Tryz.isAgg95
  z46 := Tryz.sizeOf95
  v46 := Tryz.zeroValue95
  t51 := Tryz.underlying134
  a51 := Tryz.isAgg134
  z51 := Tryz.sizeOf134
  v51 := Tryz.zeroValue134
  t53 := Tryz.underlying99
  a53 := Tryz.isAgg99
  z53 := Tryz.sizeOf99
  v53 := Tryz.zeroValue99
  t171 := Tryz.underlying111
  a171 := Tryz.isAgg111
  z171 := Tryz.sizeOf111
  v171 := Tryz.zeroValue111
  t173 := Tryz.underlying114
  a173 := Tryz.isAgg114
  z173 := Tryz.sizeOf114
  v173 := Tryz.zeroValue114
  t212 := Tryz.underlying133
  a212 := Tryz.isAgg133
  z212 := Tryz.sizeOf133
  v212 := Tryz.zeroValue133
  t213 := Tryz.underlying135
  a213 := Tryz.isAgg135
  z213 := Tryz.sizeOf135
  t232 := Tryz.underlying167
  a232 := Tryz.isAgg167
  z232 := Tryz.sizeOf167
  v232 := Tryz.zeroValue167
  t233 := Tryz.underlying168
  a233 := Tryz.isAgg168
  z233 := Tryz.sizeOf168
  v233 := Tryz.zeroValue168
  g17 := by kernel_rfl
  g18 := by kernel_rfl
  g19 := by kernel_rfl
  i0 := by kernel_rfl
  i2 := by kernel_rfl
  i3 := by kernel_rfl
  i4 := by kernel_rfl
  i5 := by kernel_rfl
  i9 := by kernel_rfl
  i20 := by kernel_rfl
  i37 := by kernel_rfl
  i46 := by kernel_rfl
  i51 := by kernel_rfl
  i53 := by kernel_rfl
  i171 := by kernel_rfl
  i173 := by kernel_rfl
  i212 := by kernel_rfl
  i232 := by kernel_rfl
  i233 := by kernel_rfl
  m17 := by kernel_rfl
  m18 := by kernel_rfl
  m19 := by kernel_rfl }
open Go.RowKit Go.Sort Go.Lib in
theorem Tryz.internal_strconv_FormatInt_10 (n : Int) (h0 : -9223372036854775808 ≤ n) (h1 : n ≤ 9223372036854775807) (w : World) (htab : Lib.TabIs Tryz.prog w "internal/strconv.uint64pow10" .u64 Lib.pow10Tab) :
    Calls Tryz.prog 71 #[.int .i64 n, .int .i64 10] w fun e w' => e = .returned (.string ⟨(Lib.itoa n).toArray⟩) ∧ ∃ k os, w' = grow (w.drewN k) os := Any.internal_strconv_FormatInt_10 Tryz.laysM246 n h0 h1 w htab
def Tryz.laysC174_ren : Go.Shelf.Ren := ⟨fun | 174 => 65 | 247 => 83 | 245 => 84 | 287 => 98 | 279 => 99 | 280 => 100 | 281 => 101 | 282 => 102 | 321 => 115 | 322 => 116 | 316 => 117 | 171 => 119 | 205 => 118 | 243 => 135 | 246 => 71 | 283 => 88 | 284 => 89 | 285 => 90 | 286 => 91 | 129 => 107 | 317 => 106 | 318 => 108 | 319 => 109 | 320 => 110 | 337 => 130 | 338 => 131 | n => n, fun | 9 => 9 | 3 => 3 | 2 => 2 | 75 => 82 | 85 => 86 | 4 => 4 | 167 => 122 | 5 => 5 | 53 => 99 | 175 => 123 | 46 => 95 | 168 => 125 | 37 => 77 | 0 => 0 | 210 => 141 | 21 => 21 | 127 => 100 | 145 => 160 | 143 => 158 | 171 => 111 | 173 => 114 | 212 => 133 | 51 => 134 | 20 => 20 | 213 => 135 | 232 => 167 | 233 => 168 | 80 => 62 | n => n, fun | 15 => 1 | 16 => 2 | 17 => 0 | 18 => 6 | 19 => 7 | n => n⟩
theorem Tryz.laysC174 : Go.Proofs.LaysC.n174 Tryz.prog Tryz.laysC174_ren := {
  mixed := by kernel_rfl
  f129 := Tryz.func107.trans (congrArg some (by kernel_rfl))
  f171 := Tryz.func119.trans (congrArg some (by kernel_rfl))
  f174 := Tryz.func65.trans (congrArg some (by kernel_rfl))
  f205 := Tryz.func118.trans (congrArg some (by kernel_rfl))
  f243 := Tryz.func135.trans (congrArg some (by kernel_rfl))
  f245 := Tryz.func84.trans (congrArg some (by kernel_rfl))
  f246 := Tryz.func71.trans (congrArg some (by kernel_rfl))
  f247 := Tryz.func83.trans (congrArg some (by kernel_rfl))
  f279 := Tryz.func99.trans (congrArg some (by kernel_rfl))
  f280 := Tryz.func100.trans (congrArg some (by kernel_rfl))
  f281 := Tryz.func101.trans (congrArg some (by kernel_rfl))
  f282 := Tryz.func102.trans (congrArg some (by kernel_rfl))
  f283 := Tryz.func88.trans (congrArg some (by kernel_rfl))
  f284 := Tryz.func89.trans (congrArg some (by kernel_rfl))
  f285 := Tryz.func90.trans (congrArg some (by kernel_rfl))
  f286 := Tryz.func91.trans (congrArg some (by kernel_rfl))
  f287 := Tryz.func98.trans (congrArg some (by kernel_rfl))
  f316 := Tryz.func117.trans (congrArg some (by kernel_rfl))
  f317 := Tryz.func106.trans (congrArg some (by kernel_rfl))
  f318 := Tryz.func108.trans (congrArg some (by kernel_rfl))
  f319 := Tryz.func109.trans (congrArg some (by kernel_rfl))
  f320 := Tryz.func110.trans (congrArg some (by kernel_rfl))
  f321 := Tryz.func115.trans (congrArg some (by kernel_rfl))
  f322 := Tryz.func116.trans (congrArg some (by kernel_rfl))
  f337 := Tryz.func130.trans (congrArg some (by kernel_rfl))
  f338 := Tryz.func131.trans (congrArg some (by kernel_rfl))
  t0 := Tryz.underlying0
  a0 := Tryz.isAgg0
  z0 := Tryz.sizeOf0
  v0 := Tryz.zeroValue0
  t2 := Tryz.underlying2
  a2 := Tryz.isAgg2
  z2 := Tryz.sizeOf2
  v2 := Tryz.zeroValue2
  t3 := Tryz.underlying3
  a3 := Tryz.isAgg3
  z3 := Tryz.sizeOf3
  v3 := Tryz.zeroValue3
  t4 := Tryz.underlying4
  a4 := Tryz.isAgg4
  z4 := Tryz.sizeOf4
  v4 := Tryz.zeroValue4
  t5 := Tryz.underlying5
  a5 := Tryz.isAgg5
  z5 := Tryz.sizeOf5
  v5 := Tryz.zeroValue5
  t9 := Tryz.underlying9
  a9 := Tryz.isAgg9
  z9 := Tryz.sizeOf9
  v9 := Tryz.zeroValue9
  t20 := Tryz.underlying20
  a20 := Tryz.isAgg20
  z20 := Tryz.sizeOf20
  v20 := Tryz.zeroValue20
  t21 := Tryz.underlying21
  a21 := Tryz.isAgg21
  z21 := Tryz.sizeOf21
  v21 := Tryz.zeroValue21
  t37 := Tryz.underlying77
  a37 := Tryz.isAgg77
  z37 := Tryz.sizeOf77
  v37 := Tryz.zeroValue77
  t46 := Tryz.underlying95
  a46 := Tryz.isAgg95
  z46 := Tryz.sizeOf95
  v46 := Tryz.zeroValue95
  t51 := Tryz.underlying134
  a51 := Tryz.isAgg134
  z51 := Tryz.sizeOf134
  v51 := Tryz.zeroValue134
  t53 := Tryz.underlying99
  a53 := Tryz.isAgg99
  z53 := Tryz.sizeOf99
  v53 := Tryz.zeroValue99
  t75 := Tryz.underlying82
  a75 := Tryz.isAgg82
  z75 := Tryz.sizeOf82
  v75 := Tryz.zeroValue82
  t85 := Tryz.underlying86
  a85 := Tryz.isAgg86
  z85 := Tryz.sizeOf86
  v85 := Tryz.zeroValue86
  t127 := Tryz.underlying100
  a127 := Tryz.isAgg100
  z127 := Tryz.sizeOf100
  v127 := Tryz.zeroValue100
  t143 := Tryz.underlying158
  a143 := Tryz.isAgg158
  z143 := Tryz.sizeOf158
  v143 := Tryz.zeroValue158
  t145 := Tryz.underlying160
  a145 := Tryz.isAgg160
  z145 := Tryz.sizeOf160
  v145 := Tryz.zeroValue160
  t167 := Tryz.underlying122
  a167 := Tryz.isAgg122
  z167 := Tryz.sizeOf122
  v167 := Tryz.zeroValue122
  t168 := Tryz.underlying125
  a168 := Tryz.isAgg125
  z168 := Tryz.sizeOf125
  v168 := Tryz.zeroValue125
  t171 := Tryz.underlying111
  a171 := Tryz.isAgg111
  z171 := Tryz.sizeOf111
  v171 := Tryz.zeroValue111
  t173 := Tryz.underlying114
  a173 := Tryz.isAgg114
  z173 := Tryz.sizeOf114
  v173 := Tryz.zeroValue114
  t175 := Tryz.underlying123
  a175 := Tryz.isAgg123
  z175 := Tryz.sizeOf123
  v175 := Tryz.zeroValue123
  t210 := Tryz.underlying141
  a210 := Tryz.isAgg141
  z210 := Tryz.sizeOf141
  v210 := Tryz.zeroValue141
  t212 := Tryz.underlying133
  a212 := Tryz.isAgg133
  z212 := Tryz.sizeOf133
  v212 := Tryz.zeroValue133
  t213 := Tryz.underlying135
  a213 := Tryz.isAgg135
  z213 := Tryz.sizeOf135
  t232 := Tryz.underlying167
  a232 := Tryz.isAgg167
  z232 := Tryz.sizeOf167
  v232 := Tryz.zeroValue167
  t233 := Tryz.underlying168
  a233 := Tryz.isAgg168
  z233 := Tryz.sizeOf168
  v233 := Tryz.zeroValue168
  g15 := by kernel_rfl
  g16 := by kernel_rfl
  g17 := by kernel_rfl
  g18 := by kernel_rfl
  g19 := by kernel_rfl
  t80 := Tryz.underlying62
  a80 := Tryz.isAgg62
  z80 := Tryz.sizeOf62
  v80 := Tryz.zeroValue62
  i0 := by kernel_rfl
  i2 := by kernel_rfl
  i3 := by kernel_rfl
  i4 := by kernel_rfl
  i5 := by kernel_rfl
  i9 := by kernel_rfl
  i20 := by kernel_rfl
  i21 := by kernel_rfl
  i37 := by kernel_rfl
  i46 := by kernel_rfl
  i51 := by kernel_rfl
  i53 := by kernel_rfl
  i75 := by kernel_rfl
  i80 := by kernel_rfl
  i85 := by kernel_rfl
  i127 := by kernel_rfl
  i143 := by kernel_rfl
  i145 := by kernel_rfl
  i167 := by kernel_rfl
  i168 := by kernel_rfl
  i171 := by kernel_rfl
  i173 := by kernel_rfl
  i175 := by kernel_rfl
  i210 := by kernel_rfl
  i212 := by kernel_rfl
  i232 := by kernel_rfl
  i233 := by kernel_rfl
  m15 := by kernel_rfl
  m16 := by kernel_rfl
  m17 := by kernel_rfl
  m18 := by kernel_rfl
  m19 := by kernel_rfl
  c0 := by kernel_rfl
  c2 := by kernel_rfl
  c3 := by kernel_rfl
  c4 := by kernel_rfl
  c5 := by kernel_rfl
  c9 := by kernel_rfl
  c20 := by kernel_rfl
  c21 := by kernel_rfl
  c37 := by kernel_rfl
  c46 := by kernel_rfl
  c51 := by kernel_rfl
  c53 := by kernel_rfl
  c75 := by kernel_rfl
  c80 := by kernel_rfl
  c85 := by kernel_rfl
  c127 := by kernel_rfl
  c143 := by kernel_rfl
  c145 := by kernel_rfl
  c167 := by kernel_rfl
  c168 := by kernel_rfl
  c171 := by kernel_rfl
  c173 := by kernel_rfl
  c175 := by kernel_rfl
  c210 := by kernel_rfl
  c212 := by kernel_rfl
  c213 := by kernel_rfl
  c232 := by kernel_rfl
  c233 := by kernel_rfl }
open Go.RowKit in
theorem Tryz.strconv_ParseInt_10_at64_ok (s : ByteArray) (hmax : s.size ≤ 9223372036854775806) (v : Int) (h : Lib.parseIntB 64 s.data.toList = .ok v) (w : World) :
    Calls Tryz.prog 65 #[.string s, .int .i64 10, .int .i64 64] w fun e w' => e = .returned (.tuple #[.int .i64 v, .nilIface]) ∧ (w' = w ∨ ∃ t, w' = Lib.bytesWorld w 5 t) := Any.strconv_ParseInt_10_at64_ok Tryz.laysC174 s hmax v h w
open Go.RowKit in
theorem Tryz.strconv_ParseInt_10_at64_syntax_var (s : ByteArray) (hlim : s.size ≤ 281474976710656) (h : Lib.parseIntB 64 s.data.toList = .«syntax») (tp : TypeId) (p : Value) (w : World) (hvar : w.var? Tryz.prog "strconv.ErrSyntax" = some #[.iface tp p]) :
    Calls Tryz.prog 65 #[.string s, .int .i64 10, .int .i64 64] w fun e w' => ∃ N, e = .returned (.tuple #[.int .i64 (0), .iface 125 (.pointer (some ⟨N, 0, none⟩))]) ∧ w.heap.size ≤ N ∧ w'.heap[N]? = some (.cells #[.string ⟨#[80, 97, 114, 115, 101, 73, 110, 116]⟩, .string s, .iface tp p] 141 (0, 0)) ∧ Below w.heap.size w w' := Any.strconv_ParseInt_10_at64_syntax_var Tryz.laysC174 s hlim h tp p w hvar
open Go.RowKit in
theorem Tryz.strconv_ParseInt_10_at64_range_var (s : ByteArray) (hlim : s.size ≤ 281474976710656) (h : Lib.parseIntB 64 s.data.toList = .range) (tp : TypeId) (p : Value) (w : World) (hvar : w.var? Tryz.prog "strconv.ErrRange" = some #[.iface tp p]) :
    Calls Tryz.prog 65 #[.string s, .int .i64 10, .int .i64 64] w fun e w' => ∃ N, e = .returned (.tuple #[.int .i64 (Lib.intSat 64 s.data.toList), .iface 125 (.pointer (some ⟨N, 0, none⟩))]) ∧ w.heap.size ≤ N ∧ w'.heap[N]? = some (.cells #[.string ⟨#[80, 97, 114, 115, 101, 73, 110, 116]⟩, .string s, .iface tp p] 141 (0, 0)) ∧ Below w.heap.size w w' := Any.strconv_ParseInt_10_at64_range_var Tryz.laysC174 s hlim h tp p w hvar
def Tryz.lays217_ren : Go.Shelf.Ren := ⟨fun | 217 => 94 | 266 => 112 | n => n, fun | 9 => 9 | 5 => 5 | 3 => 3 | n => n, fun | n => n⟩
theorem Tryz.lays217 : Go.Proofs.Lays.n217 Tryz.prog Tryz.lays217_ren := {
  mixed := by kernel_rfl
  f217 := Tryz.func94.trans (congrArg some (by kernel_rfl))
  f266 := Tryz.func112.trans (congrArg some (by kernel_rfl))
  t3 := Tryz.underlying3
  a3 := Tryz.isAgg3
  z3 := Tryz.sizeOf3
  v3 := Tryz.zeroValue3
  t5 := Tryz.underlying5
  a5 := Tryz.isAgg5
  z5 := Tryz.sizeOf5
  v5 := Tryz.zeroValue5
  t9 := Tryz.underlying9
  a9 := Tryz.isAgg9
  z9 := Tryz.sizeOf9
  v9 := Tryz.zeroValue9 }
open Go.RowKit Go.Lib in
theorem Tryz.stringslite_IndexByte (s : ByteArray) (c : Int) (w : World) :
    Calls Tryz.prog 94 #[.string s, .int .u8 c] w fun e w' => e = .returned (.int .i64 (Lib.indexByte s.data.toList c.toNat.toUInt8)) ∧ w' = w := Any.stringslite_IndexByte Tryz.lays217 s c w
def Tryz.lays190_ren : Go.Shelf.Ren := ⟨fun | 190 => 86 | 125 => 105 | 258 => 104 | 128 => 129 | 129 => 107 | 302 => 120 | 303 => 121 | 304 => 122 | 305 => 123 | 306 => 124 | 307 => 125 | 308 => 126 | 309 => 127 | 310 => 128 | 333 => 136 | 329 => 137 | 330 => 138 | 334 => 139 | 335 => 140 | 336 => 141 | 344 => 142 | n => n, fun | 31 => 23 | 9 => 9 | 3 => 3 | 46 => 95 | 0 => 0 | 51 => 134 | 53 => 99 | 4 => 4 | 183 => 145 | 182 => 144 | 131 => 149 | 5 => 5 | 218 => 161 | 222 => 165 | 228 => 169 | 229 => 170 | n => n, fun | n => n⟩
theorem Tryz.lays190 : Go.Proofs.Lays.n190 Tryz.prog Tryz.lays190_ren := {
  mixed := by kernel_rfl
  f125 := Tryz.func105.trans (congrArg some (by kernel_rfl))
  f128 := Tryz.func129.trans (congrArg some (by kernel_rfl))
  f129 := Tryz.func107.trans (congrArg some (by kernel_rfl))
  f190 := Tryz.func86.trans (congrArg some (by kernel_rfl))
  f258 := Tryz.func104.trans (congrArg some (by kernel_rfl))
  f302 := Tryz.func120.trans (congrArg some (by kernel_rfl))
  f303 := Tryz.func121.trans (congrArg some (by kernel_rfl))
  f304 := Tryz.func122.trans (congrArg some (by kernel_rfl))
  f305 := Tryz.func123.trans (congrArg some (by kernel_rfl))
  f306 := Tryz.func124.trans (congrArg some (by kernel_rfl))
  f307 := Tryz.func125.trans (congrArg some (by kernel_rfl))
  f308 := Tryz.func126.trans (congrArg some (by kernel_rfl))
  f309 := Tryz.func127.trans (congrArg some (by kernel_rfl))
  f310 := Tryz.func128.trans (congrArg some (by kernel_rfl))
  f329 := Tryz.func137.trans (congrArg some (by kernel_rfl))
  f330 := Tryz.func138.trans (congrArg some (by kernel_rfl))
  f333 := Tryz.func136.trans (congrArg some (by kernel_rfl))
  f334 := Tryz.func139.trans (congrArg some (by kernel_rfl))
  f335 := Tryz.func140.trans (congrArg some (by kernel_rfl))
  f336 := Tryz.func141.trans (congrArg some (by kernel_rfl))
  f344 := Tryz.func142.trans (congrArg some (by kernel_rfl))
  t0 := Tryz.underlying0
  a0 := Tryz.isAgg0
  z0 := Tryz.sizeOf0
  v0 := Tryz.zeroValue0
  t3 := Tryz.underlying3
  a3 := Tryz.isAgg3
  z3 := Tryz.sizeOf3
  v3 := Tryz.zeroValue3
  t4 := Tryz.underlying4
  a4 := Tryz.isAgg4
  z4 := Tryz.sizeOf4
  v4 := Tryz.zeroValue4
  t5 := Tryz.underlying5
  a5 := Tryz.isAgg5
  z5 := Tryz.sizeOf5
  v5 := Tryz.zeroValue5
  t9 := Tryz.underlying9
  a9 := Tryz.isAgg9
  z9 := Tryz.sizeOf9
  v9 := Tryz.zeroValue9
  t31 := Tryz.underlying23
  a31 := Tryz.isAgg23
  z31 := Tryz.sizeOf23
  v31 := Tryz.zeroValue23
  t46 := Tryz.underlying95
  a46 := Tryz.isAgg95
  z46 := Tryz.sizeOf95
  v46 := Tryz.zeroValue95
  t51 := Tryz.underlying134
  a51 := Tryz.isAgg134
  z51 := Tryz.sizeOf134
  v51 := Tryz.zeroValue134
  t53 := Tryz.underlying99
  a53 := Tryz.isAgg99
  z53 := Tryz.sizeOf99
  v53 := Tryz.zeroValue99
  t131 := Tryz.underlying149
  a131 := Tryz.isAgg149
  z131 := Tryz.sizeOf149
  v131 := Tryz.zeroValue149
  t182 := Tryz.underlying144
  a182 := Tryz.isAgg144
  z182 := Tryz.sizeOf144
  v182 := Tryz.zeroValue144
  t183 := Tryz.underlying145
  a183 := Tryz.isAgg145
  z183 := Tryz.sizeOf145
  v183 := Tryz.zeroValue145
  t218 := Tryz.underlying161
  a218 := Tryz.isAgg161
  z218 := Tryz.sizeOf161
  v218 := Tryz.zeroValue161
  t222 := Tryz.underlying165
  a222 := Tryz.isAgg165
  z222 := Tryz.sizeOf165
  v222 := Tryz.zeroValue165
  t228 := Tryz.underlying169
  a228 := Tryz.isAgg169
  z228 := Tryz.sizeOf169
  v228 := Tryz.zeroValue169
  t229 := Tryz.underlying170
  a229 := Tryz.isAgg170
  z229 := Tryz.sizeOf170
  v229 := Tryz.zeroValue170 }
open Go.Sort Go.RowKit in
theorem Tryz.slices_Sort_string (blk off cap : Nat) (ss : List (List UInt8)) (w : World) (hH : Holds encStr w blk off ss.toArray) (hblk : blk < w.heap.size) (hsz : ss.length < 4611686018427387904) :
    Calls Tryz.prog 86 #[.slice (some ⟨blk, off, none⟩) ss.length cap] w fun e w' =>
      e = .returned (.tuple #[]) ∧ ∃ n os, w' = grow (putRow encStr (Sort.ahead w n) blk off (ss.mergeSort fun x y => decide (x ≤ y)).toArray) os := Any.slices_Sort_string Tryz.lays190 blk off cap ss w hH hblk hsz
def Tryz.lays194_ren : Go.Shelf.Ren := ⟨fun | 194 => 68 | n => n, fun | 31 => 23 | 9 => 9 | 3 => 3 | 4 => 4 | 0 => 0 | n => n, fun | n => n⟩
theorem Tryz.lays194 : Go.Proofs.Lays.n194 Tryz.prog Tryz.lays194_ren := {
  mixed := by kernel_rfl
  f194 := Tryz.func68.trans (congrArg some (by kernel_rfl))
  t0 := Tryz.underlying0
  a0 := Tryz.isAgg0
  z0 := Tryz.sizeOf0
  v0 := Tryz.zeroValue0
  t3 := Tryz.underlying3
  a3 := Tryz.isAgg3
  z3 := Tryz.sizeOf3
  v3 := Tryz.zeroValue3
  t4 := Tryz.underlying4
  a4 := Tryz.isAgg4
  z4 := Tryz.sizeOf4
  v4 := Tryz.zeroValue4
  t9 := Tryz.underlying9
  a9 := Tryz.isAgg9
  z9 := Tryz.sizeOf9
  v9 := Tryz.zeroValue9
  t31 := Tryz.underlying23
  a31 := Tryz.isAgg23
  z31 := Tryz.sizeOf23
  v31 := Tryz.zeroValue23 }
open Go.RowKit Go.Lib Go.Sort in
theorem Tryz.slices_Compact_string (blk off cap : Nat) (zs : List (List UInt8)) (w : World) (hH : Holds encStr w blk off zs.toArray) (hsz : zs.length ≤ 9223372036854775807) (hcap : zs.length ≤ cap) :
    Calls Tryz.prog 68 #[.slice (some ⟨blk, off, none⟩) zs.length cap] w fun e w' => e = .returned (.slice (some ⟨blk, off, none⟩) (Lib.compact zs).length cap) ∧ ∃ q, w' = putRow encStr (Sort.ahead w q) blk off (Lib.compact zs ++ List.replicate (zs.length - (Lib.compact zs).length) []).toArray := Any.slices_Compact_string Tryz.lays194 blk off cap zs w hH hsz hcap
open Go.RowKit Go.Lib Go.Sort in
theorem Tryz.slices_Compact_string_empty (a : Option Addr) (cap : Nat) (w : World) :
    Calls Tryz.prog 68 #[.slice a 0 cap] w fun e w' => e = .returned (.slice a 0 cap) ∧ w' = w := Any.slices_Compact_string_empty Tryz.lays194 a cap w
open Go.RowKit Go.Sort in
theorem Tryz.slices_Sort_string_none (p : Option Addr) (cap : Nat) (w : World) :
    Calls Tryz.prog 86 #[.slice p 0 cap] w fun e w' => e = .returned (.tuple #[]) ∧ w' = w := Any.slices_Sort_string_none Tryz.lays190 p cap w

end Go.Proofs

/-! Sh -/
set_option linter.unusedVariables false
namespace Go.Proofs.YtifejhbochkifaaGreatDoor.Sh
open Go.RowKit
theorem x_sizeBuilder : (Tryz.prog.info? 79).map (·.size) = some 2 := by kernel_rfl
theorem x_liesBuilder : liesAt Tryz.prog Tryz.prog.depth 79 (2 / Tryz.prog.cellsOf 79) 0 79 1 = true := by kernel_rfl
theorem x_infoByte : (Tryz.prog.info? 5).map (fun i => (i.zero, i.size, i.bytes)) = some (some (.int .u8 0), 1, 1) := by kernel_rfl
theorem x_cellsByte : Tryz.prog.cellsOf 5 = 1 := by kernel_rfl
theorem x_sizeByte : (Tryz.prog.info? 5).map (·.size) = some 1 := by kernel_rfl
theorem x_neB5 : (79 : TypeId) ≠ 5 := by decide

set_option maxHeartbeats 1000000 in
set_option maxRecDepth 100000 in
theorem Builder_copyCheck_used (b : Nat) (w : World) (h0 : w.cell? ⟨b, 0, none⟩ = some (.pointer (some ⟨b, 0, none⟩))) :
    Calls Tryz.prog 77 #[.pointer (some ⟨b, 0, none⟩)] w fun e w' => e = .returned (.tuple #[]) ∧ w' = w := by
  obtain ⟨j, hj, _⟩ := Option.map_eq_some_iff.1 x_sizeBuilder
  go_enter Tryz.func77, Tryz.ntmps77
  go_wp2
  rw [Lib.run_neq_ptr_same w _ Tryz.underlying76 hj]
  go_wp2
  go_end0
  exact ⟨rfl, rfl⟩

set_option maxHeartbeats 1000000 in
set_option maxRecDepth 100000 in
theorem Builder_copyCheck_fresh (b : Nat) (w : World) (h0 : w.cell? ⟨b, 0, none⟩ = some (.pointer none)) (hsh : w.shape? b = some (79, 2)) (hfz : w.frozen? ⟨b, 0, none⟩ = false) :
    Calls Tryz.prog 77 #[.pointer (some ⟨b, 0, none⟩)] w fun e w' => e = .returned (.tuple #[]) ∧ w' = w.setCell ⟨b, 0, none⟩ (.pointer (some ⟨b, 0, none⟩)) := by
  obtain ⟨j, hj, hjs⟩ := Option.map_eq_some_iff.1 x_sizeBuilder
  go_enter Tryz.func77, Tryz.ntmps77
  go_wp2
  rw [Lib.run_to_unsafe w ⟨b, 0, none⟩ Tryz.underlying76 Tryz.underlying116 hj (by rw [hjs]; decide) hsh (Nat.zero_lt_succ 1)]
  simp only [Result.andThen]
  rw [Oper.upon_value]
  go_wp2
  rw [run_callFunc_extern Tryz.func93 (by kernel_rfl) (by kernel_rfl) (by kernel_rfl) (e := Extern.AbiNoEscape.same) (by kernel_rfl)]
  rw [Lib.run_noEscape]
  simp only [Result.andThen]
  rw [Oper.upon_value]
  go_wp2
  rw [Lib.run_from_unsafe w ⟨b, 0, none⟩ Tryz.underlying116 Tryz.underlying76 hj hsh x_liesBuilder]
  simp only [Result.andThen]
  rw [Oper.upon_value]
  go_wp2
  go_end0
  exact ⟨rfl, rfl⟩

theorem Builder_copyCheck (B b : Nat) (bs : List Value) (w : World) (h : Lib.IsBuilder 79 5 B b bs w) :
    Calls Tryz.prog 77 #[.pointer (some ⟨b, 0, none⟩)] w fun e w' => e = .returned (.tuple #[]) ∧ (Lib.BuilderAt 79 5 B b (.pointer (some ⟨b, 0, none⟩)) bs w' ∧ Below B w w') := by
  rcases h with h | h
  · refine (Builder_copyCheck_fresh b w h.cell0 h.shape h.frozen0).mono ?_
    rintro e w' ⟨rfl, rfl⟩
    exact ⟨rfl, h.used _, (Below.refl B w).setCell (p := ⟨b, 0, none⟩) h.1 _⟩
  · refine (Builder_copyCheck_used b w h.cell0).mono ?_
    rintro e w' ⟨rfl, rfl⟩
    exact ⟨rfl, h, Below.refl B _⟩

set_option maxHeartbeats 2000000 in
set_option maxRecDepth 100000 in
theorem Builder_WriteByte (B b : Nat) (bs : List Value) (c : Int) (w : World) (h : Lib.IsBuilder 79 5 B b bs w) (hlen : bs.length + 1 ≤ 140737488355328) (hBw : B ≤ w.heap.size) :
    Calls Tryz.prog 62 #[.pointer (some ⟨b, 0, none⟩), .int .u8 c] w fun e w' => e = .returned .nilIface ∧ (Lib.BuilderAt 79 5 B b (.pointer (some ⟨b, 0, none⟩)) (bs ++ [.int .u8 c]) w' ∧ Below B w w') := by
  obtain ⟨i0, hi, hz0, hz1, hz2⟩ := info_parts x_infoByte
  go_enter Tryz.func62, Tryz.ntmps62
  go_wp2_with (go_at_call 77; refine (Builder_copyCheck B b bs _ h).mono ?_)
  rintro e w1 ⟨rfl, h1, hb1⟩
  obtain ⟨hB, v, hbk, hown, hne⟩ := h1
  have c0 : w1.cell? ⟨b, 0, none⟩ = some (.pointer (some ⟨b, 0, none⟩)) := by rw [Lib.cell_of_heap hbk]; rfl
  have c1 : w1.cell? ⟨b, 1, none⟩ = some v := by rw [Lib.cell_of_heap hbk]; rfl
  go_wp2_with (at_builtin; refine wpList_append_own _ rfl _ _ 77 rfl B 5 i0 (.int .u8 0) 1 1 Tryz.underlying77 hi hz0 hz1 hz2 rfl (by decide) _ _ _ rfl (hown.alloc _) ⟨w1.heap.size, 0, none⟩ 1 1 [.int .u8 c] rfl rfl ?c1 ?c2 ?c3 ?c4 ?c5 ?_)
  case c1 =>
    intro j u hj
    match j, hj with
    | 0, hj => simp at hj; subst hj; simp [Addr.add]
  case c2 => intro u hu; simp at hu; subst hu; rfl
  case c3 => unfold maxLen; omega
  case c4 => omega
  case c5 => have := hb1.size; simp; omega
  intro v' w2 hown' hgrow _
  have hlt : b < w1.heap.size := by
    rcases Nat.lt_or_ge b w1.heap.size with h' | h'
    · exact h'
    · simp [Array.getElem?_eq_none h'] at hbk
  have hb2 : w2.heap[b]? = some (.cells #[.pointer (some ⟨b, 0, none⟩), v] 79 (0, 0)) := by
    rw [hgrow.block b (by simp; omega) (fun e => hne e.symm), Lib.alloc_old w1 _ b hlt]
    exact hbk
  have d0 : w2.cell? ⟨b, 0, none⟩ = some (.pointer (some ⟨b, 0, none⟩)) := by rw [Lib.cell_of_heap hb2]; rfl
  have d1 : w2.cell? ⟨b, 1, none⟩ = some v := by rw [Lib.cell_of_heap hb2]; rfl
  have f1 : w2.frozen? ⟨b, 1, none⟩ = false := Lib.frozen_of_heap hb2 1
  obtain ⟨g, cap, rfl⟩ : ∃ g cap, v' = .slice (some ⟨g, 0, none⟩) (bs.length + 1) cap := by
    rcases hown'.2 with ⟨_, h0⟩ | ⟨g, cap, cur, hv, _⟩
    · omega
    · exact ⟨g, cap, hv⟩
  go_wp2
  go_ret
  refine ⟨rfl, ?_, ?_⟩
  · exact Lib.BuilderAt.put (T := 79) (e := 5) hB hb2 (bs' := bs ++ [.int .u8 c]) (by simpa using hown') x_neB5
  · exact ((hb1.alloc (by have := hb1.size; omega) _).grown hgrow (by have := hb1.size; simp; omega) (fun k hk => (hown.lt k hk).1)).setCell (p := ⟨b, 1, none⟩) hB _

set_option maxHeartbeats 2000000 in
set_option maxRecDepth 100000 in
theorem Builder_WriteString (B b : Nat) (bs : List Value) (s : ByteArray) (w : World) (h : Lib.IsBuilder 79 5 B b bs w) (hlen : bs.length + s.size ≤ 140737488355328) (hBw : B ≤ w.heap.size) :
    Calls Tryz.prog 72 #[.pointer (some ⟨b, 0, none⟩), .string s] w fun e w' => e = .returned (.tuple #[.int .i64 s.size, .nilIface]) ∧ (Lib.BuilderAt 79 5 B b (.pointer (some ⟨b, 0, none⟩)) (bs ++ Lib.strCells s) w' ∧ Below B w w') := by
  obtain ⟨i0, hi, hz0, hz1, hz2⟩ := info_parts x_infoByte
  go_enter Tryz.func72, Tryz.ntmps72
  go_wp2_with (go_at_call 77; refine (Builder_copyCheck B b bs _ h).mono ?_)
  rintro e w1 ⟨rfl, h1, hb1⟩
  obtain ⟨hB, v, hbk, hown, hne⟩ := h1
  have c0 : w1.cell? ⟨b, 0, none⟩ = some (.pointer (some ⟨b, 0, none⟩)) := by rw [Lib.cell_of_heap hbk]; rfl
  have c1 : w1.cell? ⟨b, 1, none⟩ = some v := by rw [Lib.cell_of_heap hbk]; rfl
  go_wp2_with (at_builtin; refine Lib.wpList_append_own_string _ rfl _ _ 77 9 rfl B 5 i0 Tryz.underlying77 Tryz.underlying9 hi hz0 hz1 hz2 _ _ _ rfl hown s rfl ?c3 ?c4 ?c5 ?_)
  case c3 => unfold maxLen; omega
  case c4 => omega
  case c5 => have := hb1.size; omega
  intro v' w2 hown' hgrow _
  have hlt : b < w1.heap.size := by
    rcases Nat.lt_or_ge b w1.heap.size with h' | h'
    · exact h'
    · simp [Array.getElem?_eq_none h'] at hbk
  have hb2 : w2.heap[b]? = some (.cells #[.pointer (some ⟨b, 0, none⟩), v] 79 (0, 0)) := by
    rw [hgrow.block b hlt (fun e => hne e.symm)]
    exact hbk
  have d0 : w2.cell? ⟨b, 0, none⟩ = some (.pointer (some ⟨b, 0, none⟩)) := by rw [Lib.cell_of_heap hb2]; rfl
  have d1 : w2.cell? ⟨b, 1, none⟩ = some v := by rw [Lib.cell_of_heap hb2]; rfl
  have f1 : w2.frozen? ⟨b, 1, none⟩ = false := Lib.frozen_of_heap hb2 1
  obtain ⟨ao, n', cap, rfl⟩ : ∃ ao n' cap, v' = .slice ao n' cap := by
    rcases hown'.2 with ⟨hv, _⟩ | ⟨g, cap, cur, hv, _⟩
    · exact ⟨_, _, _, hv⟩
    · exact ⟨_, _, _, hv⟩
  go_wp2
  go_ret2
  refine ⟨rfl, ?_, ?_⟩
  · exact Lib.BuilderAt.put (T := 79) (e := 5) hB hb2 (bs' := bs ++ Lib.strCells s) (by simpa [Lib.strCells_length] using hown') x_neB5
  · exact (hb1.grown hgrow (by have := hb1.size; omega) (fun k hk => (hown.lt k hk).1)).setCell (p := ⟨b, 1, none⟩) hB _

set_option maxHeartbeats 1000000 in
set_option maxRecDepth 100000 in
theorem Builder_String (B b : Nat) (l : List UInt8) (w : World) (h : Lib.IsBuilder 79 5 B b (Lib.byteCells l) w) (h0 : l ≠ []) :
    Calls Tryz.prog 61 #[.pointer (some ⟨b, 0, none⟩)] w fun e w' => e = .returned (.string ⟨l.toArray⟩) ∧ Below B w w' := by
  obtain ⟨p, hB, v, hbk, hown, hne⟩ : ∃ p, Lib.BuilderAt 79 5 B b p (Lib.byteCells l) w := by
    rcases h with h | h
    · exact ⟨_, h⟩
    · exact ⟨_, h⟩
  have hl0 : l.length ≠ 0 := by simpa using h0
  rw [Lib.byteCells_length] at hown
  obtain ⟨g, cap, cur, rfl, hbg, hg, hnc, hcm, hcs, htake⟩ : ∃ g cap cur, v = .slice (some ⟨g, 0, none⟩) l.length cap ∧ B ≤ g ∧ w.heap[g]? = some (.cells cur 5 (0, 0)) ∧ l.length ≤ cap ∧ cap ≤ maxLen ∧ cur.size = cap * 1 ∧ cur.toList.take (l.length * 1) = Lib.byteCells l := by
    rcases hown.2 with ⟨_, hz⟩ | ⟨g, cap, cur, hv, r⟩
    · exact absurd hz hl0
    · exact ⟨g, cap, cur, hv, r⟩
  have c1 : w.drew.cell? ⟨b, 1, none⟩ = some (.slice (some ⟨g, 0, none⟩) l.length cap) := by
    have : w.drew.heap[b]? = some (.cells #[p, .slice (some ⟨g, 0, none⟩) l.length cap] 79 (0, 0)) := hbk
    rw [Lib.cell_of_heap this]; rfl
  have hSD : (Builtin.unsafeSliceData_ #[77] 100 #[.slice (some ⟨g, 0, none⟩) l.length cap]).run Tryz.prog w.drew = .ok (.pointer (some ⟨g, 0, none⟩)) w.drew :=
    Lib.run_unsafeSliceData_row _ _ _ _ _ _ (by omega)
  have hUS : (Builtin.unsafeString_ #[100, 3] 9 #[.pointer (some ⟨g, 0, none⟩), .int .i64 l.length]).run Tryz.prog w.drew = .ok (.string ⟨l.toArray⟩) (w.drew.freeze ⟨g, 0, none⟩ l.length) := by
    refine Lib.run_unsafeString_row w.drew 100 3 9 5 Tryz.underlying100 x_cellsByte g cur.size (by have hg' : w.drew.heap[g]? = some (.cells cur 5 (0, 0)) := hg; simp [World.shape?, hg']) l h0 (by omega) (by unfold maxLen at hcm; omega) ?_
    intro j x hx
    have := hown.cells (g := g) rfl j (.int .u8 x.toNat) (by simp [Lib.byteCells, hx])
    exact this
  go_enter Tryz.func61, Tryz.ntmps61
  go_wp2
  go_region
  all_goals (go_wp2; go_ret; exact ⟨rfl, Lib.below_freeze (Below.drew (Below.refl B w)) (p := ⟨g, 0, none⟩) hbg _⟩)

theorem unsafeString_none (W : World) (q : Option Addr) : (Builtin.unsafeString_ #[100, 3] 9 #[.pointer q, .int .i64 0]).run Tryz.prog W = .ok (.string .empty) W :=
  Lib.run_unsafeString_none W _ _ _ q

set_option maxHeartbeats 2000000 in
set_option maxRecDepth 100000 in
theorem Builder_String_nil (B b : Nat) (p : Value) (w : World) (hbk : w.heap[b]? = some (.cells #[p, .slice none 0 0] 79 (0, 0))) :
    Calls Tryz.prog 61 #[.pointer (some ⟨b, 0, none⟩)] w fun e w' => e = .returned (.string ⟨#[]⟩) ∧ Below B w w' := by
  have hUS := unsafeString_none
  have c1 : w.drew.cell? ⟨b, 1, none⟩ = some (.slice none 0 0) := by
    have : w.drew.heap[b]? = some (.cells #[p, .slice none 0 0] 79 (0, 0)) := hbk
    rw [Lib.cell_of_heap this]; rfl
  have hSD : (Builtin.unsafeSliceData_ #[77] 100 #[.slice none 0 0]).run Tryz.prog w.drew = .ok (.pointer none) w.drew := rfl
  go_enter Tryz.func61, Tryz.ntmps61
  go_wp2
  go_region
  all_goals (go_wp2; go_ret; exact ⟨rfl, Below.drew (Below.refl B w)⟩)

set_option maxHeartbeats 2000000 in
set_option maxRecDepth 100000 in
theorem Builder_String_noroom (B b g : Nat) (p : Value) (cur : Array Value) (w : World) (hBw : B ≤ w.heap.size) (hbk : w.heap[b]? = some (.cells #[p, .slice (some ⟨g, 0, none⟩) 0 0] 79 (0, 0))) (hg : w.heap[g]? = some (.cells cur 5 (0, 0))) :
    Calls Tryz.prog 61 #[.pointer (some ⟨b, 0, none⟩)] w fun e w' => e = .returned (.string ⟨#[]⟩) ∧ Below B w w' := by
  have hUS := unsafeString_none
  have hlt : b < w.heap.size := by
    rcases Nat.lt_or_ge b w.heap.size with h' | h'
    · exact h'
    · simp [Array.getElem?_eq_none h'] at hbk
  have c1 : w.drew.cell? ⟨b, 1, none⟩ = some (.slice (some ⟨g, 0, none⟩) 0 0) := by
    have : w.drew.heap[b]? = some (.cells #[p, .slice (some ⟨g, 0, none⟩) 0 0] 79 (0, 0)) := hbk
    rw [Lib.cell_of_heap this]; rfl
  have hSD : (Builtin.unsafeSliceData_ #[77] 100 #[.slice (some ⟨g, 0, none⟩) 0 0]).run Tryz.prog w.drew = .ok (.pointer (some ⟨w.drew.heap.size, 0, none⟩)) (w.drew.alloc (.view ⟨g, 0, none⟩ 5)) :=
    Lib.run_unsafeSliceData_zero w.drew _ _ 5 Tryz.underlying100 ⟨g, 0, none⟩ 0 (5, cur.size) (by have hg' : w.drew.heap[g]? = some (.cells cur 5 (0, 0)) := hg; simp [World.shape?, hg'])
  have c2 : (w.drew.alloc (.view ⟨g, 0, none⟩ 5)).cell? ⟨b, 1, none⟩ = some (.slice (some ⟨g, 0, none⟩) 0 0) := by
    have : (w.drew.alloc (.view ⟨g, 0, none⟩ 5)).heap[b]? = _ := (Lib.alloc_old w.drew _ b hlt).trans hbk
    rw [Lib.cell_of_heap this]; rfl
  -- (the same fact as the how-to's newer walk spells the world; and of w itself, to which the elder walk comes down)
  have c3 : (w.alloc (.view ⟨g, 0, none⟩ 5)).drew.cell? ⟨b, 1, none⟩ = some (.slice (some ⟨g, 0, none⟩) 0 0) := c2
  have c0 : w.cell? ⟨b, 1, none⟩ = some (.slice (some ⟨g, 0, none⟩) 0 0) := c1
  go_enter Tryz.func61, Tryz.ntmps61
  go_wp2
  go_region
  all_goals (go_wp2; go_ret; exact ⟨rfl, (Below.drew (Below.refl B w)).alloc hBw _⟩)

set_option maxHeartbeats 2000000 in
set_option maxRecDepth 100000 in
theorem Builder_String_room (B b g cap : Nat) (p : Value) (w : World) (hc0 : cap ≠ 0) (hbk : w.heap[b]? = some (.cells #[p, .slice (some ⟨g, 0, none⟩) 0 cap] 79 (0, 0))) :
    Calls Tryz.prog 61 #[.pointer (some ⟨b, 0, none⟩)] w fun e w' => e = .returned (.string ⟨#[]⟩) ∧ Below B w w' := by
  have hUS := unsafeString_none
  have c1 : w.drew.cell? ⟨b, 1, none⟩ = some (.slice (some ⟨g, 0, none⟩) 0 cap) := by
    have : w.drew.heap[b]? = some (.cells #[p, .slice (some ⟨g, 0, none⟩) 0 cap] 79 (0, 0)) := hbk
    rw [Lib.cell_of_heap this]; rfl
  have hSD : (Builtin.unsafeSliceData_ #[77] 100 #[.slice (some ⟨g, 0, none⟩) 0 cap]).run Tryz.prog w.drew = .ok (.pointer (some ⟨g, 0, none⟩)) w.drew :=
    Lib.run_unsafeSliceData_row _ _ _ _ _ _ hc0
  clear hc0
  go_enter Tryz.func61, Tryz.ntmps61
  go_wp2
  go_region
  all_goals (go_wp2; go_ret; exact ⟨rfl, Below.drew (Below.refl B w)⟩)

theorem Builder_String_empty (B b : Nat) (w : World) (h : Lib.IsBuilder 79 5 B b [] w) (hBw : B ≤ w.heap.size) :
    Calls Tryz.prog 61 #[.pointer (some ⟨b, 0, none⟩)] w fun e w' => e = .returned (.string ⟨#[]⟩) ∧ Below B w w' := by
  obtain ⟨p, hB, v, hbk, hown, hne⟩ : ∃ p, Lib.BuilderAt 79 5 B b p [] w := by
    rcases h with h | h
    · exact ⟨_, h⟩
    · exact ⟨_, h⟩
  rcases hown.2 with ⟨rfl, _⟩ | ⟨g, cap, cur, rfl, hbg, hg, _, _, _, _⟩
  · exact Builder_String_nil B b p w hbk
  · by_cases hc0 : cap = 0
    · subst hc0
      exact Builder_String_noroom B b g p cur w hBw hbk hg
    · exact Builder_String_room B b g cap p w hc0 hbk

theorem Builder_String_any (B b : Nat) (l : List UInt8) (w : World) (h : Lib.IsBuilder 79 5 B b (Lib.byteCells l) w) (hBw : B ≤ w.heap.size) :
    Calls Tryz.prog 61 #[.pointer (some ⟨b, 0, none⟩)] w fun e w' => e = .returned (.string ⟨l.toArray⟩) ∧ Below B w w' := by
  cases l with
  | nil => exact Builder_String_empty B b w h hBw
  | cons x r => exact Builder_String B b (x :: r) w h (by simp)

set_option maxHeartbeats 2000000 in
set_option maxRecDepth 1000000 in
theorem Builder_grow_fresh (B b n : Nat) (w : World) (hB : B ≤ b) (hbk : w.heap[b]? = some (.cells #[.pointer (some ⟨b, 0, none⟩), .slice none 0 0] 79 (0, 0))) (hBw : B ≤ w.heap.size) (hn : n ≤ 281474976710656) :
    Calls Tryz.prog 92 #[.pointer (some ⟨b, 0, none⟩), .int .i64 n] w fun e w' => e = .returned (.tuple #[]) ∧ (Lib.BuilderAt 79 5 B b (.pointer (some ⟨b, 0, none⟩)) [] w' ∧ Below B w w') := by
  obtain ⟨cs, hrun, hle, hmax⟩ := Lib.run_makeNoZero (P := Tryz.prog) w.drew #[3] 77 5 Tryz.underlying77 n hn
  have hw : IntKind.i64.wrap (IntKind.i64.wrap 0 + (n : Int)) = n := by
    rw [IntKind.wrap_i64, IntKind.wrap_i64]
    omega
  have hcall : (callFunc 111 #[.int .i64 (IntKind.i64.wrap (IntKind.i64.wrap 0 + (n : Int)))]).run Tryz.prog w.drew = .ok (.value (.slice (some ⟨w.drew.heap.size, 0, none⟩) n cs.size)) (w.drew.drew.drew.alloc (.cells cs 5)) := by
    rw [hw, run_callFunc_extern Tryz.func111 (by kernel_rfl) (by kernel_rfl) (by kernel_rfl) (e := Extern.BytealgMakeNoZero.makeNoZero #[3] #[77]) (by kernel_rfl), hrun]
    rfl
  have c1 : w.drew.cell? ⟨b, 1, none⟩ = some (.slice none 0 0) := by
    have : w.drew.heap[b]? = _ := hbk
    rw [Lib.cell_of_heap this]; rfl
  have c2 : (w.alloc (.cells cs 5)).cell? ⟨b, 1, none⟩ = some (.slice none 0 0) := by
    have hlt : b < w.heap.size := by
      rcases Nat.lt_or_ge b w.heap.size with h' | h'
      · exact h'
      · simp [Array.getElem?_eq_none h'] at hbk
    have : (w.alloc (.cells cs 5)).heap[b]? = _ := (Lib.alloc_old w _ b hlt).trans hbk
    rw [Lib.cell_of_heap this]; rfl
  have f2 : (w.alloc (.cells cs 5)).frozen? ⟨b, 1, none⟩ = false := by
    have hlt : b < w.heap.size := by
      rcases Nat.lt_or_ge b w.heap.size with h' | h'
      · exact h'
      · simp [Array.getElem?_eq_none h'] at hbk
    exact Lib.frozen_of_heap ((Lib.alloc_old w _ b hlt).trans hbk) 1
  have hcopy : ∀ W : World, (Builtin.copy_ #[77, 77] 3 #[.slice (some ⟨w.heap.size, 0, none⟩) 0 cs.size, .slice none 0 0]).run Tryz.prog W = .ok (goInt 0) W :=
    fun W => run_copy_none W 77 77 3 5 _ _ 0 cs.size 0 0 Tryz.underlying77 x_sizeByte rfl
  clear hw
  go_enter Tryz.func92, Tryz.ntmps92
  go_wp2
  have hfin := Lib.grown_fresh (T := 79) (e := 5) (cs := cs) hB hbk hBw (hmax (by unfold maxLen; omega)) x_neB5
  go_region
  all_goals (go_wp2; go_end0; exact ⟨rfl, hfin⟩)

set_option maxHeartbeats 2000000 in
set_option maxRecDepth 1000000 in
theorem Builder_Grow_fresh (B b n : Nat) (w : World) (hB : B ≤ b) (hbk : w.heap[b]? = some (.cells #[.pointer none, .slice none 0 0] 79 (0, 0))) (hBw : B ≤ w.heap.size) (hn : n ≤ 281474976710656) :
    Calls Tryz.prog 73 #[.pointer (some ⟨b, 0, none⟩), .int .i64 n] w fun e w' => e = .returned (.tuple #[]) ∧ (Lib.BuilderAt 79 5 B b (.pointer (some ⟨b, 0, none⟩)) [] w' ∧ Below B w w') := by
  have hbk1 : (w.setCell ⟨b, 0, none⟩ (.pointer (some ⟨b, 0, none⟩))).heap[b]? = some (.cells #[.pointer (some ⟨b, 0, none⟩), .slice none 0 0] 79 (0, 0)) := by
    simp [World.setCell, Array.getElem?_modify, hbk]
  have c1 : (w.setCell ⟨b, 0, none⟩ (.pointer (some ⟨b, 0, none⟩))).cell? ⟨b, 1, none⟩ = some (.slice none 0 0) := by rw [Lib.cell_of_heap hbk1]; rfl
  have hb1 : Below B w (w.setCell ⟨b, 0, none⟩ (.pointer (some ⟨b, 0, none⟩))) := (Below.refl B w).setCell (p := ⟨b, 0, none⟩) hB _
  go_enter Tryz.func73, Tryz.ntmps73
  have hU : Lib.BuilderAt 79 5 B b (.pointer (some ⟨b, 0, none⟩)) [] (w.setCell ⟨b, 0, none⟩ (.pointer (some ⟨b, 0, none⟩))) := ⟨hB, .slice none 0 0, hbk1, World.ownsRow_nil _ _ _ _, by simp [Value.ownBlock]⟩
  have c1' : (w.setCell ⟨b, 0, none⟩ (.pointer (some ⟨b, 0, none⟩))).drew.cell? ⟨b, 1, none⟩ = some (.slice none 0 0) := c1
  go_wp2_with (go_at_call 77; refine (Builder_copyCheck_fresh b w (by rw [Lib.cell_of_heap hbk]; rfl) (by simp [World.shape?, hbk]) (Lib.frozen_of_heap hbk 0)).mono ?_; rintro e w' ⟨rfl, rfl⟩)
  go_region
  all_goals go_wp2_with (go_at_call 92; refine (Builder_grow_fresh B b n (w.setCell ⟨b, 0, none⟩ (.pointer (some ⟨b, 0, none⟩))).drew hB hbk1 (by simpa [World.setCell, World.drew, -World.drew_eq] using hBw) hn).mono ?_; rintro e w' ⟨rfl, h1, h2⟩)
  all_goals first
    | (go_end0; exact ⟨rfl, h1, hb1.drew.trans h2⟩)
    | (go_end0; exact ⟨rfl, hU.drew, hb1.drew⟩)

theorem hidJ {p : Prop} (h : p) : Hid p := h

theorem strings_Join_none (a : Option Addr) (c : Nat) (sep : ByteArray) (w : World) :
    Calls Tryz.prog 50 #[.slice a 0 c, .string sep] w fun e w' => e = .returned (.string ⟨#[]⟩) ∧ w' = w := by
  go_enter Tryz.func50, Tryz.ntmps50
  go_wp2
  go_ret
  exact ⟨rfl, rfl⟩

theorem strings_Join_one (bk o c : Nat) (x sep : ByteArray) (w : World) (hc : w.cell? ⟨bk, o, none⟩ = some (.string x)) :
    Calls Tryz.prog 50 #[.slice (some ⟨bk, o, none⟩) 1 c, .string sep] w fun e w' => e = .returned (.string x) ∧ w' = w := by
  go_enter Tryz.func50, Tryz.ntmps50
  go_wp2
  go_ret
  exact ⟨rfl, rfl⟩

set_option maxHeartbeats 4000000 in
set_option maxRecDepth 100000 in
theorem strings_Join_many (bk o c : Nat) (xs : List ByteArray) (sep : ByteArray) (w : World)
    (hcells : ∀ (j : Nat) x, xs[j]? = some x → w.cell? ⟨bk, o + j, none⟩ = some (.string x))
    (hbk : bk < w.heap.size) (h2 : 2 ≤ xs.length) (hN : xs.length ≤ 140737488355328) (hcap : xs.length ≤ c)
    (hlen : (Lib.join (xs.map (·.data.toList)) sep.data.toList).length ≤ 140737488355328) :
    Calls Tryz.prog 50 #[.slice (some ⟨bk, o, none⟩) xs.length c, .string sep] w fun e w' => e = .returned (.string ⟨(Lib.join (xs.map (·.data.toList)) sep.data.toList).toArray⟩) ∧ Below w.heap.size w w' := by
  have HC := hidJ hcells
  clear hcells
  -- the lengths
  obtain ⟨x0, r, hxs⟩ : ∃ x0 r, xs = x0 :: r := by
    cases xs with
    | nil => simp at h2
    | cons a t => exact ⟨a, t, rfl⟩
  have hjl : sep.size * (xs.length - 1) + Lib.lens (xs.map (·.data.toList)) ≤ 140737488355328 := by
    have := Lib.join_length x0.data.toList (r.map (·.data.toList)) sep.data.toList
    rw [hxs] at hlen ⊢
    simp only [List.map_cons] at hlen ⊢
    rw [this, List.length_map] at hlen
    rw [Lib.size_eq, List.length_cons, Nat.add_sub_cancel]
    exact hlen
  have hmul : sep.size * (xs.length - 1) ≤ 140737488355328 := by omega
  generalize hM : sep.size * (xs.length - 1) = M at hjl hmul
  have hcast : ((xs.length : Int) - 1) = ((xs.length - 1 : Nat) : Int) := by omega
  have hlt : sep.size < 9223372036854775807 / (xs.length - 1) := by
    have : sep.size + 1 ≤ 9223372036854775807 / (xs.length - 1) := by
      rw [Nat.le_div_iff_mul_le (by omega), Nat.add_mul, hM]
      omega
    omega
  have hdv : ¬ (9223372036854775807 / ((xs.length : Int) - 1) ≤ (sep.size : Int)) := by
    have e : (9223372036854775807 : Int) / ((xs.length - 1 : Nat) : Int) = ((9223372036854775807 / (xs.length - 1) : Nat) : Int) := IntWalk.up_div (x := 9223372036854775807) rfl rfl
    rw [hcast, e]
    generalize 9223372036854775807 / (xs.length - 1) = q at hlt
    omega
  have hprod : wrap64 ((sep.size : Int) * ((xs.length : Int) - 1)) = (M : Int) := by
    have e : (sep.size : Int) * ((xs.length - 1 : Nat) : Int) = ((sep.size * (xs.length - 1) : Nat) : Int) := IntWalk.up_mul rfl rfl
    rw [hcast, e, hM]
    exact IntWalk.wrap64_in _ ⟨by omega, by omega⟩
  have hM0 : sep.size = 0 → M = 0 := fun h => by rw [← hM, h, Nat.zero_mul]
  clear hlt hcast
  have hne0 : ((xs.length : Int) == 0) = false := beq_eq_false_iff_ne.2 (by omega)
  have hne1 : ((xs.length : Int) == 1) = false := beq_eq_false_iff_ne.2 (by omega)
  have Hxs := hidJ hxs
  have Hlen := hidJ hlen
  clear hxs hlen
  go_enter Tryz.func50, Tryz.ntmps50
  go_wp2_with fail
  all_goals (
    go_loop [5, 41] (fun n i => ∃ k : Nat, k ≤ xs.length ∧ i = .int .i64 k ∧ n = .int .i64 ((M + Lib.lens ((xs.map (·.data.toList)).take k) : Nat) : Int)) (fun _ i => xs.length - (intOf i).toNat)
    case atStart => exact ⟨0, Nat.zero_le _, rfl, by first | (simp [Lib.lens]; done) | (have := hM0 (by omega); simp [Lib.lens, this])⟩
    case round =>
      obtain ⟨k, hk, rfl, rfl⟩ := hrel
      by_cases hkn : k < xs.length
      · obtain ⟨x, hx⟩ : ∃ x, xs[k]? = some x := ⟨xs[k], List.getElem?_eq_getElem hkn⟩
        have hc := HC.out k x hx
        have hstep := Lib.lens_take_succ (xs.map (·.data.toList)) k x.data.toList (by simp [hx])
        have hbound : Lib.lens ((xs.map (·.data.toList)).take (k + 1)) ≤ Lib.lens (xs.map (·.data.toList)) := Lib.lens_take_le _ _
        rw [← Lib.size_eq] at hstep
        generalize hA1 : Lib.lens ((xs.map (·.data.toList)).take (k + 1)) = A1 at hstep hbound
        generalize Lib.lens ((xs.map (·.data.toList)).take k) = A0 at hstep
        have HA1 := hidJ hA1
        clear hA1
        go_wp2
        exact ⟨⟨k + 1, by omega, by go_num, by rw [HA1.out]; refine congrArg _ ?_; omega⟩, by simp [intOf]; omega⟩
      · have hke : k = xs.length := by omega
        subst hke
        have hall : (xs.map (·.data.toList)).take xs.length = xs.map (·.data.toList) := List.take_of_length_le (by simp)
        rw [hall]
        generalize hT : Lib.lens (xs.map (·.data.toList)) = T at hjl
        have HT := hidJ hT
        clear hT hall
        go_wp2_with fail
        have hMT : ((M : Int) + (T : Int)) = ((M + T : Nat) : Int) := by omega
        rw [hMT]
        refine (Builder_Grow_fresh w.heap.size w.heap.size (M + T) _ (Nat.le_refl _) (heap_alloc_new w _) (by simp) (by omega)).mono ?_
        rintro e w1 ⟨rfl, h1, hb1⟩
        have hb1' : Below w.heap.size w w1 := ((Below.refl w.heap.size w).alloc (Nat.le_refl _) _).trans hb1
        -- the first element
        have hx0 : xs[0]? = some x0 := by rw [Hxs.out]; rfl
        have hc0 : w1.cell? ⟨bk, o, none⟩ = some (.string x0) := by
          rw [hb1'.cell (p := ⟨bk, o, none⟩) hbk]
          exact HC.out 0 x0 hx0
        have H1 := hidJ (Or.inr h1 : Lib.IsBuilder 79 5 w.heap.size w.heap.size [] w1)
        have Hb1 := hidJ hb1'
        have hBw1 : w.heap.size ≤ w1.heap.size := hb1'.size
        clear h1 hb1 hb1' hMT
        -- what the builder holds behind k rounds of the second loop; and that it is never longer than the whole
        have hwhole : Lib.join (xs.map (·.data.toList)) sep.data.toList = x0.data.toList ++ Lib.joinTail sep.data.toList (r.map (·.data.toList)) := by
          rw [Hxs.out, List.map_cons, Lib.join_cons]
        have hCle : ∀ k, (x0.data.toList ++ Lib.joinTail sep.data.toList ((r.map (·.data.toList)).take k)).length ≤ 140737488355328 := fun k => by
          have h1 := Hlen.out
          rw [hwhole, List.length_append] at h1
          have h2 := Lib.joinTail_take_le sep.data.toList (r.map (·.data.toList)) k
          rw [List.length_append]
          omega
        have HCle := hidJ hCle
        have Hwhole := hidJ hwhole
        clear hCle hwhole
        go_wp2_with fail
        refine (Builder_WriteString w.heap.size w.heap.size [] x0 w1 H1.out (by have := HCle.out 0; simp [Lib.joinTail] at this ⊢; omega) hBw1).mono ?_
        rintro e w2 ⟨rfl, h2', hb2⟩
        have hstart : ([] : List Value) ++ Lib.strCells x0 = Lib.byteCells (x0.data.toList ++ Lib.joinTail sep.data.toList ((r.map (·.data.toList)).take 0)) := by
          simp [Lib.joinTail, Lib.strCells_eq]
        rw [hstart] at h2'
        have H2 := hidJ (Or.inr h2' : Lib.IsBuilder 79 5 w.heap.size w.heap.size _ w2)
        have Hb2 := hidJ (Hb1.out.trans hb2)
        clear h2' hb2 hstart
        have hrl : r.length = xs.length - 1 := by rw [Hxs.out]; simp
        go_wp2_with fail
        go_loopw [65] (fun i wr => ∃ k : Nat, k ≤ r.length ∧ i = .int .i64 k ∧ Hid (Lib.IsBuilder 79 5 w.heap.size w.heap.size (Lib.byteCells (x0.data.toList ++ Lib.joinTail sep.data.toList ((r.map (·.data.toList)).take k))) wr) ∧ Hid (Below w.heap.size w wr)) (fun i _ => r.length - (intOf i).toNat)
        case atStart => exact ⟨0, Nat.zero_le _, rfl, H2, Hb2⟩
        case round =>
          obtain ⟨k, hk', rfl, HB, HW⟩ := hrel
          by_cases hkr : k < r.length
          · obtain ⟨y, hy⟩ : ∃ y, r[k]? = some y := ⟨r[k], List.getElem?_eq_getElem hkr⟩
            have hxy : xs[k + 1]? = some y := by rw [Hxs.out]; simpa using hy
            have hcy : wr.cell? ⟨bk, o + 1 + k, none⟩ = some (.string y) := by
              rw [HW.out.cell (p := ⟨bk, o + 1 + k, none⟩) hbk, show o + 1 + k = o + (k + 1) by omega]
              exact HC.out (k + 1) y hxy
            have hBw : w.heap.size ≤ wr.heap.size := HW.out.size
            have hnext : Lib.byteCells (x0.data.toList ++ Lib.joinTail sep.data.toList ((r.map (·.data.toList)).take k)) ++ Lib.strCells sep ++ Lib.strCells y = Lib.byteCells (x0.data.toList ++ Lib.joinTail sep.data.toList ((r.map (·.data.toList)).take (k + 1))) := by
              rw [Lib.joinTail_take_succ sep.data.toList (r.map (·.data.toList)) k y.data.toList (by simp [hy]), Lib.strCells_eq, Lib.strCells_eq, ← Lib.byteCells_append, ← Lib.byteCells_append, List.append_assoc, List.append_assoc, List.append_assoc]
            have hl1 := HCle.out (k + 1)
            rw [Lib.joinTail_take_succ sep.data.toList (r.map (·.data.toList)) k y.data.toList (by simp [hy])] at hl1
            simp only [List.length_append, ← Lib.size_eq] at hl1
            have hl0 : (Lib.byteCells (x0.data.toList ++ Lib.joinTail sep.data.toList ((r.map (·.data.toList)).take k))).length = x0.size + (Lib.joinTail sep.data.toList ((r.map (·.data.toList)).take k)).length := by
              rw [Lib.byteCells_length, List.length_append, ← Lib.size_eq]
            generalize (Lib.joinTail sep.data.toList ((r.map (·.data.toList)).take k)).length = J at hl0 hl1
            have Hn := hidJ hnext
            clear hnext hy hxy
            go_wp2_with fail
            refine (Builder_WriteString w.heap.size w.heap.size _ sep wr HB.out (by rw [hl0]; omega) hBw).mono ?_
            rintro e w3 ⟨rfl, h3, hb3⟩
            have hBw3 : w.heap.size ≤ w3.heap.size := Nat.le_trans hBw hb3.size
            have H3 := hidJ h3
            have Hb3 := hidJ hb3
            clear h3 hb3
            go_wp2_with fail
            refine (Builder_WriteString w.heap.size w.heap.size _ y w3 (Or.inr H3.out) (by rw [List.length_append, hl0, Lib.strCells_length]; omega) hBw3).mono ?_
            rintro e w4 ⟨rfl, h4, hb4⟩
            rw [Hn.out] at h4
            have H4 := hidJ (Or.inr h4 : Lib.IsBuilder 79 5 w.heap.size w.heap.size _ w4)
            have Hb4 := hidJ ((HW.out.trans Hb3.out).trans hb4)
            clear h4 hb4
            go_wp2
            exact ⟨⟨k + 1, by omega, by go_num, H4, Hb4⟩, by simp [intOf]; omega⟩
          · have hke : k = r.length := by omega
            subst hke
            have hfull : (r.map (·.data.toList)).take r.length = r.map (·.data.toList) := List.take_of_length_le (by simp)
            have hB' := HB.out
            rw [hfull, ← Hwhole.out] at hB'
            have hBw : w.heap.size ≤ wr.heap.size := HW.out.size
            go_wp2_with fail
            refine (Builder_String_any w.heap.size w.heap.size _ wr hB' hBw).mono ?_
            rintro e w5 ⟨rfl, hb5⟩
            have Hb5 := hidJ (HW.out.trans hb5)
            clear hb5 hB'
            go_wp2
            go_ret
            exact ⟨rfl, Hb5.out⟩)

theorem strings_Join (bk o c : Nat) (xs : List ByteArray) (sep : ByteArray) (w : World)
    (hcells : ∀ (j : Nat) x, xs[j]? = some x → w.cell? ⟨bk, o + j, none⟩ = some (.string x))
    (hbk : bk < w.heap.size) (hN : xs.length ≤ 140737488355328) (hcap : xs.length ≤ c)
    (hlen : (Lib.join (xs.map (·.data.toList)) sep.data.toList).length ≤ 140737488355328) :
    Calls Tryz.prog 50 #[.slice (some ⟨bk, o, none⟩) xs.length c, .string sep] w fun e w' => e = .returned (.string ⟨(Lib.join (xs.map (·.data.toList)) sep.data.toList).toArray⟩) ∧ Below w.heap.size w w' := by
  match xs, hcells, hN, hcap, hlen with
  | [], _, _, _, _ => exact (strings_Join_none _ c sep w).mono fun e w' ⟨he, hw⟩ => ⟨he, hw ▸ Below.refl _ _⟩
  | [x], hcells, _, _, _ =>
    refine (strings_Join_one bk o c x sep w (hcells 0 x rfl)).mono fun e w' ⟨he, hw⟩ => ⟨?_, hw ▸ Below.refl _ _⟩
    rw [he, List.map_cons, List.map_nil, Lib.join_one, Lib.mk_data]
  | x :: y :: r, hcells, hN, hcap, hlen => exact strings_Join_many bk o c (x :: y :: r) sep w hcells hbk (by simp) hN hcap hlen

end Go.Proofs.YtifejhbochkifaaGreatDoor.Sh

/-! HSpec -/
namespace Go.Proofs.YtifejhbochkifaaGreatDoor.Spec
open Go.Proofs.YtifejhbochkifaaGreatDoorW.PrintWords

/-- bytes of a string, and back -/
def bl (s : ByteArray) : List UInt8 := s.data.toList
def ba (l : List UInt8) : ByteArray := ⟨l.toArray⟩
@[simp] theorem bl_ba (l : List UInt8) : bl (ba l) = l := by simp [bl, ba]
@[simp] theorem ba_bl (s : ByteArray) : ba (bl s) = s := by simp [bl, ba]
@[simp] theorem size_ba (l : List UInt8) : (ba l).size = l.length := by simp [ba, ByteArray.size]
theorem bl_length (s : ByteArray) : (bl s).length = s.size := (Lib.size_eq s).symm
theorem toList_bl (s : ByteArray) : s.toList = bl s := Lib.toList_data s
theorem ba_inj {a b : List UInt8} (h : ba a = ba b) : a = b := by have := congrArg bl h; simpa using this
theorem bl_inj {a b : ByteArray} (h : bl a = bl b) : a = b := by have := congrArg ba h; simpa using this
theorem bl_append (a b : ByteArray) : bl (a ++ b) = bl a ++ bl b := by simp [bl]

/-- a byte of a string, at an index in it -/
theorem bt_get (s : ByteArray) (i : Nat) (h : i < s.size) : bt s (i : Int) = (((bl s)[i]'(by rw [bl_length]; exact h)).toNat : Int) := by
 unfold bt
 rw [dif_pos (by simpa using h)]
 simp [bl, ByteArray.getElem_eq_getElem_data]

/-! ### a byte's first place -/
def pre (c : UInt8) (l : List UInt8) : List UInt8 := l.takeWhile (fun x => x != c)
def post (c : UInt8) (l : List UInt8) : List UInt8 := (l.dropWhile (fun x => x != c)).drop 1
theorem pre_length_le (c : UInt8) (l : List UInt8) : (pre c l).length ≤ l.length := by
 induction l with
 | nil => simp [pre]
 | cons x r ih => unfold pre at *; simp only [List.takeWhile_cons]; split <;> simp; omega
theorem pre_of_not_mem {c : UInt8} {l : List UInt8} (h : c ∉ l) : pre c l = l := by
 induction l with
 | nil => rfl
 | cons x r ih =>
  simp only [List.mem_cons, not_or] at h
  have hx : (x != c) = true := bne_iff_ne.2 (fun e => h.1 e.symm)
  unfold pre at *
  rw [List.takeWhile_cons, if_pos hx, ih h.2]
theorem post_of_not_mem {c : UInt8} {l : List UInt8} (h : c ∉ l) : post c l = [] := by
 induction l with
 | nil => rfl
 | cons x r ih =>
  simp only [List.mem_cons, not_or] at h
  have hx : (x != c) = true := bne_iff_ne.2 (fun e => h.1 e.symm)
  unfold post at *
  rw [List.dropWhile_cons, if_pos hx, ih h.2]
theorem pre_post {c : UInt8} {l : List UInt8} (h : c ∈ l) : l = pre c l ++ c :: post c l := by
 induction l with
 | nil => cases h
 | cons x r ih =>
  by_cases hx : x = c
  ·subst hx; simp [pre, post]
  ·have hx' : (x != c) = true := bne_iff_ne.2 hx
   have hr : c ∈ r := by
    rcases List.mem_cons.1 h with h | h
    ·exact absurd h.symm hx
    ·exact h
   have := ih hr
   unfold pre post at *
   rw [List.takeWhile_cons, List.dropWhile_cons, if_pos hx', if_pos hx', List.cons_append, ← this]
theorem not_mem_pre (c : UInt8) (l : List UInt8) : c ∉ pre c l := by
 induction l with
 | nil => simp [pre]
 | cons x r ih =>
  unfold pre at *
  rw [List.takeWhile_cons]
  split
  ·rename_i hx
   simp only [List.mem_cons, not_or]
   exact ⟨fun e => (bne_iff_ne.1 hx) e.symm, ih⟩
  ·simp
theorem indexByte_eq (c : UInt8) (l : List UInt8) : Lib.indexByte l c = if c ∈ l then ((pre c l).length : Int) else -1 := by
 induction l with
 | nil => rfl
 | cons x r ih =>
  unfold Lib.indexByte
  by_cases hx : x = c
  ·subst hx; simp [pre]
  ·have hx' : (x == c) = false := beq_eq_false_iff_ne.2 hx
   have hx2 : (x != c) = true := bne_iff_ne.2 hx
   have hm : (c ∈ x :: r) ↔ c ∈ r := by
    simp only [List.mem_cons]
    exact ⟨fun h => h.elim (fun e => absurd e.symm hx) id, .inr⟩
   rw [hx', ih]
   by_cases hc : c ∈ r
   ·rw [if_pos hc, if_pos (hm.2 hc)]
    have : ¬ (((pre c r).length : Int) = -1) := by omega
    simp [pre, hx2]
    try omega
   ·rw [if_neg hc, if_neg (fun h => hc (hm.1 h))]
    simp

/-! ### Quote -/
def wordc (c : UInt8) : Bool := (97 ≤ c.toNat && c.toNat ≤ 122) || (65 ≤ c.toNat && c.toNat ≤ 90) || (48 ≤ c.toNat && c.toNat ≤ 57)
def plainc (c : UInt8) : Bool := wordc c || c == 45 || c == 46 || c == 95 || c == 126
def greatc (n : Nat) : UInt8 := if n < 10 then (48 + n).toUInt8 else (55 + n).toUInt8
def quote1 (c : UInt8) : List UInt8 := if plainc c then [c] else [37, greatc (c.toNat / 16), greatc (c.toNat % 16)]
def quoteL (l : List UInt8) : List UInt8 := l.flatMap quote1
theorem quote1_length (c : UInt8) : (quote1 c).length ≤ 3 ∧ 1 ≤ (quote1 c).length := by unfold quote1; split <;> simp
theorem quoteL_length (l : List UInt8) : (quoteL l).length ≤ 3 * l.length := by
 induction l with
 | nil => simp [quoteL]
 | cons c r ih => have := quote1_length c; simp only [quoteL, List.flatMap_cons, List.length_append, List.length_cons] at *; omega
theorem quoteL_append (a b : List UInt8) : quoteL (a ++ b) = quoteL a ++ quoteL b := by simp [quoteL]
theorem quoteL_snoc (a : List UInt8) (c : UInt8) : quoteL (a ++ [c]) = quoteL a ++ quote1 c := by simp [quoteL]

/-! ### Unquote -/
def hexv (c : UInt8) : Option Nat := if 48 ≤ c.toNat ∧ c.toNat ≤ 57 then some (c.toNat - 48) else if 97 ≤ c.toNat ∧ c.toNat ≤ 102 then some (c.toNat - 87) else if 65 ≤ c.toNat ∧ c.toNat ≤ 70 then some (c.toNat - 55) else none
def unquoteL : List UInt8 → Option (List UInt8)
  | [] => some []
  | c :: r =>
    if c = 37 then
      match r with
      | a :: b :: r' => match hexv a, hexv b with
        | some x, some y => (unquoteL r').map ((16 * x + y).toUInt8 :: ·)
        | _, _ => none
      | _ => none
    else (unquoteL r).map ((if c = 43 then 32 else c) :: ·)
theorem hexv_lt {c : UInt8} {x : Nat} (h : hexv c = some x) : x < 16 := by
 unfold hexv at h
 split at h
 ·injection h with h; omega
 ·split at h
  ·injection h with h; omega
  ·split at h
   ·injection h with h; omega
   ·cases h
def digv (c : UInt8) : Int := match hexv c with | some x => x | none => -1
theorem digv_lt {c : UInt8} : digv c < 16 ∧ -1 ≤ digv c := by
 unfold digv
 split
 ·rename_i x h; have := hexv_lt h; omega
 ·omega
theorem hexv_of_digv {c : UInt8} (h : 0 ≤ digv c) : hexv c = some (digv c).toNat := by
 unfold digv at *
 split at h
 ·rename_i x hx; rw [hx]; simp
 ·omega
theorem hexv_none_of_digv {c : UInt8} (h : digv c < 0) : hexv c = none := by
 unfold digv at *
 split at h
 ·omega
 ·assumption
theorem unq_short (r : List UInt8) (h : r.length < 2) : unquoteL (37 :: r) = none := by
 unfold unquoteL
 match r, h with
 | [], _ => simp
 | [a], _ => simp
theorem unq_bad (a b : UInt8) (r : List UInt8) (h : digv a < 0 ∨ digv b < 0) : unquoteL (37 :: a :: b :: r) = none := by
 unfold unquoteL
 rw [if_pos rfl]
 rcases h with h | h
 ·simp [hexv_none_of_digv h]
 ·simp only [hexv_none_of_digv h]
  split <;> simp_all
theorem unq_ok (a b : UInt8) (r : List UInt8) (ha : 0 ≤ digv a) (hb : 0 ≤ digv b) : unquoteL (37 :: a :: b :: r) = (unquoteL r).map ((16 * (digv a).toNat + (digv b).toNat).toUInt8 :: ·) := by
 conv => lhs; unfold unquoteL
 rw [if_pos rfl]
 simp only [hexv_of_digv ha, hexv_of_digv hb]
theorem unq_plain (c : UInt8) (r : List UInt8) (h : c ≠ 37) : unquoteL (c :: r) = (unquoteL r).map ((if c = 43 then 32 else c) :: ·) := by
 conv => lhs; unfold unquoteL
 rw [if_neg h]

/-! ### Split -/
def splitL (c : UInt8) : List UInt8 → List (List UInt8)
  | [] => [[]]
  | x :: r => if x = c then [] :: splitL c r else match splitL c r with
    | p :: ps => (x :: p) :: ps
    | [] => [[x]]
theorem splitL_eq (c : UInt8) (l : List UInt8) : splitL c l = pre c l :: (if c ∈ l then splitL c (post c l) else []) := by
 induction l with
 | nil => simp [splitL, pre]
 | cons x r ih =>
  by_cases hx : x = c
  ·subst hx; simp [splitL, pre, post]
  ·have hx' : (x != c) = true := bne_iff_ne.2 hx
   have hm : (c ∈ x :: r) ↔ c ∈ r := by
    simp only [List.mem_cons]
    exact ⟨fun h => h.elim (fun e => absurd e.symm hx) id, .inr⟩
   rw [splitL, if_neg hx, ih]
   simp only [hm]
   simp [pre, post, hx']
theorem splitL_ne (c : UInt8) (l : List UInt8) : splitL c l ≠ [] := by rw [splitL_eq]; simp
theorem splitL_length_pos (c : UInt8) (l : List UInt8) : 0 < (splitL c l).length := by rw [splitL_eq]; simp
end Go.Proofs.YtifejhbochkifaaGreatDoor.Spec

/-! HLib -/
namespace Go.Proofs.YtifejhbochkifaaGreatDoor.X
open Go.RowKit Go.Proofs.YtifejhbochkifaaGreatDoorW.PrintWords Go.Proofs.YtifejhbochkifaaGreatDoorW.PrintLast Go.Proofs.YtifejhbochkifaaGreatDoorW.PrintMore Go.Proofs.YtifejhbochkifaaGreatDoor.Spec
set_option linter.unusedVariables false
set_option linter.unusedSimpArgs false

theorem drawn0_of_eq {w w' : World} (h : w' = w) : Drawn0 w w' := h ▸ Drawn0.refl w
theorem drawn0_of_n {w w' : World} (h : ∃ n, w' = w.drewN n) : Drawn0 w w' := ⟨h⟩

def strings_IndexByte.f (a0 : ByteArray) (a1 : Int) : Option Int := some (Lib.indexByte (bl a0) a1.toNat.toUInt8)
theorem strings_IndexByte.calls (a0 : ByteArray) (a1 : Int) (r : Int) (w : World) (h : strings_IndexByte.f a0 a1 = some r) :
  Calls Tryz.prog 78 #[.string a0, .int .u8 a1] w fun e w' => e = .returned (.int .i64 r) ∧ Drawn0 w w' := by
 obtain rfl := Option.some.inj h
 exact (Tryz.strings_IndexByte a0 a1 w).mono fun e w' ⟨he, hw⟩ => ⟨he, drawn0_of_eq hw⟩


theorem pre_extract (s : ByteArray) (c : UInt8) (hc : c ∈ bl s) : ba (pre c (bl s)) = s.extract 0 (pre c (bl s)).length := by
 apply bl_inj
 rw [bl_ba, show bl (s.extract 0 (pre c (bl s)).length) = (s.extract 0 (pre c (bl s)).length).data.toList from rfl, Lib.extract_eq]
 simp only [Nat.sub_zero, List.drop_zero]
 rw [show s.data.toList = bl s from rfl]
 conv => rhs; rw [show List.take (pre c (bl s)).length (bl s) = List.take (pre c (bl s)).length (pre c (bl s) ++ c :: post c (bl s)) from by rw [← pre_post hc]]
 simp
theorem post_extract (s : ByteArray) (c : UInt8) (hc : c ∈ bl s) : ba (post c (bl s)) = s.extract ((pre c (bl s)).length + 1) s.size := by
 have hp := congrArg List.length (pre_post hc)
 rw [List.length_append, List.length_cons, bl_length] at hp
 apply bl_inj
 rw [bl_ba, show bl (s.extract ((pre c (bl s)).length + 1) s.size) = (s.extract ((pre c (bl s)).length + 1) s.size).data.toList from rfl, Lib.extract_eq]
 rw [show s.data.toList = bl s from rfl]
 have : List.drop ((pre c (bl s)).length + 1) (bl s) = List.drop ((pre c (bl s)).length + 1) (pre c (bl s) ++ c :: post c (bl s)) := by rw [← pre_post hc]
 rw [this]
 simp
 rw [List.take_of_length_le (by omega)]

def strings_Join.f (l0 : List ByteArray) (a1 : ByteArray) : Option ByteArray :=
  if (Lib.join (l0.map bl) (bl a1)).length ≤ 140737488355328 ∧ l0.length ≤ 140737488355328 then some (ba (Lib.join (l0.map bl) (bl a1))) else none
theorem strings_Join.calls (A0 : Option Addr) (c0 : Nat) (l0 : List ByteArray) (a1 : ByteArray) (r : ByteArray) (w : World) (hr0 : Kd.C Kd.string w A0 l0.length l0) (hc0 : l0.length ≤ c0) (h : strings_Join.f l0 a1 = some r) :
  Calls Tryz.prog 50 #[.slice A0 l0.length c0, .string a1] w fun e w' => e = .returned (.string r) ∧ Below w.heap.size w w' := by
 unfold strings_Join.f at h
 split at h
 ·rename_i hl
  obtain rfl := Option.some.inj h
  cases hx : l0 with
  | nil =>
   refine (Sh.strings_Join_none A0 c0 a1 w).mono fun e w' ⟨he, hw⟩ => ⟨?_, hw ▸ Below.refl _ _⟩
   rw [he]; rfl
  | cons x0 rest =>
   rw [← hx]
   have hpos : 0 < l0.length := by rw [hx]; simp
   obtain ⟨⟨bk, o, sp⟩, rfl, hcell⟩ := hr0.2.2 hpos
   have hcells : ∀ (j : Nat) x, l0[j]? = some x → w.cell? ((⟨bk, o, sp⟩ : Addr).add j) = some (.string x) := by
    intro j x hj
    obtain ⟨c, hlen, hK, hc⟩ := hcell j x hj
    obtain ⟨rfl, _⟩ : c = [.string x] ∧ True := ⟨hK, trivial⟩
    have := hc 0 _ rfl
    rw [show Kd.string.sz = 1 from rfl] at this
    simpa using this
   have hc00 := hcells 0 x0 (by rw [hx]; rfl)
   have hsp : sp = none := by
    cases sp with
    | none => rfl
    | some s =>
     have h0 : (⟨bk, o, some s⟩ : Addr).add 0 = ⟨bk, o, some s⟩ := rfl
     rw [h0] at hc00
     simp only [World.cell?] at hc00
     split at hc00 <;> simp at hc00
   subst hsp
   have hadd : ∀ j, (⟨bk, o, none⟩ : Addr).add j = ⟨bk, o + j, none⟩ := by
    intro j; unfold Addr.add; split <;> simp_all
   have hbk : bk < w.heap.size := World.block_lt_of_cell? w ⟨bk, o + 0, none⟩ (by rw [← hadd]; exact hc00)
   exact (Sh.strings_Join bk o c0 l0 a1 w (fun j x hj => by rw [← hadd]; exact hcells j x hj) hbk hl.2 hc0 hl.1).mono fun e w' ⟨he, hb⟩ => ⟨he, hb⟩
 ·cases h
end Go.Proofs.YtifejhbochkifaaGreatDoor.X

/-! HGokD -/
namespace Go.Proofs.YtifejhbochkifaaGreatDoor.X
open Go.RowKit Go.Proofs.YtifejhbochkifaaGreatDoorW.PrintWords Go.Proofs.YtifejhbochkifaaGreatDoorW.PrintLast Go.Proofs.YtifejhbochkifaaGreatDoorW.PrintMore Go.Proofs.YtifejhbochkifaaGreatDoor.Spec
set_option linter.unusedVariables false
set_option linter.unusedSimpArgs false

def GOK (w : World) : Prop := (∃ m, w.cell? ⟨3, 0, none⟩ = some (.int .i64 m)) ∧ Lib.TabIs Tryz.prog w "internal/strconv.uint64pow10" .u64 Lib.pow10Tab ∧ (∃ tp p, w.var? Tryz.prog "strconv.ErrSyntax" = some #[.iface tp p]) ∧ (∃ tp p, w.var? Tryz.prog "strconv.ErrRange" = some #[.iface tp p])
theorem GOK.maxLen {w : World} (h : GOK w) : ∃ m, w.cell? ⟨3, 0, none⟩ = some (.int .i64 m) := h.1
theorem GOK.tab {w : World} (h : GOK w) : Lib.TabIs Tryz.prog w "internal/strconv.uint64pow10" .u64 Lib.pow10Tab := h.2.1
theorem GOK.esyn {w : World} (h : GOK w) : ∃ tp p, w.var? Tryz.prog "strconv.ErrSyntax" = some #[.iface tp p] := h.2.2.1
theorem GOK.eran {w : World} (h : GOK w) : ∃ tp p, w.var? Tryz.prog "strconv.ErrRange" = some #[.iface tp p] := h.2.2.2
theorem GOK.below {w w' : World} (h : GOK w) (hb : Below w.heap.size w w') : GOK w' := by
 obtain ⟨⟨m, hm⟩, h1, ⟨tp, p, h2⟩, tp', p', h3⟩ := h
 refine ⟨⟨m, (hb.cell (World.block_lt_of_cell? w _ hm)).trans hm⟩, ?_, ⟨tp, p, ?_⟩, tp', p', ?_⟩
 ·exact Joins.tab_stays (g := 0) (by kernel_rfl) h1 hb (Nat.le_refl _)
 ·exact Joins.var_stays (g := 1) (by kernel_rfl) h2 hb (Nat.le_refl _)
 ·exact Joins.var_stays (g := 2) (by kernel_rfl) h3 hb (Nat.le_refl _)
theorem GOK.drawn {w w' : World} (h : GOK w) (hb : Drawn0 w w') : GOK w' := by
 obtain ⟨n, rfl⟩ := hb
 exact h
theorem GOK.drewN {w : World} (n : Nat) (h : GOK w) : GOK (w.drewN n) := h

theorem indexByte_index (l : List UInt8) (c : UInt8) : Lib.index l [c] = Lib.indexByte l c := by
 induction l with
 | nil => rfl
 | cons x r ih =>
  unfold Lib.index Lib.indexByte
  rw [ih]
  by_cases h : x = c
  ·subst h; simp [List.isPrefixOf]
  ·have h1 : (x == c) = false := beq_eq_false_iff_ne.2 h
   have h2 : (c == x) = false := beq_eq_false_iff_ne.2 (fun e => h e.symm)
   simp [List.isPrefixOf, h1, h2]
end Go.Proofs.YtifejhbochkifaaGreatDoor.X

/-! HSlc -/
namespace Go.Proofs.YtifejhbochkifaaGreatDoor.X
open Go.RowKit Go.Proofs.YtifejhbochkifaaGreatDoorW.PrintWords Go.Proofs.YtifejhbochkifaaGreatDoorW.PrintLast Go.Proofs.YtifejhbochkifaaGreatDoorW.PrintMore Go.Proofs.YtifejhbochkifaaGreatDoor.Spec
set_option linter.unusedVariables false
set_option linter.unusedSimpArgs false

theorem slc_info : (Tryz.prog.info? 9).map (fun i => (i.zero, i.size, i.bytes)) = some (some (.string ⟨#[]⟩), 1, 16) := by kernel_rfl
theorem slc_eq (w : World) (a : Option Addr) (n c : Nat) : (binOp .eql 23 (.slice a n c) (.slice none 0 0)).run Tryz.prog w = .ok (.bool a.isNone) w := run_eql_slice_nil w _ _ a n c Tryz.underlying23
theorem slc_made (w : World) (base : Nat) (hb : base ≤ w.heap.size) : Kd.R Kd.string 9 (w.alloc (.cells #[] 9)) base (fun _ => True) (.slice (some ⟨w.heap.size, 0, none⟩) 0 0) [] :=
 Kd.R_of_own (World.ownsRow_made w #[] 0 hb (Nat.zero_le _) rfl) (fun _ _ => trivial)

def slices_Clone_string_string.f (l : List ByteArray) : Option (List ByteArray) := if l.length ≤ 1000000000 then some l else none
set_option maxHeartbeats 2000000 in
set_option maxRecDepth 100000 in
theorem slices_Clone_string_string.calls (A0 : Option Addr) (c0 : Nat) (l0 : List ByteArray) (r : List ByteArray) (w : World) (hr0 : Kd.C Kd.string w A0 l0.length l0) (hc0 : l0.length ≤ c0) (h : slices_Clone_string_string.f l0 = some r) :
  Calls Tryz.prog 57 #[.slice A0 l0.length c0] w fun e w' => ∃ v0_ : Value, e = .returned v0_ ∧ Kd.R Kd.string 9 w' w.heap.size (fun _ => True) v0_ r ∧ Below w.heap.size w w' := by
 unfold slices_Clone_string_string.f at h
 split at h
 case isFalse => cases h
 rename_i hs
 obtain rfl := Option.some.inj h
 clear h
 have hq := slc_eq
 cases A0 with
 | none =>
  have hl : l0 = [] := by
   rcases Nat.eq_zero_or_pos l0.length with h0 | h0
   ·exact List.length_eq_zero_iff.1 h0
   ·obtain ⟨ad, h, _⟩ := hr0.2.2 h0
    cases h
  subst hl
  go_enter Tryz.func57, Tryz.ntmps57
  go_wp2
  go_ret
  exact ⟨_, rfl, Kd.R_nil _ _ _ _ _, Below.refl _ _⟩
 | some ad =>
  have HR := Aside0.mk hr0
  clear hr0
  have hl1 : l0.length ≤ 1000000000 := hs
  go_enter Tryz.func57, Tryz.ntmps57
  go_wp2_with (at_builtin; refine Kd.R_append_rows Kd.string (w0 := w) w.heap.size rfl (.tmp 5) (.tmp 6) 23 9 (.string ⟨#[]⟩) 16 rfl Tryz.underlying23 slc_info rfl (by decide) (by omega) _ [] l0 _ _ _ (fun _ => True) (fun _ => False) rfl rfl (slc_made w _ (Nat.le_refl _)) (Kd.C_alloc HR.out _) (fun _ _ h => h) (fun _ h => h.elim) (fun _ _ => trivial) ((Below.refl _ w).alloc (Nat.le_refl _) _) (by simp) (by simp; omega) ?_; intro v1 w1 ho hb hg hat)
  have HO := Aside0.mk ho
  have HB := Aside0.mk hb
  clear ho hb hg hat
  go_wp2
  go_ret
  exact ⟨_, rfl, HO.out, HB.out⟩

def slices_Clip_string_string.f (l : List ByteArray) : Option (List ByteArray) := some l
set_option maxHeartbeats 2000000 in
set_option maxRecDepth 100000 in
theorem slices_Clip_string_string.calls (P0_ : Nat → Prop) (A0 : Option Addr) (c0 : Nat) (l0 : List ByteArray) (r : List ByteArray) (w : World) (hs0 : Kd.V Kd.string 9 w w.heap.size (fun k_ => P0_ k_) (.slice A0 l0.length c0) l0) (h : slices_Clip_string_string.f l0 = some r) :
  Calls Tryz.prog 56 #[.slice A0 l0.length c0] w fun e w' => ∃ v0_ : Value, e = .returned v0_ ∧ Kd.V Kd.string 9 w' w.heap.size (fun k_ => (P0_ k_ ∨ w.heap.size ≤ k_)) v0_ r ∧ Below w.heap.size w w' := by
 obtain rfl := Option.some.inj h
 clear h
 obtain ⟨_, hl, hf⟩ := Kd.V_at hs0
 have h63 := (Kd.F_now hf).2.1
 have HV := Aside0.mk (Kd.V_mk (e := 9) (base := w.heap.size) (Nat.le_refl l0.length) (Kd.F_mono hf (fun k hk => (.inl hk : P0_ k ∨ w.heap.size ≤ k))))
 have hnil : A0 = none → l0.length = 0 := by
  intro he
  rcases Nat.eq_zero_or_pos l0.length with h0 | h0
  ·exact h0
  ·obtain ⟨ad, h, _⟩ := (Kd.F_now hf).2.2 h0
   rw [he] at h
   cases h
 clear hs0 hf
 cases A0 with
 | none =>
  have h0 : l0 = [] := List.length_eq_zero_iff.1 (hnil rfl)
  subst h0
  go_enter Tryz.func56, Tryz.ntmps56
  go_wp2
  go_ret
  exact ⟨_, rfl, HV.out, Below.refl _ _⟩
 | some ad =>
  obtain ⟨ab, ao, asp⟩ := ad
  go_enter Tryz.func56, Tryz.ntmps56
  go_wp2
  go_ret
  exact ⟨_, rfl, HV.out, Below.refl _ _⟩

end Go.Proofs.YtifejhbochkifaaGreatDoor.X
