/- The library's contracts at this program: laid by the kit's tool, those that are used. -/
import Derived.Shelf.Strings.Builder1
import Derived.Shelf.Strings.Builder2
import Derived.Shelf.Strings.OnBuilder
import Derived.Shelf.Small.Bits
import Derived.Shelf.Strings.BuilderF
import Derived.Shelf.Strings.BuilderK
import Derived.Shelf.Utf8.RuneCount
import Derived.Shelf.Strconv.Itoa0
import Derived.Shelf.Strconv.Itoa1
import Derived.Shelf.LaysM
import Derived.Shelf.Strconv.Itoa2
import Derived.Shelf.Strconv.Itoa3
import Derived.Shelf.Strings.Search1
import Derived.Shelf.Strings.Search2
import Derived.Shelf.Strings.Search3
import Derived.Shelf.Strings.Count
import Derived.Shelf.Strings.Shaped
import Derived.Shelf.GgClosure.StringsIndexFunc
import Derived.Ground.GgwProg
import Derived.Shelf.GgClosure.StringsIndexFuncTop
import Derived.Shelf.GgClosure.StringsRunes
import Derived.Shelf.Strings.Prefix
import Derived.Shelf.Strings.Split
import Derived.Shelf.Strings.SplitShaped
import Derived.Shelf.Unicode.Decode
import Derived.Shelf.Strings.RuneCount
import Derived.Shelf.Strings.Explode
import Derived.Shelf.Bits.Mul64
import Derived.Shelf.Strings.Repeat
import Derived.Shelf.Unicode.DecodeSlow
import Derived.Shelf.Unicode.DecodeAny
import Derived.Shelf.Strings.FuncGrows
import Derived.Ground.Names2Prog
import Derived.Shelf.Slices.SearchI
import Derived.Test.YtfpgmanaikgemaaGreatDoorProg
namespace Go.Proofs
open Go.Shelf
def Tryz.lays156_ren : Go.Shelf.Ren := ⟨fun | 156 => 38 | 165 => 81 | 166 => 36 | 169 => 39 | 240 => 78 | 241 => 121 | 276 => 117 | 277 => 151 | n => n, fun | 31 => 52 | 9 => 9 | 3 => 3 | 4 => 4 | 0 => 0 | 20 => 20 | 72 => 91 | 76 => 94 | 70 => 88 | 37 => 89 | 75 => 93 | 127 => 140 | 164 => 169 | 5 => 5 | 80 => 98 | n => n, fun | n => n⟩
theorem Tryz.lays156 : Go.Proofs.Lays.n156 Tryz.prog Tryz.lays156_ren := {
  mixed := by kernel_rfl
  f156 := Tryz.func38.trans (congrArg some (by kernel_rfl))
  f165 := Tryz.func81.trans (congrArg some (by kernel_rfl))
  f166 := Tryz.func36.trans (congrArg some (by kernel_rfl))
  f169 := Tryz.func39.trans (congrArg some (by kernel_rfl))
  f240 := Tryz.func78.trans (congrArg some (by kernel_rfl))
  f241 := Tryz.func121.trans (congrArg some (by kernel_rfl))
  f276 := Tryz.func117.trans (congrArg some (by kernel_rfl))
  f277 := Tryz.func151.trans (congrArg some (by kernel_rfl))
  t0 := Tryz.underlying0
  a0 := Tryz.isAgg0
  z0 := Tryz.sizeOf0
  v0 := Tryz.zeroValue0
  t3 := Tryz.underlying3
  a3 := Tryz.isAgg3
  z3 := Tryz.sizeOf3
  v3 := Tryz.zeroValue3
  t4 := Tryz.underlying4
  a4 := Tryz.isAgg4
  z4 := Tryz.sizeOf4
  v4 := Tryz.zeroValue4
  t9 := Tryz.underlying9
  a9 := Tryz.isAgg9
  z9 := Tryz.sizeOf9
  v9 := Tryz.zeroValue9
  t20 := Tryz.underlying20
  a20 := Tryz.isAgg20
  z20 := Tryz.sizeOf20
  v20 := Tryz.zeroValue20
  t31 := Tryz.underlying52
  a31 := Tryz.isAgg52
  z31 := Tryz.sizeOf52
  v31 := Tryz.zeroValue52
  t37 := Tryz.underlying89
  a37 := Tryz.isAgg89
  z37 := Tryz.sizeOf89
  v37 := Tryz.zeroValue89
  t70 := Tryz.underlying88
  a70 := Tryz.isAgg88
  z70 := Tryz.sizeOf88
  v70 := Tryz.zeroValue88
  t72 := Tryz.underlying91
  a72 := Tryz.isAgg91
  z72 := Tryz.sizeOf91
  v72 := Tryz.zeroValue91
  t75 := Tryz.underlying93
  a75 := Tryz.isAgg93
  z75 := Tryz.sizeOf93
  v75 := Tryz.zeroValue93
  t76 := Tryz.underlying94
  a76 := Tryz.isAgg94
  z76 := Tryz.sizeOf94
  v76 := Tryz.zeroValue94
  t127 := Tryz.underlying140
  a127 := Tryz.isAgg140
  z127 := Tryz.sizeOf140
  v127 := Tryz.zeroValue140
  t164 := Tryz.underlying169
  a164 := Tryz.isAgg169
  z164 := Tryz.sizeOf169
  v164 := Tryz.zeroValue169 }
theorem Tryz.Builder_Extra_156 : Builder.Extra Tryz.prog Tryz.lays156_ren := {
  sizeBuilder := by kernel_rfl
  liesBuilder := by kernel_rfl
  t5 := Tryz.underlying5
  a5 := Tryz.isAgg5
  z5 := Tryz.sizeOf5
  v5 := Tryz.zeroValue5
  infoByte := by kernel_rfl
  cellsByte := by kernel_rfl
  sizeByte := by kernel_rfl
  neB5 := by decide }
open Go.RowKit in
theorem Tryz.strings_Join (bk o c : Nat) (xs : List ByteArray) (sep : ByteArray) (w : World) (hcells : ∀ (j : Nat) x, xs[j]? = some x → w.cell? ⟨bk, o + j, none⟩ = some (.string x)) (hbk : bk < w.heap.size) (hN : xs.length ≤ 140737488355328) (hcap : xs.length ≤ c) (hlen : (Lib.join (xs.map (·.data.toList)) sep.data.toList).length ≤ 140737488355328) :
    Calls Tryz.prog 38 #[.slice (some ⟨bk, o, none⟩) xs.length c, .string sep] w fun e w' => e = .returned (.string ⟨(Lib.join (xs.map (·.data.toList)) sep.data.toList).toArray⟩) ∧ Below w.heap.size w w' := Any.strings_Join Tryz.lays156 Tryz.Builder_Extra_156 bk o c xs sep w hcells hbk hN hcap hlen
def Tryz.laysM171_ren : Go.Shelf.Ren := ⟨fun | 171 => 34 | 243 => 74 | 246 => 115 | 283 => 147 | 284 => 148 | 285 => 149 | 286 => 150 | 129 => 170 | 317 => 173 | 318 => 174 | 319 => 175 | 320 => 176 | 337 => 191 | 338 => 192 | n => n, fun | 3 => 3 | 9 => 9 | 2 => 2 | 4 => 4 | 171 => 192 | 0 => 0 | 53 => 174 | 37 => 89 | 5 => 5 | 173 => 195 | 212 => 211 | 51 => 171 | 20 => 20 | 213 => 212 | 46 => 134 | 232 => 229 | 233 => 230 | n => n, fun | 17 => 0 | 18 => 4 | 19 => 5 | n => n⟩
theorem Tryz.laysM171 : Go.Proofs.LaysM.n171 Tryz.prog Tryz.laysM171_ren := {
  mixed := by kernel_rfl
  f129 := Tryz.func170.trans (congrArg some (by kernel_rfl))
  f171 := Tryz.func34.trans (congrArg some (by kernel_rfl))
  f243 := Tryz.func74.trans (congrArg some (by kernel_rfl))
  f246 := Tryz.func115.trans (congrArg some (by kernel_rfl))
  f283 := Tryz.func147.trans (congrArg some (by kernel_rfl))
  f284 := Tryz.func148.trans (congrArg some (by kernel_rfl))
  f285 := Tryz.func149.trans (congrArg some (by kernel_rfl))
  f286 := Tryz.func150.trans (congrArg some (by kernel_rfl))
  f317 := Tryz.func173.trans (congrArg some (by kernel_rfl))
  f318 := Tryz.func174.trans (congrArg some (by kernel_rfl))
  f319 := Tryz.func175.trans (congrArg some (by kernel_rfl))
  f320 := Tryz.func176.trans (congrArg some (by kernel_rfl))
  f337 := Tryz.func191.trans (congrArg some (by kernel_rfl))
  f338 := Tryz.func192.trans (congrArg some (by kernel_rfl))
  t0 := Tryz.underlying0
  a0 := Tryz.isAgg0
  z0 := Tryz.sizeOf0
  v0 := Tryz.zeroValue0
  t2 := Tryz.underlying2
  a2 := Tryz.isAgg2
  z2 := Tryz.sizeOf2
  v2 := Tryz.zeroValue2
  t3 := Tryz.underlying3
  a3 := Tryz.isAgg3
  z3 := Tryz.sizeOf3
  v3 := Tryz.zeroValue3
  t4 := Tryz.underlying4
  a4 := Tryz.isAgg4
  z4 := Tryz.sizeOf4
  v4 := Tryz.zeroValue4
  t5 := Tryz.underlying5
  a5 := Tryz.isAgg5
  z5 := Tryz.sizeOf5
  v5 := Tryz.zeroValue5
  t9 := Tryz.underlying9
  a9 := Tryz.isAgg9
  z9 := Tryz.sizeOf9
  v9 := Tryz.zeroValue9
  t20 := Tryz.underlying20
  a20 := Tryz.isAgg20
  z20 := Tryz.sizeOf20
  v20 := Tryz.zeroValue20
  t37 := Tryz.underlying89
  a37 := Tryz.isAgg89
  z37 := Tryz.sizeOf89
  v37 := Tryz.zeroValue89
  t46 := Tryz.underlying134
  a46 := Tryz.isAgg134
  z46 := Tryz.sizeOf134
  v46 := Tryz.zeroValue134
  t51 := Tryz.underlying171
  a51 := Tryz.isAgg171
  z51 := Tryz.sizeOf171
  v51 := Tryz.zeroValue171
  t53 := Tryz.underlying174
  a53 := Tryz.isAgg174
  z53 := Tryz.sizeOf174
  v53 := Tryz.zeroValue174
  t171 := Tryz.underlying192
  a171 := Tryz.isAgg192
  z171 := Tryz.sizeOf192
  v171 := Tryz.zeroValue192
  t173 := Tryz.underlying195
  a173 := Tryz.isAgg195
  z173 := Tryz.sizeOf195
  v173 := Tryz.zeroValue195
  t212 := Tryz.underlying211
  a212 := Tryz.isAgg211
  z212 := Tryz.sizeOf211
  v212 := Tryz.zeroValue211
  t213 := Tryz.underlying212
  a213 := Tryz.isAgg212
  z213 := Tryz.sizeOf212
  t232 := Tryz.underlying229
  a232 := Tryz.isAgg229
  z232 := Tryz.sizeOf229
  v232 := Tryz.zeroValue229
  t233 := Tryz.underlying230
  a233 := Tryz.isAgg230
  z233 := Tryz.sizeOf230
  v233 := Tryz.zeroValue230
  g17 := by kernel_rfl
  g18 := by kernel_rfl
  g19 := by kernel_rfl
  i0 := by kernel_rfl
  i2 := by kernel_rfl
  i3 := by kernel_rfl
  i4 := by kernel_rfl
  i5 := by kernel_rfl
  i9 := by kernel_rfl
  i20 := by kernel_rfl
  i37 := by kernel_rfl
  i46 := by kernel_rfl
  i51 := by kernel_rfl
  i53 := by kernel_rfl
  i171 := by kernel_rfl
  i173 := by kernel_rfl
  i212 := by kernel_rfl
  i232 := by kernel_rfl
  i233 := by kernel_rfl
  m17 := by kernel_rfl
  m18 := by kernel_rfl
  m19 := by kernel_rfl }
open Go.RowKit Go.Sort Go.Lib in
theorem Tryz.strconv_Itoa (n : Int) (h0 : -9223372036854775808 ≤ n) (h1 : n ≤ 9223372036854775807) (w : World) (htab : Lib.TabIs Tryz.prog w "internal/strconv.uint64pow10" .u64 Lib.pow10Tab) :
    Calls Tryz.prog 34 #[.int .i64 n] w fun e w' => e = .returned (.string ⟨(Lib.itoa n).toArray⟩) ∧ ∃ k os, w' = grow (w.drewN k) os := Any.strconv_Itoa Tryz.laysM171 n h0 h1 w htab
def Tryz.laysGw15_ren : Go.Shelf.Ren := ⟨fun | 15 => 75 | 20 => 116 | n => n, fun | 9 => 9 | 23 => 133 | 3 => 3 | 4 => 4 | 0 => 0 | 21 => 21 | n => n, fun | n => n⟩
theorem Tryz.laysGw15 : Go.Proofs.LaysGw.n15 Tryz.prog Tryz.laysGw15_ren := {
  mixed := by kernel_rfl
  f15 := Tryz.func75.trans (congrArg some (by kernel_rfl))
  f20 := Tryz.func116.trans (congrArg some (by kernel_rfl))
  t0 := Tryz.underlying0
  a0 := Tryz.isAgg0
  z0 := Tryz.sizeOf0
  v0 := Tryz.zeroValue0
  i0 := by kernel_rfl
  t3 := Tryz.underlying3
  a3 := Tryz.isAgg3
  z3 := Tryz.sizeOf3
  v3 := Tryz.zeroValue3
  i3 := by kernel_rfl
  t4 := Tryz.underlying4
  a4 := Tryz.isAgg4
  z4 := Tryz.sizeOf4
  v4 := Tryz.zeroValue4
  i4 := by kernel_rfl
  t9 := Tryz.underlying9
  a9 := Tryz.isAgg9
  z9 := Tryz.sizeOf9
  v9 := Tryz.zeroValue9
  i9 := by kernel_rfl
  t21 := Tryz.underlying21
  a21 := Tryz.isAgg21
  z21 := Tryz.sizeOf21
  v21 := Tryz.zeroValue21
  i21 := by kernel_rfl
  t23 := Tryz.underlying133
  a23 := Tryz.isAgg133
  z23 := Tryz.sizeOf133
  v23 := Tryz.zeroValue133
  i23 := by kernel_rfl }
def Tryz.lays105_ren : Go.Shelf.Ren := ⟨fun | 105 => 37 | 212 => 79 | 99 => 80 | 165 => 81 | 166 => 36 | 170 => 82 | 169 => 39 | 263 => 118 | 264 => 119 | 206 => 120 | 240 => 78 | 241 => 121 | 276 => 117 | 277 => 151 | n => n, fun | 9 => 9 | 3 => 3 | 4 => 4 | 20 => 20 | 0 => 0 | 46 => 134 | 109 => 135 | 5 => 5 | 72 => 91 | 76 => 94 | 51 => 171 | 146 => 172 | 53 => 174 | 148 => 175 | 70 => 88 | 37 => 89 | 75 => 93 | 127 => 140 | 164 => 169 | 80 => 98 | n => n, fun | n => n⟩
theorem Tryz.lays105 : Go.Proofs.Lays.n105 Tryz.prog Tryz.lays105_ren := {
  mixed := by kernel_rfl
  f99 := Tryz.func80.trans (congrArg some (by kernel_rfl))
  f105 := Tryz.func37.trans (congrArg some (by kernel_rfl))
  f165 := Tryz.func81.trans (congrArg some (by kernel_rfl))
  f166 := Tryz.func36.trans (congrArg some (by kernel_rfl))
  f169 := Tryz.func39.trans (congrArg some (by kernel_rfl))
  f170 := Tryz.func82.trans (congrArg some (by kernel_rfl))
  f206 := Tryz.func120.trans (congrArg some (by kernel_rfl))
  f212 := Tryz.func79.trans (congrArg some (by kernel_rfl))
  f240 := Tryz.func78.trans (congrArg some (by kernel_rfl))
  f241 := Tryz.func121.trans (congrArg some (by kernel_rfl))
  f263 := Tryz.func118.trans (congrArg some (by kernel_rfl))
  f264 := Tryz.func119.trans (congrArg some (by kernel_rfl))
  f276 := Tryz.func117.trans (congrArg some (by kernel_rfl))
  f277 := Tryz.func151.trans (congrArg some (by kernel_rfl))
  t0 := Tryz.underlying0
  a0 := Tryz.isAgg0
  z0 := Tryz.sizeOf0
  v0 := Tryz.zeroValue0
  t3 := Tryz.underlying3
  a3 := Tryz.isAgg3
  z3 := Tryz.sizeOf3
  v3 := Tryz.zeroValue3
  t4 := Tryz.underlying4
  a4 := Tryz.isAgg4
  z4 := Tryz.sizeOf4
  v4 := Tryz.zeroValue4
  t5 := Tryz.underlying5
  a5 := Tryz.isAgg5
  z5 := Tryz.sizeOf5
  v5 := Tryz.zeroValue5
  t9 := Tryz.underlying9
  a9 := Tryz.isAgg9
  z9 := Tryz.sizeOf9
  v9 := Tryz.zeroValue9
  t20 := Tryz.underlying20
  a20 := Tryz.isAgg20
  z20 := Tryz.sizeOf20
  v20 := Tryz.zeroValue20
  t37 := Tryz.underlying89
  a37 := Tryz.isAgg89
  z37 := Tryz.sizeOf89
  v37 := Tryz.zeroValue89
  t46 := Tryz.underlying134
  a46 := Tryz.isAgg134
  z46 := Tryz.sizeOf134
  v46 := Tryz.zeroValue134
  t51 := Tryz.underlying171
  a51 := Tryz.isAgg171
  z51 := Tryz.sizeOf171
  v51 := Tryz.zeroValue171
  t53 := Tryz.underlying174
  a53 := Tryz.isAgg174
  z53 := Tryz.sizeOf174
  v53 := Tryz.zeroValue174
  t70 := Tryz.underlying88
  a70 := Tryz.isAgg88
  z70 := Tryz.sizeOf88
  v70 := Tryz.zeroValue88
  t72 := Tryz.underlying91
  a72 := Tryz.isAgg91
  z72 := Tryz.sizeOf91
  v72 := Tryz.zeroValue91
  t75 := Tryz.underlying93
  a75 := Tryz.isAgg93
  z75 := Tryz.sizeOf93
  v75 := Tryz.zeroValue93
  t76 := Tryz.underlying94
  a76 := Tryz.isAgg94
  z76 := Tryz.sizeOf94
  v76 := Tryz.zeroValue94
  t109 := Tryz.underlying135
  a109 := Tryz.isAgg135
  z109 := Tryz.sizeOf135
  v109 := Tryz.zeroValue135
  t127 := Tryz.underlying140
  a127 := Tryz.isAgg140
  z127 := Tryz.sizeOf140
  v127 := Tryz.zeroValue140
  t146 := Tryz.underlying172
  a146 := Tryz.isAgg172
  z146 := Tryz.sizeOf172
  v146 := Tryz.zeroValue172
  t148 := Tryz.underlying175
  a148 := Tryz.isAgg175
  z148 := Tryz.sizeOf175
  v148 := Tryz.zeroValue175
  t164 := Tryz.underlying169
  a164 := Tryz.isAgg169
  z164 := Tryz.sizeOf169
  v164 := Tryz.zeroValue169 }
theorem Tryz.Builder_Extra_105 : Builder.Extra Tryz.prog Tryz.lays105_ren := {
  sizeBuilder := by kernel_rfl
  liesBuilder := by kernel_rfl
  t5 := Tryz.underlying5
  a5 := Tryz.isAgg5
  z5 := Tryz.sizeOf5
  v5 := Tryz.zeroValue5
  infoByte := by kernel_rfl
  cellsByte := by kernel_rfl
  sizeByte := by kernel_rfl
  neB5 := by decide }
open Go.RowKit Go.Lib in
theorem Tryz.strings_Repeat (s : ByteArray) (c : Nat) (w : World) (hc : c ≤ 9223372036854775807) (hlen : s.size * c ≤ 140737488355328) :
    Calls Tryz.prog 37 #[.string s, .int .i64 c] w fun e w' => e = .returned (.string ⟨(Lib.repeatL s.data.toList c).toArray⟩) ∧ Below w.heap.size w w' := Any.strings_Repeat Tryz.lays105 Tryz.Builder_Extra_105 s c w hc hlen
open Go.RowKit Go.Lib in
theorem Tryz.strings_IndexFunc_grows (g : Nat) (lb : Array Value) (eg : ∀ args w, (callFunc g args).run Tryz.prog w = .ok (.enter g args) w) (p : Nat → Bool) (s : ByteArray) (w : World) (hp : PredGrows Tryz.prog g lb p w) :
    Calls Tryz.prog 75 #[.string s, .func (.func g) #[] lb] w fun e w' => e = .returned (.int .i64 (Lib.idxFunc p true s)) ∧ Below w.heap.size w w' := Any.strings_IndexFunc_grows Tryz.laysGw15 g lb eg p s w hp
end Go.Proofs
