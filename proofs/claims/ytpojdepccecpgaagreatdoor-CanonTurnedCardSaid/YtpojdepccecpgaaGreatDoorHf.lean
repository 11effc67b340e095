/- The document's own functions: names, the table, digits, what is the same, what has a text. No conditions but bounds. -/
import Derived.Shelf.Strings.Builder1
import Derived.Shelf.Strings.Builder2
import Derived.Shelf.Strings.OnBuilder
import Derived.Shelf.Small.Bits
import Derived.Shelf.Small.Wraps
import Derived.Shelf.Strconv.Itoa0
import Derived.Shelf.Strconv.Itoa1
import Derived.Shelf.LaysM
import Derived.Shelf.Strconv.Itoa2
import Derived.Shelf.Strconv.Itoa3
import Derived.Shelf.Strconv.Itoa4
import Derived.Shelf.Sort.Plain
import Derived.Shelf.Unicode.Props
import Derived.Shelf.Unicode.PropsLaid
import Derived.Shelf.Unicode.Is16White
import Derived.Shelf.Unicode.IsSpaceAny
import Derived.Shelf.Unicode.Is16WhiteD
import Derived.Shelf.Unicode.Is16Any
import Derived.Shelf.Unicode.Is32Any
import Derived.Shelf.Unicode.ExclAny
import Derived.Shelf.Unicode.PredsAny
import Derived.Shelf.Unicode.PredsPay
import Derived.Shelf.Slices.Turned
import Derived.Shelf.Slices.Reverse
import Derived.Shelf.Slices.Equal
import Derived.Ground.Names2Prog
import Derived.Shelf.Slices.Clone
import Derived.Shelf.Slices.SearchI
import Derived.Shelf.Slices.Cells
import Derived.Shelf.Slices.In.SortNone
import Derived.Shelf.Slices.Empties2
import Derived.Ground.SlgnProg
import Derived.Shelf.SlicesE.Reverse
import Derived.Shelf.SlicesE.Clone
import Derived.Test.YtpojdepccecpgaaGreatDoorChecked
import Derived.Test.YtpojdepccecpgaaGreatDoorHe
import Derived.Test.YtpojdepccecpgaaGreatDoorHc
import Derived.Test.YtpojdepccecpgaaGreatDoorHd
import Derived.Lib.ItoaLen
import Derived.Lib.Join
set_option linter.unusedVariables false
set_option linter.unusedSimpArgs false
set_option linter.unusedSectionVars false
namespace Go.Proofs
open Go.Shelf
def Tryz.lays169_ren : Go.Shelf.Ren := ⟨fun | 169 => 66 | n => n, fun | 70 => 103 | 9 => 9 | 0 => 0 | 72 => 106 | 37 => 104 | 127 => 157 | 3 => 3 | 5 => 5 | n => n, fun | n => n⟩
theorem Tryz.lays169 : Go.Proofs.Lays.n169 prog Tryz.lays169_ren := {
 mixed := by kernel_rfl
 f169 := func66.trans (congrArg some (by kernel_rfl))
 t0 := underlying0
 a0 := isAgg0
 z0 := sizeOf0
 v0 := zeroValue0
 t3 := underlying3
 a3 := isAgg3
 z3 := sizeOf3
 v3 := zeroValue3
 t9 := underlying9
 a9 := isAgg9
 z9 := sizeOf9
 v9 := zeroValue9
 t37 := underlying104
 a37 := isAgg104
 z37 := sizeOf104
 v37 := zeroValue104
 t70 := underlying103
 a70 := isAgg103
 z70 := sizeOf103
 v70 := zeroValue103
 t72 := underlying106
 a72 := isAgg106
 z72 := sizeOf106
 v72 := zeroValue106
 t127 := underlying157
 a127 := isAgg157
 z127 := sizeOf157
 v127 := zeroValue157 }
theorem Tryz.Builder_Extra_169 : Builder.Extra prog Tryz.lays169_ren := {
 sizeBuilder := by kernel_rfl
 liesBuilder := by kernel_rfl
 t5 := underlying5
 a5 := isAgg5
 z5 := sizeOf5
 v5 := zeroValue5
 infoByte := by kernel_rfl
 cellsByte := by kernel_rfl
 sizeByte := by kernel_rfl
 neB5 := by decide }
def Tryz.lays156_ren : Go.Shelf.Ren := ⟨fun | 156 => 60 | 165 => 99 | 166 => 59 | 169 => 66 | 240 => 98 | 241 => 140 | 276 => 139 | 277 => 174 | n => n, fun | 31 => 84 | 9 => 9 | 3 => 3 | 4 => 4 | 0 => 0 | 20 => 20 | 72 => 106 | 76 => 109 | 70 => 103 | 37 => 104 | 75 => 108 | 127 => 157 | 164 => 194 | 5 => 5 | 80 => 117 | n => n, fun | n => n⟩
theorem Tryz.lays156 : Go.Proofs.Lays.n156 prog Tryz.lays156_ren := {
 mixed := by kernel_rfl
 f156 := func60.trans (congrArg some (by kernel_rfl))
 f165 := func99.trans (congrArg some (by kernel_rfl))
 f166 := func59.trans (congrArg some (by kernel_rfl))
 f169 := func66.trans (congrArg some (by kernel_rfl))
 f240 := func98.trans (congrArg some (by kernel_rfl))
 f241 := func140.trans (congrArg some (by kernel_rfl))
 f276 := func139.trans (congrArg some (by kernel_rfl))
 f277 := func174.trans (congrArg some (by kernel_rfl))
 t0 := underlying0
 a0 := isAgg0
 z0 := sizeOf0
 v0 := zeroValue0
 t3 := underlying3
 a3 := isAgg3
 z3 := sizeOf3
 v3 := zeroValue3
 t4 := underlying4
 a4 := isAgg4
 z4 := sizeOf4
 v4 := zeroValue4
 t9 := underlying9
 a9 := isAgg9
 z9 := sizeOf9
 v9 := zeroValue9
 t20 := underlying20
 a20 := isAgg20
 z20 := sizeOf20
 v20 := zeroValue20
 t31 := underlying84
 a31 := isAgg84
 z31 := sizeOf84
 v31 := zeroValue84
 t37 := underlying104
 a37 := isAgg104
 z37 := sizeOf104
 v37 := zeroValue104
 t70 := underlying103
 a70 := isAgg103
 z70 := sizeOf103
 v70 := zeroValue103
 t72 := underlying106
 a72 := isAgg106
 z72 := sizeOf106
 v72 := zeroValue106
 t75 := underlying108
 a75 := isAgg108
 z75 := sizeOf108
 v75 := zeroValue108
 t76 := underlying109
 a76 := isAgg109
 z76 := sizeOf109
 v76 := zeroValue109
 t127 := underlying157
 a127 := isAgg157
 z127 := sizeOf157
 v127 := zeroValue157
 t164 := underlying194
 a164 := isAgg194
 z164 := sizeOf194
 v164 := zeroValue194 }
theorem Tryz.Builder_Extra_156 : Builder.Extra prog Tryz.lays156_ren := {
 sizeBuilder := by kernel_rfl
 liesBuilder := by kernel_rfl
 t5 := underlying5
 a5 := isAgg5
 z5 := sizeOf5
 v5 := zeroValue5
 infoByte := by kernel_rfl
 cellsByte := by kernel_rfl
 sizeByte := by kernel_rfl
 neB5 := by decide }
open Go.RowKit in
theorem Tryz.strings_Join_none (a : Option Addr) (c : Nat) (sep : ByteArray) (w : World) :
  Calls prog 60 #[.slice a 0 c, .string sep] w fun e w' => e = .returned (.string ⟨#[]⟩) ∧ w' = w := Any.strings_Join_none Tryz.lays156 Tryz.Builder_Extra_156 a c sep w
open Go.RowKit in
theorem Tryz.strings_Join (bk o c : Nat) (xs : List ByteArray) (sep : ByteArray) (w : World) (hcells : ∀ (j : Nat) x, xs[j]? = some x → w.cell? ⟨bk, o + j, none⟩ = some (.string x)) (hbk : bk < w.heap.size) (hN : xs.length ≤ 140737488355328) (hcap : xs.length ≤ c) (hlen : (Lib.join (xs.map (·.data.toList)) sep.data.toList).length ≤ 140737488355328) :
  Calls prog 60 #[.slice (some ⟨bk, o, none⟩) xs.length c, .string sep] w fun e w' => e = .returned (.string ⟨(Lib.join (xs.map (·.data.toList)) sep.data.toList).toArray⟩) ∧ Below w.heap.size w w' := Any.strings_Join Tryz.lays156 Tryz.Builder_Extra_156 bk o c xs sep w hcells hbk hN hcap hlen
def Tryz.lays122_ren : Go.Shelf.Ren := ⟨fun | 122 => 88 | 215 => 124 | n => n, fun | 3 => 3 | 4 => 4 | n => n, fun | n => n⟩
theorem Tryz.lays122 : Go.Proofs.Lays.n122 prog Tryz.lays122_ren := {
 mixed := by kernel_rfl
 f122 := func88.trans (congrArg some (by kernel_rfl))
 f215 := func124.trans (congrArg some (by kernel_rfl))
 t3 := underlying3
 a3 := isAgg3
 z3 := sizeOf3
 v3 := zeroValue3
 t4 := underlying4
 a4 := isAgg4
 z4 := sizeOf4
 v4 := zeroValue4 }
open Go.RowKit in
theorem Tryz.cmp_Compare_int (x y : Int) (w : World) :
  Calls prog 88 #[.int .i64 x, .int .i64 y] w fun e w' => e = .returned (.int .i64 (Lib.compareInt x y)) ∧ w' = w := Any.cmp_Compare_int Tryz.lays122 x y w
def Tryz.laysM171_ren : Go.Shelf.Ren := ⟨fun | 171 => 28 | 243 => 56 | 246 => 89 | 283 => 125 | 284 => 126 | 285 => 127 | 286 => 128 | 129 => 157 | 317 => 166 | 318 => 167 | 319 => 168 | 320 => 169 | 337 => 186 | 338 => 187 | n => n, fun | 3 => 3 | 9 => 9 | 2 => 2 | 4 => 4 | 171 => 179 | 0 => 0 | 53 => 53 | 37 => 104 | 5 => 5 | 173 => 182 | 212 => 217 | 51 => 210 | 20 => 20 | 213 => 218 | 46 => 132 | 232 => 251 | 233 => 252 | n => n, fun | 17 => 0 | 18 => 4 | 19 => 5 | n => n⟩
theorem Tryz.laysM171 : Go.Proofs.LaysM.n171 prog Tryz.laysM171_ren := {
 mixed := by kernel_rfl
 f129 := func157.trans (congrArg some (by kernel_rfl))
 f171 := func28.trans (congrArg some (by kernel_rfl))
 f243 := func56.trans (congrArg some (by kernel_rfl))
 f246 := func89.trans (congrArg some (by kernel_rfl))
 f283 := func125.trans (congrArg some (by kernel_rfl))
 f284 := func126.trans (congrArg some (by kernel_rfl))
 f285 := func127.trans (congrArg some (by kernel_rfl))
 f286 := func128.trans (congrArg some (by kernel_rfl))
 f317 := func166.trans (congrArg some (by kernel_rfl))
 f318 := func167.trans (congrArg some (by kernel_rfl))
 f319 := func168.trans (congrArg some (by kernel_rfl))
 f320 := func169.trans (congrArg some (by kernel_rfl))
 f337 := func186.trans (congrArg some (by kernel_rfl))
 f338 := func187.trans (congrArg some (by kernel_rfl))
 t0 := underlying0
 a0 := isAgg0
 z0 := sizeOf0
 v0 := zeroValue0
 t2 := underlying2
 a2 := isAgg2
 z2 := sizeOf2
 v2 := zeroValue2
 t3 := underlying3
 a3 := isAgg3
 z3 := sizeOf3
 v3 := zeroValue3
 t4 := underlying4
 a4 := isAgg4
 z4 := sizeOf4
 v4 := zeroValue4
 t5 := underlying5
 a5 := isAgg5
 z5 := sizeOf5
 v5 := zeroValue5
 t9 := underlying9
 a9 := isAgg9
 z9 := sizeOf9
 v9 := zeroValue9
 t20 := underlying20
 a20 := isAgg20
 z20 := sizeOf20
 v20 := zeroValue20
 t37 := underlying104
 a37 := isAgg104
 z37 := sizeOf104
 v37 := zeroValue104
 t46 := underlying132
 a46 := isAgg132
 z46 := sizeOf132
 v46 := zeroValue132
 t51 := underlying210
 a51 := isAgg210
 z51 := sizeOf210
 v51 := zeroValue210
 t53 := underlying53
 a53 := isAgg53
 z53 := sizeOf53
 v53 := zeroValue53
 t171 := underlying179
 a171 := isAgg179
 z171 := sizeOf179
 v171 := zeroValue179
 t173 := underlying182
 a173 := isAgg182
 z173 := sizeOf182
 v173 := zeroValue182
 t212 := underlying217
 a212 := isAgg217
 z212 := sizeOf217
 v212 := zeroValue217
 t213 := underlying218
 a213 := isAgg218
 z213 := sizeOf218
 t232 := underlying251
 a232 := isAgg251
 z232 := sizeOf251
 v232 := zeroValue251
 t233 := underlying252
 a233 := isAgg252
 z233 := sizeOf252
 v233 := zeroValue252
 g17 := by kernel_rfl
 g18 := by kernel_rfl
 g19 := by kernel_rfl
 i0 := by kernel_rfl
 i2 := by kernel_rfl
 i3 := by kernel_rfl
 i4 := by kernel_rfl
 i5 := by kernel_rfl
 i9 := by kernel_rfl
 i20 := by kernel_rfl
 i37 := by kernel_rfl
 i46 := by kernel_rfl
 i51 := by kernel_rfl
 i53 := by kernel_rfl
 i171 := by kernel_rfl
 i173 := by kernel_rfl
 i212 := by kernel_rfl
 i232 := by kernel_rfl
 i233 := by kernel_rfl
 m17 := by kernel_rfl
 m18 := by kernel_rfl
 m19 := by kernel_rfl }
open Go.RowKit Go.Sort Go.Lib in
theorem Tryz.strconv_Itoa (n : Int) (h0 : -9223372036854775808 ≤ n) (h1 : n ≤ 9223372036854775807) (w : World) (htab : Lib.TabIs prog w "internal/strconv.uint64pow10" .u64 Lib.pow10Tab) :
  Calls prog 28 #[.int .i64 n] w fun e w' => e = .returned (.string ⟨(Lib.itoa n).toArray⟩) ∧ ∃ k os, w' = grow (w.drewN k) os := Any.strconv_Itoa Tryz.laysM171 n h0 h1 w htab
def Tryz.laysM173_ren : Go.Shelf.Ren := ⟨fun | 173 => 103 | 246 => 89 | 283 => 125 | 284 => 126 | 285 => 127 | 286 => 128 | 129 => 157 | 317 => 166 | 318 => 167 | 319 => 168 | 320 => 169 | 337 => 186 | 338 => 187 | n => n, fun | 2 => 2 | 3 => 3 | 9 => 9 | 4 => 4 | 171 => 179 | 0 => 0 | 53 => 53 | 37 => 104 | 5 => 5 | 173 => 182 | 212 => 217 | 51 => 210 | 20 => 20 | 213 => 218 | 46 => 132 | 232 => 251 | 233 => 252 | n => n, fun | 17 => 0 | 18 => 4 | 19 => 5 | n => n⟩
theorem Tryz.laysM173 : Go.Proofs.LaysM.n173 prog Tryz.laysM173_ren := {
 mixed := by kernel_rfl
 f129 := func157.trans (congrArg some (by kernel_rfl))
 f173 := func103.trans (congrArg some (by kernel_rfl))
 f246 := func89.trans (congrArg some (by kernel_rfl))
 f283 := func125.trans (congrArg some (by kernel_rfl))
 f284 := func126.trans (congrArg some (by kernel_rfl))
 f285 := func127.trans (congrArg some (by kernel_rfl))
 f286 := func128.trans (congrArg some (by kernel_rfl))
 f317 := func166.trans (congrArg some (by kernel_rfl))
 f318 := func167.trans (congrArg some (by kernel_rfl))
 f319 := func168.trans (congrArg some (by kernel_rfl))
 f320 := func169.trans (congrArg some (by kernel_rfl))
 f337 := func186.trans (congrArg some (by kernel_rfl))
 f338 := func187.trans (congrArg some (by kernel_rfl))
 t0 := underlying0
 a0 := isAgg0
 z0 := sizeOf0
 v0 := zeroValue0
 t2 := underlying2
 a2 := isAgg2
 z2 := sizeOf2
 v2 := zeroValue2
 t3 := underlying3
 a3 := isAgg3
 z3 := sizeOf3
 v3 := zeroValue3
 t4 := underlying4
 a4 := isAgg4
 z4 := sizeOf4
 v4 := zeroValue4
 t5 := underlying5
 a5 := isAgg5
 z5 := sizeOf5
 v5 := zeroValue5
 t9 := underlying9
 a9 := isAgg9
 z9 := sizeOf9
 v9 := zeroValue9
 t20 := underlying20
 a20 := isAgg20
 z20 := sizeOf20
 v20 := zeroValue20
 t37 := underlying104
 a37 := isAgg104
 z37 := sizeOf104
 v37 := zeroValue104
 t46 := underlying132
 a46 := isAgg132
 z46 := sizeOf132
 v46 := zeroValue132
 t51 := underlying210
 a51 := isAgg210
 z51 := sizeOf210
 v51 := zeroValue210
 t53 := underlying53
 a53 := isAgg53
 z53 := sizeOf53
 v53 := zeroValue53
 t171 := underlying179
 a171 := isAgg179
 z171 := sizeOf179
 v171 := zeroValue179
 t173 := underlying182
 a173 := isAgg182
 z173 := sizeOf182
 v173 := zeroValue182
 t212 := underlying217
 a212 := isAgg217
 z212 := sizeOf217
 v212 := zeroValue217
 t213 := underlying218
 a213 := isAgg218
 z213 := sizeOf218
 t232 := underlying251
 a232 := isAgg251
 z232 := sizeOf251
 v232 := zeroValue251
 t233 := underlying252
 a233 := isAgg252
 z233 := sizeOf252
 v233 := zeroValue252
 g17 := by kernel_rfl
 g18 := by kernel_rfl
 g19 := by kernel_rfl
 i0 := by kernel_rfl
 i2 := by kernel_rfl
 i3 := by kernel_rfl
 i4 := by kernel_rfl
 i5 := by kernel_rfl
 i9 := by kernel_rfl
 i20 := by kernel_rfl
 i37 := by kernel_rfl
 i46 := by kernel_rfl
 i51 := by kernel_rfl
 i53 := by kernel_rfl
 i171 := by kernel_rfl
 i173 := by kernel_rfl
 i212 := by kernel_rfl
 i232 := by kernel_rfl
 i233 := by kernel_rfl
 m17 := by kernel_rfl
 m18 := by kernel_rfl
 m19 := by kernel_rfl }
open Go.RowKit Go.Sort Go.Lib in
theorem Tryz.strconv_FormatInt_10 (n : Int) (h0 : -9223372036854775808 ≤ n) (h1 : n ≤ 9223372036854775807) (w : World) (htab : Lib.TabIs prog w "internal/strconv.uint64pow10" .u64 Lib.pow10Tab) :
  Calls prog 103 #[.int .i64 n, .int .i64 10] w fun e w' => e = .returned (.string ⟨(Lib.itoa n).toArray⟩) ∧ ∃ k os, w' = grow (w.drewN k) os := Any.strconv_FormatInt_10 Tryz.laysM173 n h0 h1 w htab
def Tryz.lays189_ren : Go.Shelf.Ren := ⟨fun | 189 => 82 | 125 => 120 | 257 => 119 | 128 => 156 | 129 => 157 | 294 => 147 | 295 => 148 | 296 => 149 | 297 => 150 | 298 => 151 | 299 => 152 | 216 => 153 | 300 => 154 | 301 => 155 | 328 => 178 | 329 => 179 | 330 => 180 | 331 => 181 | 332 => 182 | 215 => 124 | 343 => 193 | n => n, fun | 28 => 23 | 3 => 3 | 46 => 132 | 0 => 0 | 51 => 210 | 53 => 53 | 4 => 4 | 183 => 204 | 182 => 203 | 131 => 145 | 5 => 5 | 9 => 9 | 218 => 228 | 222 => 232 | 228 => 247 | 229 => 248 | n => n, fun | n => n⟩
theorem Tryz.lays189 : Go.Proofs.Lays.n189 prog Tryz.lays189_ren := {
 mixed := by kernel_rfl
 f125 := func120.trans (congrArg some (by kernel_rfl))
 f128 := func156.trans (congrArg some (by kernel_rfl))
 f129 := func157.trans (congrArg some (by kernel_rfl))
 f189 := func82.trans (congrArg some (by kernel_rfl))
 f215 := func124.trans (congrArg some (by kernel_rfl))
 f216 := func153.trans (congrArg some (by kernel_rfl))
 f257 := func119.trans (congrArg some (by kernel_rfl))
 f294 := func147.trans (congrArg some (by kernel_rfl))
 f295 := func148.trans (congrArg some (by kernel_rfl))
 f296 := func149.trans (congrArg some (by kernel_rfl))
 f297 := func150.trans (congrArg some (by kernel_rfl))
 f298 := func151.trans (congrArg some (by kernel_rfl))
 f299 := func152.trans (congrArg some (by kernel_rfl))
 f300 := func154.trans (congrArg some (by kernel_rfl))
 f301 := func155.trans (congrArg some (by kernel_rfl))
 f328 := func178.trans (congrArg some (by kernel_rfl))
 f329 := func179.trans (congrArg some (by kernel_rfl))
 f330 := func180.trans (congrArg some (by kernel_rfl))
 f331 := func181.trans (congrArg some (by kernel_rfl))
 f332 := func182.trans (congrArg some (by kernel_rfl))
 f343 := func193.trans (congrArg some (by kernel_rfl))
 t0 := underlying0
 a0 := isAgg0
 z0 := sizeOf0
 v0 := zeroValue0
 t3 := underlying3
 a3 := isAgg3
 z3 := sizeOf3
 v3 := zeroValue3
 t4 := underlying4
 a4 := isAgg4
 z4 := sizeOf4
 v4 := zeroValue4
 t5 := underlying5
 a5 := isAgg5
 z5 := sizeOf5
 v5 := zeroValue5
 t9 := underlying9
 a9 := isAgg9
 z9 := sizeOf9
 v9 := zeroValue9
 t28 := underlying23
 a28 := isAgg23
 z28 := sizeOf23
 v28 := zeroValue23
 t46 := underlying132
 a46 := isAgg132
 z46 := sizeOf132
 v46 := zeroValue132
 t51 := underlying210
 a51 := isAgg210
 z51 := sizeOf210
 v51 := zeroValue210
 t53 := underlying53
 a53 := isAgg53
 z53 := sizeOf53
 v53 := zeroValue53
 t131 := underlying145
 a131 := isAgg145
 z131 := sizeOf145
 v131 := zeroValue145
 t182 := underlying203
 a182 := isAgg203
 z182 := sizeOf203
 v182 := zeroValue203
 t183 := underlying204
 a183 := isAgg204
 z183 := sizeOf204
 v183 := zeroValue204
 t218 := underlying228
 a218 := isAgg228
 z218 := sizeOf228
 v218 := zeroValue228
 t222 := underlying232
 a222 := isAgg232
 z222 := sizeOf232
 v222 := zeroValue232
 t228 := underlying247
 a228 := isAgg247
 z228 := sizeOf247
 v228 := zeroValue247
 t229 := underlying248
 a229 := isAgg248
 z229 := sizeOf248
 v229 := zeroValue248 }
open Go.Sort Go.RowKit in
theorem Tryz.slices_Sort_int (blk off cap : Nat) (zs : List Int) (w : World) (hH : Holds (Value.int .i64) w blk off zs.toArray) (hblk : blk < w.heap.size) (hsz : zs.length < 4611686018427387904) :
  Calls prog 82 #[.slice (some ⟨blk, off, none⟩) zs.length cap] w fun e w' =>
   e = .returned (.tuple #[]) ∧ ∃ n os, w' = grow (putRow (Value.int .i64) (Sort.ahead w n) blk off (zs.mergeSort fun x y => decide (x ≤ y)).toArray) os := Any.slices_Sort_int Tryz.lays189 blk off cap zs w hH hblk hsz
def Tryz.lays200_ren : Go.Shelf.Ren := ⟨fun | 200 => 142 | 261 => 177 | 311 => 191 | 312 => 192 | n => n, fun | 21 => 21 | 4 => 4 | 51 => 210 | 5 => 5 | 119 => 225 | 0 => 0 | 141 => 227 | 196 => 240 | 193 => 237 | 3 => 3 | 198 => 242 | 49 => 41 | 194 => 238 | 201 => 245 | 226 => 253 | 46 => 132 | 227 => 254 | n => n, fun | 7 => 1 | 8 => 2 | n => n⟩
theorem Tryz.lays200 : Go.Proofs.Lays.n200 prog Tryz.lays200_ren := {
 mixed := by kernel_rfl
 f200 := func142.trans (congrArg some (by kernel_rfl))
 f261 := func177.trans (congrArg some (by kernel_rfl))
 f311 := func191.trans (congrArg some (by kernel_rfl))
 f312 := func192.trans (congrArg some (by kernel_rfl))
 t0 := underlying0
 a0 := isAgg0
 z0 := sizeOf0
 v0 := zeroValue0
 t3 := underlying3
 a3 := isAgg3
 z3 := sizeOf3
 v3 := zeroValue3
 t4 := underlying4
 a4 := isAgg4
 z4 := sizeOf4
 v4 := zeroValue4
 t5 := underlying5
 a5 := isAgg5
 z5 := sizeOf5
 v5 := zeroValue5
 t21 := underlying21
 a21 := isAgg21
 z21 := sizeOf21
 v21 := zeroValue21
 t46 := underlying132
 a46 := isAgg132
 z46 := sizeOf132
 v46 := zeroValue132
 t49 := underlying41
 a49 := isAgg41
 z49 := sizeOf41
 v49 := zeroValue41
 t51 := underlying210
 a51 := isAgg210
 z51 := sizeOf210
 v51 := zeroValue210
 t119 := underlying225
 a119 := isAgg225
 z119 := sizeOf225
 t141 := underlying227
 a141 := isAgg227
 z141 := sizeOf227
 v141 := zeroValue227
 t193 := underlying237
 a193 := isAgg237
 z193 := sizeOf237
 v193 := zeroValue237
 t194 := underlying238
 a194 := isAgg238
 z194 := sizeOf238
 v194 := zeroValue238
 t196 := underlying240
 a196 := isAgg240
 z196 := sizeOf240
 v196 := zeroValue240
 t198 := underlying242
 a198 := isAgg242
 z198 := sizeOf242
 v198 := zeroValue242
 t201 := underlying245
 a201 := isAgg245
 z201 := sizeOf245
 v201 := zeroValue245
 t226 := underlying253
 a226 := isAgg253
 z226 := sizeOf253
 v226 := zeroValue253
 t227 := underlying254
 a227 := isAgg254
 z227 := sizeOf254
 v227 := zeroValue254
 g7 := by kernel_rfl
 g8 := by kernel_rfl }
open Go.RowKit Go.Lib in
theorem Tryz.unicode_IsLetter_all (r : Int) (w : World) (hlo : -2147483648 ≤ r) (hhi : r ≤ 2147483647) (htab : Lib.TabIs prog w "unicode.properties" .u8 Lib.propertiesTab) (hV : RVar 2 letterT w) :
  Calls prog 142 #[.int .i32 r] w fun e w' => e = .returned (.bool (isLetterU r)) ∧ Below w.heap.size w w' := Any.unicode_IsLetter_all Tryz.lays200 (by kernel_rfl) r w hlo hhi htab hV
def Tryz.lays112_ren : Go.Shelf.Ren := ⟨fun | 112 => 121 | n => n, fun | 28 => 23 | 3 => 3 | 4 => 4 | 0 => 0 | n => n, fun | n => n⟩
theorem Tryz.lays112 : Go.Proofs.Lays.n112 prog Tryz.lays112_ren := {
 mixed := by kernel_rfl
 f112 := func121.trans (congrArg some (by kernel_rfl))
 t0 := underlying0
 a0 := isAgg0
 z0 := sizeOf0
 v0 := zeroValue0
 t3 := underlying3
 a3 := isAgg3
 z3 := sizeOf3
 v3 := zeroValue3
 t4 := underlying4
 a4 := isAgg4
 z4 := sizeOf4
 v4 := zeroValue4
 t28 := underlying23
 a28 := isAgg23
 z28 := sizeOf23
 v28 := zeroValue23 }
open Go.RowKit Go.Lib Go.Sort in
theorem Tryz.slices_Reverse_int (blk off cap : Nat) (zs : List Int) (w : World) (hH : Holds (Value.int .i64) w blk off zs.toArray) (hsz : zs.length ≤ 9223372036854775807) :
  Calls prog 121 #[.slice (some ⟨blk, off, none⟩) zs.length cap] w fun e w' => e = .returned (.tuple #[]) ∧ ∃ n, w' = putRow (Value.int .i64) (Sort.ahead w n) blk off zs.reverse.toArray := Any.slices_Reverse_int Tryz.lays112 blk off cap zs w hH hsz
open Go.RowKit Go.Lib Go.Sort in
theorem Tryz.slices_Reverse_int_empty (a : Option Addr) (cap : Nat) (w : World) :
  Calls prog 121 #[.slice a 0 cap] w fun e w' => e = .returned (.tuple #[]) ∧ w' = w := Any.slices_Reverse_int_empty Tryz.lays112 a cap w
open Go.RowKit Go.Sort in
theorem Tryz.slices_Sort_int_none (p : Option Addr) (cap : Nat) (w : World) :
  Calls prog 82 #[.slice p 0 cap] w fun e w' => e = .returned (.tuple #[]) ∧ w' = w := Any.slices_Sort_int_none Tryz.lays189 p cap w
end Go.Proofs
namespace Go.Proofs.YtpojdepccecpgaaGreatDoor
open Go.Proofs.Tryz
open Go.Proofs
variable {E : World}
set_option maxRecDepth 20000
theorem reverse_own (l : List Int) (i : Nat) (T : TypeId) (hl : l.length ≤ 200000) : ACall prog E 121 [.own i l.length] [(i, .grow 1 T (cI l))] fun r O => r = .tup [] ∧ O = [(i, .grow 1 T (cI l.reverse))] :=
 ACall.turned (g := List.reverse) (B := 200001) func121 rfl (by decide) (fun l => List.length_reverse) (fun blk cap zs w hH _ hz => (Tryz.slices_Reverse_int blk 0 cap zs w hH (by omega)).mono fun e w' ⟨h1, n, h2⟩ => ⟨h1, n, #[], by rw [h2, Go.Sort.grow_empty]⟩)
  (fun cap w => Tryz.slices_Reverse_int_empty none cap w) rfl (by omega)
theorem sort_own (l : List Int) (i : Nat) (T : TypeId) (hl : l.length ≤ 200000) : ACall prog E 82 [.own i l.length] [(i, .grow 1 T (cI l))] fun r O => r = .tup [] ∧ O = [(i, .grow 1 T (cI (sortI l)))] :=
 ACall.turned (g := sortI) (B := 200001) func82 rfl (by decide) (fun l => (sortI_perm l).length_eq) (fun blk cap zs w hH hb hz => Tryz.slices_Sort_int blk 0 cap zs w hH hb (by omega))
  (fun cap w => Tryz.slices_Sort_int_none none cap w) rfl (by omega)
end Go.Proofs.YtpojdepccecpgaaGreatDoor
namespace Go.Proofs.YtpojdepccecpgaaGreatDoor
open Go.Proofs.Tryz
open Go.Proofs
theorem pl64 : PlacesA prog 64 1 [.int .i64 0, .int .i64 0] := ⟨_, _, _, jr, zeroValue64, j8, rfl⟩
theorem ps84_2 : PlacesS prog 84 9 2 1 [.str ⟨#[]⟩, .str ⟨#[]⟩] := ⟨_, Zc, Z1, Y7, by decide, by decide, by kernel_rfl⟩
theorem ps84_1 : PlacesS prog 84 9 1 1 [.str ⟨#[]⟩] := ⟨_, Zc, Z1, Y7, by decide, by decide, by kernel_rfl⟩
set_option maxRecDepth 20000
variable {E : World}
def inst1 (f : PFunc) (x : PInst) : Bool := decide ((kRow x.op).1 = ⟨#[]⟩) || !decide (x.args.length = (takesL x.op).length) || !x.args.all (hasV f)
def inst2 (f : PFunc) (x : PInst) : Bool := (makesB x.op && !hasV f x.dst) || (!makesB x.op && !decide (x.dst = -1))
def instOK (f : PFunc) (x : PInst) : Bool := !inst1 f x && !inst2 f x && (decide (x.num = 0) || isNum x.op)
def termOK (f : PFunc) (t : PTerm) : Bool := if t.kind = 0 then hasB f t.to0 && decide (t.to1 = 0) && decide (t.var = 0) else if t.kind = 1 then hasV f t.var && hasB f t.to0 && hasB f t.to1 else
 if t.kind = 2 then hasV f t.var && decide (t.to0 = 0 ∧ t.to1 = 0) else false
theorem eq_arr10 (a b c d : Int) (w : World) : (Op.equalIn 10000 64 (.agg [.int .i64 a, .int .i64 b].toArray) (.agg [.int .i64 c, .int .i64 d].toArray)).run prog w = .ok (decide (a = c ∧ b = d)) w := eq_arr a b c d w 9998
theorem inst_spec (f : PFunc) (x : PInst) (hx : okL x.args) : AFun prog E 96 [.agg (encF f), .agg (encInst x)] (.bool (instOK f x)) := by
 have hl := hx.lt
 refine zt func96 Z (by decide) Z<|zSr<|yc (cs := _) Z Z Z<|yc (cs := _) Z Z Z<|zVzAb Z<|z6<|zSr<|zVzFF jh Z Zo Z Z<|zVzLi Zt Z<|zg (makes_spec _) Z<|z8 (zMu Z)<|z8 (zXi Z Z)<|z8 (zXb Z Z)<|zVzAi Z<|zVzAb Z<|z6<|ze<|zi<|ze<|y6 (fun j => false) (by kernel_rfl) Z (yb (.rest _))<|zTk 0 Z (zFF jh Z Zo Z Z)<|zTk 1 Z (zLi Zt Z)<|zOn 2 Z<|zg (word_spec _) Z<|z6<|zTk 3 Z (Gv.eqlT Z Z)<|zTk 4 Z (zMb Z)<|AAny.case (s := 18) Z (fun c1=>?_) (fun c1=>?_)
 ·refine zTf 5 Z Z Z c1<|zTf 6 Z Z Z c1<|zTf 7 Z Z Z c1<|zTf 8 Z Z Z c1<|zTf 9 Z Z Z c1<|zTf 10 Z Z Z c1<|zTf 11 Z Z Z c1<|zTf 12 Z Z Z c1<|zTk 13 Z (zPt Z c1 Z)<|zTk 14 Z (zMb Z)<|zTf 15 Z Z Z Z<|zTf 16 Z Z Z Z<|zTf 17 Z Z Z Z<|zTf 18 Z Z Z Z<|zTf 19 Z Z Z Z<|zTk 20 Z (zPt Z Z Z)<|zTk 21 Z (zAb Z)<|zDn<|yq Z Z<|zSr<|zVzAb Z<|z6<|zk<|zm (x := .bool _) Z ?_
  exact jb (by simp_all [instOK, inst1, inst2, Int.ofNat_inj] <;> grind)
 ·refine zTt 5 Z Z Z c1 (zFF jh Z ji Z Z)<|zTt 6 Z Z Z c1 (zLf jq Z)<|zTt 7 Z Z Z c1 (Gv.lenM j6 Z)<|zTt 8 Z Z Z c1 (zFF jh Z Zo Z Z)<|zTt 9 Z Z Z c1 (zLi Zt Z)<|zOn 10 Z<|za Z Z c1<|zg (takes_spec _) Z<|z6<|zTt 11 Z Z Z c1 (Gv.lenM underlying192 Z)<|zTt 12 Z Z Z c1 (Gv.neqI Z Z)<|zTk 13 Z (zPf Z c1 Z)<|zTk 14 Z (zMb Z)<|AAny.case (s := 28) Z (fun c2=>?_) (fun c2=>?_)
  ·refine zTf 15 Z Z Z c2<|zTf 16 Z Z Z c2<|zTf 17 Z Z Z c2<|zTf 18 Z Z Z c2<|zTf 19 Z Z Z c2<|zTk 20 Z (zPt Z c2 Z)<|zTk 21 Z (zAb Z)<|zDn<|yq Z Z<|zSr<|zVzAb Z<|z6<|zk<|zm (x := .bool _) Z ?_
   exact jb (by simp_all [instOK, inst1, inst2, Int.ofNat_inj] <;> grind)
  ·refine zTt 15 Z Z Z c2 (yo jp j9 Z Z)<|zTt 16 Z Z Z c2 (zFF jh Z ji Z Z)<|zTt 17 Z Z Z c2 (zLf jq Z)<|zOn 18 Z<|za Z Z c2<|zg (vars_spec _ _ (by omega)) Z<|z6<|zTt 19 Z Z Z c2 (Gv.not Z)<|zTk 20 Z (zPf Z c2 Z)<|zTk 21 Z (zAb Z)<|zDn<|y3 Z (fun c3=>?_) (fun c3=>?_)
   ·refine zSr<|zVzAb Z<|z6<|zk<|zm (x := .bool _) Z ?_
    exact jb (by simp_all [instOK, inst1, inst2, Int.ofNat_inj] <;> grind)
   ·refine zSr<|zVzMb Z<|zVzMb Z<|zy (s := 37) Z (fun c4=>?_) (fun c4=>?_)
    ·refine za Z Z c4<|zVGvloadWF jp j9 Z Z<|za Z Z c4<|zVzFF jh Z j8 Z Z<|za Z Z c4<|zVzLi jl Z<|za Z Z c4<|zg (has_spec _ _) Z<|za Z Z c4<|zVGvnot Z<|zVzPt Z c4 Z<|zVzMb Z<|zy (s := 44) Z (fun c5=>?_) (fun c5=>?_)
     ·refine z7 Z Z c5<|z7 Z Z c5<|z7 Z Z c5<|zn Z Z<|zn Z Z<|zn Z Z<|z7 Z Z c5<|zVzPt Z c5 Z<|zVzAb Z<|z6<|yq Z Z<|zSr<|zVzAb Z<|z6<|zk<|zm (x := .bool _) Z ?_
      exact jb (by simp_all [instOK, inst1, inst2, Int.ofNat_inj] <;> grind)
     ·refine za Z Z c5<|zVzMb Z<|za Z Z c5<|zVGvnot Z<|za Z Z c5<|zVzMb Z<|zy (s := 47) Z (fun c6=>?_) (fun c6=>?_)
      ·refine za Z Z c6<|zVzFF jh Z j8 Z Z<|za Z Z c6<|zVzLi jl Z<|za Z Z c6<|zVGvneqI Z Z<|za Z Z c5<|zVzPt Z c6 Z<|zVzPf Z c5 Z<|zVzAb Z<|z6<|y3 Z (fun c7=>?_) (fun c7=>?_)
       ·refine zSr<|zVzAb Z<|z6<|zk<|zm (x := .bool _) Z ?_
        exact jb (by simp_all [instOK, inst1, inst2, Int.ofNat_inj] <;> grind)
       ·refine zj<|zSr<|zVzFF jh Z Y5 Z Z<|zVzLi Yd Z<|zVGveqlI Z Z<|zVzMb Z<|zy (s := 56) Z (fun c8=>?_) (fun c8=>?_)
        ·refine z7 Z Z c8<|z7 Z Z c8<|z7 Z Z c8<|zVzPt Z c8 Z<|zVzAb Z<|z6<|zk<|zm (x := .bool _) Z ?_
         exact jb (by simp_all [instOK, inst1, inst2, Int.ofNat_inj] <;> grind)
        ·refine za Z Z c8<|zVzFF jh Z Zo Z Z<|za Z Z c8<|zVzLi Zt Z<|za Z Z c8<|zg (numbered_spec _) Z<|zVzPf Z c8 Z<|zVzAb Z<|z6<|zk<|zm (x := .bool _) Z ?_
         exact jb (by simp_all [instOK, inst1, inst2, Int.ofNat_inj] <;> grind)
      ·refine z7 Z Z c6<|z7 Z Z c6<|z7 Z Z c6<|za Z Z c5<|zVzPf Z c6 Z<|zVzPf Z c5 Z<|zVzAb Z<|z6<|yl Z Z<|zj<|zSr<|zVzFF jh Z Y5 Z Z<|zVzLi Yd Z<|zVGveqlI Z Z<|zVzMb Z<|zy (s := 56) Z (fun c9=>?_) (fun c9=>?_)
       ·refine z7 Z Z c9<|z7 Z Z c9<|z7 Z Z c9<|zVzPt Z c9 Z<|zVzAb Z<|z6<|zk<|zm (x := .bool _) Z ?_
        exact jb (by simp_all [instOK, inst1, inst2, Int.ofNat_inj] <;> grind)
       ·refine za Z Z c9<|zVzFF jh Z Zo Z Z<|za Z Z c9<|zVzLi Zt Z<|za Z Z c9<|zg (numbered_spec _) Z<|zVzPf Z c9 Z<|zVzAb Z<|z6<|zk<|zm (x := .bool _) Z ?_
        exact jb (by simp_all [instOK, inst1, inst2, Int.ofNat_inj] <;> grind)
    ·refine z7 Z Z c4<|z7 Z Z c4<|z7 Z Z c4<|z7 Z Z c4<|z7 Z Z c4<|zVzPf Z c4 Z<|zVzMb Z<|za Z Z Z<|zVzMb Z<|za Z Z Z<|zVGvnot Z<|za Z Z Z<|zVzMb Z<|zy (s := 47) Z (fun c10=>?_) (fun c10=>?_)
     ·refine za Z Z c10<|zVzFF jh Z j8 Z Z<|za Z Z c10<|zVzLi jl Z<|za Z Z c10<|zVGvneqI Z Z<|za Z Z Z<|zVzPt Z c10 Z<|zVzPf Z Z Z<|zVzAb Z<|z6<|y3 Z (fun c11=>?_) (fun c11=>?_)
      ·refine zSr<|zVzAb Z<|z6<|zk<|zm (x := .bool _) Z ?_
       exact jb (by simp_all [instOK, inst1, inst2, Int.ofNat_inj] <;> grind)
      ·refine zj<|zSr<|zVzFF jh Z Y5 Z Z<|zVzLi Yd Z<|zVGveqlI Z Z<|zVzMb Z<|zy (s := 56) Z (fun c12=>?_) (fun c12=>?_)
       ·refine z7 Z Z c12<|z7 Z Z c12<|z7 Z Z c12<|zVzPt Z c12 Z<|zVzAb Z<|z6<|zk<|zm (x := .bool _) Z ?_
        exact jb (by simp_all [instOK, inst1, inst2, Int.ofNat_inj] <;> grind)
       ·refine za Z Z c12<|zVzFF jh Z Zo Z Z<|za Z Z c12<|zVzLi Zt Z<|za Z Z c12<|zg (numbered_spec _) Z<|zVzPf Z c12 Z<|zVzAb Z<|z6<|zk<|zm (x := .bool _) Z ?_
        exact jb (by simp_all [instOK, inst1, inst2, Int.ofNat_inj] <;> grind)
     ·refine z7 Z Z c10<|z7 Z Z c10<|z7 Z Z c10<|za Z Z Z<|zVzPf Z c10 Z<|zVzPf Z Z Z<|zVzAb Z<|z6<|yl Z Z<|zj<|zSr<|zVzFF jh Z Y5 Z Z<|zVzLi Yd Z<|zVGveqlI Z Z<|zVzMb Z<|zy (s := 56) Z (fun c13=>?_) (fun c13=>?_)
      ·refine z7 Z Z c13<|z7 Z Z c13<|z7 Z Z c13<|zVzPt Z c13 Z<|zVzAb Z<|z6<|zk<|zm (x := .bool _) Z ?_
       exact jb (by simp_all [instOK, inst1, inst2, Int.ofNat_inj] <;> grind)
      ·refine za Z Z c13<|zVzFF jh Z Zo Z Z<|za Z Z c13<|zVzLi Zt Z<|za Z Z c13<|zg (numbered_spec _) Z<|zVzPf Z c13 Z<|zVzAb Z<|z6<|zk<|zm (x := .bool _) Z ?_
       exact jb (by simp_all [instOK, inst1, inst2, Int.ofNat_inj] <;> grind)
theorem term_spec (f : PFunc) (t : PTerm) : AFun prog E 97 [.agg (encF f), .agg (encTerm t)] (.bool (termOK f t)) := by
 refine zt func97 Z (by decide) Z<|zSr<|yc (cs := _) Z Z Z<|yc (cs := _) Z Z Z<|zVzAb Z<|z6<|ze<|zSr<|zVzFF je Z Zg Z Z<|zVzLi Zl Z<|z6<|zi<|zSr<|zVGveqlI Z Z<|zVzAb Z<|z6<|y3 Z (fun c14=>?_) (fun c14=>?_)
 ·refine zSr<|zVGvloadWF jp j9 Z Z<|zVzFF je Z jy Z Z<|z8 (yr (j := 0) jr j8 Z Z Z (by decide) Z)<|zVzLi jl Z<|zg (at_spec _ _) Z<|zVzMb Z<|zy (s := 14) Z (fun c15=>?_) (fun c15=>?_)
  ·refine za Z Z c15<|zVzFF je Z jy Z Z<|za Z Z c15<|z8 (yr (j := 1) jr j8 Z Z Z (by decide) Z)<|za Z Z c15<|zVzLi jl Z<|za Z Z c15<|zVGveqlI Z Z<|zVzPt Z c15 Z<|zVzMb Z<|zy (s := 20) Z (fun c16=>?_) (fun c16=>?_)
   ·refine za Z Z c16<|zVzFF je Z j8 Z Z<|za Z Z c16<|zVzLi jl Z<|za Z Z c16<|zVGveqlI Z Z<|zVzPt Z c16 Z<|zVzAb Z<|z6<|zk<|zm (x := .bool _) Z ?_
    exact jb (by simp_all [termOK] <;> grind)
   ·refine z7 Z Z c16<|z7 Z Z c16<|z7 Z Z c16<|zVzPf Z c16 Z<|zVzAb Z<|z6<|zk<|zm (x := .bool _) Z ?_
    exact jb (by simp_all [termOK] <;> grind)
  ·refine z7 Z Z c15<|z7 Z Z c15<|z7 Z Z c15<|z7 Z Z c15<|zVzPf Z c15 Z<|zVzMb Z<|z7 Z Z Z<|z7 Z Z Z<|z7 Z Z Z<|zVzPf Z Z Z<|zVzAb Z<|z6<|zk<|zm (x := .bool _) Z ?_
   exact jb (by simp_all [termOK] <;> grind)
 ·refine zSr<|zVGveqlI Z Z<|zVzAb Z<|z6<|y3 Z (fun c17=>?_) (fun c17=>?_)
  ·refine zSr<|zVGvloadWF jp j9 Z Z<|zVzFF je Z j8 Z Z<|zVzLi jl Z<|zg (has_spec _ _) Z<|zVzMb Z<|zy (s := 31) Z (fun c18=>?_) (fun c18=>?_)
   ·refine za Z Z c18<|zVGvloadWF jp j9 Z Z<|za Z Z c18<|zVzFF je Z jy Z Z<|za Z Z c18<|z8 (yr (j := 0) jr j8 Z Z Z (by decide) Z)<|za Z Z c18<|zVzLi jl Z<|za Z Z c18<|zg (at_spec _ _) Z<|zVzPt Z c18 Z<|zVzMb Z<|zy (s := 38) Z (fun c19=>?_) (fun c19=>?_)
    ·refine za Z Z c19<|zVGvloadWF jp j9 Z Z<|za Z Z c19<|zVzFF je Z jy Z Z<|za Z Z c19<|z8 (yr (j := 1) jr j8 Z Z Z (by decide) Z)<|za Z Z c19<|zVzLi jl Z<|za Z Z c19<|zg (at_spec _ _) Z<|zVzPt Z c19 Z<|zVzAb Z<|z6<|zk<|zm (x := .bool _) Z ?_
     exact jb (by simp_all [termOK] <;> grind)
    ·refine z7 Z Z c19<|z7 Z Z c19<|z7 Z Z c19<|z7 Z Z c19<|z7 Z Z c19<|zVzPf Z c19 Z<|zVzAb Z<|z6<|zk<|zm (x := .bool _) Z ?_
     exact jb (by simp_all [termOK] <;> grind)
   ·refine z7 Z Z c18<|z7 Z Z c18<|z7 Z Z c18<|z7 Z Z c18<|z7 Z Z c18<|zVzPf Z c18 Z<|zVzMb Z<|z7 Z Z Z<|z7 Z Z Z<|z7 Z Z Z<|z7 Z Z Z<|z7 Z Z Z<|zVzPf Z Z Z<|zVzAb Z<|z6<|zk<|zm (x := .bool _) Z ?_
    exact jb (by simp_all [termOK] <;> grind)
  ·refine zSr<|zVGveqlI Z Z<|zVzAb Z<|z6<|y3 Z (fun c20=>?_) (fun c20=>?_)
   ·refine zSr<|zVGvloadWF jp j9 Z Z<|zVzFF je Z j8 Z Z<|zVzLi jl Z<|zg (has_spec _ _) Z<|zVzMb Z<|zy (s := 51) Z (fun c21=>?_) (fun c21=>?_)
    ·refine za Z Z c21<|zVzFF je Z jy Z Z<|za Z Z c21<|zVGvloadWF isAgg64 jy Z Z<|za Z Z c21<|z8 (Gv.buildA (cps := []) (rs := [.int .i64 0, .int .i64 0]) pl64 Z Z Z)<|za Z Z c21<|z8 (Gv.eqlP (xs := [.int _ _, .int _ _]) (ys := [.int _ _, .int _ _]) (by kernel_rfl) Z Z (fun w => eq_arr10 _ _ _ _ w))<|zVzPt Z c21 Z<|zVzAb Z<|z6<|zk<|zm (x := .bool _) Z ?_
     exact jb (by simp_all [termOK] <;> grind)
    ·refine z7 Z Z c21<|z7 Z Z c21<|z7 Z Z c21<|z7 Z Z c21<|zVzPf Z c21 Z<|zVzAb Z<|z6<|zk<|zm (x := .bool _) Z ?_
     exact jb (by simp_all [termOK] <;> grind)
   ·refine zj<|zSr<|zVzAb Z<|z6<|zk<|zm (x := .bool _) Z ?_
    exact jb (by simp_all [termOK] <;> grind)
def joinS (ws : List ByteArray) (sep : ByteArray) : ByteArray := ⟨(Lib.join (ws.map (·.data.toList)) sep.data.toList).toArray⟩
def encS (s : ByteArray) : List AV := [.str s]
theorem join_spec (ws : List ByteArray) (sep : ByteArray) (hN : ws.length ≤ 140737488355328) (hlen : (Lib.join (ws.map (·.data.toList)) sep.data.toList).length ≤ 140737488355328) :
  AFun prog E 60 [.fro 1 (ws.map encS), .str sep] (.str (joinS ws sep)) := fun I F w vs h1 h2 => by
 obtain ⟨v, us, rfl, ⟨a, n, c, rfl, hn, hc, hnil, hr⟩, v2, us2, rfl, h3, h4⟩ := h1
 have h3 : v2 = .string sep := h3
 have h4 : us2 = [] := h4
 subst h3 h4
 obtain ⟨ht, L, hL, hS⟩ := h2
 have hL : L = [] := hL
 subst hL
 rw [qh] at hn
 refine Fn.ofCalls func60 Z (by decide) ?_
 cases ws with
 | nil =>
  subst hn
  exact (Tryz.strings_Join_none a c sep w).mono fun e w' ⟨he, hw⟩ => ⟨_, he, I, .str (joinS [] sep), [], .refl _, rfl, ⟨ht, [], rfl, hw ▸ hS⟩, rfl⟩
 | cons x ws =>
  subst hn
  have hcell : ∀ (b off : Nat), a = some ⟨b, off, none⟩ → ∀ (j : Nat) y, (x :: ws)[j]? = some y → w.cell? ⟨b, off + j, none⟩ = some (.string y) := by
   intro b off ha j y hj
   obtain ⟨b', off', l, ha', hk', hl', hat'⟩ := hr.get (j := j) (r := encS y) (by rw [qi, hj]; rfl)
   rw [ha] at ha'
   cases ha'
   obtain ⟨u, l2, rfl, hu, _⟩ := hl'
   have hu : u = .string y := hu
   subst hu
   have := hS.at_ ((hat' 0 _ rfl).at_ _)
   simpa using this
  obtain ⟨b, off, l, ha, _⟩ := hr.get (j := 0) (r := encS x) rfl
  subst ha
  refine (Tryz.strings_Join b off c (x :: ws) sep w (hcell b off Z) ?_ hN hc hlen).mono fun e w' ⟨he, hb⟩ => ⟨_, he, I, .str (joinS (x :: ws) sep), [], .refl _, Z, ⟨ht, [], Z, hS.below hb⟩, Z⟩
  by_cases hb : b < w.heap.size
  ·exact hb
  ·have hat0 := hcell b off rfl 0 x rfl
   simp [World.cell?, Array.getElem?_eq_none (by omega : w.heap.size ≤ b)] at hat0
def Pows (E : World) : Prop := Lib.TabIs prog E "internal/strconv.uint64pow10" .u64 Lib.pow10Tab
theorem tab_up {P : Program} {name : String} {k : IntKind} {zs : List Int} {I : Ghost} {O : List (Nat × Obj)} {w : World} (h : Lib.TabIs P E name k zs) (hS : SL I O E w) : Lib.TabIs P w name k zs := by
 unfold Lib.TabIs World.var? at *
 cases hg : P.globalNamed name with
 | none => rw [hg] at h; cases h
 | some g =>
  rw [hg] at h
  simp only [Option.bind_some] at h ⊢
  cases hh : E.heap[g]? with
  | none => rw [hh] at h; cases h
  | some o => rw [hh] at h; rw [hS.pers _ _ (hS.base _ _ hh)]; exact h
theorem formatInt_spec (n : Int) (hn : -9223372036854775808 ≤ n ∧ n ≤ 9223372036854775807) (hT : Pows E) : AFun prog E 103 [.int .i64 n, .int .i64 10] (.str ⟨(Lib.itoa n).toArray⟩) := fun I F w vs h1 h2 => by
 obtain ⟨v, us, rfl, h3, v2, us2, rfl, h4, h5⟩ := h1
 have h3 : v = .int .i64 n := h3
 have h4 : v2 = .int .i64 10 := h4
 have h5 : us2 = [] := h5
 subst h3 h4 h5
 obtain ⟨ht, L, hL, hS⟩ := h2
 have hL : L = [] := hL
 subst hL
 refine Fn.ofCalls func103 Z (by decide) ?_
 exact (Tryz.strconv_FormatInt_10 n hn.1 hn.2 w (tab_up hT hS)).mono fun e w' ⟨he, k, os, hw⟩ => ⟨_, he, I, .str ⟨(Lib.itoa n).toArray⟩, [], .refl _, rfl, ⟨ht, [], rfl, by
  subst hw
  exact hS.more rfl rfl rfl (fun k hk => Array.getElem?_append_left hk)⟩, rfl⟩
def vname (f : PFunc) (v : Int) : ByteArray := (f.vars[v.toNat]?.map (·.name)).getD ⟨#[]⟩
def words1 (f : PFunc) (x : PInst) : List ByteArray := if 0 ≤ x.dst then [vname f x.dst, ⟨#[61]⟩] else []
def words2 (f : PFunc) (x : PInst) (k : Nat) : List ByteArray := words1 f x ++ [(kRow x.op).1] ++ (x.args.take k).map (vname f)
def wordsOf (f : PFunc) (x : PInst) : List ByteArray := words2 f x x.args.length ++ (if isNum x.op then [⟨(Lib.itoa x.num).toArray⟩] else [])
theorem words1_len (f : PFunc) (x : PInst) : (words1 f x).length ≤ 2 := by unfold words1; split <;> simp
theorem words2_len (f : PFunc) (x : PInst) (k : Nat) : (words2 f x k).length ≤ 3 + k := by
 have := words1_len f x
 unfold words2; simp; omega
theorem words2_succ (f : PFunc) (x : PInst) {k : Nat} (h : k < x.args.length) : words2 f x (k + 1) = words2 f x k ++ [vname f x.args[k]] := by
 unfold words2; rw [qb h, qk]; simp only [qc]; rfl
def instLine (f : PFunc) (x : PInst) : ByteArray := if instOK f x then joinS (wordsOf f x) ⟨#[32]⟩ else ⟨#[]⟩
theorem has_get {f : PFunc} {v : Int} (h : hasV f v = true) : ∃ (h : v.toNat < f.vars.length), f.vars[v.toNat]? = some f.vars[v.toNat] ∧ 0 ≤ v ∧ vname f v = f.vars[v.toNat].name := by
 have h2 : 0 ≤ v ∧ v < f.vars.length := by simpa [hasV] using h
 have h3 : v.toNat < f.vars.length := by omega
 exact ⟨h3, qa h3, h2.1, by unfold vname; rw [qa h3]; rfl⟩
theorem joinTail_len (m : Nat) (r : List (List UInt8)) (hm : ∀ x ∈ r, x.length ≤ m) : (Lib.joinTail [32] r).length ≤ r.length * (m + 1) := by
 induction r with
 | nil => simp [Lib.joinTail]
 | cons x r ih =>
  have h1 := ih (fun y hy => hm y (.tail _ hy))
  have h2 := hm x (.head _)
  have h3 : Lib.joinTail [32] (x :: r) = [32] ++ x ++ Lib.joinTail [32] r := rfl
  rw [h3, qg, qg, List.length_cons, List.length_cons, Nat.add_mul]
  simp only [List.length_nil]
  omega
theorem join_len (ws : List ByteArray) (m : Nat) (hm : ∀ x ∈ ws, x.size ≤ m) : (Lib.join (ws.map (·.data.toList)) [32]).length ≤ ws.length * (m + 1) := by
 cases ws with
 | nil => simp [Lib.join_nil]
 | cons x r =>
  rw [List.map_cons, Lib.join_cons, qg]
  have h1 := joinTail_len m (r.map (·.data.toList)) (by
   intro y hy; obtain ⟨z, hz, rfl⟩ := List.mem_map.1 hy
   exact hm z (.tail _ hz))
  have h2 : x.data.toList.length ≤ m := hm x (.head _)
  rw [qh] at h1
  rw [List.length_cons, Nat.add_mul]
  omega
theorem word_len (op : Int) : (kRow op).1.size ≤ 6 := by
 rcases kRow_mem op with h | h
 ·rw [h]; decide
 ·have : ∀ r ∈ kindT, r.1.size ≤ 6 := by decide
  exact this _ h
theorem vname_len {f : PFunc} (hnm : ∀ v ∈ f.vars, v.name.size ≤ 1000) (v : Int) : (vname f v).size ≤ 1000 := by
 unfold vname
 cases h : f.vars[v.toNat]? with
 | none => exact (by decide : (⟨#[]⟩ : ByteArray).size ≤ 1000)
 | some x => exact hnm x (qj h)
theorem words_len {f : PFunc} {x : PInst} (hnm : ∀ v ∈ f.vars, v.name.size ≤ 1000) (hI : isNum x.op = true → -9223372036854775808 ≤ x.num ∧ x.num ≤ 9223372036854775807) : ∀ s ∈ wordsOf f x, s.size ≤ 1000 := by
 intro s hs
 unfold wordsOf words2 words1 at hs
 simp only [List.mem_append] at hs
 rcases hs with ((hs | hs) | hs) | hs
 ·split at hs
  ·simp only [List.mem_cons, List.not_mem_nil, or_false] at hs
   rcases hs with rfl | rfl
   ·exact vname_len hnm _
   ·decide
  ·cases hs
 ·rw [List.mem_singleton.1 hs]; have := word_len x.op; omega
 ·obtain ⟨v, _, rfl⟩ := List.mem_map.1 hs; exact vname_len hnm _
 ·split at hs
  ·rename_i hn
   rw [List.mem_singleton.1 hs]
   have := Lib.itoa_length_le x.num (hI hn).1 (hI hn).2
   show (List.toArray _).size ≤ _
   rw [List.size_toArray]; omega
  ·cases hs
theorem Inst_spec (f : PFunc) (x : PInst) (hbd : x.args.length ≤ 1000) (hnm : ∀ v ∈ f.vars, v.name.size ≤ 1000) (hI : isNum x.op = true → -9223372036854775808 ≤ x.num ∧ x.num ≤ 9223372036854775807) (hT : Pows E) :
  AFun prog E 63 [.agg (encF f), .agg (encInst x)] (.str (instLine f x)) := by
 have hx : okL x.args := by unfold okL; omega
 refine zt func63 Z (by decide) Z<|zSr<|yc (cs := _) Z Z Z<|yc (cs := _) Z Z Z<|z8 (y9 (v := .str _) Z)<|z6<|ze<|zSr<|zVGvloadWF jp j9 Z Z<|zVGvloadWF Zn jx Z Z<|zg (inst_spec _ _ (by assumption)) Z<|zVGvnot Z<|z6<|y3 Z (fun cok=>?_) (fun cok=>?_)
 ·have hok : instOK f x = false := by simpa using cok
  refine zSr<|z8 (y9 (v := .str _) Z)<|z6<|zk<|zm (x := .str _) Z ?_
  unfold instLine; rw [hok]; rfl
 ·have hok : instOK f x = true := by simpa using cok
  obtain ⟨hi1, hi2⟩ : inst1 f x = false ∧ inst2 f x = false := by unfold instOK at hok; simp at hok; exact ⟨hok.1.1, hok.1.2⟩
  have hall : x.args.all (hasV f) = true := by unfold inst1 at hi1; simp at hi1; simpa using hi1.2
  have hdst : 0 ≤ x.dst → hasV f x.dst = true := by
   intro h; unfold inst2 at hi2
   cases hm : makesB x.op
   ·simp [hm] at hi2; omega
   ·simpa [hm] using hi2
  refine zj<|zSr<|z8 (zAr Z)<|z6<|adopt_wp (t := 5) (k := 1) (T := 9) Z<|fun i5 => ze<|zSr<|zVzFF jh Z j8 Z Z<|zVzLi jl Z<|z8 (Gv.geq Z Z)<|z6<|yt (γ := Nat) [2, 3] (fun i => [(5, .own i (words1 f x).length)]) (fun i => [(i, .grow 1 9 ((words1 f x).map encS).flatten)]) (fun i => True) ?_ (fun _ _ h => h) ?_
  ·refine y2 Z (fun cd=>?_) (fun cd=>?_)
   ·obtain ⟨hlt, hg, hnn, hvn⟩ := has_get (hdst cd)
    refine zRg<|z8 (zMo Z)<|zVzFF jd Z Zb Z Z<|zVzLf Zh Z<|zVzFF jh Z j8 Z Z<|zVzLi jl Z<|z8 (zIM x.dst.toNat jk Z2 Z Z (qp hnn).symm hg)<|zVzFF Z5 Z Z1 Z Z<|z8 (yp (c := .str _) Za Z)<|zr (rows := [[_], [_]]) ps84_2 Z Z Z Z Z<|zq (k := 1) Zc type9 Z Z Z Z Z (fun _ => .head) (by simp) (by decide) Z (by show (_ + _) * 16 ≤ _; simp <;> omega) (by simp <;> omega)<|fun i24 => z8 (zAo Z)<|z6 ?_
    exact ⟨i24, zR2, ⟨by rw [words1, if_pos cd]; rfl, trivial⟩, ⟨_, (.refl _), by rw [words1, if_pos cd, hvn]; rfl⟩, trivial⟩
   ·refine zj ?_
    exact ⟨i5, zR2, ⟨by rw [words1, if_neg cd]; rfl, trivial⟩, ⟨_, (.refl _), by rw [words1, if_neg cd]; rfl⟩, trivial⟩
  ·rintro i _
   have hl1 := words1_len f x
   refine zSr<|z8 (zMo Z)<|zVzFF jh Z Zo Z Z<|zVzLi Zt Z<|zg (word_spec _) Z<|zr (rows := [[_]]) ps84_1 Z Z Z Z Z<|zq (k := 1) Zc type9 Z Z Z Z Z (fun _ => .head) (by rw [grow_len (k := 1) (fun _ => rfl)]) (by decide) Z (by show (_ + 1) * 16 ≤ _; omega) (by show _ + 1 ≤ _; omega)<|fun i30 => z8 (zAo Z)<|z6<|ze<|zSr<|zVzFF jh Z ji Z Z<|zVzLf jq Z<|zVGvlenM j6 Z<|zVzMi Z<|z6<|zi<|y7 (γ := Nat × Nat) [2, 3, 32, 33] (fun g => [(5, .own g.2 (words2 f x g.1).length), (34, .int .i64 g.1)]) (fun g => [(g.2, .grow 1 9 ((words2 f x g.1).map encS).flatten)]) (fun g => g.1 ≤ x.args.length) (fun g => x.args.length - g.1) (0, i30) ⟨congrArg (AV.own i30) (by simp [words2]), Z, trivial⟩ ⟨_, (.refl _), by rw [← grow_push (enc := encS) (ys := words2 f x 0) (xs := words1 f x) (x := (kRow x.op).1) (by simp [words2])]; rfl⟩ (qd _) ?_
   rintro ⟨k, i⟩ hk
   try dsimp only at *
   have hl2 := words2_len f x k
   refine zSr<|zVGvlss Z Z<|z6<|ze<|y2 Z (fun ck=>?_) (fun ck=>?_)
   ·have hk2 : k < x.args.length := by omega
    have hh := (List.all_eq_true.1 hall) _ (qe hk2)
    obtain ⟨hlt, hg, hnn, hvn⟩ := has_get hh
    refine zj<|ze<|zi<|zSr<|z8 (yi j6 j8 Z Z Z (qa (by omega)))<|zVzLi jl Z<|zVzAi Z<|z6<|zRg<|z8 (zMo Z)<|zVzFF jd Z Zb Z Z<|zVzLf Zh Z<|zVzMi Z<|z8 (yi (j := (x.args[k]).toNat) jk Z2 Z Z (qp hnn).symm hg)<|zVzFF Z5 Z Z1 Z Z<|z8 (yp (c := .str _) Za Z)<|zr (rows := [[_]]) ps84_1 Z Z Z Z Z<|zq (k := 1) Zc type9 Z Z Z Z Z (fun _ => .head) (by rw [grow_len (k := 1) (fun _ => rfl)]) (by decide) Z (by show (_ + 1) * 16 ≤ _; omega) (by show _ + 1 ≤ _; omega)<|fun i46 => z8 (zAo Z)<|z6<|zRg<|zVzAd Z Z<|zVzMi Z<|z6 ?_
    exact ⟨(k + 1, i46), zR4, ⟨congrArg (AV.own i46) (by rw [words2_succ f x hk2]; simp), rfl, trivial⟩, ⟨_, (.refl _), by rw [← grow_push (enc := encS) (words2_succ f x hk2), hvn]; rfl⟩, hk2, by simp only; omega⟩
   ·have hkn : k = x.args.length := by omega
    subst hkn
    refine y5<|ze<|zSr<|zVzFF jh Z Zo Z Z<|zVzLi Zt Z<|zg (numbered_spec _) Z<|z6<|yt (γ := Nat) [] (fun i => [(5, .own i (wordsOf f x).length)]) (fun i => [(i, .grow 1 9 ((wordsOf f x).map encS).flatten)]) (fun i => True) ?_ (fun _ _ h => h) ?_
    ·refine y3 Z (fun cn=>?_) (fun cn=>?_)
     ·have hw : wordsOf f x = words2 f x x.args.length ++ [⟨(Lib.itoa x.num).toArray⟩] := by unfold wordsOf; rw [if_pos cn]
      refine zRg<|z8 (zMo Z)<|zVzFF jh Z Y5 Z Z<|zVzLi Yd Z<|zg (formatInt_spec _ (hI cn) hT) Z<|zr (rows := [[_]]) ps84_1 Z Z Z Z Z<|zq (k := 1) Zc type9 Z Z Z Z Z (fun _ => .head) (by rw [grow_len (k := 1) (fun _ => rfl)]) (by decide) Z (by show (_ + 1) * 16 ≤ _; omega) (by show _ + 1 ≤ _; omega)<|fun i56 => z8 (zAo Z)<|z6 ?_
      exact ⟨i56, trivial, ⟨congrArg (AV.own i56) (by rw [hw]; simp), trivial⟩, ⟨_, (.refl _), by rw [← grow_push (enc := encS) hw]; rfl⟩, trivial⟩
     ·have hw : wordsOf f x = words2 f x x.args.length := by unfold wordsOf; rw [if_neg (by simp [cn]), List.append_nil]
      refine zj ?_
      exact ⟨i, trivial, ⟨congrArg (AV.own i) (by rw [hw]), trivial⟩, ⟨_, (.refl _), by rw [hw]⟩, trivial⟩
    ·rintro i _
     have hlw := words2_len f x x.args.length
     have hlw2 : (wordsOf f x).length ≤ 1004 := by unfold wordsOf; rw [qg]; split <;> simp <;> omega
     have hjl := join_len (wordsOf f x) 1000 (words_len hnm hI)
     have hjl2 : (wordsOf f x).length * (1000 + 1) ≤ 1004 * 1001 := Nat.mul_le_mul hlw2 (Nat.le_refl _)
     refine y4 (GStep.know (t := 5) (rows := (wordsOf f x).map encS) Z .head (by simp [encS]) (by decide) (by simp))<|zSr<|zVzMf Z<|zg (join_spec _ _ (by omega) (by show (Lib.join _ [32]).length ≤ _; omega)) Z<|z8 (y9 (v := .str _) Z)<|z6<|zk<|zm (x := .str _) Z ?_
     unfold instLine; rw [hok]; rfl
end Go.Proofs.YtpojdepccecpgaaGreatDoor
namespace Go.Proofs.YtpojdepccecpgaaGreatDoor
open Go.Proofs.Tryz
open Go.Proofs Go.Lib Go.Shelf Go.RowKit
theorem pl124 : Places prog 124 #[(0, 1), (1, 1), (2, 1)] [.str ⟨#[]⟩, .str ⟨#[]⟩, .str ⟨#[]⟩] := ⟨_, _, Zp, Ye, fun w => by kernel_rfl, rfl⟩
theorem ps125_27 : PlacesS prog 125 124 27 3 [.str ⟨#[]⟩, .str ⟨#[]⟩, .str ⟨#[]⟩, .str ⟨#[]⟩, .str ⟨#[]⟩, .str ⟨#[]⟩, .str ⟨#[]⟩, .str ⟨#[]⟩, .str ⟨#[]⟩, .str ⟨#[]⟩, .str ⟨#[]⟩, .str ⟨#[]⟩, .str ⟨#[]⟩, .str ⟨#[]⟩, .str ⟨#[]⟩, .str ⟨#[]⟩, .str ⟨#[]⟩, .str ⟨#[]⟩, .str ⟨#[]⟩, .str ⟨#[]⟩, .str ⟨#[]⟩, .str ⟨#[]⟩, .str ⟨#[]⟩, .str ⟨#[]⟩, .str ⟨#[]⟩, .str ⟨#[]⟩, .str ⟨#[]⟩, .str ⟨#[]⟩, .str ⟨#[]⟩, .str ⟨#[]⟩, .str ⟨#[]⟩, .str ⟨#[]⟩, .str ⟨#[]⟩, .str ⟨#[]⟩, .str ⟨#[]⟩, .str ⟨#[]⟩, .str ⟨#[]⟩, .str ⟨#[]⟩, .str ⟨#[]⟩, .str ⟨#[]⟩, .str ⟨#[]⟩, .str ⟨#[]⟩, .str ⟨#[]⟩, .str ⟨#[]⟩, .str ⟨#[]⟩, .str ⟨#[]⟩, .str ⟨#[]⟩, .str ⟨#[]⟩, .str ⟨#[]⟩, .str ⟨#[]⟩, .str ⟨#[]⟩, .str ⟨#[]⟩, .str ⟨#[]⟩, .str ⟨#[]⟩, .str ⟨#[]⟩, .str ⟨#[]⟩, .str ⟨#[]⟩, .str ⟨#[]⟩, .str ⟨#[]⟩, .str ⟨#[]⟩, .str ⟨#[]⟩, .str ⟨#[]⟩, .str ⟨#[]⟩, .str ⟨#[]⟩, .str ⟨#[]⟩, .str ⟨#[]⟩, .str ⟨#[]⟩, .str ⟨#[]⟩, .str ⟨#[]⟩, .str ⟨#[]⟩, .str ⟨#[]⟩, .str ⟨#[]⟩, .str ⟨#[]⟩, .str ⟨#[]⟩, .str ⟨#[]⟩, .str ⟨#[]⟩, .str ⟨#[]⟩, .str ⟨#[]⟩, .str ⟨#[]⟩, .str ⟨#[]⟩, .str ⟨#[]⟩] := ⟨_, underlying125, Zx, Ye, by decide, by decide, by kernel_rfl⟩
set_option maxRecDepth 20000
variable {E : World}
def Letters (E : World) : Prop := Lib.TabIs prog E "unicode.properties" .u8 Lib.propertiesTab ∧ RVar 2 letterT E
theorem letter_spec (c : Int) (h1 : -2147483648 ≤ c) (h2 : c ≤ 2147483647) (hL : Letters E) : AFun prog E 142 [.int .i32 c] (.bool (isLetterU c)) :=
 AFun.ofBelow (vs := [.int .i32 c]) (r := .bool (isLetterU c)) func142 rfl (by decide) rfl fun w hw => Tryz.unicode_IsLetter_all c w h1 h2 (TabIs_below (g := 1) (by kernel_rfl) hL.1 hw) (RVar_below hL.2 hw)
theorem decode_ok (s : ByteArray) (p : Nat) : 1 ≤ (Utf8.decode s p).2 ∧ (Utf8.decode s p).1 ≤ 2097151 := by
 have h256 : ∀ k, (s.get! k).toNat < 256 := fun k => (s.get! k).toNat_lt
 unfold Utf8.decode
 dsimp only
 constructor
 ·repeat' split
  all_goals simp
 ·have h0 := h256 (p + 0)
  have h1 := h256 (p + 1)
  have h2 := h256 (p + 2)
  have h3 := h256 (p + 3)
  repeat' split
  all_goals (simp only [Utf8.runeError]; omega)
def okRune (c : Int) (n : Nat) : Bool := (isLetterU c && !decide (c = 65533)) || (!decide ((n : Int) = 0) && ((decide (48 ≤ c) && decide (c ≤ 57)) || decide (c = 46) || decide (c = 95)))
def nameFrom (s : ByteArray) (p n : Nat) : Bool :=
 if h : p < s.size then (if okRune (Utf8.decode s p).1 n then nameFrom s (p + (Utf8.decode s p).2) (n + 1) else false) else decide ((1 : Int) ≤ n) && decide ((n : Int) ≤ 16)
termination_by s.size - p
decreasing_by have := (decode_ok s p).1; omega
def nameB (s : ByteArray) : Bool := nameFrom s 0 0
theorem name_spec (s : ByteArray) (hs : s.size ≤ 140737488355328) (hL : Letters E) : AFun prog E 105 [.str s] (.bool (nameB s)) := by
 refine zt func105 Z (by decide) Z<|zSr<|zVzAb Z<|z6<|zSr<|zVzAi Z<|z6<|ze<|zSr<|z8 (ye (v := .str _) Z)<|AOps.rangeT Z4 Z<|fun i8 => z6<|zi<|y7 (γ := Nat × Nat) [8] (fun g => [(3, .int .i64 g.2)]) (fun g => [(i8, .iter s g.1)]) (fun g => nameFrom s g.1 g.2 = nameB s ∧ g.2 ≤ g.1 ∧ g.2 ≤ s.size) (fun g => s.size - g.1) (0, 0) zR1 zLe (⟨Z, Nat.le_refl _, qd _⟩) ?_
 rintro ⟨p, n⟩ ⟨hp, hn, hn2⟩
 try dsimp only at *
 by_cases hlt : p < s.size
 ·obtain ⟨hd1, hd2⟩ := decode_ok s p
  have hstep := hp
  rw [nameFrom, dif_pos hlt] at hstep
  refine zSr<|AOps.nextT Z .head hlt<|z8 (zXb Z Z)<|z6<|ze<|yq Z Z<|zj<|zi<|zSr<|z8 (zXi Z Z)<|zVzAi Z<|z6<|zSr<|zVzMi Z<|zg (letter_spec _ (by omega) (by omega) hL) Z<|zVzMb Z<|zy (s := 14) Z (fun c1=>?_) (fun c1=>?_)
  ·refine za Z Z c1<|zVzMi Z<|za Z Z c1<|zVGvneqI Z Z<|zVzPt Z c1 Z<|zVzAb Z<|z6<|ze<|zSr<|zVzMb Z<|zVGvnot Z<|zVzMb Z<|zy (s := 20) Z (fun c2=>?_) (fun c2=>?_)
   ·refine za Z Z c2<|zVzMi Z<|za Z Z c2<|zVGveqlI Z Z<|za Z Z c2<|zVzMb Z<|zy (s := 23) Z (fun c3=>?_) (fun c3=>?_)
    ·refine z7 Z Z c3<|z7 Z Z c3<|z7 Z Z c3<|zn Z Z<|zn Z Z<|z7 Z Z c3<|z7 Z Z c3<|z7 Z Z c3<|zn Z Z<|zn Z Z<|z7 Z Z c3<|z7 Z Z c3<|zn Z Z<|zn Z Z<|z7 Z Z c3<|za Z Z c2<|zVzPt Z c3 Z<|zVzPt Z c2 Z<|z6<|yq Z Z<|zSr<|zVzAb Z<|z6<|zk<|zm (x := .bool _) Z ?_
     rw [if_neg (by simp_all [okRune] <;> omega)] at hstep; exact jb hstep
    ·refine za Z Z c3<|zVzMi Z<|za Z Z c3<|z8 (Gv.geq Z Z)<|za Z Z c3<|zVzMb Z<|zy (s := 26) Z (fun c4=>?_) (fun c4=>?_)
     ·refine za Z Z c4<|zVzMi Z<|za Z Z c4<|z8 (Gv.leq Z Z)<|za Z Z c3<|zVzPt Z c4 Z<|za Z Z c3<|zVGvnot Z<|za Z Z c3<|zVzMb Z<|zy (s := 31) Z (fun c5=>?_) (fun c5=>?_)
      ·refine za Z Z c5<|zVzMi Z<|za Z Z c5<|zVGvneqI Z Z<|za Z Z c3<|zVzPt Z c5 Z<|za Z Z c3<|zVzMb Z<|zy (s := 35) Z (fun c6=>?_) (fun c6=>?_)
       ·refine za Z Z c6<|zVzMi Z<|za Z Z c6<|zVGvneqI Z Z<|za Z Z c3<|zVzPt Z c6 Z<|za Z Z c2<|zVzPf Z c3 Z<|zVzPt Z c2 Z<|z6<|y3 Z (fun c7=>?_) (fun c7=>?_)
        ·refine zSr<|zVzAb Z<|z6<|zk<|zm (x := .bool _) Z ?_
         rw [if_neg (by simp_all [okRune] <;> omega)] at hstep; exact jb hstep
        ·refine zj<|zRg<|zVzMi Z<|zVzAd Z Z<|zVzAi Z<|z6 ?_
         exact ⟨(p + (Utf8.decode s p).2, n + 1), zR1, zR1, zLe, ⟨by rw [if_pos (by simp_all [okRune] <;> omega)] at hstep; exact hstep, by dsimp only; omega, by dsimp only; omega⟩, by dsimp only; omega⟩
       ·refine z7 Z Z c6<|z7 Z Z c6<|za Z Z c3<|zVzPf Z c6 Z<|za Z Z c2<|zVzPf Z c3 Z<|zVzPt Z c2 Z<|z6<|yl Z Z<|zj<|zRg<|zVzMi Z<|zVzAd Z Z<|zVzAi Z<|z6 ?_
        exact ⟨(p + (Utf8.decode s p).2, n + 1), zR1, zR1, zLe, ⟨by rw [if_pos (by simp_all [okRune] <;> omega)] at hstep; exact hstep, by dsimp only; omega, by dsimp only; omega⟩, by dsimp only; omega⟩
      ·refine z7 Z Z c5<|z7 Z Z c5<|za Z Z c3<|zVzPf Z c5 Z<|za Z Z c3<|zVzMb Z<|z7 Z Z Z<|z7 Z Z Z<|za Z Z c3<|zVzPf Z Z Z<|za Z Z c2<|zVzPf Z c3 Z<|zVzPt Z c2 Z<|z6<|yl Z Z<|zj<|zRg<|zVzMi Z<|zVzAd Z Z<|zVzAi Z<|z6 ?_
       exact ⟨(p + (Utf8.decode s p).2, n + 1), zR1, zR1, zLe, ⟨by rw [if_pos (by simp_all [okRune] <;> omega)] at hstep; exact hstep, by dsimp only; omega, by dsimp only; omega⟩, by dsimp only; omega⟩
     ·refine z7 Z Z c4<|z7 Z Z c4<|za Z Z c3<|zVzPf Z c4 Z<|za Z Z c3<|zVGvnot Z<|za Z Z c3<|zVzMb Z<|za Z Z Z<|zVzMi Z<|za Z Z Z<|zVGvneqI Z Z<|za Z Z c3<|zVzPt Z Z Z<|za Z Z c3<|zVzMb Z<|zy (s := 35) Z (fun c8=>?_) (fun c8=>?_)
      ·refine za Z Z c8<|zVzMi Z<|za Z Z c8<|zVGvneqI Z Z<|za Z Z c3<|zVzPt Z c8 Z<|za Z Z c2<|zVzPf Z c3 Z<|zVzPt Z c2 Z<|z6<|y3 Z (fun c9=>?_) (fun c9=>?_)
       ·refine zSr<|zVzAb Z<|z6<|zk<|zm (x := .bool _) Z ?_
        rw [if_neg (by simp_all [okRune] <;> omega)] at hstep; exact jb hstep
       ·refine zj<|zRg<|zVzMi Z<|zVzAd Z Z<|zVzAi Z<|z6 ?_
        exact ⟨(p + (Utf8.decode s p).2, n + 1), zR1, zR1, zLe, ⟨by rw [if_pos (by simp_all [okRune] <;> omega)] at hstep; exact hstep, by dsimp only; omega, by dsimp only; omega⟩, by dsimp only; omega⟩
      ·refine z7 Z Z c8<|z7 Z Z c8<|za Z Z c3<|zVzPf Z c8 Z<|za Z Z c2<|zVzPf Z c3 Z<|zVzPt Z c2 Z<|z6<|yl Z Z<|zj<|zRg<|zVzMi Z<|zVzAd Z Z<|zVzAi Z<|z6 ?_
       exact ⟨(p + (Utf8.decode s p).2, n + 1), zR1, zR1, zLe, ⟨by rw [if_pos (by simp_all [okRune] <;> omega)] at hstep; exact hstep, by dsimp only; omega, by dsimp only; omega⟩, by dsimp only; omega⟩
   ·refine z7 Z Z c2<|z7 Z Z c2<|z7 Z Z c2<|zn Z Z<|zn Z Z<|zn Z Z<|zn Z Z<|zn Z Z<|zn Z Z<|zn Z Z<|zn Z Z<|zn Z Z<|zn Z Z<|zn Z Z<|zn Z Z<|zn Z Z<|zn Z Z<|zn Z Z<|z7 Z Z c2<|zVzPf Z c2 Z<|z6<|yl Z Z<|zj<|zRg<|zVzMi Z<|zVzAd Z Z<|zVzAi Z<|z6 ?_
    exact ⟨(p + (Utf8.decode s p).2, n + 1), zR1, zR1, zLe, ⟨by rw [if_pos (by simp_all [okRune] <;> omega)] at hstep; exact hstep, by dsimp only; omega, by dsimp only; omega⟩, by dsimp only; omega⟩
  ·refine z7 Z Z c1<|z7 Z Z c1<|zVzPf Z c1 Z<|zVzAb Z<|z6<|ze<|zSr<|zVzMb Z<|zVGvnot Z<|zVzMb Z<|za Z Z Z<|zVzMi Z<|za Z Z Z<|zVGveqlI Z Z<|za Z Z Z<|zVzMb Z<|zy (s := 23) Z (fun c10=>?_) (fun c10=>?_)
   ·refine z7 Z Z c10<|z7 Z Z c10<|z7 Z Z c10<|zn Z Z<|zn Z Z<|z7 Z Z c10<|z7 Z Z c10<|z7 Z Z c10<|zn Z Z<|zn Z Z<|z7 Z Z c10<|z7 Z Z c10<|zn Z Z<|zn Z Z<|z7 Z Z c10<|za Z Z Z<|zVzPt Z c10 Z<|zVzPt Z Z Z<|z6<|yq Z Z<|zSr<|zVzAb Z<|z6<|zk<|zm (x := .bool _) Z ?_
    rw [if_neg (by simp_all [okRune] <;> omega)] at hstep; exact jb hstep
   ·refine za Z Z c10<|zVzMi Z<|za Z Z c10<|z8 (Gv.geq Z Z)<|za Z Z c10<|zVzMb Z<|zy (s := 26) Z (fun c11=>?_) (fun c11=>?_)
    ·refine za Z Z c11<|zVzMi Z<|za Z Z c11<|z8 (Gv.leq Z Z)<|za Z Z c10<|zVzPt Z c11 Z<|za Z Z c10<|zVGvnot Z<|za Z Z c10<|zVzMb Z<|zy (s := 31) Z (fun c12=>?_) (fun c12=>?_)
     ·refine za Z Z c12<|zVzMi Z<|za Z Z c12<|zVGvneqI Z Z<|za Z Z c10<|zVzPt Z c12 Z<|za Z Z c10<|zVzMb Z<|zy (s := 35) Z (fun c13=>?_) (fun c13=>?_)
      ·refine za Z Z c13<|zVzMi Z<|za Z Z c13<|zVGvneqI Z Z<|za Z Z c10<|zVzPt Z c13 Z<|za Z Z Z<|zVzPf Z c10 Z<|zVzPt Z Z Z<|z6<|y3 Z (fun c14=>?_) (fun c14=>?_)
       ·refine zSr<|zVzAb Z<|z6<|zk<|zm (x := .bool _) Z ?_
        rw [if_neg (by simp_all [okRune] <;> omega)] at hstep; exact jb hstep
       ·refine zj<|zRg<|zVzMi Z<|zVzAd Z Z<|zVzAi Z<|z6 ?_
        exact ⟨(p + (Utf8.decode s p).2, n + 1), zR1, zR1, zLe, ⟨by rw [if_pos (by simp_all [okRune] <;> omega)] at hstep; exact hstep, by dsimp only; omega, by dsimp only; omega⟩, by dsimp only; omega⟩
      ·refine z7 Z Z c13<|z7 Z Z c13<|za Z Z c10<|zVzPf Z c13 Z<|za Z Z Z<|zVzPf Z c10 Z<|zVzPt Z Z Z<|z6<|yl Z Z<|zj<|zRg<|zVzMi Z<|zVzAd Z Z<|zVzAi Z<|z6 ?_
       exact ⟨(p + (Utf8.decode s p).2, n + 1), zR1, zR1, zLe, ⟨by rw [if_pos (by simp_all [okRune] <;> omega)] at hstep; exact hstep, by dsimp only; omega, by dsimp only; omega⟩, by dsimp only; omega⟩
     ·refine z7 Z Z c12<|z7 Z Z c12<|za Z Z c10<|zVzPf Z c12 Z<|za Z Z c10<|zVzMb Z<|z7 Z Z Z<|z7 Z Z Z<|za Z Z c10<|zVzPf Z Z Z<|za Z Z Z<|zVzPf Z c10 Z<|zVzPt Z Z Z<|z6<|yl Z Z<|zj<|zRg<|zVzMi Z<|zVzAd Z Z<|zVzAi Z<|z6 ?_
      exact ⟨(p + (Utf8.decode s p).2, n + 1), zR1, zR1, zLe, ⟨by rw [if_pos (by simp_all [okRune] <;> omega)] at hstep; exact hstep, by dsimp only; omega, by dsimp only; omega⟩, by dsimp only; omega⟩
    ·refine z7 Z Z c11<|z7 Z Z c11<|za Z Z c10<|zVzPf Z c11 Z<|za Z Z c10<|zVGvnot Z<|za Z Z c10<|zVzMb Z<|za Z Z Z<|zVzMi Z<|za Z Z Z<|zVGvneqI Z Z<|za Z Z c10<|zVzPt Z Z Z<|za Z Z c10<|zVzMb Z<|zy (s := 35) Z (fun c15=>?_) (fun c15=>?_)
     ·refine za Z Z c15<|zVzMi Z<|za Z Z c15<|zVGvneqI Z Z<|za Z Z c10<|zVzPt Z c15 Z<|za Z Z Z<|zVzPf Z c10 Z<|zVzPt Z Z Z<|z6<|y3 Z (fun c16=>?_) (fun c16=>?_)
      ·refine zSr<|zVzAb Z<|z6<|zk<|zm (x := .bool _) Z ?_
       rw [if_neg (by simp_all [okRune] <;> omega)] at hstep; exact jb hstep
      ·refine zj<|zRg<|zVzMi Z<|zVzAd Z Z<|zVzAi Z<|z6 ?_
       exact ⟨(p + (Utf8.decode s p).2, n + 1), zR1, zR1, zLe, ⟨by rw [if_pos (by simp_all [okRune] <;> omega)] at hstep; exact hstep, by dsimp only; omega, by dsimp only; omega⟩, by dsimp only; omega⟩
     ·refine z7 Z Z c15<|z7 Z Z c15<|za Z Z c10<|zVzPf Z c15 Z<|za Z Z Z<|zVzPf Z c10 Z<|zVzPt Z Z Z<|z6<|yl Z Z<|zj<|zRg<|zVzMi Z<|zVzAd Z Z<|zVzAi Z<|z6 ?_
      exact ⟨(p + (Utf8.decode s p).2, n + 1), zR1, zR1, zLe, ⟨by rw [if_pos (by simp_all [okRune] <;> omega)] at hstep; exact hstep, by dsimp only; omega, by dsimp only; omega⟩, by dsimp only; omega⟩
 ·rw [nameFrom, dif_neg hlt] at hp
  refine zSr<|AOps.nextTover Z .head hlt<|z8 (zXb Z Z)<|z6<|ze<|yl Z Z<|y5<|zSr<|zVzMi Z<|z8 (Gv.geq Z Z)<|zVzMb Z<|zy (s := 45) Z (fun c17=>?_) (fun c17=>?_)
  ·refine za Z Z c17<|zVzMi Z<|za Z Z c17<|z8 (Gv.leq Z Z)<|zVzPt Z c17 Z<|zVzAb Z<|z6<|zk<|zm (x := .bool _) Z ?_
   rw [← hp]; exact jb (by simp_all <;> (intros; omega))
  ·refine z7 Z Z c17<|z7 Z Z c17<|zVzPf Z c17 Z<|zVzAb Z<|z6<|zk<|zm (x := .bool _) Z ?_
   rw [← hp]; exact jb (by simp_all <;> (intros; omega))
theorem rows_spec : AFun prog E 69 [] (.fro 3 (kindT.map encK)) := by
 refine zt func69 Z (by decide) Z<|zSr<|z8 (zAr Z)<|z6<|zSr<|z8 (y1 (cps := [(0, [_]), (1, [_]), (2, [_])]) (rs := [_, _, _]) pl124 Z Z Z)<|z8 (y1 (cps := [(0, [_]), (1, [_]), (2, [_])]) (rs := [_, _, _]) pl124 Z Z Z)<|z8 (y1 (cps := [(0, [_]), (1, [_]), (2, [_])]) (rs := [_, _, _]) pl124 Z Z Z)<|z8 (y1 (cps := [(0, [_]), (1, [_]), (2, [_])]) (rs := [_, _, _]) pl124 Z Z Z)<|z8 (y1 (cps := [(0, [_]), (1, [_]), (2, [_])]) (rs := [_, _, _]) pl124 Z Z Z)<|z8 (y1 (cps := [(0, [_]), (1, [_]), (2, [_])]) (rs := [_, _, _]) pl124 Z Z Z)<|z8 (y1 (cps := [(0, [_]), (1, [_]), (2, [_])]) (rs := [_, _, _]) pl124 Z Z Z)<|z8 (y1 (cps := [(0, [_]), (1, [_]), (2, [_])]) (rs := [_, _, _]) pl124 Z Z Z)<|z8 (y1 (cps := [(0, [_]), (1, [_]), (2, [_])]) (rs := [_, _, _]) pl124 Z Z Z)<|z8 (y1 (cps := [(0, [_]), (1, [_]), (2, [_])]) (rs := [_, _, _]) pl124 Z Z Z)<|z8 (y1 (cps := [(0, [_]), (1, [_]), (2, [_])]) (rs := [_, _, _]) pl124 Z Z Z)<|z8 (y1 (cps := [(0, [_]), (1, [_]), (2, [_])]) (rs := [_, _, _]) pl124 Z Z Z)<|z8 (y1 (cps := [(0, [_]), (1, [_]), (2, [_])]) (rs := [_, _, _]) pl124 Z Z Z)<|z8 (y1 (cps := [(0, [_]), (1, [_]), (2, [_])]) (rs := [_, _, _]) pl124 Z Z Z)<|z8 (y1 (cps := [(0, [_]), (1, [_]), (2, [_])]) (rs := [_, _, _]) pl124 Z Z Z)<|z8 (y1 (cps := [(0, [_]), (1, [_]), (2, [_])]) (rs := [_, _, _]) pl124 Z Z Z)<|z8 (y1 (cps := [(0, [_]), (1, [_]), (2, [_])]) (rs := [_, _, _]) pl124 Z Z Z)<|z8 (y1 (cps := [(0, [_]), (1, [_]), (2, [_])]) (rs := [_, _, _]) pl124 Z Z Z)<|z8 (y1 (cps := [(0, [_]), (1, [_]), (2, [_])]) (rs := [_, _, _]) pl124 Z Z Z)<|z8 (y1 (cps := [(0, [_]), (1, [_]), (2, [_])]) (rs := [_, _, _]) pl124 Z Z Z)<|z8 (y1 (cps := [(0, [_]), (1, [_]), (2, [_])]) (rs := [_, _, _]) pl124 Z Z Z)<|z8 (y1 (cps := [(0, [_]), (1, [_]), (2, [_])]) (rs := [_, _, _]) pl124 Z Z Z)<|z8 (y1 (cps := [(0, [_]), (1, [_]), (2, [_])]) (rs := [_, _, _]) pl124 Z Z Z)<|z8 (y1 (cps := [(0, [_]), (1, [_]), (2, [_])]) (rs := [_, _, _]) pl124 Z Z Z)<|z8 (y1 (cps := [(0, [_]), (1, [_]), (2, [_])]) (rs := [_, _, _]) pl124 Z Z Z)<|z8 (y1 (cps := [(0, [_]), (1, [_]), (2, [_])]) (rs := [_, _, _]) pl124 Z Z Z)<|z8 (y1 (cps := [(0, [_]), (1, [_]), (2, [_])]) (rs := [_, _, _]) pl124 Z Z Z)<|zr (rows := [[_, _, _], [_, _, _], [_, _, _], [_, _, _], [_, _, _], [_, _, _], [_, _, _], [_, _, _], [_, _, _], [_, _, _], [_, _, _], [_, _, _], [_, _, _], [_, _, _], [_, _, _], [_, _, _], [_, _, _], [_, _, _], [_, _, _], [_, _, _], [_, _, _], [_, _, _], [_, _, _], [_, _, _], [_, _, _], [_, _, _], [_, _, _]]) ps125_27 Z Z Z Z Z<|z8 (zAf Z)<|z6<|zk<|zm (x := .fro _ _) Z ?_
 rfl
theorem in_spec (k n : Int) : AFun prog E 106 [.int .i64 k, .int .i64 n] (.bool (decide (0 ≤ k) && decide (k < n))) := by
 refine zt func106 Z (by decide) Z<|zSr<|zVzAb Z<|z6<|zSr<|zVzMi Z<|z8 (Gv.geq Z Z)<|zVzMb Z<|zy (s := 7) Z (fun c18=>?_) (fun c18=>?_)
 ·refine za Z Z c18<|zVzMi Z<|za Z Z c18<|zVzMi Z<|za Z Z c18<|zVGvlss Z Z<|zVzPt Z c18 Z<|zVzAb Z<|z6<|zk<|zm (x := .bool _) Z ?_
  exact jb (by simp_all <;> omega)
 ·refine z7 Z Z c18<|z7 Z Z c18<|z7 Z Z c18<|zVzPf Z c18 Z<|zVzAb Z<|z6<|zk<|zm (x := .bool _) Z ?_
  exact jb (by simp_all <;> omega)
def strL (l : List UInt8) : ByteArray := ⟨l.toArray⟩
theorem strL_app (a b : List UInt8) : strL a ++ strL b = strL (a ++ b) := by
 apply ByteArray.ext
 simp [strL, ByteArray.data_append]
theorem strL_size (a : List UInt8) : (strL a).size = a.length := by show (List.toArray a).size = _; simp
end Go.Proofs.YtpojdepccecpgaaGreatDoor
