/- What is told of a value may be told less closely. No conditions. -/
import Derived.Shelf.Small.Bits
import Derived.Shelf.Small.Wraps
import Derived.Shelf.Strconv.Itoa0
import Derived.Shelf.Strconv.Itoa1
import Derived.Shelf.LaysM
import Derived.Shelf.Strconv.Itoa2
import Derived.Shelf.Strconv.Itoa3
import Derived.Shelf.Sort.Plain
import Derived.Shelf.Unicode.Props
import Derived.Shelf.Unicode.PropsLaid
import Derived.Shelf.Bits.Mul64
import Derived.Shelf.Unicode.Is16White
import Derived.Shelf.Unicode.IsSpaceAny
import Derived.Shelf.Unicode.Is16WhiteD
import Derived.Shelf.Unicode.Is16Any
import Derived.Shelf.Unicode.Is32Any
import Derived.Shelf.Unicode.ExclAny
import Derived.Shelf.Unicode.PredsAny
import Derived.Shelf.Unicode.PredsPay
import Derived.Shelf.Slices.Turned
import Derived.Shelf.Slices.Reverse
import Derived.Shelf.Slices.Equal
import Derived.Ground.Names2Prog
import Derived.Shelf.Slices.Clone
import Derived.Shelf.Slices.SearchI
import Derived.Shelf.Slices.Cells
import Derived.Shelf.Slices.In.SortNone
import Derived.Shelf.Slices.Empties2
import Derived.Ground.SlgnProg
import Derived.Shelf.SlicesE.Reverse
import Derived.Shelf.SlicesE.Clone
import Derived.Test.YthlpjaleclchgaaGreatDoorChecked
import Derived.Test.YthlpjaleclchgaaGreatDoorJb
import Derived.Lib.ItoaLen
import Derived.Lib.Join
import Derived.Lib.MapLaws
import Derived.LaidEqlPtr
set_option linter.unusedVariables false
set_option linter.unusedSimpArgs false
set_option linter.unusedSectionVars false
namespace Go.Proofs
open Go.Shelf
def Tryz.laysM246_ren : Go.Shelf.Ren := ⟨fun | 246 => 282 | 283 => 294 | 284 => 295 | 285 => 296 | 286 => 297 | 129 => 224 | 317 => 304 | 318 => 305 | 319 => 306 | 320 => 307 | 337 => 309 | 338 => 310 | n => n, fun | 2 => 2 | 3 => 3 | 9 => 9 | 4 => 4 | 171 => 392 | 0 => 0 | 53 => 206 | 37 => 394 | 5 => 5 | 173 => 395 | 212 => 406 | 51 => 316 | 20 => 20 | 213 => 407 | 46 => 281 | 232 => 409 | 233 => 410 | n => n, fun | 17 => 2 | 18 => 3 | 19 => 4 | n => n⟩
def Tryz.laysM243_ren : Go.Shelf.Ren := ⟨fun | 243 => 262 | 246 => 282 | 283 => 294 | 284 => 295 | 285 => 296 | 286 => 297 | 129 => 224 | 317 => 304 | 318 => 305 | 319 => 306 | 320 => 307 | 337 => 309 | 338 => 310 | n => n, fun | 3 => 3 | 9 => 9 | 2 => 2 | 4 => 4 | 171 => 392 | 0 => 0 | 53 => 206 | 37 => 394 | 5 => 5 | 173 => 395 | 212 => 406 | 51 => 316 | 20 => 20 | 213 => 407 | 46 => 281 | 232 => 409 | 233 => 410 | n => n, fun | 17 => 2 | 18 => 3 | 19 => 4 | n => n⟩
def Tryz.laysM171_ren : Go.Shelf.Ren := ⟨fun | 171 => 234 | 243 => 262 | 246 => 282 | 283 => 294 | 284 => 295 | 285 => 296 | 286 => 297 | 129 => 224 | 317 => 304 | 318 => 305 | 319 => 306 | 320 => 307 | 337 => 309 | 338 => 310 | n => n, fun | 3 => 3 | 9 => 9 | 2 => 2 | 4 => 4 | 171 => 392 | 0 => 0 | 53 => 206 | 37 => 394 | 5 => 5 | 173 => 395 | 212 => 406 | 51 => 316 | 20 => 20 | 213 => 407 | 46 => 281 | 232 => 409 | 233 => 410 | n => n, fun | 17 => 2 | 18 => 3 | 19 => 4 | n => n⟩
theorem Tryz.laysM171 : Go.Proofs.LaysM.n171 prog Tryz.laysM171_ren := {
 mixed := by kernel_rfl
 f129 := func224.trans (congrArg some (by kernel_rfl))
 f171 := func234.trans (congrArg some (by kernel_rfl))
 f243 := func262.trans (congrArg some (by kernel_rfl))
 f246 := func282.trans (congrArg some (by kernel_rfl))
 f283 := func294.trans (congrArg some (by kernel_rfl))
 f284 := func295.trans (congrArg some (by kernel_rfl))
 f285 := func296.trans (congrArg some (by kernel_rfl))
 f286 := func297.trans (congrArg some (by kernel_rfl))
 f317 := func304.trans (congrArg some (by kernel_rfl))
 f318 := func305.trans (congrArg some (by kernel_rfl))
 f319 := func306.trans (congrArg some (by kernel_rfl))
 f320 := func307.trans (congrArg some (by kernel_rfl))
 f337 := func309.trans (congrArg some (by kernel_rfl))
 f338 := func310.trans (congrArg some (by kernel_rfl))
 t0 := underlying0
 a0 := isAgg0
 z0 := sizeOf0
 v0 := zeroValue0
 t2 := underlying2
 a2 := isAgg2
 z2 := sizeOf2
 v2 := zeroValue2
 t3 := underlying3
 a3 := isAgg3
 z3 := sizeOf3
 v3 := zeroValue3
 t4 := underlying4
 a4 := isAgg4
 z4 := sizeOf4
 v4 := zeroValue4
 t5 := underlying5
 a5 := isAgg5
 z5 := sizeOf5
 v5 := zeroValue5
 t9 := underlying9
 a9 := isAgg9
 z9 := sizeOf9
 v9 := zeroValue9
 t20 := underlying20
 a20 := isAgg20
 z20 := sizeOf20
 v20 := zeroValue20
 t37 := underlying394
 a37 := isAgg394
 z37 := sizeOf394
 v37 := zeroValue394
 t46 := underlying281
 a46 := isAgg281
 z46 := sizeOf281
 v46 := zeroValue281
 t51 := underlying316
 a51 := isAgg316
 z51 := sizeOf316
 v51 := zeroValue316
 t53 := underlying206
 a53 := isAgg206
 z53 := sizeOf206
 v53 := zeroValue206
 t171 := underlying392
 a171 := isAgg392
 z171 := sizeOf392
 v171 := zeroValue392
 t173 := underlying395
 a173 := isAgg395
 z173 := sizeOf395
 v173 := zeroValue395
 t212 := underlying406
 a212 := isAgg406
 z212 := sizeOf406
 v212 := zeroValue406
 t213 := underlying407
 a213 := isAgg407
 z213 := sizeOf407
 t232 := underlying409
 a232 := isAgg409
 z232 := sizeOf409
 v232 := zeroValue409
 t233 := underlying410
 a233 := isAgg410
 z233 := sizeOf410
 v233 := zeroValue410
 g17 := by kernel_rfl
 g18 := by kernel_rfl
 g19 := by kernel_rfl
 i0 := by kernel_rfl
 i2 := by kernel_rfl
 i3 := by kernel_rfl
 i4 := by kernel_rfl
 i5 := by kernel_rfl
 i9 := by kernel_rfl
 i20 := by kernel_rfl
 i37 := by kernel_rfl
 i46 := by kernel_rfl
 i51 := by kernel_rfl
 i53 := by kernel_rfl
 i171 := by kernel_rfl
 i173 := by kernel_rfl
 i212 := by kernel_rfl
 i232 := by kernel_rfl
 i233 := by kernel_rfl
 m17 := by kernel_rfl
 m18 := by kernel_rfl
 m19 := by kernel_rfl }
open Go.RowKit Go.Sort Go.Lib in
theorem Tryz.strconv_Itoa (n : Int) (h0 : -9223372036854775808 ≤ n) (h1 : n ≤ 9223372036854775807) (w : World) (htab : Lib.TabIs prog w "internal/strconv.uint64pow10" .u64 Lib.pow10Tab) :
  Calls prog 234 #[.int .i64 n] w fun e w' => e = .returned (.string ⟨(Lib.itoa n).toArray⟩) ∧ ∃ k os, w' = grow (w.drewN k) os := Any.strconv_Itoa Tryz.laysM171 n h0 h1 w htab
def Tryz.lays200_ren : Go.Shelf.Ren := ⟨fun | 200 => 184 | 261 => 225 | 311 => 256 | 312 => 257 | n => n, fun | 21 => 21 | 4 => 4 | 51 => 316 | 5 => 5 | 119 => 318 | 0 => 0 | 141 => 320 | 196 => 352 | 193 => 349 | 3 => 3 | 198 => 354 | 49 => 52 | 194 => 350 | 201 => 357 | 226 => 377 | 46 => 281 | 227 => 378 | n => n, fun | 7 => 0 | 8 => 1 | n => n⟩
theorem Tryz.lays200 : Go.Proofs.Lays.n200 prog Tryz.lays200_ren := {
 mixed := by kernel_rfl
 f200 := func184.trans (congrArg some (by kernel_rfl))
 f261 := func225.trans (congrArg some (by kernel_rfl))
 f311 := func256.trans (congrArg some (by kernel_rfl))
 f312 := func257.trans (congrArg some (by kernel_rfl))
 t0 := underlying0
 a0 := isAgg0
 z0 := sizeOf0
 v0 := zeroValue0
 t3 := underlying3
 a3 := isAgg3
 z3 := sizeOf3
 v3 := zeroValue3
 t4 := underlying4
 a4 := isAgg4
 z4 := sizeOf4
 v4 := zeroValue4
 t5 := underlying5
 a5 := isAgg5
 z5 := sizeOf5
 v5 := zeroValue5
 t21 := underlying21
 a21 := isAgg21
 z21 := sizeOf21
 v21 := zeroValue21
 t46 := underlying281
 a46 := isAgg281
 z46 := sizeOf281
 v46 := zeroValue281
 t49 := underlying52
 a49 := isAgg52
 z49 := sizeOf52
 v49 := zeroValue52
 t51 := underlying316
 a51 := isAgg316
 z51 := sizeOf316
 v51 := zeroValue316
 t119 := underlying318
 a119 := isAgg318
 z119 := sizeOf318
 t141 := underlying320
 a141 := isAgg320
 z141 := sizeOf320
 v141 := zeroValue320
 t193 := underlying349
 a193 := isAgg349
 z193 := sizeOf349
 v193 := zeroValue349
 t194 := underlying350
 a194 := isAgg350
 z194 := sizeOf350
 v194 := zeroValue350
 t196 := underlying352
 a196 := isAgg352
 z196 := sizeOf352
 v196 := zeroValue352
 t198 := underlying354
 a198 := isAgg354
 z198 := sizeOf354
 v198 := zeroValue354
 t201 := underlying357
 a201 := isAgg357
 z201 := sizeOf357
 v201 := zeroValue357
 t226 := underlying377
 a226 := isAgg377
 z226 := sizeOf377
 v226 := zeroValue377
 t227 := underlying378
 a227 := isAgg378
 z227 := sizeOf378
 v227 := zeroValue378
 g7 := by kernel_rfl
 g8 := by kernel_rfl }
def Tryz.lays264_ren : Go.Shelf.Ren := ⟨fun | 264 => 176 | n => n, fun | 53 => 206 | 46 => 281 | n => n, fun | n => n⟩
theorem Tryz.lays264 : Go.Proofs.Lays.n264 prog Tryz.lays264_ren := {
 mixed := by kernel_rfl
 f264 := func176.trans (congrArg some (by kernel_rfl))
 t46 := underlying281
 a46 := isAgg281
 z46 := sizeOf281
 v46 := zeroValue281
 t53 := underlying206
 a53 := isAgg206
 z53 := sizeOf206
 v53 := zeroValue206 }
open Go.RowKit Go.Lib in
theorem Tryz.bits_Mul64 (x y : Nat) (hx : x < 18446744073709551616) (hy : y < 18446744073709551616) (w : World) :
  Calls prog 176 #[.int .u64 x, .int .u64 y] w fun e w' => e = .returned (.tuple #[.int .u64 ((x * y / 18446744073709551616 : Nat) : Int), .int .u64 ((x * y % 18446744073709551616 : Nat) : Int)]) ∧ w' = w := Any.bits_Mul64 Tryz.lays264 x y hx hy w
open Go.RowKit Go.Lib in
theorem Tryz.unicode_IsLetter_all (r : Int) (w : World) (hlo : -2147483648 ≤ r) (hhi : r ≤ 2147483647) (htab : Lib.TabIs prog w "unicode.properties" .u8 Lib.propertiesTab) (hV : RVar 1 letterT w) :
  Calls prog 184 #[.int .i32 r] w fun e w' => e = .returned (.bool (isLetterU r)) ∧ Below w.heap.size w w' := Any.unicode_IsLetter_all Tryz.lays200 (by kernel_rfl) r w hlo hhi htab hV
end Go.Proofs
namespace Go.Proofs.YthlpjaleclchgaaGreatDoor
open Go.Proofs.Tryz
open Go.Proofs
variable {E : World}
set_option maxRecDepth 20000
theorem AFun.ofSame {E : World} {P : Program} {f : FuncId} {fn : Func} {c : Code} {ars : List AV} {vs : List Value} {r : Value} {x : AV} (hf : P.funcs[f]? = some fn) (hb : fn.body = some c) (hn : fn.name ≠ "runtime.NumGoroutine") (has : ars = vs.map lit)
  (h : ∀ w, Calls P f vs.toArray w fun e w' => e = .returned r ∧ w' = w) (hr : ∀ I, RepV I x r) : AFun P E f ars x := fun I F w us h1 h2 => by
 subst has
 rw [lit_uns h1]
 refine Fn.ofCalls hf hb hn ?_
 exact (h w).mono fun e w' ⟨he, hw⟩ => ⟨_, he, I, x, [], .refl _, hr I, by rw [hw]; exact h2, rfl⟩
theorem mul64_spec (x y : Nat) (hx : x < 18446744073709551616) (hy : y < 18446744073709551616) : AFun prog E 176 [.int .u64 (x : Int), .int .u64 (y : Int)] (.tup [.int .u64 ((x * y / 18446744073709551616 : Nat) : Int), .int .u64 ((x * y % 18446744073709551616 : Nat) : Int)]) :=
 AFun.ofSame (vs := [.int .u64 x, .int .u64 y]) func176 rfl (by decide) rfl (fun w => Tryz.bits_Mul64 x y hx hy w) (fun I => ⟨_, rfl, _, _, rfl, rfl, _, _, rfl, rfl, rfl⟩)
end Go.Proofs.YthlpjaleclchgaaGreatDoor
namespace Go.Proofs.YthlpjaleclchgaaGreatDoor
open Go.Proofs.Tryz
open Go.Proofs
set_option maxRecDepth 20000
variable {E : World}
def termOK (f : PFunc) (t : PTerm) : Bool := if t.kind = 0 then hasB f t.to0 && decide (t.to1 = 0) && decide (t.var = 0) else if t.kind = 1 then hasV f t.var && hasB f t.to0 && hasB f t.to1 else
 if t.kind = 2 then hasV f t.var && decide (t.to0 = 0 ∧ t.to1 = 0) else false
def Pows (E : World) : Prop := Lib.TabIs prog E "internal/strconv.uint64pow10" .u64 Lib.pow10Tab
theorem tab_up {P : Program} {name : String} {k : IntKind} {zs : List Int} {I : Ghost} {O : List (Nat × Obj)} {w : World} (h : Lib.TabIs P E name k zs) (hS : SL I O E w) : Lib.TabIs P w name k zs := by
 unfold Lib.TabIs World.var? at *
 cases hg : P.globalNamed name with
 | none => rw [hg] at h; cases h
 | some g =>
  rw [hg] at h
  simp only [Option.bind_some] at h ⊢
  cases hh : E.heap[g]? with
  | none => rw [hh] at h; cases h
  | some o => rw [hh] at h; rw [hS.pers _ _ (hS.base _ _ hh)]; exact h
end Go.Proofs.YthlpjaleclchgaaGreatDoor
namespace Go.Proofs.YthlpjaleclchgaaGreatDoor
open Go.Proofs.Tryz
open Go.Proofs Go.Lib Go.Shelf Go.RowKit
theorem pl31 : Places prog 31 #[(0, 1), (1, 1), (2, 1)] [.str ⟨#[]⟩, .str ⟨#[]⟩, .str ⟨#[]⟩] := ⟨_, _, underlying31, zeroValue31, fun w => by kernel_rfl, rfl⟩
theorem ps32_27 : PlacesS prog 32 31 27 3 [.str ⟨#[]⟩, .str ⟨#[]⟩, .str ⟨#[]⟩, .str ⟨#[]⟩, .str ⟨#[]⟩, .str ⟨#[]⟩, .str ⟨#[]⟩, .str ⟨#[]⟩, .str ⟨#[]⟩, .str ⟨#[]⟩, .str ⟨#[]⟩, .str ⟨#[]⟩, .str ⟨#[]⟩, .str ⟨#[]⟩, .str ⟨#[]⟩, .str ⟨#[]⟩, .str ⟨#[]⟩, .str ⟨#[]⟩, .str ⟨#[]⟩, .str ⟨#[]⟩, .str ⟨#[]⟩, .str ⟨#[]⟩, .str ⟨#[]⟩, .str ⟨#[]⟩, .str ⟨#[]⟩, .str ⟨#[]⟩, .str ⟨#[]⟩, .str ⟨#[]⟩, .str ⟨#[]⟩, .str ⟨#[]⟩, .str ⟨#[]⟩, .str ⟨#[]⟩, .str ⟨#[]⟩, .str ⟨#[]⟩, .str ⟨#[]⟩, .str ⟨#[]⟩, .str ⟨#[]⟩, .str ⟨#[]⟩, .str ⟨#[]⟩, .str ⟨#[]⟩, .str ⟨#[]⟩, .str ⟨#[]⟩, .str ⟨#[]⟩, .str ⟨#[]⟩, .str ⟨#[]⟩, .str ⟨#[]⟩, .str ⟨#[]⟩, .str ⟨#[]⟩, .str ⟨#[]⟩, .str ⟨#[]⟩, .str ⟨#[]⟩, .str ⟨#[]⟩, .str ⟨#[]⟩, .str ⟨#[]⟩, .str ⟨#[]⟩, .str ⟨#[]⟩, .str ⟨#[]⟩, .str ⟨#[]⟩, .str ⟨#[]⟩, .str ⟨#[]⟩, .str ⟨#[]⟩, .str ⟨#[]⟩, .str ⟨#[]⟩, .str ⟨#[]⟩, .str ⟨#[]⟩, .str ⟨#[]⟩, .str ⟨#[]⟩, .str ⟨#[]⟩, .str ⟨#[]⟩, .str ⟨#[]⟩, .str ⟨#[]⟩, .str ⟨#[]⟩, .str ⟨#[]⟩, .str ⟨#[]⟩, .str ⟨#[]⟩, .str ⟨#[]⟩, .str ⟨#[]⟩, .str ⟨#[]⟩, .str ⟨#[]⟩, .str ⟨#[]⟩, .str ⟨#[]⟩] := ⟨_, underlying32, sizeOf31, zeroValue31, by decide, by decide, by kernel_rfl⟩
set_option maxRecDepth 20000
variable {E : World}
def Letters (E : World) : Prop := Lib.TabIs prog E "unicode.properties" .u8 Lib.propertiesTab ∧ RVar 1 letterT E
theorem letter_spec (c : Int) (h1 : -2147483648 ≤ c) (h2 : c ≤ 2147483647) (hL : Letters E) : AFun prog E 184 [.int .i32 c] (.bool (isLetterU c)) :=
 AFun.ofBelow (vs := [.int .i32 c]) (r := .bool (isLetterU c)) func184 rfl (by decide) rfl fun w hw => Tryz.unicode_IsLetter_all c w h1 h2 (TabIs_below (g := 0) (by kernel_rfl) hL.1 hw) (RVar_below hL.2 hw)
theorem decode_ok (s : ByteArray) (p : Nat) : 1 ≤ (Utf8.decode s p).2 ∧ (Utf8.decode s p).1 ≤ 2097151 := by
 have h256 : ∀ k, (s.get! k).toNat < 256 := fun k => (s.get! k).toNat_lt
 unfold Utf8.decode
 dsimp only
 constructor
 ·repeat' split
  all_goals simp
 ·have h0 := h256 (p + 0)
  have h1 := h256 (p + 1)
  have h2 := h256 (p + 2)
  have h3 := h256 (p + 3)
  repeat' split
  all_goals (simp only [Utf8.runeError]; omega)
def okRune (c : Int) (n : Nat) : Bool := (isLetterU c && !decide (c = 65533)) || (!decide ((n : Int) = 0) && ((decide (48 ≤ c) && decide (c ≤ 57)) || decide (c = 46) || decide (c = 95)))
def nameFrom (s : ByteArray) (p n : Nat) : Bool :=
 if h : p < s.size then (if okRune (Utf8.decode s p).1 n then nameFrom s (p + (Utf8.decode s p).2) (n + 1) else false) else decide ((1 : Int) ≤ n) && decide ((n : Int) ≤ 16)
termination_by s.size - p
decreasing_by have := (decode_ok s p).1; omega
def nameB (s : ByteArray) : Bool := nameFrom s 0 0
theorem rows_spec : AFun prog E 11 [] (.fro 3 (kindT.map encK)) := by
 refine zp func11 Z (by decide) Z<|zSr<|z6 (zAr Z)<|z7<|zSr<|z6 (zo (cps := [(0, [_]), (1, [_]), (2, [_])]) (rs := [_, _, _]) pl31 Z Z Z)<|z6 (zo (cps := [(0, [_]), (1, [_]), (2, [_])]) (rs := [_, _, _]) pl31 Z Z Z)<|z6 (zo (cps := [(0, [_]), (1, [_]), (2, [_])]) (rs := [_, _, _]) pl31 Z Z Z)<|z6 (zo (cps := [(0, [_]), (1, [_]), (2, [_])]) (rs := [_, _, _]) pl31 Z Z Z)<|z6 (zo (cps := [(0, [_]), (1, [_]), (2, [_])]) (rs := [_, _, _]) pl31 Z Z Z)<|z6 (zo (cps := [(0, [_]), (1, [_]), (2, [_])]) (rs := [_, _, _]) pl31 Z Z Z)<|z6 (zo (cps := [(0, [_]), (1, [_]), (2, [_])]) (rs := [_, _, _]) pl31 Z Z Z)<|z6 (zo (cps := [(0, [_]), (1, [_]), (2, [_])]) (rs := [_, _, _]) pl31 Z Z Z)<|z6 (zo (cps := [(0, [_]), (1, [_]), (2, [_])]) (rs := [_, _, _]) pl31 Z Z Z)<|z6 (zo (cps := [(0, [_]), (1, [_]), (2, [_])]) (rs := [_, _, _]) pl31 Z Z Z)<|z6 (zo (cps := [(0, [_]), (1, [_]), (2, [_])]) (rs := [_, _, _]) pl31 Z Z Z)<|z6 (zo (cps := [(0, [_]), (1, [_]), (2, [_])]) (rs := [_, _, _]) pl31 Z Z Z)<|z6 (zo (cps := [(0, [_]), (1, [_]), (2, [_])]) (rs := [_, _, _]) pl31 Z Z Z)<|z6 (zo (cps := [(0, [_]), (1, [_]), (2, [_])]) (rs := [_, _, _]) pl31 Z Z Z)<|z6 (zo (cps := [(0, [_]), (1, [_]), (2, [_])]) (rs := [_, _, _]) pl31 Z Z Z)<|z6 (zo (cps := [(0, [_]), (1, [_]), (2, [_])]) (rs := [_, _, _]) pl31 Z Z Z)<|z6 (zo (cps := [(0, [_]), (1, [_]), (2, [_])]) (rs := [_, _, _]) pl31 Z Z Z)<|z6 (zo (cps := [(0, [_]), (1, [_]), (2, [_])]) (rs := [_, _, _]) pl31 Z Z Z)<|z6 (zo (cps := [(0, [_]), (1, [_]), (2, [_])]) (rs := [_, _, _]) pl31 Z Z Z)<|z6 (zo (cps := [(0, [_]), (1, [_]), (2, [_])]) (rs := [_, _, _]) pl31 Z Z Z)<|z6 (zo (cps := [(0, [_]), (1, [_]), (2, [_])]) (rs := [_, _, _]) pl31 Z Z Z)<|z6 (zo (cps := [(0, [_]), (1, [_]), (2, [_])]) (rs := [_, _, _]) pl31 Z Z Z)<|z6 (zo (cps := [(0, [_]), (1, [_]), (2, [_])]) (rs := [_, _, _]) pl31 Z Z Z)<|z6 (zo (cps := [(0, [_]), (1, [_]), (2, [_])]) (rs := [_, _, _]) pl31 Z Z Z)<|z6 (zo (cps := [(0, [_]), (1, [_]), (2, [_])]) (rs := [_, _, _]) pl31 Z Z Z)<|z6 (zo (cps := [(0, [_]), (1, [_]), (2, [_])]) (rs := [_, _, _]) pl31 Z Z Z)<|z6 (zo (cps := [(0, [_]), (1, [_]), (2, [_])]) (rs := [_, _, _]) pl31 Z Z Z)<|AOps.buildSliceFF (rows := [[_, _, _], [_, _, _], [_, _, _], [_, _, _], [_, _, _], [_, _, _], [_, _, _], [_, _, _], [_, _, _], [_, _, _], [_, _, _], [_, _, _], [_, _, _], [_, _, _], [_, _, _], [_, _, _], [_, _, _], [_, _, _], [_, _, _], [_, _, _], [_, _, _], [_, _, _], [_, _, _], [_, _, _], [_, _, _], [_, _, _], [_, _, _]]) ps32_27 Z Z Z Z Z<|z6 (zAf Z)<|z7<|zf<|zh (x := .fro _ _) Z ?_
 rfl
end Go.Proofs.YthlpjaleclchgaaGreatDoor
namespace Go.Proofs.YthlpjaleclchgaaGreatDoor
open Go.Proofs.Tryz
open Go.Proofs Go.Lib Go.Shelf Go.RowKit
set_option maxRecDepth 20000
variable {E : World}
def PhiP (f : PFunc) (p : PPhi) : Prop := hasV f p.dst = true ∧ p.args.length = p.from_.length ∧ 1 ≤ p.args.length ∧ p.args.all (hasV f) = true ∧ p.from_.all (hasB f) = true
def wordB (x : PInst) : Bool := decide ((kRow x.op).1 = ⟨#[99, 111, 110, 115, 116]⟩) || decide ((kRow x.op).1 = ⟨#[112, 105]⟩)
def bad2 (f : PFunc) (x : PInst) : Bool := !decide ((x.args.length : Int) = ((kRow x.op).2.1.size : Int)) || (!(decide ((kRow x.op).2.2 = ⟨#[]⟩) == decide (x.dst = -1)) || ((!decide (x.dst = -1) && !hasV f x.dst) || (!decide (x.num = 0) && !wordB x)))
def InstP (f : PFunc) (x : PInst) : Prop := 0 ≤ x.op ∧ x.op ≤ 26 ∧ bad2 f x = false ∧ x.args.all (hasV f) = true
def BlkP (f : PFunc) (b : PBlock) : Prop := (∀ p ∈ b.phis, PhiP f p) ∧ (∀ x ∈ b.insts, InstP f x) ∧ termOK f b.term = true
def sumTo (l : List PBlock) : Nat := (l.map fun b => b.phis.length + b.insts.length).sum
def bad1 (f : PFunc) : Bool := decide ((512 : Int) < f.vars.length) || (decide ((8 : Int) < f.params.length) || (decide ((f.vars.length : Int) < f.params.length) || (decide ((f.blocks.length : Int) < 1) || decide ((64 : Int) < f.blocks.length))))
def VarP (f : PFunc) (i : Nat) (v : PVar) : Prop := nameB v.name = true ∧ 0 ≤ v.ty ∧ v.ty ≤ 2 ∧ ∀ s ∈ (f.vars.take i).map (·.name), s ≠ v.name
def NamP (f : PFunc) (i : Nat) (b : PBlock) : Prop := nameB b.name = true ∧ ∀ s ∈ (f.blocks.take i).map (·.name), s ≠ b.name
def ShapedP (f : PFunc) : Prop := bad1 f = false ∧ (∀ i (h : i < f.params.length), f.params[i] = (i : Int)) ∧ (∀ i (h : i < f.vars.length), VarP f i f.vars[i]) ∧ (∀ i (h : i < f.blocks.length), NamP f i f.blocks[i]) ∧ sumTo f.blocks ≤ 1024 ∧ ∀ b ∈ f.blocks, BlkP f b
instance (f : PFunc) (p : PPhi) : Decidable (PhiP f p) := by unfold PhiP; infer_instance
instance (f : PFunc) (x : PInst) : Decidable (InstP f x) := by unfold InstP; infer_instance
instance (f : PFunc) (b : PBlock) : Decidable (BlkP f b) := by unfold BlkP; infer_instance
instance (f : PFunc) (i : Nat) (v : PVar) : Decidable (VarP f i v) := by unfold VarP; infer_instance
instance (f : PFunc) (i : Nat) (b : PBlock) : Decidable (NamP f i b) := by unfold NamP; infer_instance
instance (f : PFunc) : Decidable (ShapedP f) := by unfold ShapedP; infer_instance
end Go.Proofs.YthlpjaleclchgaaGreatDoor
namespace Go.Proofs.YthlpjaleclchgaaGreatDoor
open Go.Proofs.Tryz
open Go.Proofs Go.Lib Go.Shelf Go.RowKit
set_option maxRecDepth 20000
variable {E : World}
end Go.Proofs.YthlpjaleclchgaaGreatDoor
namespace Go.Proofs.YthlpjaleclchgaaGreatDoor
open Go.Proofs.Tryz
open Go.Proofs Go.Lib Go.Shelf Go.RowKit
set_option maxRecDepth 20000
variable {E : World}
end Go.Proofs.YthlpjaleclchgaaGreatDoor
namespace Go.Proofs.YthlpjaleclchgaaGreatDoor
open Go.Proofs.Tryz
open Go.Proofs Go.Lib Go.Shelf Go.RowKit
set_option maxRecDepth 20000
variable {E : World}
def wL {α : Type} (l : List α) : Prop := l.length ≤ 9223372036854775807
end Go.Proofs.YthlpjaleclchgaaGreatDoor
namespace Go.Proofs.YthlpjaleclchgaaGreatDoor
open Go.Proofs.Tryz
open Go.Proofs Go.Lib Go.Shelf Go.RowKit
set_option maxRecDepth 20000
variable {E : World}
end Go.Proofs.YthlpjaleclchgaaGreatDoor
namespace Go.Proofs.YthlpjaleclchgaaGreatDoor
open Go.Proofs.Tryz
open Go.Proofs Go.Lib Go.Shelf Go.RowKit
set_option maxRecDepth 20000
variable {E : World}
def only (f : PFunc) (x : PInst) : PFunc := { f with blocks := [⟨⟨#[111, 110, 108, 121]⟩, [], [x], ⟨0, 0, 0, 0⟩⟩] }
end Go.Proofs.YthlpjaleclchgaaGreatDoor
namespace Go.Proofs.YthlpjaleclchgaaGreatDoor
open Go.Proofs.Tryz
open Go.Proofs Go.Lib Go.Shelf Go.RowKit
set_option maxRecDepth 20000
variable {E : World}
def letterC (c : Int) : Bool := isLetterU c && !decide (c = 65533)
def digitC (c : Int) : Bool := decide (48 ≤ c) && decide (c ≤ 57)
def innerC (c : Int) : Bool := letterC c || (digitC c || (decide (c = 46) || decide (c = 95)))
def runesFrom (s : ByteArray) (p : Nat) : List Int := if h : p < s.size then ((Utf8.decode s p).1 : Int) :: runesFrom s (p + (Utf8.decode s p).2) else []
termination_by s.size - p
decreasing_by have := (decode_ok s p).1; omega
def nmGo (s : ByteArray) (p : Nat) : Bool := if h : p < s.size then (if (decide (p = 0) && !letterC ((Utf8.decode s p).1 : Int)) || !innerC ((Utf8.decode s p).1 : Int) then false else nmGo s (p + (Utf8.decode s p).2)) else (decide (¬ s = ⟨#[]⟩) && decide (((runesFrom s 0).length : Int) ≤ 16))
termination_by s.size - p
decreasing_by have := (decode_ok s p).1; omega
def scanName (s : ByteArray) : Bool := nmGo s 0
end Go.Proofs.YthlpjaleclchgaaGreatDoor
namespace Go.Proofs.YthlpjaleclchgaaGreatDoor
open Go.Proofs.Tryz
open Go.Proofs Go.Lib Go.Shelf Go.RowKit
set_option maxRecDepth 20000
variable {E : World}
def tyWord (t : Int) : ByteArray := if t = 0 then ⟨#[105, 110, 116]⟩ else if t = 1 then ⟨#[98, 111, 111, 108]⟩ else if t = 2 then ⟨#[97, 114, 114]⟩ else ⟨#[]⟩
end Go.Proofs.YthlpjaleclchgaaGreatDoor
namespace Go.Proofs.YthlpjaleclchgaaGreatDoor
open Go.Proofs.Tryz
open Go.Proofs Go.Lib Go.Shelf Go.RowKit
set_option maxRecDepth 20000
variable {E : World}
def inB (s : ByteArray) (l : List ByteArray) : Bool := l.any fun t => decide (t = s)
def UnlP (l : List ByteArray) : Prop := ∀ i (h : i < l.length), scanName l[i] = true ∧ inB l[i] (l.take i) = false
instance (l : List ByteArray) : Decidable (UnlP l) := by unfold UnlP; infer_instance
def VNames (f : PFunc) : List ByteArray := f.vars.map PVar.name
def BNames (f : PFunc) : List ByteArray := f.blocks.map PBlock.name
@[simp] theorem vn_len (f : PFunc) : (VNames f).length = f.vars.length := by unfold VNames; simp
@[simp] theorem bn_len (f : PFunc) : (BNames f).length = f.blocks.length := by unfold BNames; simp
def ParP (f : PFunc) : Prop := ∀ i (h : i < f.params.length), f.params[i] = (i : Int)
instance (f : PFunc) : Decidable (ParP f) := by unfold ParP; infer_instance
def TysP (f : PFunc) : Prop := ∀ i (h : i < f.vars.length), ¬ tyWord f.vars[i].ty = ⟨#[]⟩
instance (f : PFunc) : Decidable (TysP f) := by unfold TysP; infer_instance
def LensP (f : PFunc) : Prop := f.vars.length ≤ 512 ∧ f.params.length ≤ 8 ∧ f.params.length ≤ f.vars.length ∧ 1 ≤ f.blocks.length ∧ f.blocks.length ≤ 64
instance (f : PFunc) : Decidable (LensP f) := by unfold LensP; infer_instance
def NamesP (f : PFunc) : Prop := TysP f ∧ ParP f ∧ LensP f ∧ UnlP (VNames f) ∧ UnlP (BNames f)
instance (f : PFunc) : Decidable (NamesP f) := by unfold NamesP; infer_instance
end Go.Proofs.YthlpjaleclchgaaGreatDoor
namespace Go.Proofs.YthlpjaleclchgaaGreatDoor
open Go.Proofs.Tryz
open Go.Proofs Go.Lib Go.Shelf Go.RowKit
set_option maxRecDepth 20000
variable {E : World}
end Go.Proofs.YthlpjaleclchgaaGreatDoor
namespace Go.Proofs.YthlpjaleclchgaaGreatDoor
open Go.Proofs.Tryz
open Go.Proofs Go.Lib Go.Shelf Go.RowKit
variable {E : World}
set_option maxRecDepth 20000
end Go.Proofs.YthlpjaleclchgaaGreatDoor
namespace Go.Proofs.YthlpjaleclchgaaGreatDoor
open Go.Proofs.Tryz
end Go.Proofs.YthlpjaleclchgaaGreatDoor
namespace Go.Proofs.YthlpjaleclchgaaGreatDoor
open Go.Proofs.Tryz
open Go.Proofs Go.Lib Go.Shelf Go.RowKit
variable {E : World}
set_option maxRecDepth 20000
end Go.Proofs.YthlpjaleclchgaaGreatDoor
namespace Go.Proofs.YthlpjaleclchgaaGreatDoor
open Go.Proofs.Tryz
section
variable {S : Int → List Int} {at_ : Int → Int} {V : List Int} {N : Int → Int}
end
section
variable {S : Int → List Int} {at_ V : List Int} {preds : Int → List Int} {n : Nat}
end
section
variable {E : Int → List Int} {n : Nat}
end
end Go.Proofs.YthlpjaleclchgaaGreatDoor
namespace Go.Proofs.YthlpjaleclchgaaGreatDoor
open Go.Proofs.Tryz
open Go.Proofs
variable {E : World}
set_option maxRecDepth 20000
end Go.Proofs.YthlpjaleclchgaaGreatDoor
namespace Go.Proofs.YthlpjaleclchgaaGreatDoor
open Go.Proofs.Tryz
open Go.Proofs
variable {E : World}
set_option maxRecDepth 20000
end Go.Proofs.YthlpjaleclchgaaGreatDoor
namespace Go.Proofs.YthlpjaleclchgaaGreatDoor
open Go.Proofs.Tryz
section
variable {E : World} {P : Program} {env : AEnv} {O O' O'' : OL}
variable {d ty : Nat} {pos : String} {af : Array Edge} {x y z : Operand} {t u e T : TypeId}
end
end Go.Proofs.YthlpjaleclchgaaGreatDoor
namespace Go.Proofs.YthlpjaleclchgaaGreatDoor
open Go.Proofs.Tryz
open Go.Proofs
variable {E : World}
set_option maxRecDepth 20000
section
variable {S : Int → List Int} {n : Nat} (hG : Grph S n)
include hG
end
end Go.Proofs.YthlpjaleclchgaaGreatDoor
namespace Go.Proofs.YthlpjaleclchgaaGreatDoor
open Go.Proofs.Tryz
open Go.Proofs
variable {E : World}
set_option maxRecDepth 20000
section
variable {S : Int → List Int} {n : Nat} (hG : Grph S n)
include hG
end
end Go.Proofs.YthlpjaleclchgaaGreatDoor
namespace Go.Proofs.YthlpjaleclchgaaGreatDoor
open Go.Proofs.Tryz
open Go.Proofs Go.Lib Go.Shelf Go.RowKit
variable {E : World}
set_option maxRecDepth 20000
end Go.Proofs.YthlpjaleclchgaaGreatDoor
namespace Go.Proofs.YthlpjaleclchgaaGreatDoor
open Go.Proofs.Tryz
open Go.Proofs Go.Lib Go.Shelf Go.RowKit
variable {E : World}
set_option maxRecDepth 20000
end Go.Proofs.YthlpjaleclchgaaGreatDoor
namespace Go.Proofs.YthlpjaleclchgaaGreatDoor
open Go.Proofs.Tryz
open Go.Proofs Go.Lib Go.Shelf Go.RowKit
variable {E : World}
set_option maxRecDepth 20000
end Go.Proofs.YthlpjaleclchgaaGreatDoor
namespace Go.Proofs.YthlpjaleclchgaaGreatDoor
open Go.Proofs.Tryz
open Go.Proofs Go.Lib Go.Shelf Go.RowKit
variable {E : World}
set_option maxRecDepth 20000
end Go.Proofs.YthlpjaleclchgaaGreatDoor
namespace Go.Proofs.YthlpjaleclchgaaGreatDoor
open Go.Proofs.Tryz
def okX (a : Int) (out : List Bool) (shut x : Int) : Prop := x ≠ shut ∧ (x = a ∨ gb out x = true)
instance (a : Int) (out : List Bool) (shut x : Int) : Decidable (okX a out shut x) := by unfold okX; infer_instance
end Go.Proofs.YthlpjaleclchgaaGreatDoor
namespace Go.Proofs.YthlpjaleclchgaaGreatDoor
open Go.Proofs.Tryz
open Go.Proofs Go.Lib Go.Shelf Go.RowKit
variable {E : World}
set_option maxRecDepth 20000
end Go.Proofs.YthlpjaleclchgaaGreatDoor
namespace Go.Proofs.YthlpjaleclchgaaGreatDoor
open Go.Proofs.Tryz
noncomputable section
end
end Go.Proofs.YthlpjaleclchgaaGreatDoor
namespace Go.Proofs.YthlpjaleclchgaaGreatDoor
open Go.Proofs.Tryz
open Go.Proofs Go.Lib Go.Shelf Go.RowKit
variable {E : World}
set_option maxRecDepth 20000
end Go.Proofs.YthlpjaleclchgaaGreatDoor
namespace Go.Proofs.YthlpjaleclchgaaGreatDoor
open Go.Proofs.Tryz
open Go.Proofs Go.Lib Go.Shelf Go.RowKit
variable {E : World}
set_option maxRecDepth 20000
end Go.Proofs.YthlpjaleclchgaaGreatDoor
namespace Go.Proofs.YthlpjaleclchgaaGreatDoor
open Go.Proofs.Tryz
open Go.Proofs Go.Lib Go.Shelf Go.RowKit
variable {E : World}
set_option maxRecDepth 20000
end Go.Proofs.YthlpjaleclchgaaGreatDoor
namespace Go.Proofs.YthlpjaleclchgaaGreatDoor
open Go.Proofs.Tryz
open Go.Proofs Go.Lib Go.Shelf Go.RowKit
variable {E : World}
set_option maxRecDepth 20000
end Go.Proofs.YthlpjaleclchgaaGreatDoor
namespace Go.Proofs.YthlpjaleclchgaaGreatDoor
open Go.Proofs.Tryz
open Go.Proofs Go.Lib Go.Shelf Go.RowKit
variable {E : World}
set_option maxRecDepth 20000
end Go.Proofs.YthlpjaleclchgaaGreatDoor
namespace Go.Proofs.YthlpjaleclchgaaGreatDoor
open Go.Proofs.Tryz
open Go.Proofs Go.Lib Go.Shelf Go.RowKit
set_option maxRecDepth 20000
variable {E : World}
end Go.Proofs.YthlpjaleclchgaaGreatDoor
namespace Go.Proofs.YthlpjaleclchgaaGreatDoor
open Go.Proofs.Tryz
abbrev Rng := Int × Int
def m64 : Int := -9223372036854775808
def M64 : Int := 9223372036854775807
def is64 (x : Int) : Prop := -9223372036854775808 ≤ x ∧ x ≤ 9223372036854775807
instance (x : Int) : Decidable (is64 x) := by unfold is64; infer_instance
def ok64 (r : Rng) : Prop := is64 r.1 ∧ is64 r.2
def noR : Rng := (1, 0)
def rMade (lo hi : Int) : Rng := if hi < lo then noR else (lo, hi)
def imin (a b : Int) : Int := if b < a then b else a
def imax (a b : Int) : Int := if a < b then b else a
def rJoin (a b : Rng) : Rng := if a.2 < a.1 then rMade b.1 b.2 else if b.2 < b.1 then a else (imin a.1 b.1, imax a.2 b.2)
def op3 (k : Nat) (x y : Int) : Int := if k = 0 then x + y else if k = 1 then x - y else x * y
def fit3 (k : Nat) (x y : Int) : Prop := is64 (op3 k x y)
instance (k : Nat) (x y : Int) : Decidable (fit3 k x y) := by unfold fit3; infer_instance
def near3 (k : Nat) (x y : Int) : Int := if (if k = 2 then decide (x < 0) != decide (y < 0) else decide (x < 0)) then m64 else M64
def one3 (k : Nat) (x y : Int) : Int := if fit3 k x y then op3 k x y else near3 k x y
def rOf (n : Int) : Rng := (n, n)
def cornR (k : Nat) (a b : Rng) : Rng := rJoin (rJoin (rJoin (rJoin noR (rOf (one3 k a.1 b.1))) (rOf (one3 k a.1 b.2))) (rOf (one3 k a.2 b.1))) (rOf (one3 k a.2 b.2))
def cornF (k : Nat) (a b : Rng) : Prop := fit3 k a.1 b.1 ∧ fit3 k a.1 b.2 ∧ fit3 k a.2 b.1 ∧ fit3 k a.2 b.2
instance (k : Nat) (a b : Rng) : Decidable (cornF k a b) := by unfold cornF; infer_instance
def hullQ (a b : Int) : Rng := if b < a then (b, a) else (a, b)
def wideQ (a b : Rng) : Rng := (if b.1 < a.1 then b.1 else a.1, if a.2 < b.2 then b.2 else a.2)
def clipQ (k : Nat) (a b : Rng) : Rng := wideQ (hullQ (one3 k a.1 b.1) (one3 k a.1 b.2)) (hullQ (one3 k a.2 b.1) (one3 k a.2 b.2))
theorem join_first (p : Int) : rJoin noR (rOf p) = (p, p) := by
 unfold rJoin rOf noR rMade
 rw [if_pos (by decide)]
 rw [if_neg (by dsimp only; omega)]
theorem join_next {lo hi : Int} (h : lo ≤ hi) (q : Int) : rJoin (lo, hi) (rOf q) = (imin lo q, imax hi q) ∧ imin lo q ≤ imax hi q := by
 unfold rJoin rOf
 rw [if_neg (by dsimp only; omega), if_neg (by dsimp only; omega)]
 refine ⟨Z, ?_⟩
 unfold imin imax; split <;> split <;> omega
theorem join4 (p q r s : Int) : rJoin (rJoin (rJoin (rJoin noR (rOf p)) (rOf q)) (rOf r)) (rOf s) = wideQ (hullQ p q) (hullQ r s) := by
 obtain ⟨e2, h2⟩ := join_next (Int.le_refl p) q
 obtain ⟨e3, h3⟩ := join_next h2 r
 obtain ⟨e4, _⟩ := join_next h3 s
 rw [join_first, e2, e3, e4]
 unfold hullQ wideQ imin imax
 rw [Prod.ext_iff]
 by_cases c1 : q < p <;> by_cases c2 : s < r <;> simp only [c1, c2, if_true, if_false] <;> constructor <;> (repeat' split) <;> omega
theorem corn_eq (k : Nat) (a b : Rng) : cornR k a b = clipQ k a b := join4 _ _ _ _
theorem mul_fit {x y : Nat} (hy : 0 < y) (l : Nat) : x ≤ l / y ↔ x * y ≤ l := Nat.le_div_iff_mul_le hy
theorem natAbs_mul_le (a b : Int) (l : Nat) : a.natAbs ≤ l / b.natAbs ↔ (b = 0 ∧ a = 0) ∨ (b ≠ 0 ∧ (a * b).natAbs ≤ l) := by
 by_cases hb : b = 0
 ·subst hb; simp
 ·rw [mul_fit (by omega), Int.natAbs_mul]; simp [hb]
theorem sign_mul {a b : Int} (ha : a ≠ 0) (hb : b ≠ 0) : (0 < a * b ↔ ((a < 0) ↔ (b < 0))) ∧ a * b ≠ 0 := by
 refine ⟨?_, Int.mul_ne_zero ha hb⟩
 rcases Int.lt_or_gt_of_ne ha with h1 | h1 <;> rcases Int.lt_or_gt_of_ne hb with h2 | h2
 ·have := Int.mul_pos_of_neg_of_neg h1 h2; simp [this, h1, h2]
 ·have := Int.mul_neg_of_neg_of_pos h1 h2
  constructor
  ·intro h; omega
  ·intro h; have := h.1 h1; omega
 ·have := Int.mul_neg_of_pos_of_neg h1 h2
  constructor
  ·intro h; omega
  ·intro h; have := h.2 h2; omega
 ·have := Int.mul_pos h1 h2
  constructor
  ·intro _; constructor <;> intro h <;> omega
  ·intro _; exact this
theorem fitMul (a b : Int) (ha : a ≠ 0) (hb : b ≠ 0) : (a.natAbs ≤ (if decide (a < 0) = decide (b < 0) then 9223372036854775807 else 9223372036854775808) / b.natAbs) ↔ fit3 2 a b := by
 have hs := sign_mul ha hb
 rw [natAbs_mul_le]
 unfold fit3 is64
 have e : op3 2 a b = a * b := rfl
 rw [e]
 simp only [hb, false_and, false_or, ne_eq, not_false_eq_true, true_and]
 by_cases h : decide (a < 0) = decide (b < 0)
 ·rw [if_pos h]
  have : (a < 0) ↔ (b < 0) := by simpa using h
  have h1 := hs.1.2 this
  omega
 ·rw [if_neg h]
  have : ¬ ((a < 0) ↔ (b < 0)) := by simpa using h
  have h1 : ¬ 0 < a * b := fun h2 => this (hs.1.1 h2)
  omega
end Go.Proofs.YthlpjaleclchgaaGreatDoor
namespace Go.Proofs.YthlpjaleclchgaaGreatDoor
open Go.Proofs.Tryz
def rSub (r s : Rng) : Prop := r.2 < r.1 ∨ (s.1 ≤ r.1 ∧ r.2 ≤ s.2)
end Go.Proofs.YthlpjaleclchgaaGreatDoor
namespace Go.Proofs.YthlpjaleclchgaaGreatDoor
open Go.Proofs.Tryz
end Go.Proofs.YthlpjaleclchgaaGreatDoor
namespace Go.Proofs.YthlpjaleclchgaaGreatDoor
open Go.Proofs.Tryz
end Go.Proofs.YthlpjaleclchgaaGreatDoor
namespace Go.Proofs.YthlpjaleclchgaaGreatDoor
open Go.Proofs.Tryz
def ra (rs : List Rng) (i : Nat) : Rng := (rs[i]?).getD (0, 0)
end Go.Proofs.YthlpjaleclchgaaGreatDoor
namespace Go.Proofs.YthlpjaleclchgaaGreatDoor
open Go.Proofs.Tryz
def lv (l : List Rng) (v : Int) : Rng := (l[v.toNat]?).getD noR
def nrm (r : Rng) : Prop := r.2 < r.1 → r = noR
structure Rules (n : Nat) (rule : List Rng → Int → Rng) (vs : List Int) : Prop where
 mono : ∀ l l' v, l.length = n → l'.length = n → (∀ u : Int, 0 ≤ u → rSub (lv l u) (lv l' u)) → (∀ u : Int, 0 ≤ u → ok64 (lv l u)) → (∀ u : Int, 0 ≤ u → ok64 (lv l' u)) → v ∈ vs → rSub (rule l v) (rule l' v)
 ok : ∀ l v, l.length = n → (∀ u : Int, 0 ≤ u → ok64 (lv l u)) → v ∈ vs → ok64 (rule l v)
 rng : ∀ v ∈ vs, 0 ≤ v ∧ v < n
end Go.Proofs.YthlpjaleclchgaaGreatDoor
namespace Go.Proofs.YthlpjaleclchgaaGreatDoor
open Go.Proofs.Tryz
section
variable {n : Nat} {rule : List Rng → Int → Rng} {widn : Nat → Int → Option Rng} {vs : List Int} (hR : Rules n rule vs) (hw : ∀ i v t, widn i v = some t → ok64 t)
include hR hw
end
end Go.Proofs.YthlpjaleclchgaaGreatDoor
namespace Go.Proofs.YthlpjaleclchgaaGreatDoor
open Go.Proofs.Tryz
end Go.Proofs.YthlpjaleclchgaaGreatDoor
namespace Go.Proofs.YthlpjaleclchgaaGreatDoor
open Go.Proofs.Tryz
end Go.Proofs.YthlpjaleclchgaaGreatDoor
namespace Go.Proofs.YthlpjaleclchgaaGreatDoor
open Go.Proofs.Tryz
end Go.Proofs.YthlpjaleclchgaaGreatDoor
namespace Go.Proofs.YthlpjaleclchgaaGreatDoor
open Go.Proofs.Tryz
open Go.Proofs Go.Lib Go.Shelf Go.RowKit
variable {E : World}
set_option maxRecDepth 20000
theorem chkOp_spec (op : Int) : AFun prog E 37 [.int .i64 op] (.bool (decide (18 ≤ op) && decide (op ≤ 24))) := by
 refine zp func37 Z (by decide) Z<|zSr<|zVzAb Z<|z7<|zSr<|zVzMi Z<|z6 (Gv.geq Z Z)<|zVzMb Z<|y7 (s := 5) Z (fun c1=>?_) (fun c1=>?_)
 ·refine za Z Z c1<|zVzMi Z<|za Z Z c1<|z6 (Gv.leq Z Z)<|zVzPt Z c1 Z<|zVzAb Z<|z7<|zf<|zh (x := .bool _) Z ?_
  exact jb (by simp_all <;> omega)
 ·refine z8 Z Z c1<|z8 Z Z c1<|z6 (zPf Z c1 Z)<|zVzAb Z<|z7<|zf<|zh (x := .bool _) Z ?_
  exact jb (by simp_all <;> omega)
end Go.Proofs.YthlpjaleclchgaaGreatDoor
namespace Go.Proofs.YthlpjaleclchgaaGreatDoor
open Go.Proofs.Tryz
def hAdd (h : Rng × Bool) (n : Int) (fits : Bool) (e : Int) : Rng × Bool := (rJoin h.1 (rOf (if fits then n else e)), h.2 || !fits)
def h4 (h : Rng × Bool) (a b : Rng) (n : Int → Int → Int) (fit : Int → Int → Bool) (e : Int → Int → Int) : Rng × Bool :=
 hAdd (hAdd (hAdd (hAdd h (n a.1 b.1) (fit a.1 b.1) (e a.1 b.1)) (n a.1 b.2) (fit a.1 b.2) (e a.1 b.2)) (n a.2 b.1) (fit a.2 b.1) (e a.2 b.1)) (n a.2 b.2) (fit a.2 b.2) (e a.2 b.2)
instance (k : Nat) (x y : Int) : Decidable (fit3 k x y) := by unfold fit3 is64; infer_instance
instance (k : Nat) (a b : Rng) : Decidable (cornF k a b) := by unfold cornF; infer_instance
def cornP (k : Nat) (a b : Rng) : Rng × Bool := h4 (noR, false) a b (op3 k) (fun x y => decide (fit3 k x y)) (near3 k)
theorem cornP_eq (k : Nat) (a b : Rng) : cornP k a b = (clipQ k a b, !decide (cornF k a b)) := by
 rw [← corn_eq]
 unfold cornP h4 hAdd cornR cornF one3
 simp only [Bool.false_or, decide_eq_true_eq]
 refine Prod.ext Z ?_
 dsimp only
 by_cases h1 : fit3 k a.1 b.1 <;> by_cases h2 : fit3 k a.1 b.2 <;> by_cases h3 : fit3 k a.2 b.1 <;> by_cases h4 : fit3 k a.2 b.2 <;> simp [h1, h2, h3, h4]
end Go.Proofs.YthlpjaleclchgaaGreatDoor
namespace Go.Proofs.YthlpjaleclchgaaGreatDoor
open Go.Proofs.Tryz
open Go.Proofs
theorem wrap_fit {z : Int} (h : is64 z) : IntKind.i64.wrap z = z := by
 unfold is64 at h
 unfold IntKind.wrap; simp [IntKind.bits, IntKind.signed]; omega
def selR (a : Rng) (i : Nat) : Int := if i = 0 then a.1 else a.2
theorem sel_ok {a : Rng} (h : ok64 a) (i : Nat) : is64 (selR a i) := by unfold selR; split; exact h.1; exact h.2
theorem sel_get {a : Rng} {i : Nat} (h : i < 2) : ([AV.int .i64 a.1, AV.int .i64 a.2] : List AV)[i]? = some (.int .i64 (selR a i)) := by
 rcases (by omega : i = 0 ∨ i = 1) with rfl | rfl <;> rfl
def hSt (n : Int → Int → Int) (fit : Int → Int → Bool) (e : Int → Int → Int) (h0 : Rng × Bool) (a b : Rng) : Nat → Rng × Bool
 | 0 => h0
 | m + 1 => hAdd (hSt n fit e h0 a b m) (n (selR a (m / 2)) (selR b (m % 2))) (fit (selR a (m / 2)) (selR b (m % 2))) (e (selR a (m / 2)) (selR b (m % 2)))
theorem hSt_step {n : Int → Int → Int} {fit : Int → Int → Bool} {e : Int → Int → Int} {h0 : Rng × Bool} {a b : Rng} (i : Nat) {j : Nat} (hj : j < 2) :
  hSt n fit e h0 a b (2 * i + (j + 1)) = hAdd (hSt n fit e h0 a b (2 * i + j)) (n (selR a i) (selR b j)) (fit (selR a i) (selR b j)) (e (selR a i) (selR b j)) := by
 rw [← Nat.add_assoc, hSt, show (2 * i + j) / 2 = i by omega, show (2 * i + j) % 2 = j by omega]
theorem hAdd_fit {h : Rng × Bool} {n n' : Int} {fits : Bool} {e e' : Int} (h1 : fits = true → n = n') (h2 : e = e') : hAdd h n fits e = hAdd h n' fits e' := by
 cases fits
 ·unfold hAdd; simp [h2]
 ·rw [h1 rfl, h2]
theorem add_fit {x y : Int} : decide (fit3 0 x y) = true → IntKind.i64.wrap (x + y) = op3 0 x y := fun h => wrap_fit (of_decide_eq_true h)
theorem sub_fit {x y : Int} : decide (fit3 1 x y) = true → IntKind.i64.wrap (x - y) = op3 1 x y := fun h => wrap_fit (of_decide_eq_true h)
theorem mul_fit3 {x y : Int} : decide (fit3 2 x y) = true → IntKind.i64.wrap (x * y) = op3 2 x y := fun h => wrap_fit (of_decide_eq_true h)
theorem sumB {x y : Int} (hx : is64 x) (hy : is64 y) : (!(decide (x < 0) == decide (y < 0)) || (decide (IntKind.i64.wrap (x + y) < 0) == decide (x < 0))) = decide (fit3 0 x y) := by
 have hw : IntKind.i64.wrap (x + y) = (if x + y < -9223372036854775808 then x + y + 18446744073709551616 else if 9223372036854775807 < x + y then x + y - 18446744073709551616 else x + y) := by
  unfold is64 at hx hy
  unfold IntKind.wrap; simp [IntKind.bits, IntKind.signed]; (repeat' split) <;> omega
 rw [hw, Bool.eq_iff_iff, decide_eq_true_eq]
 show _ ↔ is64 (x + y)
 unfold is64 at *
 simp only [Bool.or_eq_true, Bool.not_eq_true', beq_eq_false_iff_ne, beq_iff_eq, decide_eq_decide, ne_eq]
 (repeat' split) <;> omega
theorem subB {x y : Int} (hx : is64 x) (hy : is64 y) : ((decide (x < 0) == decide (y < 0)) || (decide (IntKind.i64.wrap (x - y) < 0) == decide (x < 0))) = decide (fit3 1 x y) := by
 have hw : IntKind.i64.wrap (x - y) = (if x - y < -9223372036854775808 then x - y + 18446744073709551616 else if 9223372036854775807 < x - y then x - y - 18446744073709551616 else x - y) := by
  unfold is64 at hx hy
  unfold IntKind.wrap; simp [IntKind.bits, IntKind.signed]; (repeat' split) <;> omega
 rw [hw, Bool.eq_iff_iff, decide_eq_true_eq]
 show _ ↔ is64 (x - y)
 unfold is64 at *
 simp only [Bool.or_eq_true, beq_iff_eq, decide_eq_decide]
 (repeat' split) <;> omega
theorem abs_wrap {x : Int} (h : is64 x) : (if x < 0 then IntKind.u64.wrap (0 - IntKind.u64.wrap x) else IntKind.u64.wrap x) = ((x.natAbs : Nat) : Int) := by
 unfold is64 at h
 unfold IntKind.wrap; simp [IntKind.bits, IntKind.signed]; split <;> omega
theorem abs_lt {x : Int} (h : is64 x) : x.natAbs < 18446744073709551616 := by unfold is64 at h; omega
theorem mulB {x y : Int} : (decide (((x.natAbs * y.natAbs / 18446744073709551616 : Nat) : Int) = 0) && decide (((x.natAbs * y.natAbs % 18446744073709551616 : Nat) : Int) ≤ (if (!(decide (x < 0) == decide (y < 0))) = true then 9223372036854775808 else 9223372036854775807))) = decide (fit3 2 x y) := by
 have hm := Int.natAbs_mul x y
 rw [Bool.eq_iff_iff, decide_eq_true_eq (p := fit3 2 x y)]
 show _ ↔ is64 (x * y)
 unfold is64
 rw [← hm]
 have hs : (x < 0 ↔ y < 0) → 0 ≤ x * y := fun h => by
  by_cases hx : x < 0
  ·exact Int.le_of_lt (Int.mul_pos_of_neg_of_neg hx (h.1 hx))
  ·exact Int.mul_nonneg (by omega) (by have := mt h.2 hx; omega)
 have hd : ¬ (x < 0 ↔ y < 0) → x * y ≤ 0 := fun h => by
  by_cases hx : x < 0
  ·have hy : ¬ y < 0 := fun hy => h ⟨fun _ => hy, fun _ => hx⟩
   exact Int.mul_nonpos_of_nonpos_of_nonneg (by omega) (by omega)
  ·have hy : y < 0 := Classical.byContradiction fun hy => h ⟨fun h => absurd h hx, fun h => absurd h hy⟩
   exact Int.mul_nonpos_of_nonneg_of_nonpos (by omega) (by omega)
 generalize x * y = z at *
 simp only [yt, decide_eq_true_eq, Bool.not_eq_true', beq_eq_false_iff_ne, decide_eq_decide, ne_eq]
 by_cases c : (x < 0 ↔ y < 0)
 ·have := hs c
  rw [if_neg (by simp [c])]; omega
 ·have := hd c
  rw [if_pos c]; omega
theorem near_0 (x y : Int) : (if decide (x < 0) = true then m64 else M64) = near3 0 x y := rfl
theorem near_1 (x y : Int) : (if decide (x < 0) = true then m64 else M64) = near3 1 x y := rfl
theorem near_2 (x y : Int) : (if (!(decide (x < 0) == decide (y < 0))) = true then m64 else M64) = near3 2 x y := rfl
def encZ (r : Rng) : List AV := [.int .i64 r.1, .int .i64 r.2]
def encH (h : Rng × Bool) : List AV := [.int .i64 h.1.1, .int .i64 h.1.2, .bool h.2]
end Go.Proofs.YthlpjaleclchgaaGreatDoor
namespace Go.Proofs.YthlpjaleclchgaaGreatDoor
open Go.Proofs.Tryz
open Go.Proofs
theorem pl89 : Places prog 89 #[(0, 1), (1, 1)] [.int .i64 0, .int .i64 0] := ⟨_, _, jh, jo, fun w => by kernel_rfl, rfl⟩
variable {E : World}
set_option maxRecDepth 20000
theorem iNone : AFun prog E 111 [] (.agg (encZ noR)) := by
 refine zp func111 Z (by decide) Z<|zSr<|ze (cs := [.int .i64 0, .int .i64 0]) jo Z Z<|fun i0 => z7<|zSr<|z6 (zo (cps := [(0, [_]), (1, [_])]) (rs := [_, _]) pl89 Z Z Z)<|zb ja Z Z Z Z Z Z .head Z<|z7<|zf<|afin.c1 Z ⟨_, .head⟩ jl ja Z ?_
 rfl
theorem iOf (n : Int) : AFun prog E 173 [.int .i64 n] (.agg (encZ (rOf n))) := by
 refine zp func173 Z (by decide) Z<|zSr<|ze (cs := [.int .i64 0, .int .i64 0]) jo Z Z<|fun i2 => z7<|zSr<|zVzMi Z<|zVzMi Z<|z6 (zo (cps := [(0, [_]), (1, [_])]) (rs := [_, _]) pl89 Z Z Z)<|zb ja Z Z Z Z Z Z .head Z<|z7<|zf<|afin.c1 Z ⟨_, .head⟩ jl ja Z ?_
 rfl
theorem iMade (lo hi : Int) : AFun prog E 109 [.int .i64 lo, .int .i64 hi] (.agg (encZ (rMade lo hi))) := by
 refine zp func109 Z (by decide) Z<|zSr<|ze (cs := [.int .i64 0, .int .i64 0]) jo Z Z<|fun i4 => z7<|zg<|zSr<|zVzMi Z<|zVzMi Z<|z6 (yl Z Z)<|z7<|yh Z (fun c=>?_) (fun c=>?_)
 ·refine zSr<|zc (iNone) Z<|zb ja Z Z Z Z Z Z .head Z<|z7<|zf<|afin.c1 Z ⟨_, .head⟩ jl ja Z ?_
  rw [rMade, if_pos c]; try rfl
 ·refine zz<|zSr<|zVzMi Z<|zVzMi Z<|z6 (zo (cps := [(0, [_]), (1, [_])]) (rs := [_, _]) pl89 Z Z Z)<|zb ja Z Z Z Z Z Z .head Z<|z7<|zf<|afin.c1 Z ⟨_, .head⟩ jl ja Z ?_
  rw [rMade, if_neg c]; try rfl
theorem iEmpty (r : Rng) : AFun prog E 68 [.agg (encZ r)] (.bool (decide (r.2 < r.1))) := by
 refine zp func68 Z (by decide) Z<|zSr<|yi (cs := _) Z Z Z<|zVzAb Z<|z7<|zSr<|zVzFF jh Z j6 Z Z<|zVzLi j8 Z<|zVzFF jh Z j6 Z Z<|zVzLi j8 Z<|z6 (yl Z Z)<|zVzAb Z<|z7<|zf<|zh (x := .bool _) Z ?_
 rfl
theorem iJoin (a b : Rng) : AFun prog E 175 [.agg (encZ a), .agg (encZ b)] (.agg (encZ (rJoin a b))) := by
 refine zp func175 Z (by decide) Z<|zSr<|yi (cs := _) Z Z Z<|yi (cs := _) Z Z Z<|ze (cs := [.int .i64 0, .int .i64 0]) jo Z Z<|fun i4 => z7<|zg<|yf<|zSr<|z6 (zx jl ja Z Z)<|zc (iEmpty _) Z<|zVzAb Z<|z7<|yh Z (fun c1=>?_) (fun c1=>?_)
 ·refine zSr<|zVzFF jh Z j6 Z Z<|zVzLi j8 Z<|zVzFF jh Z j6 Z Z<|zVzLi j8 Z<|zc (iMade _ _) Z<|zb ja Z Z Z Z Z Z .head Z<|z7<|zf<|afin.c1 Z ⟨_, .head⟩ jl ja Z ?_
  rw [rJoin, if_pos c1]; try rfl
 ·refine zSr<|z6 (zx jl ja Z Z)<|zc (iEmpty _) Z<|zVzAb Z<|z7<|yh Z (fun c2=>?_) (fun c2=>?_)
  ·refine zSr<|z6 (zx jl ja Z Z)<|zb ja Z Z Z Z Z Z .head Z<|z7<|zf<|afin.c1 Z ⟨_, .head⟩ jl ja Z ?_
   rw [rJoin, if_neg c1, if_pos c2]; try rfl
  ·refine zz<|zSr<|zVzFF jh Z j6 Z Z<|zVzLi j8 Z<|zVzFF jh Z j6 Z Z<|zVzLi j8 Z<|z6 (Gv.minI Z Z)<|zVzFF jh Z j6 Z Z<|zVzLi j8 Z<|zVzFF jh Z j6 Z Z<|zVzLi j8 Z<|z6 (Gv.maxI Z Z)<|z6 (zo (cps := [(0, [_]), (1, [_])]) (rs := [_, _]) pl89 Z Z Z)<|zb ja Z Z Z Z Z Z .head Z<|z7<|zf<|afin.c1 Z ⟨_, .head⟩ jl ja Z ?_
   rw [rJoin, if_neg c1, if_neg c2]; try rfl
theorem iNear (b : Bool) : AFun prog E 123 [.bool b] (.int .i64 (if b = true then m64 else M64)) := by
 refine zp func123 Z (by decide) Z<|zSr<|z6 (zAi Z)<|z7<|zg<|zSr<|zVzMb Z<|z7<|AWP.cond Z (fun c7=>?_) (fun c7=>?_)
 ·refine zSr<|z6 (zAi Z)<|z7<|zf<|zh (x := .int _ _) Z ?_
  simp_all [m64, M64]
 ·refine zz<|zSr<|z6 (zAi Z)<|z7<|zf<|zh (x := .int _ _) Z ?_
  simp_all [m64, M64]
theorem iSums (op : Int) : AFun prog E 75 [.int .i64 op] (.bool (decide (op = 2) || (decide (op = 3) || decide (op = 4)))) := by
 refine zp func75 Z (by decide) Z<|zSr<|zVzAb Z<|z7<|zSr<|zVzMi Z<|z6 (zq Z Z)<|zVzMb Z<|y7 (s := 5) Z (fun c8=>?_) (fun c8=>?_)
 ·refine z8 Z Z c8<|z8 Z Z c8<|zVzPt Z c8 Z<|zVzMb Z<|z8 Z Z Z<|z8 Z Z Z<|zVzPt Z Z Z<|zVzAb Z<|z7<|zf<|zh (x := .bool _) Z ?_
  exact jb (by simp_all)
 ·refine za Z Z c8<|zVzMi Z<|za Z Z c8<|z6 (zq Z Z)<|z6 (zPf Z c8 Z)<|zVzMb Z<|y7 (s := 9) Z (fun c9=>?_) (fun c9=>?_)
  ·refine z8 Z Z c9<|z8 Z Z c9<|zVzPt Z c9 Z<|zVzAb Z<|z7<|zf<|zh (x := .bool _) Z ?_
   exact jb (by simp_all)
  ·refine za Z Z c9<|zVzMi Z<|za Z Z c9<|z6 (zq Z Z)<|z6 (zPf Z c9 Z)<|zVzAb Z<|z7<|zf<|zh (x := .bool _) Z ?_
   exact jb (by simp_all)
theorem aAdd {x y : Int} (hx : is64 x) (hy : is64 y) : AFun prog E 121 [.int .i64 x, .int .i64 y] (.tup [.int .i64 (IntKind.i64.wrap (x + y)), .bool (decide (fit3 0 x y))]) := by
 rw [← sumB hx hy]
 refine zp func121 Z (by decide) Z<|zSr<|z6 (zAi Z)<|zVzAb Z<|z7<|zSr<|zVzMi Z<|zVzMi Z<|z6 (Gv.addW Z Z)<|z6 (zAi Z)<|z7<|zSr<|zVzMi Z<|zVzMi Z<|z6 (y9 Z Z)<|zVzMi Z<|z6 (y9 Z Z)<|z6 (Gv.neqB jj Z Z)<|zVzMb Z<|y7 (s := 16) Z (fun c10=>?_) (fun c10=>?_)
 ·refine z8 Z Z c10<|z8 Z Z c10<|z8 Z Z c10<|z8 Z Z c10<|z8 Z Z c10<|zVzPt Z c10 Z<|z6 (zAi Z)<|zVzAb Z<|z7<|zf<|afin.t2 (x := .int _ _) (y := .bool _) Z Z ?_
  simp_all
 ·refine za Z Z c10<|zVzMi Z<|za Z Z c10<|z6 (y9 Z Z)<|za Z Z c10<|zVzMi Z<|za Z Z c10<|z6 (y9 Z Z)<|za Z Z c10<|z6 (Gv.eqlB jj Z Z)<|z6 (zPf Z c10 Z)<|z6 (zAi Z)<|zVzAb Z<|z7<|zf<|afin.t2 (x := .int _ _) (y := .bool _) Z Z ?_
  simp_all
theorem aSub {x y : Int} (hx : is64 x) (hy : is64 y) : AFun prog E 124 [.int .i64 x, .int .i64 y] (.tup [.int .i64 (IntKind.i64.wrap (x - y)), .bool (decide (fit3 1 x y))]) := by
 rw [← subB hx hy]
 refine zp func124 Z (by decide) Z<|zSr<|z6 (zAi Z)<|zVzAb Z<|z7<|zSr<|zVzMi Z<|zVzMi Z<|z6 (Gv.subW Z Z)<|z6 (zAi Z)<|z7<|zSr<|zVzMi Z<|zVzMi Z<|z6 (y9 Z Z)<|zVzMi Z<|z6 (y9 Z Z)<|z6 (Gv.eqlB jj Z Z)<|zVzMb Z<|y7 (s := 16) Z (fun c11=>?_) (fun c11=>?_)
 ·refine z8 Z Z c11<|z8 Z Z c11<|z8 Z Z c11<|z8 Z Z c11<|z8 Z Z c11<|zVzPt Z c11 Z<|z6 (zAi Z)<|zVzAb Z<|z7<|zf<|afin.t2 (x := .int _ _) (y := .bool _) Z Z ?_
  simp_all
 ·refine za Z Z c11<|zVzMi Z<|za Z Z c11<|z6 (y9 Z Z)<|za Z Z c11<|zVzMi Z<|za Z Z c11<|z6 (y9 Z Z)<|za Z Z c11<|z6 (Gv.eqlB jj Z Z)<|z6 (zPf Z c11 Z)<|z6 (zAi Z)<|zVzAb Z<|z7<|zf<|afin.t2 (x := .int _ _) (y := .bool _) Z Z ?_
  simp_all
theorem aAbs {x : Int} (hx : is64 x) : AFun prog E 177 [.int .i64 x] (.int .u64 (x.natAbs : Int)) := by
 rw [← abs_wrap hx]
 refine zp func177 Z (by decide) Z<|zSr<|z6 (zAi Z)<|z7<|zg<|zSr<|zVzMi Z<|z6 (y9 Z Z)<|z7<|yh Z (fun c=>?_) (fun c=>?_)
 ·refine zSr<|zVzMi Z<|z6 (Gv.conv jt jq Z)<|z6 (Gv.neg Z)<|z6 (zAi Z)<|z7<|zf<|zh (x := .int _ _) Z ?_
  rw [if_pos c]; try rfl
 ·refine zz<|zSr<|zVzMi Z<|z6 (Gv.conv jt jq Z)<|z6 (zAi Z)<|z7<|zf<|zh (x := .int _ _) Z ?_
  rw [if_neg c]; try rfl
end Go.Proofs.YthlpjaleclchgaaGreatDoor
namespace Go.Proofs.YthlpjaleclchgaaGreatDoor
open Go.Proofs.Tryz
open Go.Proofs
theorem pl152 : Places prog 152 #[(0, 2), (2, 1)] [.int .i64 0, .int .i64 0, .bool false] := ⟨_, _, underlying152, zeroValue152, fun w => by kernel_rfl, rfl⟩
theorem pl201 : PlacesA prog 201 1 [.int .i64 0, .int .i64 0] := ⟨_, _, _, underlying201, zeroValue201, j6, rfl⟩
variable {E : World}
set_option maxRecDepth 20000
theorem aMul {x y : Int} (hx : is64 x) (hy : is64 y) : AFun prog E 125 [.int .i64 x, .int .i64 y] (.tup [.int .i64 (IntKind.i64.wrap (x * y)), .bool (decide (fit3 2 x y))]) := by
 rw [← mulB]
 refine zp func125 Z (by decide) Z<|zSr<|z6 (zAi Z)<|zVzAb Z<|z7<|zSr<|zVzMi Z<|zc (aAbs hx) Z<|zVzMi Z<|zc (aAbs hy) Z<|zc (mul64_spec _ _ (abs_lt hx) (abs_lt hy)) Z<|z6 (zMu Z)<|z6 (zXi Z Z)<|z6 (zXi Z Z)<|z6 (zAi Z)<|z6 (zAi Z)<|z7<|zSr<|z6 (zAi Z)<|z7<|zg<|zSr<|zVzMi Z<|z6 (y9 Z Z)<|zVzMi Z<|z6 (y9 Z Z)<|z6 (Gv.neqB jj Z Z)<|z7<|AWP.cutS (γ := Int) [0, 1, 6, 7] (fun m => [(8, .int .u64 m)]) (fun m => []) (fun m => m = if (!(decide (x < 0) == decide (y < 0))) = true then 9223372036854775808 else 9223372036854775807) ?_ (fun _ _ h => h) ?_
 ·refine AWP.cond Z (fun c1=>?_) (fun c1=>?_)
  ·refine zRg<|zVzMi Z<|z6 (Gv.addW Z Z)<|z6 (zAi Z)<|z7 ?_
   exact ⟨_, ⟨rfl, rfl, rfl, rfl, trivial⟩, zR1, zLe, by simp_all <;> first | rfl | decide⟩
  ·refine zz ?_
   exact ⟨_, ⟨rfl, rfl, rfl, rfl, trivial⟩, zR1, zLe, by simp_all <;> first | rfl | decide⟩
 ·rintro m hm
  subst hm
  refine zSr<|zVzMi Z<|zVzMi Z<|z6 (Gv.mulW Z Z)<|zVzMi Z<|z6 (zq Z Z)<|zVzMb Z<|y7 (s := 29) Z (fun c2=>?_) (fun c2=>?_)
  ·refine za Z Z c2<|zVzMi Z<|za Z Z c2<|zVzMi Z<|za Z Z c2<|z6 (Gv.leq Z Z)<|zVzPt Z c2 Z<|z6 (zAi Z)<|zVzAb Z<|z7<|zf<|afin.t2 (x := .int _ _) (y := .bool _) Z Z ?_
   simp_all
  ·refine z8 Z Z c2<|z8 Z Z c2<|z8 Z Z c2<|z6 (zPf Z c2 Z)<|z6 (zAi Z)<|zVzAb Z<|z7<|zf<|afin.t2 (x := .int _ _) (y := .bool _) Z Z ?_
   simp_all
theorem hull_add (i : Nat) (h : Rng × Bool) (n : Int) (fits : Bool) (e : Int) : ACall prog E 122 [.po i 0, .int .i64 n, .bool fits, .int .i64 e] [(i, .cells 152 (encH h))] fun r O => r = .tup [] ∧ O = [(i, .cells 152 (encH (hAdd h n fits e)))] := by
 refine zp func122 Z (by decide) Z<|zg<|zSr<|zVzMb Z<|z6 (ym Z)<|z7<|AWP.cutS (γ := Int × Bool) [0] (fun g => [(1, .int .i64 g.1)]) (fun g => [(i, .cells 152 (encH (h.1, g.2)))]) (fun g => g.1 = (if fits then n else e) ∧ g.2 = (h.2 || !fits)) ?_ (fun _ _ h => h) ?_
 ·refine AWP.cond Z (fun c=>?_) (fun c=>?_)
  ·refine zRg<|z6 (zMp Z)<|zVzMi Z<|z6 (Gv.nilCheckO Z)<|z6 (Gv.fieldO underlying152 Z sizeOf4 (by decide) Z Z)<|AOps.storeC (l := [_]) (new := [_, _, _]) sizeOf4 Z Z Z Z Z Z .head Z Z<|z6 (zAi Z)<|z7 ?_
   exact ⟨(e, true), zR1, zR1, zLe, by simp_all⟩
  ·refine zz ?_
   exact ⟨(n, h.2), zR1, zR1, zLe, by simp_all⟩
 ·rintro ⟨m, w⟩ ⟨h1, h2⟩
  dsimp only at h1 h2
  subst h1 h2
  refine zy (fun j => Nat.beq j 10) (by kernel_rfl) Z (yd (.r (.rest _)))<|zTk 0 Z (zMp Z)<|zTk 1 Z (zMp Z)<|zTk 2 Z (Gv.nilCheckO Z)<|zTk 3 Z (Gv.fieldO underlying152 Z ja (by decide) Z Z)<|zTk 4 Z (Gv.loadAC (l := [_, _]) jl ja Z ⟨_, .head⟩ Z Z)<|zTk 5 Z (zMi Z)<|zOn 6 Z<|zc (iOf _) Z<|z7<|zOn 7 Z<|zc (iJoin _ _) Z<|z7<|zt (i := 8) Z (by kernel_rfl) (by kernel_rfl) (by kernel_rfl) (by kernel_rfl) (Gv.nilCheckO Z)<|zTk 9 Z (Gv.fieldO underlying152 Z ja (by decide) Z Z)<|zi<|zd (i := 10) Z (by kernel_rfl) (by kernel_rfl)<|AOps.storeC (l := [_, _]) (new := [_, _, _]) ja Z Z Z Z Z Z .head Z Z<|z7<|zk (by kernel_rfl)<|afin.t0 ?_
  exact ⟨rfl, rfl⟩
set_option maxHeartbeats 4000000 in
theorem iCorners (op : Int) (k : Nat) (hk : k ≤ 2) (hop : op = 2 + (k : Int)) {a b : Rng} (ha : ok64 a) (hb : ok64 b) : AFun prog E 76 [.int .i64 op, .agg (encZ a), .agg (encZ b)] (.agg (encH (cornP k a b))) := by
 obtain ⟨st, hst⟩ : ∃ st, hSt (op3 k) (fun x y => decide (fit3 k x y)) (near3 k) (noR, false) a b = st := ⟨_, rfl⟩
 have hstep : ∀ (i j : Nat), j < 2 → st (2 * i + (j + 1)) = hAdd (st (2 * i + j)) (op3 k (selR a i) (selR b j)) (decide (fit3 k (selR a i) (selR b j))) (near3 k (selR a i) (selR b j)) := fun i j hj => by rw [← hst]; exact hSt_step i hj
 have h4 : st 4 = cornP k a b := by rw [← hst]; rfl
 have h0 : st 0 = (noR, false) := by rw [← hst]; rfl
 refine zp func76 Z (by decide) Z<|zSr<|yi (cs := _) Z Z Z<|yi (cs := _) Z Z Z<|ze (cs := [.int .i64 0, .int .i64 0, .bool false]) zeroValue152 Z Z<|fun i6 => z7<|zSr<|zc (iNone) Z<|z6 (zo (cps := [(0, [_, _])]) (rs := [_, _, .bool false]) pl152 Z Z Z)<|ze (cs := [.int .i64 0, .int .i64 0, .bool false]) zeroValue152 Z Z<|fun i7 => zb sizeOf152 Z Z Z Z Z Z .head Z<|z7<|zg<|zSr<|zVzFF jh Z j6 Z Z<|zVzLi j8 Z<|zVzFF jh Z j6 Z Z<|zVzLi j8 Z<|z6 (Gv.buildA (cps := [(0, [_]), (1, [_])]) (rs := [_, _]) pl201 Z Z Z)<|zVzMi Z<|z7<|yf<|AWP.loop (γ := Nat) [0, 5, 6, 7, 24] (fun i => [(25, .int .i64 i)]) (fun i => [(i7, .cells 152 (encH (st (2 * i)))), (i6, .cells 152 [.int .i64 0, .int .i64 0, .bool false])]) (fun i => i ≤ 2) (fun i => 2 - i) 0 zR1 ⟨_, (.refl _), by rw [h0]; rfl⟩ ((by omega)) ?_
 rintro i hi
 refine zSr<|z6 (y9 Z Z)<|z7<|zg<|yh Z (fun ci=>?_) (fun ci=>?_)
 ·have hi2 : i < 2 := by omega
  have hx := sel_ok ha i
  refine zz<|zg<|yf<|zSr<|z6 (Gv.index1 (n := 2) (j := i) (cs := [.int .i64 a.1, .int .i64 a.2]) (v := .int .i64 (selR a i)) underlying201 j8 j6 Z Z Z hi2 (sel_get hi2))<|z6 (zAi Z)<|z7<|zSr<|zVzFF jh Z j6 Z Z<|zVzLi j8 Z<|zVzFF jh Z j6 Z Z<|zVzLi j8 Z<|z6 (Gv.buildA (cps := [(0, [_]), (1, [_])]) (rs := [_, _]) pl201 Z Z Z)<|zVzMi Z<|z7<|yf<|AWP.loop (γ := Nat) [0, 5, 6, 7, 9, 24, 25, 32] (fun j => [(33, .int .i64 j)]) (fun j => [(i7, .cells 152 (encH (st (2 * i + j)))), (i6, .cells 152 [.int .i64 0, .int .i64 0, .bool false])]) (fun j => j ≤ 2) (fun j => 2 - j) 0 zR1 zLe ((by omega)) ?_
  rintro j hj
  refine zSr<|z6 (y9 Z Z)<|z7<|zg<|yh Z (fun cj=>?_) (fun cj=>?_)
  ·have hj2 : j < 2 := by omega
   have hy := sel_ok hb j
   have hs := hstep i j hj2
   refine zz<|zg<|yf<|zSr<|z6 (Gv.index1 (n := 2) (j := j) (cs := [.int .i64 b.1, .int .i64 b.2]) (v := .int .i64 (selR b j)) underlying201 j8 j6 Z Z Z hj2 (sel_get hj2))<|z6 (zAi Z)<|z7<|zSr<|zVzMi Z<|z7<|yf<|zSr<|z6 (zq Z Z)<|zVzAb Z<|z7<|yh Z (fun c2=>?_) (fun c2=>?_)
   ·have hk0 : k = 0 := by omega
    subst hk0
    refine zSr<|zVzMi Z<|zVzMi Z<|zc (aAdd hx hy) Z<|z6 (zMu Z)<|z6 (zXi Z Z)<|z6 (zXb Z Z)<|z6 (zAi Z)<|zVzAb Z<|z7<|zRg<|zVzMi Z<|zVzMb Z<|zVzMi Z<|z6 (y9 Z Z)<|zc (iNear _) Z<|AOps.callA Z (yd (.l (.r (.rest _)))) (hull_add i7 _ _ _ _) ?_
    rintro r50 O50 ⟨rfl, rfl⟩
    refine z7<|zRg<|z6 (zAd Z Z)<|zVzMi Z<|z7 ?_
    exact ⟨j + 1, ⟨rfl, rfl, rfl, rfl, rfl, rfl, rfl, rfl, trivial⟩, zR1, ⟨_, (.refl _), by rw [hs, hAdd_fit add_fit (near_0 _ (selR b j))]; rfl⟩, hj2, by omega⟩
   ·refine zSr<|z6 (zq Z Z)<|zVzAb Z<|z7<|yh Z (fun c3=>?_) (fun c3=>?_)
    ·have hk0 : k = 1 := by omega
     subst hk0
     refine zSr<|zVzMi Z<|zVzMi Z<|zc (aSub hx hy) Z<|z6 (zMu Z)<|z6 (zXi Z Z)<|z6 (zXb Z Z)<|z6 (zAi Z)<|zVzAb Z<|z7<|zRg<|zVzMi Z<|zVzMb Z<|zVzMi Z<|z6 (y9 Z Z)<|zc (iNear _) Z<|AOps.callA Z (yd (.l (.r (.rest _)))) (hull_add i7 _ _ _ _) ?_
     rintro r64 O64 ⟨rfl, rfl⟩
     refine z7<|zRg<|z6 (zAd Z Z)<|zVzMi Z<|z7 ?_
     exact ⟨j + 1, ⟨rfl, rfl, rfl, rfl, rfl, rfl, rfl, rfl, trivial⟩, zR1, ⟨_, (.refl _), by rw [hs, hAdd_fit sub_fit (near_1 _ (selR b j))]; rfl⟩, hj2, by omega⟩
    ·refine zSr<|z6 (zq Z Z)<|zVzAb Z<|z7<|yh Z (fun c4=>?_) (fun c4=>?_)
     ·have hk0 : k = 2 := by omega
      subst hk0
      refine zSr<|zVzMi Z<|zVzMi Z<|zc (aMul hx hy) Z<|z6 (zMu Z)<|z6 (zXi Z Z)<|z6 (zXb Z Z)<|z6 (zAi Z)<|zVzAb Z<|z7<|zRg<|zVzMi Z<|zVzMb Z<|zVzMi Z<|z6 (y9 Z Z)<|zVzMi Z<|z6 (y9 Z Z)<|z6 (Gv.neqB jj Z Z)<|zc (iNear _) Z<|AOps.callA Z (yd (.l (.r (.rest _)))) (hull_add i7 _ _ _ _) ?_
      rintro r81 O81 ⟨rfl, rfl⟩
      refine z7<|zRg<|z6 (zAd Z Z)<|zVzMi Z<|z7 ?_
      exact ⟨j + 1, ⟨rfl, rfl, rfl, rfl, rfl, rfl, rfl, rfl, trivial⟩, zR1, ⟨_, (.refl _), by rw [hs, hAdd_fit mul_fit3 (near_2 _ (selR b j))]; rfl⟩, hj2, by omega⟩
     ·exfalso; omega
  ·have hj2 : j = 2 := by omega
   subst hj2
   refine AWP.exit<|zRg<|z6 (zAd Z Z)<|zVzMi Z<|z7 ?_
   exact ⟨i + 1, ⟨rfl, rfl, rfl, rfl, rfl, trivial⟩, zR1, ⟨_, (.refl _), by rw [show 2 * (i + 1) = 2 * i + 2 by omega]⟩, hi2, by omega⟩
 ·have hi2 : i = 2 := by omega
  subst hi2
  refine AWP.exit<|zSr<|z6 (Gv.loadWC isAgg152 sizeOf152 Z ⟨_, .head⟩ Z)<|zb sizeOf152 Z Z Z Z Z Z .t1 Z<|z7<|zf<|afin.c1 Z ⟨_, .t1⟩ isAgg152 sizeOf152 Z ?_
  rw [← h4]; try rfl
end Go.Proofs.YthlpjaleclchgaaGreatDoor
namespace Go.Proofs.YthlpjaleclchgaaGreatDoor
open Go.Proofs.Tryz
open Go.Proofs
variable {E : World}
set_option maxRecDepth 20000
end Go.Proofs.YthlpjaleclchgaaGreatDoor
namespace Go.Proofs.YthlpjaleclchgaaGreatDoor
open Go.Proofs.Tryz
open Go.Proofs
theorem wrap_u (z : Int) : IntKind.u64.wrap z = z % 18446744073709551616 := by
 unfold IntKind.wrap; simp [IntKind.bits, IntKind.signed]
theorem fitU {x y : Int} (hx : is64 x) (hx0 : x ≠ 0) (hy0 : y ≠ 0) : decide ((x.natAbs : Int) ≤ IntKind.u64.wrap ((if (decide (x < 0) == decide (y < 0)) = true then 9223372036854775807 else 9223372036854775808 : Int).tdiv (y.natAbs : Int))) = decide (fit3 2 x y) := by
 rw [decide_eq_decide, ← fitMul x y hx0 hy0]
 obtain ⟨l, hl⟩ : ∃ l : Nat, (if decide (x < 0) = decide (y < 0) then 9223372036854775807 else 9223372036854775808) = l := ⟨_, rfl⟩
 have hl2 : (if (decide (x < 0) == decide (y < 0)) = true then 9223372036854775807 else 9223372036854775808 : Int) = (l : Int) := by
  rw [← hl]
  by_cases h : decide (x < 0) = decide (y < 0)
  ·rw [if_pos h, if_pos (by simpa using h)]; rfl
  ·rw [if_neg h, if_neg (by simpa using h)]; rfl
 have hll : l ≤ 9223372036854775808 := by rw [← hl]; split <;> omega
 rw [hl, hl2, show ((l : Int)).tdiv (y.natAbs : Int) = ((l / y.natAbs : Nat) : Int) from rfl, wrap_u]
 have h3 := Nat.div_le_self l y.natAbs
 generalize l / y.natAbs = q at h3 ⊢
 omega
end Go.Proofs.YthlpjaleclchgaaGreatDoor
namespace Go.Proofs.YthlpjaleclchgaaGreatDoor
open Go.Proofs.Tryz
open Go.Proofs
variable {E : World}
set_option maxRecDepth 20000
theorem rFits2 {k : Nat} (hk : k ≤ 2) {x y : Int} (hx : is64 x) (hy : is64 y) : AFun prog E 77 [.int .i64 k, .int .i64 x, .int .i64 y] (.bool (decide (fit3 k x y))) := by
 have hx1 := hx; have hy1 := hy
 unfold is64 at hx1 hy1
 refine zp func77 Z (by decide) Z<|zSr<|zVzAb Z<|z7<|zg<|zSr<|zVzMi Z<|z7<|yf<|zSr<|z6 (zq Z Z)<|zVzAb Z<|z7<|yh Z (fun c0=>?_) (fun c0=>?_)
 ·have hk0 : k = 0 := by omega
  subst hk0
  refine zSr<|zVzMi Z<|z6 (yl Z Z)<|zVzMb Z<|y7 (s := 16) Z (fun c1=>?_) (fun c1=>?_)
  ·refine za Z Z c1<|zVzMi Z<|za Z Z c1<|zVzMi Z<|za Z Z c1<|z6 (Gv.sub Z Z (by unfold I64; simp at *; omega))<|za Z Z c1<|z6 (yl Z Z)<|zVzPt Z c1 Z<|z6 (ym Z)<|zVzMb Z<|y7 (s := 23) Z (fun c2=>?_) (fun c2=>?_)
   ·refine za Z Z c2<|zVzMi Z<|za Z Z c2<|z6 (y9 Z Z)<|za Z Z c2<|zVzMb Z<|y7 (s := 26) Z (fun c3=>?_) (fun c3=>?_)
    ·refine za Z Z c3<|zVzMi Z<|za Z Z c3<|zVzMi Z<|za Z Z c3<|z6 (Gv.sub Z Z (by unfold I64; simp at *; omega))<|za Z Z c3<|z6 (y9 Z Z)<|za Z Z c2<|zVzPt Z c3 Z<|za Z Z c2<|z6 (ym Z)<|zVzPt Z c2 Z<|zVzAb Z<|z7<|zf<|zh (x := .bool _) Z ?_
     exact jb (by rw [Bool.eq_iff_iff]; unfold fit3 op3 is64; simp at * <;> omega)
    ·refine z8 Z Z c3<|z8 Z Z c3<|z8 Z Z c3<|z8 Z Z c3<|za Z Z c2<|z6 (zPf Z c3 Z)<|za Z Z c2<|z6 (ym Z)<|zVzPt Z c2 Z<|zVzAb Z<|z7<|zf<|zh (x := .bool _) Z ?_
     exact jb (by rw [Bool.eq_iff_iff]; unfold fit3 op3 is64; simp at * <;> omega)
   ·refine z8 Z Z c2<|z8 Z Z c2<|z8 Z Z c2<|yg Z Z<|yg Z Z<|yg Z Z<|yg Z Z<|z8 Z Z c2<|z8 Z Z c2<|z6 (zPf Z c2 Z)<|zVzAb Z<|z7<|zf<|zh (x := .bool _) Z ?_
    exact jb (by rw [Bool.eq_iff_iff]; unfold fit3 op3 is64; simp at * <;> omega)
  ·refine z8 Z Z c1<|z8 Z Z c1<|z8 Z Z c1<|z8 Z Z c1<|z6 (zPf Z c1 Z)<|z6 (ym Z)<|zVzMb Z<|za Z Z Z<|zVzMi Z<|za Z Z Z<|z6 (y9 Z Z)<|za Z Z Z<|zVzMb Z<|y7 (s := 26) Z (fun c4=>?_) (fun c4=>?_)
   ·refine za Z Z c4<|zVzMi Z<|za Z Z c4<|zVzMi Z<|za Z Z c4<|z6 (Gv.sub Z Z (by unfold I64; simp at *; omega))<|za Z Z c4<|z6 (y9 Z Z)<|za Z Z Z<|zVzPt Z c4 Z<|za Z Z Z<|z6 (ym Z)<|zVzPt Z Z Z<|zVzAb Z<|z7<|zf<|zh (x := .bool _) Z ?_
    exact jb (by rw [Bool.eq_iff_iff]; unfold fit3 op3 is64; simp at * <;> omega)
   ·refine z8 Z Z c4<|z8 Z Z c4<|z8 Z Z c4<|z8 Z Z c4<|za Z Z Z<|z6 (zPf Z c4 Z)<|za Z Z Z<|z6 (ym Z)<|zVzPt Z Z Z<|zVzAb Z<|z7<|zf<|zh (x := .bool _) Z ?_
    exact jb (by rw [Bool.eq_iff_iff]; unfold fit3 op3 is64; simp at * <;> omega)
 ·refine zSr<|z6 (zq Z Z)<|zVzAb Z<|z7<|yh Z (fun c1=>?_) (fun c1=>?_)
  ·have hk1 : k = 1 := by omega
   subst hk1
   refine zSr<|zVzMi Z<|z6 (y9 Z Z)<|zVzMb Z<|y7 (s := 38) Z (fun c5=>?_) (fun c5=>?_)
   ·refine za Z Z c5<|zVzMi Z<|za Z Z c5<|zVzMi Z<|za Z Z c5<|z6 (Gv.add Z Z (by unfold I64; simp at *; omega))<|za Z Z c5<|z6 (yl Z Z)<|zVzPt Z c5 Z<|z6 (ym Z)<|zVzMb Z<|y7 (s := 45) Z (fun c6=>?_) (fun c6=>?_)
    ·refine za Z Z c6<|zVzMi Z<|za Z Z c6<|z6 (yl Z Z)<|za Z Z c6<|zVzMb Z<|y7 (s := 48) Z (fun c7=>?_) (fun c7=>?_)
     ·refine za Z Z c7<|zVzMi Z<|za Z Z c7<|zVzMi Z<|za Z Z c7<|z6 (Gv.add Z Z (by unfold I64; simp at *; omega))<|za Z Z c7<|z6 (y9 Z Z)<|za Z Z c6<|zVzPt Z c7 Z<|za Z Z c6<|z6 (ym Z)<|zVzPt Z c6 Z<|zVzAb Z<|z7<|zf<|zh (x := .bool _) Z ?_
      exact jb (by rw [Bool.eq_iff_iff]; unfold fit3 op3 is64; simp at * <;> omega)
     ·refine z8 Z Z c7<|z8 Z Z c7<|z8 Z Z c7<|z8 Z Z c7<|za Z Z c6<|z6 (zPf Z c7 Z)<|za Z Z c6<|z6 (ym Z)<|zVzPt Z c6 Z<|zVzAb Z<|z7<|zf<|zh (x := .bool _) Z ?_
      exact jb (by rw [Bool.eq_iff_iff]; unfold fit3 op3 is64; simp at * <;> omega)
    ·refine z8 Z Z c6<|z8 Z Z c6<|z8 Z Z c6<|yg Z Z<|yg Z Z<|yg Z Z<|yg Z Z<|z8 Z Z c6<|z8 Z Z c6<|z6 (zPf Z c6 Z)<|zVzAb Z<|z7<|zf<|zh (x := .bool _) Z ?_
     exact jb (by rw [Bool.eq_iff_iff]; unfold fit3 op3 is64; simp at * <;> omega)
   ·refine z8 Z Z c5<|z8 Z Z c5<|z8 Z Z c5<|z8 Z Z c5<|z6 (zPf Z c5 Z)<|z6 (ym Z)<|zVzMb Z<|za Z Z Z<|zVzMi Z<|za Z Z Z<|z6 (yl Z Z)<|za Z Z Z<|zVzMb Z<|y7 (s := 48) Z (fun c8=>?_) (fun c8=>?_)
    ·refine za Z Z c8<|zVzMi Z<|za Z Z c8<|zVzMi Z<|za Z Z c8<|z6 (Gv.add Z Z (by unfold I64; simp at *; omega))<|za Z Z c8<|z6 (y9 Z Z)<|za Z Z Z<|zVzPt Z c8 Z<|za Z Z Z<|z6 (ym Z)<|zVzPt Z Z Z<|zVzAb Z<|z7<|zf<|zh (x := .bool _) Z ?_
     exact jb (by rw [Bool.eq_iff_iff]; unfold fit3 op3 is64; simp at * <;> omega)
    ·refine z8 Z Z c8<|z8 Z Z c8<|z8 Z Z c8<|z8 Z Z c8<|za Z Z Z<|z6 (zPf Z c8 Z)<|za Z Z Z<|z6 (ym Z)<|zVzPt Z Z Z<|zVzAb Z<|z7<|zf<|zh (x := .bool _) Z ?_
     exact jb (by rw [Bool.eq_iff_iff]; unfold fit3 op3 is64; simp at * <;> omega)
  ·have hk2 : k = 2 := by omega
   subst hk2
   refine zz<|zg<|zg<|AWP.cutS (γ := Bool) [1, 2] (fun u => [(61, .bool u)]) (fun u => []) (fun u => u = decide (x = 0 ∨ y = 0)) ?_ (fun _ _ h => h) ?_
   ·refine zRg<|zVzMi Z<|z6 (zq Z Z)<|zVzMb Z<|y7 (s := 58) Z (fun c9=>?_) (fun c9=>?_)
    ·refine z8 Z Z c9<|z8 Z Z c9<|zVzPt Z c9 Z<|z7 ?_
     exact ⟨_, zR2, zR1, zLe, by simp_all⟩
    ·refine za Z Z c9<|zVzMi Z<|za Z Z c9<|z6 (zq Z Z)<|z6 (zPf Z c9 Z)<|z7 ?_
     exact ⟨_, zR2, zR1, zLe, by simp_all⟩
   ·rintro u hu
    subst hu
    refine yh Z (fun cz=>?_) (fun cz=>?_)
    ·refine zSr<|zVzAb Z<|z7<|zf<|zh (x := .bool _) Z ?_
     exact jb (by rw [decide_eq_true]; unfold fit3; rw [show op3 2 x y = x * y from rfl]; rcases cz with h | h <;> rw [h] <;> simp [is64])
    ·have hx0 : x ≠ 0 := fun e => cz (.inl e)
     have hy0 : y ≠ 0 := fun e => cz (.inr e)
     refine zz<|zSr<|zVzMi Z<|z6 (y9 Z Z)<|zVzMi Z<|z6 (y9 Z Z)<|z6 (Gv.eqlB jj Z Z)<|zVzAb Z<|z7<|zSr<|zVzMi Z<|z6 (Gv.conv jt jq Z)<|zVzMi Z<|z6 (Gv.conv jt jq Z)<|z6 (zAi Z)<|z6 (zAi Z)<|z7<|zg<|zSr<|zVzMi Z<|z6 (y9 Z Z)<|z7<|AWP.cutS (γ := Int) [2, 7, 9] (fun u => [(8, .int .u64 u)]) (fun u => []) (fun u => u = (x.natAbs : Int)) ?_ (fun _ _ h => h) ?_
     ·refine yh Z (fun c=>?_) (fun c=>?_)
      ·refine zRg<|zVzMi Z<|z6 (Gv.neg Z)<|z6 (zAi Z)<|z7 ?_
       exact ⟨_, zR3, zR1, zLe, by have := abs_wrap hx; rwa [if_pos c] at this⟩
      ·refine zz ?_
       exact ⟨_, zR3, zR1, zLe, by have := abs_wrap hx; rwa [if_neg c] at this⟩
     ·rintro u hu
      subst hu
      refine zg<|zSr<|zVzMi Z<|z6 (y9 Z Z)<|z7<|AWP.cutS (γ := Int) [7, 8] (fun u => [(9, .int .u64 u)]) (fun u => []) (fun u => u = (y.natAbs : Int)) ?_ (fun _ _ h => h) ?_
      ·refine yh Z (fun c=>?_) (fun c=>?_)
       ·refine zRg<|zVzMi Z<|z6 (Gv.neg Z)<|z6 (zAi Z)<|z7 ?_
        exact ⟨_, zR2, zR1, zLe, by have := abs_wrap hy; rwa [if_pos c] at this⟩
       ·refine zz ?_
        exact ⟨_, zR2, zR1, zLe, by have := abs_wrap hy; rwa [if_neg c] at this⟩
      ·rintro u hu
       subst hu
       refine zSr<|z6 (zAi Z)<|z7<|zg<|zSr<|zVzMb Z<|z6 (ym Z)<|z7<|AWP.cutS (γ := Int) [8, 9] (fun u => [(10, .int .u64 u)]) (fun u => []) (fun u => u = (if (decide (x < 0) == decide (y < 0)) = true then 9223372036854775807 else 9223372036854775808)) ?_ (fun _ _ h => h) ?_
       ·refine AWP.cond Z (fun c=>?_) (fun c=>?_)
        ·refine zRg<|z6 (zAi Z)<|z7 ?_
         exact ⟨_, zR2, zR1, zLe, by rw [if_neg (by simpa using c)]⟩
        ·refine zz ?_
         exact ⟨_, zR2, zR1, zLe, by rw [if_pos (by simpa using c)]⟩
       ·rintro u hu
        subst hu
        refine zSr<|zVzMi Z<|zVzMi Z<|zVzMi Z<|z6 (Gv.quo Z Z (by omega))<|z6 (Gv.leq Z Z)<|zVzAb Z<|z7<|zf<|zh (x := .bool _) Z ?_
        exact jb (fitU hx hx0 hy0)
theorem rFits {k : Nat} (hk : k ≤ 2) {a b : Rng} (ha : ok64 a) (hb : ok64 b) : AFun prog E 45 [.int .i64 k, .agg (encZ a), .agg (encZ b)] (.bool (decide (cornF k a b))) := by
 refine zp func45 Z (by decide) Z<|zSr<|yi (cs := _) Z Z Z<|yi (cs := _) Z Z Z<|zVzAb Z<|z7<|zSr<|zVzMi Z<|zVzFF jk Z j6 Z Z<|zVzLi j8 Z<|zVzFF jk Z j6 Z Z<|zVzLi j8 Z<|zc (rFits2 hk ha.1 hb.1) Z<|zVzMb Z<|y7 (s := 13) Z (fun c10=>?_) (fun c10=>?_)
 ·refine za Z Z c10<|zVzMi Z<|za Z Z c10<|zVzFF jk Z j6 Z Z<|za Z Z c10<|zVzLi j8 Z<|za Z Z c10<|zVzFF jk Z j6 Z Z<|za Z Z c10<|zVzLi j8 Z<|za Z Z c10<|zc (rFits2 hk ha.1 hb.2) Z<|zVzPt Z c10 Z<|zVzMb Z<|y7 (s := 21) Z (fun c11=>?_) (fun c11=>?_)
  ·refine za Z Z c11<|zVzMi Z<|za Z Z c11<|zVzFF jk Z j6 Z Z<|za Z Z c11<|zVzLi j8 Z<|za Z Z c11<|zVzFF jk Z j6 Z Z<|za Z Z c11<|zVzLi j8 Z<|za Z Z c11<|zc (rFits2 hk ha.2 hb.1) Z<|zVzPt Z c11 Z<|zVzMb Z<|y7 (s := 29) Z (fun c12=>?_) (fun c12=>?_)
   ·refine za Z Z c12<|zVzMi Z<|za Z Z c12<|zVzFF jk Z j6 Z Z<|za Z Z c12<|zVzLi j8 Z<|za Z Z c12<|zVzFF jk Z j6 Z Z<|za Z Z c12<|zVzLi j8 Z<|za Z Z c12<|zc (rFits2 hk ha.2 hb.2) Z<|zVzPt Z c12 Z<|zVzAb Z<|z7<|zf<|zh (x := .bool _) Z ?_
    exact jb (by unfold cornF; simp_all)
   ·refine z8 Z Z c12<|z8 Z Z c12<|z8 Z Z c12<|z8 Z Z c12<|z8 Z Z c12<|z8 Z Z c12<|z6 (zPf Z c12 Z)<|zVzAb Z<|z7<|zf<|zh (x := .bool _) Z ?_
    exact jb (by unfold cornF; simp_all)
  ·refine z8 Z Z c11<|z8 Z Z c11<|z8 Z Z c11<|z8 Z Z c11<|z8 Z Z c11<|z8 Z Z c11<|z6 (zPf Z c11 Z)<|zVzMb Z<|z8 Z Z Z<|z8 Z Z Z<|z8 Z Z Z<|z8 Z Z Z<|z8 Z Z Z<|z8 Z Z Z<|z6 (zPf Z Z Z)<|zVzAb Z<|z7<|zf<|zh (x := .bool _) Z ?_
   exact jb (by unfold cornF; simp_all)
 ·refine z8 Z Z c10<|z8 Z Z c10<|z8 Z Z c10<|z8 Z Z c10<|z8 Z Z c10<|z8 Z Z c10<|z6 (zPf Z c10 Z)<|zVzMb Z<|z8 Z Z Z<|z8 Z Z Z<|z8 Z Z Z<|z8 Z Z Z<|z8 Z Z Z<|z8 Z Z Z<|z6 (zPf Z Z Z)<|zVzMb Z<|z8 Z Z Z<|z8 Z Z Z<|z8 Z Z Z<|z8 Z Z Z<|z8 Z Z Z<|z8 Z Z Z<|z6 (zPf Z Z Z)<|zVzAb Z<|z7<|zf<|zh (x := .bool _) Z ?_
  exact jb (by unfold cornF; simp_all)
end Go.Proofs.YthlpjaleclchgaaGreatDoor
namespace Go.Proofs.YthlpjaleclchgaaGreatDoor
open Go.Proofs.Tryz
end Go.Proofs.YthlpjaleclchgaaGreatDoor
namespace Go.Proofs.YthlpjaleclchgaaGreatDoor
open Go.Proofs.Tryz
def isChk (q : Int) : Prop := 21 ≤ q ∧ q ≤ 23
instance (q : Int) : Decidable (isChk q) := by unfold isChk; infer_instance
end Go.Proofs.YthlpjaleclchgaaGreatDoor
namespace Go.Proofs.YthlpjaleclchgaaGreatDoor
open Go.Proofs.Tryz
open Go.Proofs
def x1 (x : PInst) : Int := (x.args[1]?).getD 0
end Go.Proofs.YthlpjaleclchgaaGreatDoor
namespace Go.Proofs.YthlpjaleclchgaaGreatDoor
open Go.Proofs.Tryz
variable {α : Type}
def mg (k : Int) : List (Int × List α) → List α
 | [] => []
 | (k', r) :: es => if k = k' then r else mg k es
def ms (k : Int) (r : List α) : List (Int × List α) → List (Int × List α)
 | [] => [(k, r)]
 | (k', r') :: es => if k = k' then (k, r) :: es else (k', r') :: ms k r es
def kv (k : Int) : Value := .int .i64 k
section
variable {E : World} {P : Program} {ops : Array Oper} {K : AEnv → OL → Prop} {env : AEnv} {O O' O'' : OL} {rest : List Oper} {n : Nat}
variable {d ty : Nat} {pos : String} {af : Array Edge} {x y z : Operand} {t u e T kt : TypeId} {b : Nat}
end
end Go.Proofs.YthlpjaleclchgaaGreatDoor
namespace Go.Proofs.YthlpjaleclchgaaGreatDoor
open Go.Proofs.Tryz
def ag (k : Int) : List (Int × AV) → Option AV
 | [] => none
 | (k', x) :: es => if k = k' then some x else ag k es
def am (k : Int) (x : AV) : List (Int × AV) → List (Int × AV)
 | [] => [(k, x)]
 | (k', x') :: es => if k = k' then (k, x) :: es else (k', x') :: am k x es
section
variable {E : World} {P : Program} {ops : Array Oper} {K : AEnv → OL → Prop} {env : AEnv} {O O' O'' : OL} {rest : List Oper} {n : Nat}
variable {d ty : Nat} {pos : String} {af : Array Edge} {x y z : Operand} {t u e T kt : TypeId} {b : Nat}
end
end Go.Proofs.YthlpjaleclchgaaGreatDoor
namespace Go.Proofs.YthlpjaleclchgaaGreatDoor
open Go.Proofs.Tryz
abbrev Bnd := Bool × Int
def encBd (b : Bnd) : List AV := [.bool b.1, .int .i64 b.2]
def encMk (b : Bnd) : List AV := [.int .i64 (if b.1 = true then 1 else 2), .int .i64 (if b.1 = true then b.2 else 0)]
end Go.Proofs.YthlpjaleclchgaaGreatDoor
namespace Go.Proofs.YthlpjaleclchgaaGreatDoor
open Go.Proofs.Tryz
open Go.Proofs
section
variable {E : World} {P : Program} {ops : Array Oper} {K : AEnv → OL → Prop} {env : AEnv} {O O' O'' : OL} {rest : List Oper} {n : Nat}
variable {d ty : Nat} {pos : String} {af : Array Edge} {x y z : Operand} {t u e T : TypeId}
end
end Go.Proofs.YthlpjaleclchgaaGreatDoor
namespace Go.Proofs.YthlpjaleclchgaaGreatDoor
open Go.Proofs.Tryz
open Go.Proofs
end Go.Proofs.YthlpjaleclchgaaGreatDoor
namespace Go.Proofs.YthlpjaleclchgaaGreatDoor
open Go.Proofs.Tryz
open Go.Proofs
end Go.Proofs.YthlpjaleclchgaaGreatDoor
namespace Go.Proofs.YthlpjaleclchgaaGreatDoor
open Go.Proofs.Tryz
open Go.Proofs
section
variable {I J : G} {L : List (Nat × Obj)} {O O' : OL} {i k m : Nat} {T : TypeId}
end
end Go.Proofs.YthlpjaleclchgaaGreatDoor
namespace Go.Proofs.YthlpjaleclchgaaGreatDoor
open Go.Proofs.Tryz
open Go.Proofs
theorem Frames.up {env e : AEnv} {d : Nat} {v : AV} : ∀ {f : List Nat}, f.all (fun t => !Nat.beq t d) = true → Frames env e f → Frames env (aupd e d v) f
 | [], _, _ => trivial
 | t :: f, h, ⟨h1, h2⟩ => by
  rw [List.all_cons, yt] at h
  refine ⟨?_, Frames.up h.2 h2⟩
  unfold aupd
  have h3 : Nat.beq t d = false := by simpa using h.1
  rw [h3]; exact h1
end Go.Proofs.YthlpjaleclchgaaGreatDoor
namespace Go.Proofs.YthlpjaleclchgaaGreatDoor
open Go.Proofs.Tryz
open Go.Proofs
set_option linter.defProp false
def zw := @Frames.up
end Go.Proofs.YthlpjaleclchgaaGreatDoor
