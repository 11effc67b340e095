/- The document's own functions: names, the table, digits, what is the same, what has a text. No conditions but bounds. -/
import Derived.Shelf.Small.Bits
import Derived.Shelf.Strconv.Itoa0
import Derived.Shelf.Sort.Plain
import Derived.Shelf.Unicode.Props
import Derived.Shelf.LaysM
import Derived.Shelf.Unicode.PropsLaid
import Derived.Shelf.Bits.Mul64
import Derived.Shelf.Unicode.Is16White
import Derived.Shelf.Unicode.IsSpaceAny
import Derived.Shelf.Unicode.Is16WhiteD
import Derived.Shelf.Unicode.Is16Any
import Derived.Shelf.Unicode.Is32Any
import Derived.Shelf.Unicode.ExclAny
import Derived.Shelf.Unicode.PredsAny
import Derived.Shelf.Unicode.PredsPay
import Derived.Shelf.Slices.Reverse
import Derived.Shelf.Slices.In.SortNone
import Derived.Test.YtjnpcfpecilejaaGreatDoorChecked
import Derived.Test.YtjnpcfpecilejaaGreatDoorHf
import Derived.Test.YtjnpcfpecilejaaGreatDoorHc
import Derived.Test.YtjnpcfpecilejaaGreatDoorHe
import Derived.Lib.ItoaLen
import Derived.Lib.Join
import Derived.Test.YtjnpcfpecilejaaGreatDoorHd
set_option linter.unusedVariables false
set_option linter.unusedSimpArgs false
set_option linter.unusedSectionVars false
namespace Go.Proofs
open Go.Shelf
def Tryz.lays189_ren : Go.Shelf.Ren := ⟨fun | 189 => 193 | 125 => 229 | 257 => 228 | 128 => 250 | 129 => 251 | 294 => 241 | 295 => 242 | 296 => 243 | 297 => 244 | 298 => 245 | 299 => 246 | 216 => 247 | 300 => 248 | 301 => 249 | 328 => 257 | 329 => 258 | 330 => 259 | 331 => 260 | 332 => 261 | 215 => 262 | 343 => 266 | n => n, fun | 28 => 23 | 3 => 3 | 46 => 240 | 0 => 0 | 51 => 269 | 53 => 232 | 4 => 4 | 183 => 288 | 182 => 287 | 131 => 29 | 5 => 5 | 9 => 9 | 218 => 301 | 222 => 305 | 228 => 318 | 229 => 57 | n => n, fun | n => n⟩
theorem Tryz.lays189 : Go.Proofs.Lays.n189 prog Tryz.lays189_ren := {
 mixed := by kernel_rfl
 f125 := func229.trans (congrArg some (by kernel_rfl))
 f128 := func250.trans (congrArg some (by kernel_rfl))
 f129 := func251.trans (congrArg some (by kernel_rfl))
 f189 := func193.trans (congrArg some (by kernel_rfl))
 f215 := func262.trans (congrArg some (by kernel_rfl))
 f216 := func247.trans (congrArg some (by kernel_rfl))
 f257 := func228.trans (congrArg some (by kernel_rfl))
 f294 := func241.trans (congrArg some (by kernel_rfl))
 f295 := func242.trans (congrArg some (by kernel_rfl))
 f296 := func243.trans (congrArg some (by kernel_rfl))
 f297 := func244.trans (congrArg some (by kernel_rfl))
 f298 := func245.trans (congrArg some (by kernel_rfl))
 f299 := func246.trans (congrArg some (by kernel_rfl))
 f300 := func248.trans (congrArg some (by kernel_rfl))
 f301 := func249.trans (congrArg some (by kernel_rfl))
 f328 := func257.trans (congrArg some (by kernel_rfl))
 f329 := func258.trans (congrArg some (by kernel_rfl))
 f330 := func259.trans (congrArg some (by kernel_rfl))
 f331 := func260.trans (congrArg some (by kernel_rfl))
 f332 := func261.trans (congrArg some (by kernel_rfl))
 f343 := func266.trans (congrArg some (by kernel_rfl))
 t0 := underlying0
 a0 := isAgg0
 z0 := sizeOf0
 v0 := zeroValue0
 t3 := underlying3
 a3 := isAgg3
 z3 := sizeOf3
 v3 := zeroValue3
 t4 := underlying4
 a4 := isAgg4
 z4 := sizeOf4
 v4 := zeroValue4
 t5 := underlying5
 a5 := isAgg5
 z5 := sizeOf5
 v5 := zeroValue5
 t9 := underlying9
 a9 := isAgg9
 z9 := sizeOf9
 v9 := zeroValue9
 t28 := underlying23
 a28 := isAgg23
 z28 := sizeOf23
 v28 := zeroValue23
 t46 := underlying240
 a46 := isAgg240
 z46 := sizeOf240
 v46 := zeroValue240
 t51 := underlying269
 a51 := isAgg269
 z51 := sizeOf269
 v51 := zeroValue269
 t53 := underlying232
 a53 := isAgg232
 z53 := sizeOf232
 v53 := zeroValue232
 t131 := underlying29
 a131 := isAgg29
 z131 := sizeOf29
 v131 := zeroValue29
 t182 := underlying287
 a182 := isAgg287
 z182 := sizeOf287
 v182 := zeroValue287
 t183 := underlying288
 a183 := isAgg288
 z183 := sizeOf288
 v183 := zeroValue288
 t218 := underlying301
 a218 := isAgg301
 z218 := sizeOf301
 v218 := zeroValue301
 t222 := underlying305
 a222 := isAgg305
 z222 := sizeOf305
 v222 := zeroValue305
 t228 := underlying318
 a228 := isAgg318
 z228 := sizeOf318
 v228 := zeroValue318
 t229 := underlying57
 a229 := isAgg57
 z229 := sizeOf57
 v229 := zeroValue57 }
open Go.Sort Go.RowKit in
theorem Tryz.slices_Sort_int (blk off cap : Nat) (zs : List Int) (w : World) (hH : Holds (Value.int .i64) w blk off zs.toArray) (hblk : blk < w.heap.size) (hsz : zs.length < 4611686018427387904) :
  Calls prog 193 #[.slice (some ⟨blk, off, none⟩) zs.length cap] w fun e w' =>
   e = .returned (.tuple #[]) ∧ ∃ n os, w' = grow (putRow (Value.int .i64) (Sort.ahead w n) blk off (zs.mergeSort fun x y => decide (x ≤ y)).toArray) os := Any.slices_Sort_int Tryz.lays189 blk off cap zs w hH hblk hsz
def Tryz.lays200_ren : Go.Shelf.Ren := ⟨fun | 200 => 233 | 261 => 255 | 311 => 264 | 312 => 265 | n => n, fun | 21 => 21 | 4 => 4 | 51 => 269 | 5 => 5 | 119 => 296 | 0 => 0 | 141 => 298 | 196 => 310 | 193 => 307 | 3 => 3 | 198 => 313 | 49 => 311 | 194 => 308 | 201 => 316 | 226 => 320 | 46 => 240 | 227 => 321 | n => n, fun | 7 => 0 | 8 => 1 | n => n⟩
theorem Tryz.lays200 : Go.Proofs.Lays.n200 prog Tryz.lays200_ren := {
 mixed := by kernel_rfl
 f200 := func233.trans (congrArg some (by kernel_rfl))
 f261 := func255.trans (congrArg some (by kernel_rfl))
 f311 := func264.trans (congrArg some (by kernel_rfl))
 f312 := func265.trans (congrArg some (by kernel_rfl))
 t0 := underlying0
 a0 := isAgg0
 z0 := sizeOf0
 v0 := zeroValue0
 t3 := underlying3
 a3 := isAgg3
 z3 := sizeOf3
 v3 := zeroValue3
 t4 := underlying4
 a4 := isAgg4
 z4 := sizeOf4
 v4 := zeroValue4
 t5 := underlying5
 a5 := isAgg5
 z5 := sizeOf5
 v5 := zeroValue5
 t21 := underlying21
 a21 := isAgg21
 z21 := sizeOf21
 v21 := zeroValue21
 t46 := underlying240
 a46 := isAgg240
 z46 := sizeOf240
 v46 := zeroValue240
 t49 := underlying311
 a49 := isAgg311
 z49 := sizeOf311
 v49 := zeroValue311
 t51 := underlying269
 a51 := isAgg269
 z51 := sizeOf269
 v51 := zeroValue269
 t119 := underlying296
 a119 := isAgg296
 z119 := sizeOf296
 t141 := underlying298
 a141 := isAgg298
 z141 := sizeOf298
 v141 := zeroValue298
 t193 := underlying307
 a193 := isAgg307
 z193 := sizeOf307
 v193 := zeroValue307
 t194 := underlying308
 a194 := isAgg308
 z194 := sizeOf308
 v194 := zeroValue308
 t196 := underlying310
 a196 := isAgg310
 z196 := sizeOf310
 v196 := zeroValue310
 t198 := underlying313
 a198 := isAgg313
 z198 := sizeOf313
 v198 := zeroValue313
 t201 := underlying316
 a201 := isAgg316
 z201 := sizeOf316
 v201 := zeroValue316
 t226 := underlying320
 a226 := isAgg320
 z226 := sizeOf320
 v226 := zeroValue320
 t227 := underlying321
 a227 := isAgg321
 z227 := sizeOf321
 v227 := zeroValue321
 g7 := by kernel_rfl
 g8 := by kernel_rfl }
def Tryz.lays264_ren : Go.Shelf.Ren := ⟨fun | 264 => 227 | n => n, fun | 53 => 232 | 46 => 240 | n => n, fun | n => n⟩
theorem Tryz.lays264 : Go.Proofs.Lays.n264 prog Tryz.lays264_ren := {
 mixed := by kernel_rfl
 f264 := func227.trans (congrArg some (by kernel_rfl))
 t46 := underlying240
 a46 := isAgg240
 z46 := sizeOf240
 v46 := zeroValue240
 t53 := underlying232
 a53 := isAgg232
 z53 := sizeOf232
 v53 := zeroValue232 }
open Go.RowKit Go.Lib in
theorem Tryz.bits_Mul64 (x y : Nat) (hx : x < 18446744073709551616) (hy : y < 18446744073709551616) (w : World) :
  Calls prog 227 #[.int .u64 x, .int .u64 y] w fun e w' => e = .returned (.tuple #[.int .u64 ((x * y / 18446744073709551616 : Nat) : Int), .int .u64 ((x * y % 18446744073709551616 : Nat) : Int)]) ∧ w' = w := Any.bits_Mul64 Tryz.lays264 x y hx hy w
def Tryz.lays212_ren : Go.Shelf.Ren := ⟨fun | 212 => 192 | 263 => 226 | 264 => 227 | n => n, fun | 46 => 240 | 51 => 269 | 146 => 270 | 53 => 232 | 148 => 272 | n => n, fun | n => n⟩
theorem Tryz.lays212 : Go.Proofs.Lays.n212 prog Tryz.lays212_ren := {
 mixed := by kernel_rfl
 f212 := func192.trans (congrArg some (by kernel_rfl))
 f263 := func226.trans (congrArg some (by kernel_rfl))
 f264 := func227.trans (congrArg some (by kernel_rfl))
 t46 := underlying240
 a46 := isAgg240
 z46 := sizeOf240
 v46 := zeroValue240
 t51 := underlying269
 a51 := isAgg269
 z51 := sizeOf269
 v51 := zeroValue269
 t53 := underlying232
 a53 := isAgg232
 z53 := sizeOf232
 v53 := zeroValue232
 t146 := underlying270
 a146 := isAgg270
 z146 := sizeOf270
 v146 := zeroValue270
 t148 := underlying272
 a148 := isAgg272
 z148 := sizeOf272
 v148 := zeroValue272 }
open Go.RowKit Go.Lib in
theorem Tryz.bits_Mul (x y : Nat) (hx : x < 18446744073709551616) (hy : y < 18446744073709551616) (w : World) :
  Calls prog 192 #[.int .u64 x, .int .u64 y] w fun e w' => e = .returned (.tuple #[.int .u64 ((x * y / 18446744073709551616 : Nat) : Int), .int .u64 ((x * y % 18446744073709551616 : Nat) : Int)]) ∧ w' = w := Any.bits_Mul Tryz.lays212 x y hx hy w
open Go.RowKit Go.Lib in
theorem Tryz.unicode_IsLetter_all (r : Int) (w : World) (hlo : -2147483648 ≤ r) (hhi : r ≤ 2147483647) (htab : Lib.TabIs prog w "unicode.properties" .u8 Lib.propertiesTab) (hV : RVar 1 letterT w) :
  Calls prog 233 #[.int .i32 r] w fun e w' => e = .returned (.bool (isLetterU r)) ∧ Below w.heap.size w w' := Any.unicode_IsLetter_all Tryz.lays200 (by kernel_rfl) r w hlo hhi htab hV
def Tryz.lays112_ren : Go.Shelf.Ren := ⟨fun | 112 => 225 | n => n, fun | 28 => 23 | 3 => 3 | 4 => 4 | 0 => 0 | n => n, fun | n => n⟩
theorem Tryz.lays112 : Go.Proofs.Lays.n112 prog Tryz.lays112_ren := {
 mixed := by kernel_rfl
 f112 := func225.trans (congrArg some (by kernel_rfl))
 t0 := underlying0
 a0 := isAgg0
 z0 := sizeOf0
 v0 := zeroValue0
 t3 := underlying3
 a3 := isAgg3
 z3 := sizeOf3
 v3 := zeroValue3
 t4 := underlying4
 a4 := isAgg4
 z4 := sizeOf4
 v4 := zeroValue4
 t28 := underlying23
 a28 := isAgg23
 z28 := sizeOf23
 v28 := zeroValue23 }
open Go.RowKit Go.Lib Go.Sort in
theorem Tryz.slices_Reverse_int (blk off cap : Nat) (zs : List Int) (w : World) (hH : Holds (Value.int .i64) w blk off zs.toArray) (hsz : zs.length ≤ 9223372036854775807) :
  Calls prog 225 #[.slice (some ⟨blk, off, none⟩) zs.length cap] w fun e w' => e = .returned (.tuple #[]) ∧ ∃ n, w' = putRow (Value.int .i64) (Sort.ahead w n) blk off zs.reverse.toArray := Any.slices_Reverse_int Tryz.lays112 blk off cap zs w hH hsz
open Go.RowKit Go.Lib Go.Sort in
theorem Tryz.slices_Reverse_int_empty (a : Option Addr) (cap : Nat) (w : World) :
  Calls prog 225 #[.slice a 0 cap] w fun e w' => e = .returned (.tuple #[]) ∧ w' = w := Any.slices_Reverse_int_empty Tryz.lays112 a cap w
open Go.RowKit Go.Sort in
theorem Tryz.slices_Sort_int_none (p : Option Addr) (cap : Nat) (w : World) :
  Calls prog 193 #[.slice p 0 cap] w fun e w' => e = .returned (.tuple #[]) ∧ w' = w := Any.slices_Sort_int_none Tryz.lays189 p cap w
end Go.Proofs
namespace Go.Proofs.YtjnpcfpecilejaaGreatDoor
open Go.Proofs.Tryz
open Go.Proofs
variable {E : World}
set_option maxRecDepth 20000
theorem reverse_own (l : List Int) (i : Nat) (T : TypeId) (hl : l.length ≤ 200000) : ACall prog E 225 [.own i l.length] [(i, .grow 1 T (cI l))] fun r O => r = .tup [] ∧ O = [(i, .grow 1 T (cI l.reverse))] :=
 ACall.turned (g := List.reverse) (B := 200001) func225 rfl (by decide) (fun l => List.length_reverse) (fun blk cap zs w hH _ hz => (Tryz.slices_Reverse_int blk 0 cap zs w hH (by omega)).mono fun e w' ⟨h1, n, h2⟩ => ⟨h1, n, #[], by rw [h2, Go.Sort.grow_empty]⟩)
  (fun cap w => Tryz.slices_Reverse_int_empty none cap w) rfl (by omega)
theorem sort_own (l : List Int) (i : Nat) (T : TypeId) (hl : l.length ≤ 200000) : ACall prog E 193 [.own i l.length] [(i, .grow 1 T (cI l))] fun r O => r = .tup [] ∧ O = [(i, .grow 1 T (cI (sortI l)))] :=
 ACall.turned (g := sortI) (B := 200001) func193 rfl (by decide) (fun l => (sortI_perm l).length_eq) (fun blk cap zs w hH hb hz => Tryz.slices_Sort_int blk 0 cap zs w hH hb (by omega))
  (fun cap w => Tryz.slices_Sort_int_none none cap w) rfl (by omega)
theorem AFun.ofSame {E : World} {P : Program} {f : FuncId} {fn : Func} {c : Code} {ars : List AV} {vs : List Value} {r : Value} {x : AV} (hf : P.funcs[f]? = some fn) (hb : fn.body = some c) (hn : fn.name ≠ "runtime.NumGoroutine") (has : ars = vs.map lit)
  (h : ∀ w, Calls P f vs.toArray w fun e w' => e = .returned r ∧ w' = w) (hr : ∀ I, RepV I x r) : AFun P E f ars x := fun I F w us h1 h2 => by
 subst has
 rw [lit_uns h1]
 refine Fn.ofCalls hf hb hn ?_
 exact (h w).mono fun e w' ⟨he, hw⟩ => ⟨_, he, I, x, [], .refl _, hr I, by rw [hw]; exact h2, rfl⟩
theorem mulw_spec (x y : Nat) (hx : x < 18446744073709551616) (hy : y < 18446744073709551616) : AFun prog E 192 [.int .u64 (x : Int), .int .u64 (y : Int)] (.tup [.int .u64 ((x * y / 18446744073709551616 : Nat) : Int), .int .u64 ((x * y % 18446744073709551616 : Nat) : Int)]) :=
 AFun.ofSame (vs := [.int .u64 x, .int .u64 y]) func192 rfl (by decide) rfl (fun w => Tryz.bits_Mul x y hx hy w) (fun I => ⟨_, rfl, _, _, rfl, rfl, _, _, rfl, rfl, rfl⟩)
theorem mul64_spec (x y : Nat) (hx : x < 18446744073709551616) (hy : y < 18446744073709551616) : AFun prog E 227 [.int .u64 (x : Int), .int .u64 (y : Int)] (.tup [.int .u64 ((x * y / 18446744073709551616 : Nat) : Int), .int .u64 ((x * y % 18446744073709551616 : Nat) : Int)]) :=
 AFun.ofSame (vs := [.int .u64 x, .int .u64 y]) func227 rfl (by decide) rfl (fun w => Tryz.bits_Mul64 x y hx hy w) (fun I => ⟨_, rfl, _, _, rfl, rfl, _, _, rfl, rfl, rfl⟩)
def vsR (v : Int) (n k : Nat) : List Value := List.replicate k (.int .i64 v) ++ List.replicate (n - k) (.int .i64 0)
theorem vsR_len {v : Int} {n k : Nat} (h : k ≤ n) : (vsR v n k).length = n := by unfold vsR; simp; omega
theorem vsR_take {v : Int} {n k q : Nat} (h : q ≤ k) : (vsR v n k).take q = List.replicate q (.int .i64 v) := by unfold vsR; rw [List.take_append_of_le_length (by simp; exact h), List.take_replicate, Nat.min_eq_left h]
theorem vsR_copy {v : Int} {n k q : Nat} (h : k + q ≤ n) : (vsR v n k).take k ++ List.replicate q (.int .i64 v) ++ (vsR v n k).drop (k + q) = vsR v n (k + q) := by
 rw [vsR_take (Nat.le_refl _)]
 unfold vsR
 rw [List.drop_append, List.drop_eq_nil_of_le (by simp), List.length_replicate, List.drop_replicate, List.replicate_append_replicate, List.nil_append]
 congr 2
 omega
theorem vsR_one {v : Int} {n k : Nat} : ∀ u ∈ vsR v n k, u.oneCell' = true := fun u hu => by
 unfold vsR at hu
 rcases List.mem_append.1 hu with h | h
 ·rw [List.eq_of_mem_replicate h]; rfl
 ·rw [List.eq_of_mem_replicate h]; rfl
theorem vsR_full (v : Int) (n : Nat) : (vsR v n n).map lit = cI (List.replicate n v) := by unfold vsR cI; simp [lit]
theorem fro_one {I : G} {k : IntKind} {v : Int} {x : Value} (h : RepV I (.fro 1 [[.int k v]]) x) : ∃ b off c, x = .slice (some ⟨b, off, none⟩) 1 c ∧ KAt I.k b off (.int k v) := by
 obtain ⟨a, n, c, e, hn, _, _, ⟨b, off, vs, ea, hl, hr, hk⟩, _⟩ := h
 obtain ⟨u, us, rfl, hu, _⟩ := hr
 have hu : u = .int k v := hu
 subst ea hu
 simp only [List.length_cons, List.length_nil] at hn
 subst hn
 exact ⟨b, off, c, e, by have := hk 0 _ rfl; simpa using this⟩
theorem srcFro {env : AEnv} {O : OL} {y : Operand} {k : IntKind} {v : Int} (hy : aev env y = .fro 1 [[.int k v]]) : ∀ I F ρ w, RepE I env ρ → SLA I O F E w → ∃ a sc, ev ρ y = .slice (some a) 1 sc ∧ ∀ j u, ([Value.int k v] : List Value)[j]? = some u → w.cell? (a.add j) = some u := fun I F ρ w h1 h2 => by
 have h := h1.ev y
 rw [hy] at h
 obtain ⟨b, off, c, e, hk⟩ := fro_one h
 obtain ⟨_, L, _, hS⟩ := h2
 refine ⟨⟨b, off, none⟩, c, e, fun j u hj => ?_⟩
 cases j with
 | zero => simp at hj; subst hj; rw [addr_add]; exact hS.at_ (hk.at_ _)
 | succ j => simp at hj
theorem srcRow {env : AEnv} {O O' : OL} {y : Operand} {b n c : Nat} {T : TypeId} {vs cs : List Value} (hy : aev env y = rsl b 0 n c) (hO : Pick O 0 (rowO b T vs) O') (hc : ∀ (j : Nat) u, cs[j]? = some u → vs[j]? = some u) : ∀ I F ρ w, RepE I env ρ → SLA I O F E w → ∃ a sc, ev ρ y = .slice (some a) n sc ∧ ∀ j u, cs[j]? = some u → w.cell? (a.add j) = some u := fun I F ρ w h1 h2 => by
 have h := evRaw h1 hy
 obtain ⟨_, L, hL, hS⟩ := h2
 obtain ⟨A, B, hp, hA, hB⟩ := hO.rep hL
 have hA : A = [(b, .cells vs.toArray T (0, 0))] := hA
 subst hA
 have hS2 : SL I.k ((b, .cells vs.toArray T (0, 0)) :: (B ++ F)) E w := hS.perm ((hp.append_right F).symm)
 refine ⟨⟨b, 0, none⟩, c, h, fun j u hj => ?_⟩
 rw [addr_add, hS2.cell_own, List.getElem?_toArray, Nat.zero_add]
 exact hc j u hj
theorem repeat_own (v : Int) (n : Nat) (hn : n ≤ 100000) (h0 : 0 < n) : ACall prog E 142 [.fro 1 ([v].map encI), .int .i64 n] [] (fun x O' => ∃ i : Nat, x = .own i n ∧ O' = [(i, .grow 1 3 (cI (List.replicate n v)))]) := by
 have hw : IntKind.wrap .u64 (n : Int) = n := by unfold IntKind.wrap; simp [IntKind.bits, IntKind.signed]; omega
 have hm : (1 * n / 18446744073709551616 : Nat) = 0 := by omega
 have hm2 : (1 * n % 18446744073709551616 : Nat) = n := by omega
 refine zo func142 rfl (by decide) rfl ?_
 have hmul : AFun prog E 192 [.int .u64 1, .int .u64 (IntKind.wrap .u64 (n : Int))] (.tup [.int .u64 0, .int .u64 (n : Int)]) := by
  have := mulw_spec (E := E) 1 n (by omega) (by omega)
  rw [hm, hm2] at this
  rw [hw]; exact this
 refine zSr<|z2 (zAr rfl)<|z6<|za<|zSr<|z2 (zMi rfl)<|z2 (y8 rfl rfl)<|z6<|yh rfl (by simp)<|zc<|zSr<|z2 (zMf rfl)<|z2 (zz underlying23 rfl)<|z2 (Gv.conv underlying3 underlying240 rfl)<|z2 (zMi rfl)<|z2 (Gv.conv underlying3 underlying240 rfl)<|ze (hmul) rfl<|z2 (zMu rfl)<|z2 (zXi rfl rfl)<|z2 (zXi rfl rfl)<|z2 (zAi rfl)<|z2 (zAi rfl)<|z6<|za<|zSr<|z2 (zMi rfl)<|z2 (yv rfl rfl)<|z2 (zMb rfl)<|z8 rfl rfl (by decide)<|z2 (zMi rfl)<|z8 rfl rfl (by decide)<|z2 (yv rfl rfl)<|z2 (zPf rfl (by decide) rfl)<|z6<|yh rfl (by simp; omega)<|zc<|zSr<|z2 (zMi rfl)<|z2 (Gv.conv underlying240 underlying3 rfl)<|AOps.makeRow (m := n) underlying23 type3 rfl rfl rfl rfl rfl (by show IntKind.wrap .i64 (n : Int) = n; unfold IntKind.wrap; simp [IntKind.bits, IntKind.signed]; omega) (by show IntKind.wrap .i64 (n : Int) = n; unfold IntKind.wrap; simp [IntKind.bits, IntKind.signed]; omega) (by show (8 : Int) * _ ≤ _; omega) (by omega)<|fun b => z2 (zAr rfl) ?_
 refine z6<|zSr<|z2 (yj (v := .raw _) rfl)<|z2 (zMf rfl)<|AOps.copyRow (cs := [.int .i64 v]) (q := 1) underlying23 rfl rfl rfl (Nat.min_eq_left h0).symm .head (by rw [List.length_replicate]; omega) (by simp [Value.oneCell']) (srcFro rfl) ?_
 have hstart : (List.replicate n (Value.int .i64 0)).take 0 ++ [Value.int .i64 v] ++ (List.replicate n (Value.int .i64 0)).drop (0 + 1) = vsR v n 1 := by unfold vsR; simp [List.drop_replicate]
 rw [hstart]
 refine z2 (zAi rfl)<|z6<|za<|zh<|y6 (γ := Nat) [7] (fun k => [(8, .int .i64 k)]) (fun k => [(0, rowO b 3 (vsR v n k))]) (fun k => 1 ≤ k ∧ k ≤ n) (fun k => n - k) 1 zR1 zLe (⟨Nat.le_refl _, h0⟩) ?_
 rintro k ⟨hk1, hk⟩
 refine za<|zSr<|z2 (zMi rfl)<|z2 (yj (v := .raw _) rfl)<|z2 (Gv.lenRow underlying23 rfl)<|z2 (y8 rfl rfl)<|z6<|zp rfl (fun ck=>?_) (fun ck=>?_)
 ·have hk2 : k < n := by simp at ck; omega
  obtain ⟨q, hq⟩ : ∃ q, q = min k (n - k) := ⟨_, rfl⟩
  have hq1 : 0 < q ∧ q ≤ k ∧ k + q ≤ n := by omega
  refine zc<|zh<|y1 (fun j => false) (by kernel_rfl) rfl (zn (.rest _))<|zTk 0 rfl (zMi rfl)<|zTk 1 rfl (yj (v := .raw _) rfl)<|zTk 2 rfl (zMi rfl)<|zTk 3 rfl (Gv.rowLo (j := k) underlying23 sizeOf3 rfl rfl rfl (by omega) (by omega) (by omega))<|zTk 4 rfl (yj (v := .raw _) rfl)<|zTk 5 rfl (zMi rfl)<|zTk 6 rfl (Gv.rowHi (j := k) underlying23 sizeOf3 rfl rfl rfl (by omega))<|zOn 7 rfl<|AOps.copyRow (cs := List.replicate q (.int .i64 v)) (q := q) underlying23 rfl rfl (List.length_replicate ..) hq .head (by rw [vsR_len hk]; omega) (fun u hu => by rw [List.eq_of_mem_replicate hu]; rfl) (srcRow (vs := vsR v n k) rfl .head (fun j u hj => by rw [← vsR_take (v := v) (n := n) hq1.2.1, List.getElem?_take] at hj; split at hj; exact hj; cases hj)) ?_
  rw [vsR_copy hq1.2.2]
  refine z6<|zTk 8 rfl (zAd rfl rfl)<|zTk 9 rfl (zAi rfl)<|zDn ?_
  exact ⟨k + q, zR1, zR1, zLe, ⟨by omega, hq1.2.2⟩, by omega⟩
 ·have hkn : k = n := by simp at ck; omega
  subst hkn
  refine y4<|zSr<|z2 (yj (v := .raw _) rfl)<|z2 (zAr rfl)<|z6<|AWP.rowOwn (t := 4) rfl .head (vsR_len (Nat.le_refl _)) vsR_one (fun i=>?_)
  rw [vsR_full]
  refine zf<|zj (x := .own _ _) rfl ?_
  exact ⟨i, rfl, rfl⟩
end Go.Proofs.YtjnpcfpecilejaaGreatDoor
namespace Go.Proofs.YtjnpcfpecilejaaGreatDoor
open Go.Proofs.Tryz
open Go.Proofs
theorem pl62 : PlacesA prog 62 1 [.int .i64 0, .int .i64 0] := ⟨_, _, _, underlying62, zeroValue62, sizeOf3, rfl⟩
set_option maxRecDepth 20000
variable {E : World}
def inst1 (f : PFunc) (x : PInst) : Bool := decide ((kRow x.op).1 = ⟨#[]⟩) || !decide (x.args.length = (takesL x.op).length) || !x.args.all (hasV f)
def inst2 (f : PFunc) (x : PInst) : Bool := (makesB x.op && !hasV f x.dst) || (!makesB x.op && !decide (x.dst = -1))
def instOK (f : PFunc) (x : PInst) : Bool := !inst1 f x && !inst2 f x && (decide (x.num = 0) || isNum x.op)
def termOK (f : PFunc) (t : PTerm) : Bool := if t.kind = 0 then hasB f t.to0 && decide (t.to1 = 0) && decide (t.var = 0) else if t.kind = 1 then hasV f t.var && hasB f t.to0 && hasB f t.to1 else
 if t.kind = 2 then hasV f t.var && decide (t.to0 = 0 ∧ t.to1 = 0) else false
theorem eq_arr10 (a b c d : Int) (w : World) : (Op.equalIn 10000 62 (.agg [.int .i64 a, .int .i64 b].toArray) (.agg [.int .i64 c, .int .i64 d].toArray)).run prog w = .ok (decide (a = c ∧ b = d)) w := eq_arr a b c d w 9998
theorem inst_spec (f : PFunc) (x : PInst) (hx : okL x.args) : AFun prog E 165 [.agg (encF f), .agg (encInst x)] (.bool (instOK f x)) := by
 have hl := hx.lt
 refine zo func165 rfl (by decide) rfl<|zSr<|y7 (cs := _) rfl rfl rfl<|y7 (cs := _) rfl rfl rfl<|z2 (zAb rfl)<|z6<|zSr<|z2 (zFF underlying33 rfl sizeOf31 rfl rfl)<|z2 (zLi isAgg31 rfl)<|ze (makes_spec _) rfl<|z2 (zMu rfl)<|z2 (zXi rfl rfl)<|z2 (zXb rfl rfl)<|z2 (zAi rfl)<|z2 (zAb rfl)<|z6<|za<|zh<|za<|y1 (fun j => false) (by kernel_rfl) rfl (zn (.rest _))<|zTk 0 rfl (zFF underlying33 rfl sizeOf31 rfl rfl)<|zTk 1 rfl (zLi isAgg31 rfl)<|zOn 2 rfl<|ze (word_spec _) rfl<|z6<|zTk 3 rfl (Gv.eqlT rfl rfl)<|zTk 4 rfl (zMb rfl)<|AAny.case (s := 18) rfl (fun c1=>?_) (fun c1=>?_)
 ·refine zTf 5 rfl rfl rfl c1<|zTf 6 rfl rfl rfl c1<|zTf 7 rfl rfl rfl c1<|zTf 8 rfl rfl rfl c1<|zTf 9 rfl rfl rfl c1<|zTf 10 rfl rfl rfl c1<|zTf 11 rfl rfl rfl c1<|zTf 12 rfl rfl rfl c1<|zTk 13 rfl (zPt rfl c1 rfl)<|zTk 14 rfl (zMb rfl)<|zTf 15 rfl rfl rfl rfl<|zTf 16 rfl rfl rfl rfl<|zTf 17 rfl rfl rfl rfl<|zTf 18 rfl rfl rfl rfl<|zTf 19 rfl rfl rfl rfl<|zTk 20 rfl (zPt rfl rfl rfl)<|zTk 21 rfl (zAb rfl)<|zDn<|yr rfl rfl<|zSr<|z2 (zAb rfl)<|z6<|zf<|zj (x := .bool _) rfl ?_
  exact jb (by simp_all [instOK, inst1, inst2, Int.ofNat_inj] <;> grind)
 ·refine zTt 5 rfl rfl rfl c1 (zFF underlying33 rfl sizeOf23 rfl rfl)<|zTt 6 rfl rfl rfl c1 (zLf isAgg23 rfl)<|zTt 7 rfl rfl rfl c1 (zz underlying23 rfl)<|zTt 8 rfl rfl rfl c1 (zFF underlying33 rfl sizeOf31 rfl rfl)<|zTt 9 rfl rfl rfl c1 (zLi isAgg31 rfl)<|zOn 10 rfl<|z8 rfl rfl c1<|ze (takes_spec _) rfl<|z6<|zTt 11 rfl rfl rfl c1 (zz underlying217 rfl)<|zTt 12 rfl rfl rfl c1 (yi rfl rfl)<|zTk 13 rfl (zPf rfl c1 rfl)<|zTk 14 rfl (zMb rfl)<|AAny.case (s := 28) rfl (fun c2=>?_) (fun c2=>?_)
  ·refine zTf 15 rfl rfl rfl c2<|zTf 16 rfl rfl rfl c2<|zTf 17 rfl rfl rfl c2<|zTf 18 rfl rfl rfl c2<|zTf 19 rfl rfl rfl c2<|zTk 20 rfl (zPt rfl c2 rfl)<|zTk 21 rfl (zAb rfl)<|zDn<|yr rfl rfl<|zSr<|z2 (zAb rfl)<|z6<|zf<|zj (x := .bool _) rfl ?_
   exact jb (by simp_all [instOK, inst1, inst2, Int.ofNat_inj] <;> grind)
  ·refine zTt 15 rfl rfl rfl c2 (zk isAgg26 sizeOf26 rfl rfl)<|zTt 16 rfl rfl rfl c2 (zFF underlying33 rfl sizeOf23 rfl rfl)<|zTt 17 rfl rfl rfl c2 (zLf isAgg23 rfl)<|zOn 18 rfl<|z8 rfl rfl c2<|ze (vars_spec _ _ (by omega)) rfl<|z6<|zTt 19 rfl rfl rfl c2 (yd rfl)<|zTk 20 rfl (zPf rfl c2 rfl)<|zTk 21 rfl (zAb rfl)<|zDn<|zr rfl (fun c3=>?_) (fun c3=>?_)
   ·refine zSr<|z2 (zAb rfl)<|z6<|zf<|zj (x := .bool _) rfl ?_
    exact jb (by simp_all [instOK, inst1, inst2, Int.ofNat_inj] <;> grind)
   ·refine zSr<|z2 (zMb rfl)<|z2 (zMb rfl)<|zl (s := 37) rfl (fun c4=>?_) (fun c4=>?_)
    ·refine z8 rfl rfl c4<|z2 (zk isAgg26 sizeOf26 rfl rfl)<|z8 rfl rfl c4<|z2 (zFF underlying33 rfl sizeOf3 rfl rfl)<|z8 rfl rfl c4<|z2 (zLi isAgg3 rfl)<|z8 rfl rfl c4<|ze (has_spec _ _) rfl<|z8 rfl rfl c4<|z2 (yd rfl)<|z2 (zPt rfl c4 rfl)<|z2 (zMb rfl)<|zl (s := 44) rfl (fun c5=>?_) (fun c5=>?_)
     ·refine z7 rfl rfl c5<|z7 rfl rfl c5<|z7 rfl rfl c5<|zb rfl rfl<|zb rfl rfl<|zb rfl rfl<|z7 rfl rfl c5<|z2 (zPt rfl c5 rfl)<|z2 (zAb rfl)<|z6<|yr rfl rfl<|zSr<|z2 (zAb rfl)<|z6<|zf<|zj (x := .bool _) rfl ?_
      exact jb (by simp_all [instOK, inst1, inst2, Int.ofNat_inj] <;> grind)
     ·refine z8 rfl rfl c5<|z2 (zMb rfl)<|z8 rfl rfl c5<|z2 (yd rfl)<|z8 rfl rfl c5<|z2 (zMb rfl)<|zl (s := 47) rfl (fun c6=>?_) (fun c6=>?_)
      ·refine z8 rfl rfl c6<|z2 (zFF underlying33 rfl sizeOf3 rfl rfl)<|z8 rfl rfl c6<|z2 (zLi isAgg3 rfl)<|z8 rfl rfl c6<|z2 (yi rfl rfl)<|z8 rfl rfl c5<|z2 (zPt rfl c6 rfl)<|z2 (zPf rfl c5 rfl)<|z2 (zAb rfl)<|z6<|zr rfl (fun c7=>?_) (fun c7=>?_)
       ·refine zSr<|z2 (zAb rfl)<|z6<|zf<|zj (x := .bool _) rfl ?_
        exact jb (by simp_all [instOK, inst1, inst2, Int.ofNat_inj] <;> grind)
       ·refine zc<|zSr<|z2 (zFF underlying33 rfl sizeOf2 rfl rfl)<|z2 (zLi isAgg2 rfl)<|z2 (y3 rfl rfl)<|z2 (zMb rfl)<|zl (s := 56) rfl (fun c8=>?_) (fun c8=>?_)
        ·refine z7 rfl rfl c8<|z7 rfl rfl c8<|z7 rfl rfl c8<|z2 (zPt rfl c8 rfl)<|z2 (zAb rfl)<|z6<|zf<|zj (x := .bool _) rfl ?_
         exact jb (by simp_all [instOK, inst1, inst2, Int.ofNat_inj] <;> grind)
        ·refine z8 rfl rfl c8<|z2 (zFF underlying33 rfl sizeOf31 rfl rfl)<|z8 rfl rfl c8<|z2 (zLi isAgg31 rfl)<|z8 rfl rfl c8<|ze (numbered_spec _) rfl<|z2 (zPf rfl c8 rfl)<|z2 (zAb rfl)<|z6<|zf<|zj (x := .bool _) rfl ?_
         exact jb (by simp_all [instOK, inst1, inst2, Int.ofNat_inj] <;> grind)
      ·refine z7 rfl rfl c6<|z7 rfl rfl c6<|z7 rfl rfl c6<|z8 rfl rfl c5<|z2 (zPf rfl c6 rfl)<|z2 (zPf rfl c5 rfl)<|z2 (zAb rfl)<|z6<|yh rfl rfl<|zc<|zSr<|z2 (zFF underlying33 rfl sizeOf2 rfl rfl)<|z2 (zLi isAgg2 rfl)<|z2 (y3 rfl rfl)<|z2 (zMb rfl)<|zl (s := 56) rfl (fun c9=>?_) (fun c9=>?_)
       ·refine z7 rfl rfl c9<|z7 rfl rfl c9<|z7 rfl rfl c9<|z2 (zPt rfl c9 rfl)<|z2 (zAb rfl)<|z6<|zf<|zj (x := .bool _) rfl ?_
        exact jb (by simp_all [instOK, inst1, inst2, Int.ofNat_inj] <;> grind)
       ·refine z8 rfl rfl c9<|z2 (zFF underlying33 rfl sizeOf31 rfl rfl)<|z8 rfl rfl c9<|z2 (zLi isAgg31 rfl)<|z8 rfl rfl c9<|ze (numbered_spec _) rfl<|z2 (zPf rfl c9 rfl)<|z2 (zAb rfl)<|z6<|zf<|zj (x := .bool _) rfl ?_
        exact jb (by simp_all [instOK, inst1, inst2, Int.ofNat_inj] <;> grind)
    ·refine z7 rfl rfl c4<|z7 rfl rfl c4<|z7 rfl rfl c4<|z7 rfl rfl c4<|z7 rfl rfl c4<|z2 (zPf rfl c4 rfl)<|z2 (zMb rfl)<|z8 rfl rfl rfl<|z2 (zMb rfl)<|z8 rfl rfl rfl<|z2 (yd rfl)<|z8 rfl rfl rfl<|z2 (zMb rfl)<|zl (s := 47) rfl (fun c10=>?_) (fun c10=>?_)
     ·refine z8 rfl rfl c10<|z2 (zFF underlying33 rfl sizeOf3 rfl rfl)<|z8 rfl rfl c10<|z2 (zLi isAgg3 rfl)<|z8 rfl rfl c10<|z2 (yi rfl rfl)<|z8 rfl rfl rfl<|z2 (zPt rfl c10 rfl)<|z2 (zPf rfl rfl rfl)<|z2 (zAb rfl)<|z6<|zr rfl (fun c11=>?_) (fun c11=>?_)
      ·refine zSr<|z2 (zAb rfl)<|z6<|zf<|zj (x := .bool _) rfl ?_
       exact jb (by simp_all [instOK, inst1, inst2, Int.ofNat_inj] <;> grind)
      ·refine zc<|zSr<|z2 (zFF underlying33 rfl sizeOf2 rfl rfl)<|z2 (zLi isAgg2 rfl)<|z2 (y3 rfl rfl)<|z2 (zMb rfl)<|zl (s := 56) rfl (fun c12=>?_) (fun c12=>?_)
       ·refine z7 rfl rfl c12<|z7 rfl rfl c12<|z7 rfl rfl c12<|z2 (zPt rfl c12 rfl)<|z2 (zAb rfl)<|z6<|zf<|zj (x := .bool _) rfl ?_
        exact jb (by simp_all [instOK, inst1, inst2, Int.ofNat_inj] <;> grind)
       ·refine z8 rfl rfl c12<|z2 (zFF underlying33 rfl sizeOf31 rfl rfl)<|z8 rfl rfl c12<|z2 (zLi isAgg31 rfl)<|z8 rfl rfl c12<|ze (numbered_spec _) rfl<|z2 (zPf rfl c12 rfl)<|z2 (zAb rfl)<|z6<|zf<|zj (x := .bool _) rfl ?_
        exact jb (by simp_all [instOK, inst1, inst2, Int.ofNat_inj] <;> grind)
     ·refine z7 rfl rfl c10<|z7 rfl rfl c10<|z7 rfl rfl c10<|z8 rfl rfl rfl<|z2 (zPf rfl c10 rfl)<|z2 (zPf rfl rfl rfl)<|z2 (zAb rfl)<|z6<|yh rfl rfl<|zc<|zSr<|z2 (zFF underlying33 rfl sizeOf2 rfl rfl)<|z2 (zLi isAgg2 rfl)<|z2 (y3 rfl rfl)<|z2 (zMb rfl)<|zl (s := 56) rfl (fun c13=>?_) (fun c13=>?_)
      ·refine z7 rfl rfl c13<|z7 rfl rfl c13<|z7 rfl rfl c13<|z2 (zPt rfl c13 rfl)<|z2 (zAb rfl)<|z6<|zf<|zj (x := .bool _) rfl ?_
       exact jb (by simp_all [instOK, inst1, inst2, Int.ofNat_inj] <;> grind)
      ·refine z8 rfl rfl c13<|z2 (zFF underlying33 rfl sizeOf31 rfl rfl)<|z8 rfl rfl c13<|z2 (zLi isAgg31 rfl)<|z8 rfl rfl c13<|ze (numbered_spec _) rfl<|z2 (zPf rfl c13 rfl)<|z2 (zAb rfl)<|z6<|zf<|zj (x := .bool _) rfl ?_
       exact jb (by simp_all [instOK, inst1, inst2, Int.ofNat_inj] <;> grind)
theorem term_spec (f : PFunc) (t : PTerm) : AFun prog E 166 [.agg (encF f), .agg (encTerm t)] (.bool (termOK f t)) := by
 refine zo func166 rfl (by decide) rfl<|zSr<|y7 (cs := _) rfl rfl rfl<|y7 (cs := _) rfl rfl rfl<|z2 (zAb rfl)<|z6<|za<|zSr<|z2 (zFF underlying64 rfl sizeOf61 rfl rfl)<|z2 (zLi isAgg61 rfl)<|z6<|zh<|zSr<|z2 (y3 rfl rfl)<|z2 (zAb rfl)<|z6<|zr rfl (fun c14=>?_) (fun c14=>?_)
 ·refine zSr<|z2 (zk isAgg26 sizeOf26 rfl rfl)<|z2 (zFF underlying64 rfl sizeOf62 rfl rfl)<|z2 (yo (j := 0) underlying62 sizeOf3 rfl rfl rfl (by decide) rfl)<|z2 (zLi isAgg3 rfl)<|ze (at_spec _ _) rfl<|z2 (zMb rfl)<|zl (s := 14) rfl (fun c15=>?_) (fun c15=>?_)
  ·refine z8 rfl rfl c15<|z2 (zFF underlying64 rfl sizeOf62 rfl rfl)<|z8 rfl rfl c15<|z2 (yo (j := 1) underlying62 sizeOf3 rfl rfl rfl (by decide) rfl)<|z8 rfl rfl c15<|z2 (zLi isAgg3 rfl)<|z8 rfl rfl c15<|z2 (y3 rfl rfl)<|z2 (zPt rfl c15 rfl)<|z2 (zMb rfl)<|zl (s := 20) rfl (fun c16=>?_) (fun c16=>?_)
   ·refine z8 rfl rfl c16<|z2 (zFF underlying64 rfl sizeOf3 rfl rfl)<|z8 rfl rfl c16<|z2 (zLi isAgg3 rfl)<|z8 rfl rfl c16<|z2 (y3 rfl rfl)<|z2 (zPt rfl c16 rfl)<|z2 (zAb rfl)<|z6<|zf<|zj (x := .bool _) rfl ?_
    exact jb (by simp_all [termOK] <;> grind)
   ·refine z7 rfl rfl c16<|z7 rfl rfl c16<|z7 rfl rfl c16<|z2 (zPf rfl c16 rfl)<|z2 (zAb rfl)<|z6<|zf<|zj (x := .bool _) rfl ?_
    exact jb (by simp_all [termOK] <;> grind)
  ·refine z7 rfl rfl c15<|z7 rfl rfl c15<|z7 rfl rfl c15<|z7 rfl rfl c15<|z2 (zPf rfl c15 rfl)<|z2 (zMb rfl)<|z7 rfl rfl rfl<|z7 rfl rfl rfl<|z7 rfl rfl rfl<|z2 (zPf rfl rfl rfl)<|z2 (zAb rfl)<|z6<|zf<|zj (x := .bool _) rfl ?_
   exact jb (by simp_all [termOK] <;> grind)
 ·refine zSr<|z2 (y3 rfl rfl)<|z2 (zAb rfl)<|z6<|zr rfl (fun c17=>?_) (fun c17=>?_)
  ·refine zSr<|z2 (zk isAgg26 sizeOf26 rfl rfl)<|z2 (zFF underlying64 rfl sizeOf3 rfl rfl)<|z2 (zLi isAgg3 rfl)<|ze (has_spec _ _) rfl<|z2 (zMb rfl)<|zl (s := 31) rfl (fun c18=>?_) (fun c18=>?_)
   ·refine z8 rfl rfl c18<|z2 (zk isAgg26 sizeOf26 rfl rfl)<|z8 rfl rfl c18<|z2 (zFF underlying64 rfl sizeOf62 rfl rfl)<|z8 rfl rfl c18<|z2 (yo (j := 0) underlying62 sizeOf3 rfl rfl rfl (by decide) rfl)<|z8 rfl rfl c18<|z2 (zLi isAgg3 rfl)<|z8 rfl rfl c18<|ze (at_spec _ _) rfl<|z2 (zPt rfl c18 rfl)<|z2 (zMb rfl)<|zl (s := 38) rfl (fun c19=>?_) (fun c19=>?_)
    ·refine z8 rfl rfl c19<|z2 (zk isAgg26 sizeOf26 rfl rfl)<|z8 rfl rfl c19<|z2 (zFF underlying64 rfl sizeOf62 rfl rfl)<|z8 rfl rfl c19<|z2 (yo (j := 1) underlying62 sizeOf3 rfl rfl rfl (by decide) rfl)<|z8 rfl rfl c19<|z2 (zLi isAgg3 rfl)<|z8 rfl rfl c19<|ze (at_spec _ _) rfl<|z2 (zPt rfl c19 rfl)<|z2 (zAb rfl)<|z6<|zf<|zj (x := .bool _) rfl ?_
     exact jb (by simp_all [termOK] <;> grind)
    ·refine z7 rfl rfl c19<|z7 rfl rfl c19<|z7 rfl rfl c19<|z7 rfl rfl c19<|z7 rfl rfl c19<|z2 (zPf rfl c19 rfl)<|z2 (zAb rfl)<|z6<|zf<|zj (x := .bool _) rfl ?_
     exact jb (by simp_all [termOK] <;> grind)
   ·refine z7 rfl rfl c18<|z7 rfl rfl c18<|z7 rfl rfl c18<|z7 rfl rfl c18<|z7 rfl rfl c18<|z2 (zPf rfl c18 rfl)<|z2 (zMb rfl)<|z7 rfl rfl rfl<|z7 rfl rfl rfl<|z7 rfl rfl rfl<|z7 rfl rfl rfl<|z7 rfl rfl rfl<|z2 (zPf rfl rfl rfl)<|z2 (zAb rfl)<|z6<|zf<|zj (x := .bool _) rfl ?_
    exact jb (by simp_all [termOK] <;> grind)
  ·refine zSr<|z2 (y3 rfl rfl)<|z2 (zAb rfl)<|z6<|zr rfl (fun c20=>?_) (fun c20=>?_)
   ·refine zSr<|z2 (zk isAgg26 sizeOf26 rfl rfl)<|z2 (zFF underlying64 rfl sizeOf3 rfl rfl)<|z2 (zLi isAgg3 rfl)<|ze (has_spec _ _) rfl<|z2 (zMb rfl)<|zl (s := 51) rfl (fun c21=>?_) (fun c21=>?_)
    ·refine z8 rfl rfl c21<|z2 (zFF underlying64 rfl sizeOf62 rfl rfl)<|z8 rfl rfl c21<|z2 (zk isAgg62 sizeOf62 rfl rfl)<|z8 rfl rfl c21<|z2 (Gv.buildA (cps := []) (rs := [.int .i64 0, .int .i64 0]) pl62 rfl rfl rfl)<|z8 rfl rfl c21<|z2 (Gv.eqlP (xs := [.int _ _, .int _ _]) (ys := [.int _ _, .int _ _]) (by kernel_rfl) rfl rfl (fun w => eq_arr10 _ _ _ _ w))<|z2 (zPt rfl c21 rfl)<|z2 (zAb rfl)<|z6<|zf<|zj (x := .bool _) rfl ?_
     exact jb (by simp_all [termOK] <;> grind)
    ·refine z7 rfl rfl c21<|z7 rfl rfl c21<|z7 rfl rfl c21<|z7 rfl rfl c21<|z2 (zPf rfl c21 rfl)<|z2 (zAb rfl)<|z6<|zf<|zj (x := .bool _) rfl ?_
     exact jb (by simp_all [termOK] <;> grind)
   ·refine zc<|zSr<|z2 (zAb rfl)<|z6<|zf<|zj (x := .bool _) rfl ?_
    exact jb (by simp_all [termOK] <;> grind)
def encS (s : ByteArray) : List AV := [.str s]
end Go.Proofs.YtjnpcfpecilejaaGreatDoor
namespace Go.Proofs.YtjnpcfpecilejaaGreatDoor
open Go.Proofs.Tryz
open Go.Proofs Go.Lib Go.Shelf Go.RowKit
theorem pl222 : Places prog 222 #[(0, 1), (1, 1), (2, 1)] [.str ⟨#[]⟩, .str ⟨#[]⟩, .str ⟨#[]⟩] := ⟨_, _, underlying222, zeroValue222, fun w => by kernel_rfl, rfl⟩
theorem ps223_27 : PlacesS prog 223 222 27 3 [.str ⟨#[]⟩, .str ⟨#[]⟩, .str ⟨#[]⟩, .str ⟨#[]⟩, .str ⟨#[]⟩, .str ⟨#[]⟩, .str ⟨#[]⟩, .str ⟨#[]⟩, .str ⟨#[]⟩, .str ⟨#[]⟩, .str ⟨#[]⟩, .str ⟨#[]⟩, .str ⟨#[]⟩, .str ⟨#[]⟩, .str ⟨#[]⟩, .str ⟨#[]⟩, .str ⟨#[]⟩, .str ⟨#[]⟩, .str ⟨#[]⟩, .str ⟨#[]⟩, .str ⟨#[]⟩, .str ⟨#[]⟩, .str ⟨#[]⟩, .str ⟨#[]⟩, .str ⟨#[]⟩, .str ⟨#[]⟩, .str ⟨#[]⟩, .str ⟨#[]⟩, .str ⟨#[]⟩, .str ⟨#[]⟩, .str ⟨#[]⟩, .str ⟨#[]⟩, .str ⟨#[]⟩, .str ⟨#[]⟩, .str ⟨#[]⟩, .str ⟨#[]⟩, .str ⟨#[]⟩, .str ⟨#[]⟩, .str ⟨#[]⟩, .str ⟨#[]⟩, .str ⟨#[]⟩, .str ⟨#[]⟩, .str ⟨#[]⟩, .str ⟨#[]⟩, .str ⟨#[]⟩, .str ⟨#[]⟩, .str ⟨#[]⟩, .str ⟨#[]⟩, .str ⟨#[]⟩, .str ⟨#[]⟩, .str ⟨#[]⟩, .str ⟨#[]⟩, .str ⟨#[]⟩, .str ⟨#[]⟩, .str ⟨#[]⟩, .str ⟨#[]⟩, .str ⟨#[]⟩, .str ⟨#[]⟩, .str ⟨#[]⟩, .str ⟨#[]⟩, .str ⟨#[]⟩, .str ⟨#[]⟩, .str ⟨#[]⟩, .str ⟨#[]⟩, .str ⟨#[]⟩, .str ⟨#[]⟩, .str ⟨#[]⟩, .str ⟨#[]⟩, .str ⟨#[]⟩, .str ⟨#[]⟩, .str ⟨#[]⟩, .str ⟨#[]⟩, .str ⟨#[]⟩, .str ⟨#[]⟩, .str ⟨#[]⟩, .str ⟨#[]⟩, .str ⟨#[]⟩, .str ⟨#[]⟩, .str ⟨#[]⟩, .str ⟨#[]⟩, .str ⟨#[]⟩] := ⟨_, underlying223, sizeOf222, zeroValue222, by decide, by decide, by kernel_rfl⟩
set_option maxRecDepth 20000
variable {E : World}
def Letters (E : World) : Prop := Lib.TabIs prog E "unicode.properties" .u8 Lib.propertiesTab ∧ RVar 1 letterT E
theorem letter_spec (c : Int) (h1 : -2147483648 ≤ c) (h2 : c ≤ 2147483647) (hL : Letters E) : AFun prog E 233 [.int .i32 c] (.bool (isLetterU c)) :=
 AFun.ofBelow (vs := [.int .i32 c]) (r := .bool (isLetterU c)) func233 rfl (by decide) rfl fun w hw => Tryz.unicode_IsLetter_all c w h1 h2 (TabIs_below (g := 0) (by kernel_rfl) hL.1 hw) (RVar_below hL.2 hw)
theorem decode_ok (s : ByteArray) (p : Nat) : 1 ≤ (Utf8.decode s p).2 ∧ (Utf8.decode s p).1 ≤ 2097151 := by
 have h256 : ∀ k, (s.get! k).toNat < 256 := fun k => (s.get! k).toNat_lt
 unfold Utf8.decode
 dsimp only
 constructor
 ·repeat' split
  all_goals simp
 ·have h0 := h256 (p + 0)
  have h1 := h256 (p + 1)
  have h2 := h256 (p + 2)
  have h3 := h256 (p + 3)
  repeat' split
  all_goals (simp only [Utf8.runeError]; omega)
def okRune (c : Int) (n : Nat) : Bool := (isLetterU c && !decide (c = 65533)) || (!decide ((n : Int) = 0) && ((decide (48 ≤ c) && decide (c ≤ 57)) || decide (c = 46) || decide (c = 95)))
def nameFrom (s : ByteArray) (p n : Nat) : Bool :=
 if h : p < s.size then (if okRune (Utf8.decode s p).1 n then nameFrom s (p + (Utf8.decode s p).2) (n + 1) else false) else decide ((1 : Int) ≤ n) && decide ((n : Int) ≤ 16)
termination_by s.size - p
decreasing_by have := (decode_ok s p).1; omega
def nameB (s : ByteArray) : Bool := nameFrom s 0 0
theorem name_spec (s : ByteArray) (hs : s.size ≤ 140737488355328) (hL : Letters E) : AFun prog E 214 [.str s] (.bool (nameB s)) := by
 refine zo func214 rfl (by decide) rfl<|zSr<|z2 (zAb rfl)<|z6<|zSr<|z2 (zAi rfl)<|z6<|za<|zSr<|z2 (yj (v := .str _) rfl)<|AOps.rangeT underlying9 rfl<|fun i8 => z6<|zh<|y6 (γ := Nat × Nat) [8] (fun g => [(3, .int .i64 g.2)]) (fun g => [(i8, .iter s g.1)]) (fun g => nameFrom s g.1 g.2 = nameB s ∧ g.2 ≤ g.1 ∧ g.2 ≤ s.size) (fun g => s.size - g.1) (0, 0) zR1 zLe (⟨rfl, Nat.le_refl _, qm _⟩) ?_
 rintro ⟨p, n⟩ ⟨hp, hn, hn2⟩
 try dsimp only at *
 by_cases hlt : p < s.size
 ·obtain ⟨hd1, hd2⟩ := decode_ok s p
  have hstep := hp
  rw [nameFrom, dif_pos hlt] at hstep
  refine zSr<|AOps.nextT rfl .head hlt<|z2 (zXb rfl rfl)<|z6<|za<|yr rfl rfl<|zc<|zh<|zSr<|z2 (zXi rfl rfl)<|z2 (zAi rfl)<|z6<|zSr<|z2 (zMi rfl)<|ze (letter_spec _ (by omega) (by omega) hL) rfl<|z2 (zMb rfl)<|zl (s := 14) rfl (fun c1=>?_) (fun c1=>?_)
  ·refine z8 rfl rfl c1<|z2 (zMi rfl)<|z8 rfl rfl c1<|z2 (yi rfl rfl)<|z2 (zPt rfl c1 rfl)<|z2 (zAb rfl)<|z6<|za<|zSr<|z2 (zMb rfl)<|z2 (yd rfl)<|z2 (zMb rfl)<|zl (s := 20) rfl (fun c2=>?_) (fun c2=>?_)
   ·refine z8 rfl rfl c2<|z2 (zMi rfl)<|z8 rfl rfl c2<|z2 (y3 rfl rfl)<|z8 rfl rfl c2<|z2 (zMb rfl)<|zl (s := 23) rfl (fun c3=>?_) (fun c3=>?_)
    ·refine z7 rfl rfl c3<|z7 rfl rfl c3<|z7 rfl rfl c3<|zb rfl rfl<|zb rfl rfl<|z7 rfl rfl c3<|z7 rfl rfl c3<|z7 rfl rfl c3<|zb rfl rfl<|zb rfl rfl<|z7 rfl rfl c3<|z7 rfl rfl c3<|zb rfl rfl<|zb rfl rfl<|z7 rfl rfl c3<|z8 rfl rfl c2<|z2 (zPt rfl c3 rfl)<|z2 (zPt rfl c2 rfl)<|z6<|yr rfl rfl<|zSr<|z2 (zAb rfl)<|z6<|zf<|zj (x := .bool _) rfl ?_
     rw [if_neg (by simp_all [okRune] <;> omega)] at hstep; exact jb hstep
    ·refine z8 rfl rfl c3<|z2 (zMi rfl)<|z8 rfl rfl c3<|z2 (q9 rfl rfl)<|z8 rfl rfl c3<|z2 (zMb rfl)<|zl (s := 26) rfl (fun c4=>?_) (fun c4=>?_)
     ·refine z8 rfl rfl c4<|z2 (zMi rfl)<|z8 rfl rfl c4<|z2 (Gv.leq rfl rfl)<|z8 rfl rfl c3<|z2 (zPt rfl c4 rfl)<|z8 rfl rfl c3<|z2 (yd rfl)<|z8 rfl rfl c3<|z2 (zMb rfl)<|zl (s := 31) rfl (fun c5=>?_) (fun c5=>?_)
      ·refine z8 rfl rfl c5<|z2 (zMi rfl)<|z8 rfl rfl c5<|z2 (yi rfl rfl)<|z8 rfl rfl c3<|z2 (zPt rfl c5 rfl)<|z8 rfl rfl c3<|z2 (zMb rfl)<|zl (s := 35) rfl (fun c6=>?_) (fun c6=>?_)
       ·refine z8 rfl rfl c6<|z2 (zMi rfl)<|z8 rfl rfl c6<|z2 (yi rfl rfl)<|z8 rfl rfl c3<|z2 (zPt rfl c6 rfl)<|z8 rfl rfl c2<|z2 (zPf rfl c3 rfl)<|z2 (zPt rfl c2 rfl)<|z6<|zr rfl (fun c7=>?_) (fun c7=>?_)
        ·refine zSr<|z2 (zAb rfl)<|z6<|zf<|zj (x := .bool _) rfl ?_
         rw [if_neg (by simp_all [okRune] <;> omega)] at hstep; exact jb hstep
        ·refine zc<|zRg<|z2 (zMi rfl)<|z2 (zAd rfl rfl)<|z2 (zAi rfl)<|z6 ?_
         exact ⟨(p + (Utf8.decode s p).2, n + 1), zR1, zR1, zLe, ⟨by rw [if_pos (by simp_all [okRune] <;> omega)] at hstep; exact hstep, by dsimp only; omega, by dsimp only; omega⟩, by dsimp only; omega⟩
       ·refine z7 rfl rfl c6<|z7 rfl rfl c6<|z8 rfl rfl c3<|z2 (zPf rfl c6 rfl)<|z8 rfl rfl c2<|z2 (zPf rfl c3 rfl)<|z2 (zPt rfl c2 rfl)<|z6<|yh rfl rfl<|zc<|zRg<|z2 (zMi rfl)<|z2 (zAd rfl rfl)<|z2 (zAi rfl)<|z6 ?_
        exact ⟨(p + (Utf8.decode s p).2, n + 1), zR1, zR1, zLe, ⟨by rw [if_pos (by simp_all [okRune] <;> omega)] at hstep; exact hstep, by dsimp only; omega, by dsimp only; omega⟩, by dsimp only; omega⟩
      ·refine z7 rfl rfl c5<|z7 rfl rfl c5<|z8 rfl rfl c3<|z2 (zPf rfl c5 rfl)<|z8 rfl rfl c3<|z2 (zMb rfl)<|z7 rfl rfl rfl<|z7 rfl rfl rfl<|z8 rfl rfl c3<|z2 (zPf rfl rfl rfl)<|z8 rfl rfl c2<|z2 (zPf rfl c3 rfl)<|z2 (zPt rfl c2 rfl)<|z6<|yh rfl rfl<|zc<|zRg<|z2 (zMi rfl)<|z2 (zAd rfl rfl)<|z2 (zAi rfl)<|z6 ?_
       exact ⟨(p + (Utf8.decode s p).2, n + 1), zR1, zR1, zLe, ⟨by rw [if_pos (by simp_all [okRune] <;> omega)] at hstep; exact hstep, by dsimp only; omega, by dsimp only; omega⟩, by dsimp only; omega⟩
     ·refine z7 rfl rfl c4<|z7 rfl rfl c4<|z8 rfl rfl c3<|z2 (zPf rfl c4 rfl)<|z8 rfl rfl c3<|z2 (yd rfl)<|z8 rfl rfl c3<|z2 (zMb rfl)<|z8 rfl rfl rfl<|z2 (zMi rfl)<|z8 rfl rfl rfl<|z2 (yi rfl rfl)<|z8 rfl rfl c3<|z2 (zPt rfl rfl rfl)<|z8 rfl rfl c3<|z2 (zMb rfl)<|zl (s := 35) rfl (fun c8=>?_) (fun c8=>?_)
      ·refine z8 rfl rfl c8<|z2 (zMi rfl)<|z8 rfl rfl c8<|z2 (yi rfl rfl)<|z8 rfl rfl c3<|z2 (zPt rfl c8 rfl)<|z8 rfl rfl c2<|z2 (zPf rfl c3 rfl)<|z2 (zPt rfl c2 rfl)<|z6<|zr rfl (fun c9=>?_) (fun c9=>?_)
       ·refine zSr<|z2 (zAb rfl)<|z6<|zf<|zj (x := .bool _) rfl ?_
        rw [if_neg (by simp_all [okRune] <;> omega)] at hstep; exact jb hstep
       ·refine zc<|zRg<|z2 (zMi rfl)<|z2 (zAd rfl rfl)<|z2 (zAi rfl)<|z6 ?_
        exact ⟨(p + (Utf8.decode s p).2, n + 1), zR1, zR1, zLe, ⟨by rw [if_pos (by simp_all [okRune] <;> omega)] at hstep; exact hstep, by dsimp only; omega, by dsimp only; omega⟩, by dsimp only; omega⟩
      ·refine z7 rfl rfl c8<|z7 rfl rfl c8<|z8 rfl rfl c3<|z2 (zPf rfl c8 rfl)<|z8 rfl rfl c2<|z2 (zPf rfl c3 rfl)<|z2 (zPt rfl c2 rfl)<|z6<|yh rfl rfl<|zc<|zRg<|z2 (zMi rfl)<|z2 (zAd rfl rfl)<|z2 (zAi rfl)<|z6 ?_
       exact ⟨(p + (Utf8.decode s p).2, n + 1), zR1, zR1, zLe, ⟨by rw [if_pos (by simp_all [okRune] <;> omega)] at hstep; exact hstep, by dsimp only; omega, by dsimp only; omega⟩, by dsimp only; omega⟩
   ·refine z7 rfl rfl c2<|z7 rfl rfl c2<|z7 rfl rfl c2<|zb rfl rfl<|zb rfl rfl<|zb rfl rfl<|zb rfl rfl<|zb rfl rfl<|zb rfl rfl<|zb rfl rfl<|zb rfl rfl<|zb rfl rfl<|zb rfl rfl<|zb rfl rfl<|zb rfl rfl<|zb rfl rfl<|zb rfl rfl<|zb rfl rfl<|z7 rfl rfl c2<|z2 (zPf rfl c2 rfl)<|z6<|yh rfl rfl<|zc<|zRg<|z2 (zMi rfl)<|z2 (zAd rfl rfl)<|z2 (zAi rfl)<|z6 ?_
    exact ⟨(p + (Utf8.decode s p).2, n + 1), zR1, zR1, zLe, ⟨by rw [if_pos (by simp_all [okRune] <;> omega)] at hstep; exact hstep, by dsimp only; omega, by dsimp only; omega⟩, by dsimp only; omega⟩
  ·refine z7 rfl rfl c1<|z7 rfl rfl c1<|z2 (zPf rfl c1 rfl)<|z2 (zAb rfl)<|z6<|za<|zSr<|z2 (zMb rfl)<|z2 (yd rfl)<|z2 (zMb rfl)<|z8 rfl rfl rfl<|z2 (zMi rfl)<|z8 rfl rfl rfl<|z2 (y3 rfl rfl)<|z8 rfl rfl rfl<|z2 (zMb rfl)<|zl (s := 23) rfl (fun c10=>?_) (fun c10=>?_)
   ·refine z7 rfl rfl c10<|z7 rfl rfl c10<|z7 rfl rfl c10<|zb rfl rfl<|zb rfl rfl<|z7 rfl rfl c10<|z7 rfl rfl c10<|z7 rfl rfl c10<|zb rfl rfl<|zb rfl rfl<|z7 rfl rfl c10<|z7 rfl rfl c10<|zb rfl rfl<|zb rfl rfl<|z7 rfl rfl c10<|z8 rfl rfl rfl<|z2 (zPt rfl c10 rfl)<|z2 (zPt rfl rfl rfl)<|z6<|yr rfl rfl<|zSr<|z2 (zAb rfl)<|z6<|zf<|zj (x := .bool _) rfl ?_
    rw [if_neg (by simp_all [okRune] <;> omega)] at hstep; exact jb hstep
   ·refine z8 rfl rfl c10<|z2 (zMi rfl)<|z8 rfl rfl c10<|z2 (q9 rfl rfl)<|z8 rfl rfl c10<|z2 (zMb rfl)<|zl (s := 26) rfl (fun c11=>?_) (fun c11=>?_)
    ·refine z8 rfl rfl c11<|z2 (zMi rfl)<|z8 rfl rfl c11<|z2 (Gv.leq rfl rfl)<|z8 rfl rfl c10<|z2 (zPt rfl c11 rfl)<|z8 rfl rfl c10<|z2 (yd rfl)<|z8 rfl rfl c10<|z2 (zMb rfl)<|zl (s := 31) rfl (fun c12=>?_) (fun c12=>?_)
     ·refine z8 rfl rfl c12<|z2 (zMi rfl)<|z8 rfl rfl c12<|z2 (yi rfl rfl)<|z8 rfl rfl c10<|z2 (zPt rfl c12 rfl)<|z8 rfl rfl c10<|z2 (zMb rfl)<|zl (s := 35) rfl (fun c13=>?_) (fun c13=>?_)
      ·refine z8 rfl rfl c13<|z2 (zMi rfl)<|z8 rfl rfl c13<|z2 (yi rfl rfl)<|z8 rfl rfl c10<|z2 (zPt rfl c13 rfl)<|z8 rfl rfl rfl<|z2 (zPf rfl c10 rfl)<|z2 (zPt rfl rfl rfl)<|z6<|zr rfl (fun c14=>?_) (fun c14=>?_)
       ·refine zSr<|z2 (zAb rfl)<|z6<|zf<|zj (x := .bool _) rfl ?_
        rw [if_neg (by simp_all [okRune] <;> omega)] at hstep; exact jb hstep
       ·refine zc<|zRg<|z2 (zMi rfl)<|z2 (zAd rfl rfl)<|z2 (zAi rfl)<|z6 ?_
        exact ⟨(p + (Utf8.decode s p).2, n + 1), zR1, zR1, zLe, ⟨by rw [if_pos (by simp_all [okRune] <;> omega)] at hstep; exact hstep, by dsimp only; omega, by dsimp only; omega⟩, by dsimp only; omega⟩
      ·refine z7 rfl rfl c13<|z7 rfl rfl c13<|z8 rfl rfl c10<|z2 (zPf rfl c13 rfl)<|z8 rfl rfl rfl<|z2 (zPf rfl c10 rfl)<|z2 (zPt rfl rfl rfl)<|z6<|yh rfl rfl<|zc<|zRg<|z2 (zMi rfl)<|z2 (zAd rfl rfl)<|z2 (zAi rfl)<|z6 ?_
       exact ⟨(p + (Utf8.decode s p).2, n + 1), zR1, zR1, zLe, ⟨by rw [if_pos (by simp_all [okRune] <;> omega)] at hstep; exact hstep, by dsimp only; omega, by dsimp only; omega⟩, by dsimp only; omega⟩
     ·refine z7 rfl rfl c12<|z7 rfl rfl c12<|z8 rfl rfl c10<|z2 (zPf rfl c12 rfl)<|z8 rfl rfl c10<|z2 (zMb rfl)<|z7 rfl rfl rfl<|z7 rfl rfl rfl<|z8 rfl rfl c10<|z2 (zPf rfl rfl rfl)<|z8 rfl rfl rfl<|z2 (zPf rfl c10 rfl)<|z2 (zPt rfl rfl rfl)<|z6<|yh rfl rfl<|zc<|zRg<|z2 (zMi rfl)<|z2 (zAd rfl rfl)<|z2 (zAi rfl)<|z6 ?_
      exact ⟨(p + (Utf8.decode s p).2, n + 1), zR1, zR1, zLe, ⟨by rw [if_pos (by simp_all [okRune] <;> omega)] at hstep; exact hstep, by dsimp only; omega, by dsimp only; omega⟩, by dsimp only; omega⟩
    ·refine z7 rfl rfl c11<|z7 rfl rfl c11<|z8 rfl rfl c10<|z2 (zPf rfl c11 rfl)<|z8 rfl rfl c10<|z2 (yd rfl)<|z8 rfl rfl c10<|z2 (zMb rfl)<|z8 rfl rfl rfl<|z2 (zMi rfl)<|z8 rfl rfl rfl<|z2 (yi rfl rfl)<|z8 rfl rfl c10<|z2 (zPt rfl rfl rfl)<|z8 rfl rfl c10<|z2 (zMb rfl)<|zl (s := 35) rfl (fun c15=>?_) (fun c15=>?_)
     ·refine z8 rfl rfl c15<|z2 (zMi rfl)<|z8 rfl rfl c15<|z2 (yi rfl rfl)<|z8 rfl rfl c10<|z2 (zPt rfl c15 rfl)<|z8 rfl rfl rfl<|z2 (zPf rfl c10 rfl)<|z2 (zPt rfl rfl rfl)<|z6<|zr rfl (fun c16=>?_) (fun c16=>?_)
      ·refine zSr<|z2 (zAb rfl)<|z6<|zf<|zj (x := .bool _) rfl ?_
       rw [if_neg (by simp_all [okRune] <;> omega)] at hstep; exact jb hstep
      ·refine zc<|zRg<|z2 (zMi rfl)<|z2 (zAd rfl rfl)<|z2 (zAi rfl)<|z6 ?_
       exact ⟨(p + (Utf8.decode s p).2, n + 1), zR1, zR1, zLe, ⟨by rw [if_pos (by simp_all [okRune] <;> omega)] at hstep; exact hstep, by dsimp only; omega, by dsimp only; omega⟩, by dsimp only; omega⟩
     ·refine z7 rfl rfl c15<|z7 rfl rfl c15<|z8 rfl rfl c10<|z2 (zPf rfl c15 rfl)<|z8 rfl rfl rfl<|z2 (zPf rfl c10 rfl)<|z2 (zPt rfl rfl rfl)<|z6<|yh rfl rfl<|zc<|zRg<|z2 (zMi rfl)<|z2 (zAd rfl rfl)<|z2 (zAi rfl)<|z6 ?_
      exact ⟨(p + (Utf8.decode s p).2, n + 1), zR1, zR1, zLe, ⟨by rw [if_pos (by simp_all [okRune] <;> omega)] at hstep; exact hstep, by dsimp only; omega, by dsimp only; omega⟩, by dsimp only; omega⟩
 ·rw [nameFrom, dif_neg hlt] at hp
  refine zSr<|AOps.nextTover rfl .head hlt<|z2 (zXb rfl rfl)<|z6<|za<|yh rfl rfl<|y4<|zSr<|z2 (zMi rfl)<|z2 (q9 rfl rfl)<|z2 (zMb rfl)<|zl (s := 45) rfl (fun c17=>?_) (fun c17=>?_)
  ·refine z8 rfl rfl c17<|z2 (zMi rfl)<|z8 rfl rfl c17<|z2 (Gv.leq rfl rfl)<|z2 (zPt rfl c17 rfl)<|z2 (zAb rfl)<|z6<|zf<|zj (x := .bool _) rfl ?_
   rw [← hp]; exact jb (by simp_all <;> (intros; omega))
  ·refine z7 rfl rfl c17<|z7 rfl rfl c17<|z2 (zPf rfl c17 rfl)<|z2 (zAb rfl)<|z6<|zf<|zj (x := .bool _) rfl ?_
   rw [← hp]; exact jb (by simp_all <;> (intros; omega))
theorem rows_spec : AFun prog E 174 [] (.fro 3 (kindT.map encK)) := by
 refine zo func174 rfl (by decide) rfl<|zSr<|z2 (zAr rfl)<|z6<|zSr<|z2 (y5 (cps := [(0, [_]), (1, [_]), (2, [_])]) (rs := [_, _, _]) pl222 rfl rfl rfl)<|z2 (y5 (cps := [(0, [_]), (1, [_]), (2, [_])]) (rs := [_, _, _]) pl222 rfl rfl rfl)<|z2 (y5 (cps := [(0, [_]), (1, [_]), (2, [_])]) (rs := [_, _, _]) pl222 rfl rfl rfl)<|z2 (y5 (cps := [(0, [_]), (1, [_]), (2, [_])]) (rs := [_, _, _]) pl222 rfl rfl rfl)<|z2 (y5 (cps := [(0, [_]), (1, [_]), (2, [_])]) (rs := [_, _, _]) pl222 rfl rfl rfl)<|z2 (y5 (cps := [(0, [_]), (1, [_]), (2, [_])]) (rs := [_, _, _]) pl222 rfl rfl rfl)<|z2 (y5 (cps := [(0, [_]), (1, [_]), (2, [_])]) (rs := [_, _, _]) pl222 rfl rfl rfl)<|z2 (y5 (cps := [(0, [_]), (1, [_]), (2, [_])]) (rs := [_, _, _]) pl222 rfl rfl rfl)<|z2 (y5 (cps := [(0, [_]), (1, [_]), (2, [_])]) (rs := [_, _, _]) pl222 rfl rfl rfl)<|z2 (y5 (cps := [(0, [_]), (1, [_]), (2, [_])]) (rs := [_, _, _]) pl222 rfl rfl rfl)<|z2 (y5 (cps := [(0, [_]), (1, [_]), (2, [_])]) (rs := [_, _, _]) pl222 rfl rfl rfl)<|z2 (y5 (cps := [(0, [_]), (1, [_]), (2, [_])]) (rs := [_, _, _]) pl222 rfl rfl rfl)<|z2 (y5 (cps := [(0, [_]), (1, [_]), (2, [_])]) (rs := [_, _, _]) pl222 rfl rfl rfl)<|z2 (y5 (cps := [(0, [_]), (1, [_]), (2, [_])]) (rs := [_, _, _]) pl222 rfl rfl rfl)<|z2 (y5 (cps := [(0, [_]), (1, [_]), (2, [_])]) (rs := [_, _, _]) pl222 rfl rfl rfl)<|z2 (y5 (cps := [(0, [_]), (1, [_]), (2, [_])]) (rs := [_, _, _]) pl222 rfl rfl rfl)<|z2 (y5 (cps := [(0, [_]), (1, [_]), (2, [_])]) (rs := [_, _, _]) pl222 rfl rfl rfl)<|z2 (y5 (cps := [(0, [_]), (1, [_]), (2, [_])]) (rs := [_, _, _]) pl222 rfl rfl rfl)<|z2 (y5 (cps := [(0, [_]), (1, [_]), (2, [_])]) (rs := [_, _, _]) pl222 rfl rfl rfl)<|z2 (y5 (cps := [(0, [_]), (1, [_]), (2, [_])]) (rs := [_, _, _]) pl222 rfl rfl rfl)<|z2 (y5 (cps := [(0, [_]), (1, [_]), (2, [_])]) (rs := [_, _, _]) pl222 rfl rfl rfl)<|z2 (y5 (cps := [(0, [_]), (1, [_]), (2, [_])]) (rs := [_, _, _]) pl222 rfl rfl rfl)<|z2 (y5 (cps := [(0, [_]), (1, [_]), (2, [_])]) (rs := [_, _, _]) pl222 rfl rfl rfl)<|z2 (y5 (cps := [(0, [_]), (1, [_]), (2, [_])]) (rs := [_, _, _]) pl222 rfl rfl rfl)<|z2 (y5 (cps := [(0, [_]), (1, [_]), (2, [_])]) (rs := [_, _, _]) pl222 rfl rfl rfl)<|z2 (y5 (cps := [(0, [_]), (1, [_]), (2, [_])]) (rs := [_, _, _]) pl222 rfl rfl rfl)<|z2 (y5 (cps := [(0, [_]), (1, [_]), (2, [_])]) (rs := [_, _, _]) pl222 rfl rfl rfl)<|zw (rows := [[_, _, _], [_, _, _], [_, _, _], [_, _, _], [_, _, _], [_, _, _], [_, _, _], [_, _, _], [_, _, _], [_, _, _], [_, _, _], [_, _, _], [_, _, _], [_, _, _], [_, _, _], [_, _, _], [_, _, _], [_, _, _], [_, _, _], [_, _, _], [_, _, _], [_, _, _], [_, _, _], [_, _, _], [_, _, _], [_, _, _], [_, _, _]]) ps223_27 rfl rfl rfl rfl rfl<|z2 (zAf rfl)<|z6<|zf<|zj (x := .fro _ _) rfl ?_
 rfl
theorem in_spec (k n : Int) : AFun prog E 215 [.int .i64 k, .int .i64 n] (.bool (decide (0 ≤ k) && decide (k < n))) := by
 refine zo func215 rfl (by decide) rfl<|zSr<|z2 (zAb rfl)<|z6<|zSr<|z2 (zMi rfl)<|z2 (q9 rfl rfl)<|z2 (zMb rfl)<|zl (s := 7) rfl (fun c18=>?_) (fun c18=>?_)
 ·refine z8 rfl rfl c18<|z2 (zMi rfl)<|z8 rfl rfl c18<|z2 (zMi rfl)<|z8 rfl rfl c18<|z2 (y8 rfl rfl)<|z2 (zPt rfl c18 rfl)<|z2 (zAb rfl)<|z6<|zf<|zj (x := .bool _) rfl ?_
  exact jb (by simp_all <;> omega)
 ·refine z7 rfl rfl c18<|z7 rfl rfl c18<|z7 rfl rfl c18<|z2 (zPf rfl c18 rfl)<|z2 (zAb rfl)<|z6<|zf<|zj (x := .bool _) rfl ?_
  exact jb (by simp_all <;> omega)
def strL (l : List UInt8) : ByteArray := ⟨l.toArray⟩
end Go.Proofs.YtjnpcfpecilejaaGreatDoor
