/- A block's lines. No conditions but bounds. -/
import Derived.Test.YtbkgklpihnfnjaaGreatDoorJn
import Derived.RangeFuncFrom
import Derived.RangeFuncCalls
import Derived.RangeFuncLeaves
import Derived.Shelf.Abstract
import Derived.Shelf.RegionOpen
import Derived.WalkKit
import Derived.OwnWalkIn
import Derived.TacticsInMore
import Derived.LoopNIn
import Derived.LoopIn
import Derived.Test.YtbkgklpihnfnjaaGreatDoorJc
import Derived.Test.YtbkgklpihnfnjaaGreatDoorJd
set_option linter.unusedVariables false
set_option linter.unusedSimpArgs false
set_option linter.unusedSectionVars false
namespace Go.Proofs.YtbkgklpihnfnjaaGreatDoor
open Go.Proofs.Tryz
open Go.Proofs Go.Lib Go.Shelf Go.RowKit
theorem pl164 : Places prog 164 #[(0, 1), (1, 1), (2, 1)] [.str ⟨#[]⟩, .raw (.slice none 0 0), .raw (.slice none 0 0)] := ⟨_, _, Zo, Yu, fun w => by kernel_rfl, rfl⟩
set_option maxRecDepth 20000
variable {E : World}
theorem indexFuncS_spec {p : ByteArray → Bool} {fn : FuncId} {c : List AV} (xs : List ByteArray) (hl : xs.length ≤ 281474976710656) (hp : ∀ x ∈ xs, AFun prog E fn ([.str x] ++ c) (.bool (p x))) :
  AFun prog E 213 [.fro 1 (xs.map encS), .fn fn [] c] (.int .i64 (firstI p xs 0)) := by
 refine zk func213 Z (by decide) Z<|zSr<|zVzAi Z<|z6<|zb<|zSr<|zVzMf Z<|zVGvlenM jh Z<|zVzMi Z<|z6<|zg<|y3 (γ := Nat) [0, 1, 7] (fun k => [(8, .int .i64 k)]) (fun k => []) (fun k => k ≤ xs.length ∧ (xs.take k).all (fun x => !p x)) (fun k => xs.length - k) 0 zR1 zLe (⟨qg _, Z⟩) ?_
 rintro k ⟨hk, hall⟩
 refine zSr<|zVGvlss Z Z<|z6<|zb<|zr Z (fun ck=>?_) (fun ck=>?_)
 ·have hk2 : k < xs.length := by omega
  refine zf<|zb<|zg<|zSr<|zVzMi Z<|zVzAi Z<|z6<|zSr<|z8 (y9 (v := .fn _ _ _) Z)<|zVzMf Z<|zVzMi Z<|z8 (yi jh jx Z Z Z (qd (by omega)))<|z8 (ya (c := .str _) Z5 Z)<|AOps.callVP Z (hp _ (qh hk2)) Z<|z6<|zz Z (fun cp=>?_) (fun cp=>?_)
  ·refine zSr<|zVzMi Z<|zVzAi Z<|z6<|ze<|zi (x := .int _ _) Z ?_
   rw [firstI_drop p xs k hk hall, List.drop_eq_getElem_cons hk2, firstI, if_pos cp]
  ·refine zf<|zRg<|zVzAd Z Z<|zVzMi Z<|z6 ?_
   exact ⟨k + 1, zR3, zR1, zLe, ⟨hk2, by rw [qe hk2, List.all_append, hall]; simp [cp]⟩, by omega⟩
 ·have hkn : k = xs.length := by omega
  refine y2<|zSr<|zVzAi Z<|z6<|ze<|zi (x := .int _ _) Z ?_
  rw [firstI_drop p xs k hk hall, hkn, List.drop_length, firstI]
theorem containsFuncS_spec {p : ByteArray → Bool} {fn : FuncId} {c : List AV} (xs : List ByteArray) (hl : xs.length ≤ 281474976710656) (hp : ∀ x ∈ xs, AFun prog E fn ([.str x] ++ c) (.bool (p x))) :
  AFun prog E 203 [.fro 1 (xs.map encS), .fn fn [] c] (.bool (xs.any p)) := by
 refine zk func203 Z (by decide) Z<|zSr<|zVzAb Z<|z6<|zSr<|zVzMf Z<|z8 (y9 (v := .fn _ _ _) Z)<|zd (indexFuncS_spec xs hl hp) Z<|z8 (qc Z Z)<|zVzAb Z<|z6<|ze<|zi (x := .bool _) Z ?_
 rw [firstI_ge]
theorem names1_spec (s : ByteArray) (hs : s.size ≤ 100000) (hL : Letters E) : AFun prog E 204 ([.str s] ++ []) (.bool (!scanName s)) := by
 refine zk func204 Z (by decide) Z<|zSr<|zVzAb Z<|z6<|zSr<|z8 (y9 (v := .str _) Z)<|zd (zname_spec s (by omega) hL) Z<|zVGvnot Z<|zVzAb Z<|z6<|ze<|zi (x := .bool _) Z ?_
 rfl
def namesOk (l : List ByteArray) : Bool := l.all scanName
theorem names_spec (l : List ByteArray) (hl : l.length ≤ 100000) (hs : ∀ w ∈ l, w.size ≤ 100000) (hL : Letters E) : AFun prog E 184 [.fro 1 (l.map encS)] (.bool (namesOk l)) := by
 refine zk func184 Z (by decide) Z<|zSr<|zVzAb Z<|z6<|zSr<|zVzMf Z<|zd (containsFuncS_spec l (by omega) (fun x hx => names1_spec x (hs x hx) hL)) Z<|zVGvnot Z<|zVzAb Z<|z6<|ze<|zi (x := .bool _) Z ?_
 unfold namesOk; rw [List.any_eq_not_all_not]; simp
inductive PItem where
 | phi (dst : ByteArray) (from_ args : List ByteArray)
 | inst (op : Int) (dst : ByteArray) (args : List ByteArray) (num : Int)
deriving DecidableEq
def encItem : PItem → List AV
 | .phi d f a => [.ifc 164 (.agg [.str d, .fro 1 (f.map encS), .fro 1 (a.map encS)])]
 | .inst op d a n => [.ifc 168 (.agg [.int .i64 op, .str d, .fro 1 (a.map encS), .int .i64 n])]
def evens : List ByteArray → List ByteArray
 | [] => []
 | [_] => []
 | a :: _ :: l => a :: evens l
def odds : List ByteArray → List ByteArray
 | [] => []
 | [_] => []
 | _ :: b :: l => b :: odds l
theorem evens_step {w : List ByteArray} {k : Nat} (h : 2 * k + 1 < w.length) : evens (w.drop (2 * k)) = w[2 * k] :: evens (w.drop (2 * (k + 1))) := by
 rw [List.drop_eq_getElem_cons (by omega), List.drop_eq_getElem_cons (by omega : 2 * k + 1 < w.length)]; rfl
theorem odds_step {w : List ByteArray} {k : Nat} (h : 2 * k + 1 < w.length) : odds (w.drop (2 * k)) = w[2 * k + 1] :: odds (w.drop (2 * (k + 1))) := by
 rw [List.drop_eq_getElem_cons (by omega), List.drop_eq_getElem_cons (by omega : 2 * k + 1 < w.length)]; rfl
theorem evens_end {w : List ByteArray} (h : w.length < 2) : evens w = [] := by
 match w, h with
 | [], _ => rfl
 | [_], _ => rfl
theorem odds_end {w : List ByteArray} (h : w.length < 2) : odds w = [] := by
 match w, h with
 | [], _ => rfl
 | [_], _ => rfl
def phiOk (w : List ByteArray) : Bool := decide (2 ≤ (w.length : Int)) && (decide ((w.length : Int).tmod 2 = 0) && namesOk w)
theorem tphi_spec (dst : ByteArray) (w : List ByteArray) (hl : w.length ≤ 100000) (hs : ∀ x ∈ w, x.size ≤ 100000) (hL : Letters E) :
  AFun prog E 186 [.str dst, .fro 1 (w.map encS)] (.tup [.ifc 164 (.agg [.str dst, .fro 1 ((evens w).map encS), .fro 1 ((odds w).map encS)]), .bool (phiOk w)]) := by
 refine zk func186 Z (by decide) Z<|zSr<|zVzAr Z<|zVzAb Z<|z6<|zSr<|z8 (y9 (v := .str _) Z)<|z8 (y4 (cps := [(0, [_])]) (rs := [_, .raw (.slice none 0 0), .raw (.slice none 0 0)]) pl164 Z Z Z)<|zq (cs := [.str ⟨#[]⟩, .raw (.slice none 0 0), .raw (.slice none 0 0)]) Yu Z Z<|fun i6 => zm sizeOf164 Z Z Z Z Z Z .head Z<|z6<|zb<|zSr<|zVzAi Z<|z6<|zg<|adoptC_wp (off := 1) (k := 1) (T := 9) (fun _ => .head) Z<|fun iF => adoptC_wp (off := 2) (k := 1) (T := 9) (fun _ => .t1) Z<|fun iA => y3 (γ := Nat × List ByteArray × List ByteArray × Nat × Nat) [1, 6] (fun g => [(7, .int .i64 ((2 * g.1 : Nat) : Int))]) (fun g => [(g.2.2.2.2, .grow 1 9 (g.2.2.1.map encS).flatten), (g.2.2.2.1, .grow 1 9 (g.2.1.map encS).flatten), (i6, .cells 164 [.str dst, .own g.2.2.2.1 g.2.1.length, .own g.2.2.2.2 g.2.2.1.length])]) (fun g => 2 * g.1 ≤ w.length ∧ g.2.1.length = g.1 ∧ g.2.2.1.length = g.1 ∧ g.2.1 ++ evens (w.drop (2 * g.1)) = evens w ∧ g.2.2.1 ++ odds (w.drop (2 * g.1)) = odds w) (fun g => w.length - g.1) (0, [], [], iF, iA) zR1 zLe (⟨qg _, Z, Z, Z, Z⟩) ?_
 rintro ⟨k, fs, az, jF, jA⟩ ⟨hk, hf, ha, hfe, hae⟩
 try dsimp only at *
 refine zb<|zSr<|zVzMi Z<|zVzAd Z Z<|zVzMf Z<|zVGvlenM jh Z<|zVGvlss Z Z<|z6<|zr Z (fun ck=>?_) (fun ck=>?_)
 ·have hk1 : 2 * k + 1 < w.length := by omega
  refine zf<|zb<|yn (γ := Nat × Nat) [1, 6, 7] (fun q => []) (fun q => [(q.2, .grow 1 9 ((az ++ [w[2 * k + 1]]).map encS).flatten), (q.1, .grow 1 9 ((fs ++ [w[2 * k]]).map encS).flatten), (i6, .cells 164 [.str dst, .own q.1 (fs.length + 1), .own q.2 (az.length + 1)])]) (fun q => True) ?_ (fun _ _ h => h) ?_
  ·refine zg<|zw (fun j => Nat.beq j 18 || Nat.beq j 20) (by kernel_rfl) Z (zu (.l (.l (.r (.rest _)))))<|zTk 0 Z (zc Zo Z Zm (by decide) Z Z)<|zTk 1 Z (zj (c := .own _ _) Xb Z ⟨_, .head⟩ Z)<|zTk 2 Z (zMf Z)<|zTk 3 Z (zMi Z)<|zTk 4 Z (yi jh jx Z Z Z (qd (by omega)))<|zTk 5 Z (ya (c := .str _) Z5 Z)<|zTk 8 Z (zc Zo Z Zm (by decide) Z Z)<|zTk 9 Z (zj (c := .own _ _) Xb Z ⟨_, .head⟩ Z)<|yd (i := 10) Z (by kernel_rfl) (by kernel_rfl) (by kernel_rfl) (by kernel_rfl) (zMf Z)<|yd (i := 11) Z (by kernel_rfl) (by kernel_rfl) (by kernel_rfl) (by kernel_rfl) (zMi Z)<|yd (i := 12) Z (by kernel_rfl) (by kernel_rfl) (by kernel_rfl) (by kernel_rfl) (zAd Z Z)<|yd (i := 13) Z (by kernel_rfl) (by kernel_rfl) (by kernel_rfl) (by kernel_rfl) (zIM (2 * k + 1) jh jx Z Z (by omega) (qd (by omega)))<|yd (i := 14) Z (by kernel_rfl) (by kernel_rfl) (by kernel_rfl) (by kernel_rfl) (ya (c := .str _) Z5 Z)<|yy (i := 6) (j := 15) Z Z (by kernel_rfl) ?_ ?_
   ·refine zl (rows := [[_]]) ps88_1 Z Z Z Z Z<|z6<|yy (i := 7) (j := 15) Z Z (by kernel_rfl) ?_ ?_
    ·refine zy (k := 1) jh type9 Z Z Z Z Z (fun _ => .t1) (by rw [grow_len (k := 1) (fun _ => rfl)]) (by decide) Z (by show (_ + _) * 16 ≤ _; simp <;> omega) (by simp <;> omega)<|fun i24 => z6<|zTk 17 Z (zc Zo Z Zm (by decide) Z Z)<|zOn 15 Z<|zl (rows := [[_]]) ps88_1 Z Z Z Z Z<|z6<|zOn 16 Z<|zy (k := 1) jh type9 Z Z Z Z Z (fun _ => .head) (by rw [grow_len (k := 1) (fun _ => rfl)]) (by decide) Z (by show (_ + _) * 16 ≤ _; simp <;> omega) (by simp <;> omega)<|fun i33 => z6<|yb<|y7 (i := 18) Z (by kernel_rfl) (by kernel_rfl)<|y5 (l := [_]) (new := [_, _, _]) Zm Z Z Z Z Z Z .head Z Z<|z6<|y7 (i := 19) Z (by kernel_rfl) (by kernel_rfl)<|z8 (zc Zo Z Zm (by decide) Z Z)<|z6<|y7 (i := 20) Z (by kernel_rfl) (by kernel_rfl)<|y5 (l := [_]) (new := [_, _, _]) Zm Z Z Z Z Z Z .head Z Z<|y1 (zn (zp .head))<|y1 (zn (zp .t2))<|y1 (zn (zp .t2))<|z6<|yf (by kernel_rfl) ?_
     exact ⟨(i24, i33), zR3, trivial, ⟨_, (.refl _), by rw [← grow_push (enc := encS) (rfl : az ++ [w[2 * k + 1]] = _), ← grow_push (enc := encS) (rfl : fs ++ [w[2 * k]] = _)]; rfl⟩, trivial⟩
    ·refine zl (rows := [[_]]) ps88_1 Z Z Z Z Z<|z6<|zOn 7 Z<|zy (k := 1) jh type9 Z Z Z Z Z (fun _ => .t1) (by rw [grow_len (k := 1) (fun _ => rfl)]) (by decide) Z (by show (_ + _) * 16 ≤ _; simp <;> omega) (by simp <;> omega)<|fun i24 => z6<|zTk 17 Z (zc Zo Z Zm (by decide) Z Z)<|zOn 16 Z<|zy (k := 1) jh type9 Z Z Z Z Z (fun _ => .head) (by rw [grow_len (k := 1) (fun _ => rfl)]) (by decide) Z (by show (_ + _) * 16 ≤ _; simp <;> omega) (by simp <;> omega)<|fun i33 => z6<|yb<|y7 (i := 18) Z (by kernel_rfl) (by kernel_rfl)<|y5 (l := [_]) (new := [_, _, _]) Zm Z Z Z Z Z Z .head Z Z<|z6<|y7 (i := 19) Z (by kernel_rfl) (by kernel_rfl)<|z8 (zc Zo Z Zm (by decide) Z Z)<|z6<|y7 (i := 20) Z (by kernel_rfl) (by kernel_rfl)<|y5 (l := [_]) (new := [_, _, _]) Zm Z Z Z Z Z Z .head Z Z<|y1 (zn (zp .head))<|y1 (zn (zp .t2))<|y1 (zn (zp .t2))<|z6<|yf (by kernel_rfl) ?_
     exact ⟨(i24, i33), zR3, trivial, ⟨_, (.refl _), by rw [← grow_push (enc := encS) (rfl : az ++ [w[2 * k + 1]] = _), ← grow_push (enc := encS) (rfl : fs ++ [w[2 * k]] = _)]; rfl⟩, trivial⟩
   ·refine zl (rows := [[_]]) ps88_1 Z Z Z Z Z<|z6<|zOn 6 Z<|zl (rows := [[_]]) ps88_1 Z Z Z Z Z<|z6<|zOn 7 Z<|zy (k := 1) jh type9 Z Z Z Z Z (fun _ => .t1) (by rw [grow_len (k := 1) (fun _ => rfl)]) (by decide) Z (by show (_ + _) * 16 ≤ _; simp <;> omega) (by simp <;> omega)<|fun i24 => z6<|zTk 17 Z (zc Zo Z Zm (by decide) Z Z)<|zOn 16 Z<|zy (k := 1) jh type9 Z Z Z Z Z (fun _ => .head) (by rw [grow_len (k := 1) (fun _ => rfl)]) (by decide) Z (by show (_ + _) * 16 ≤ _; simp <;> omega) (by simp <;> omega)<|fun i33 => z6<|yb<|y7 (i := 18) Z (by kernel_rfl) (by kernel_rfl)<|y5 (l := [_]) (new := [_, _, _]) Zm Z Z Z Z Z Z .head Z Z<|z6<|y7 (i := 19) Z (by kernel_rfl) (by kernel_rfl)<|z8 (zc Zo Z Zm (by decide) Z Z)<|z6<|y7 (i := 20) Z (by kernel_rfl) (by kernel_rfl)<|y5 (l := [_]) (new := [_, _, _]) Zm Z Z Z Z Z Z .head Z Z<|y1 (zn (zp .head))<|y1 (zn (zp .t2))<|y1 (zn (zp .t2))<|z6<|yf (by kernel_rfl) ?_
    exact ⟨(i24, i33), zR3, trivial, ⟨_, (.refl _), by rw [← grow_push (enc := encS) (rfl : az ++ [w[2 * k + 1]] = _), ← grow_push (enc := encS) (rfl : fs ++ [w[2 * k]] = _)]; rfl⟩, trivial⟩
  ·rintro ⟨jF, jA⟩ _
   refine zRg<|zVzMi Z<|zVzAd Z Z<|zVzAi Z<|z6 ?_
   exact ⟨(k + 1, fs ++ [w[2 * k]], az ++ [w[2 * k + 1]], jF, jA), zR2, ⟨congrArg (AV.int .i64) (by dsimp only; omega), trivial⟩, ⟨_, (.refl _), by dsimp only; rw [qj, qj]; rfl⟩, ⟨by dsimp only; omega, by simp [hf], by simp [ha], by dsimp only; rw [← hfe, evens_step hk1]; simp, by dsimp only; rw [← hae, odds_step hk1]; simp⟩, by dsimp only; omega⟩
 ·have hend : (w.drop (2 * k)).length < 2 := by rw [List.length_drop]; omega
  rw [evens_end hend, List.append_nil] at hfe
  rw [odds_end hend, List.append_nil] at hae
  refine zt (ym (off := 1) (rows := fs.map encS) .t1 .t1 Z (by intro r hr; obtain ⟨x, _, rfl⟩ := List.mem_map.1 hr; rfl) (by decide) (by simp))<|zt (ym (off := 2) (rows := az.map encS) .head .head Z (by intro r hr; obtain ⟨x, _, rfl⟩ := List.mem_map.1 hr; rfl) (by decide) (by simp))<|y2<|zb<|zw (fun j => false) (by kernel_rfl) Z (zu (.r (.rest _)))<|zTk 0 Z (yg isAgg164 sizeOf164 Z ⟨_, .head⟩ Z)<|zTk 1 Z (Gv.mkI Zo Z Z)<|zTk 2 Z (zMf Z)<|zTk 3 Z (Gv.lenM jh Z)<|zTk 4 Z (qc Z Z)<|zTk 5 Z (zMb Z)<|qb (s := 41) Z (fun c1=>?_) (fun c1=>?_)
  ·refine zTt 6 Z Z Z c1 (zMf Z)<|zTt 7 Z Z Z c1 (Gv.lenM jh Z)<|zTt 8 Z Z Z c1 (Gv.rem Z Z (by decide))<|zTt 9 Z Z Z c1 (Gv.eqlI Z Z)<|zTk 10 Z (zPt Z c1 Z)<|zTk 11 Z (zMb Z)<|qb (s := 47) Z (fun c2=>?_) (fun c2=>?_)
   ·refine zTt 12 Z Z Z c2 (zMf Z)<|zOn 13 Z<|za Z Z c2<|zd (names_spec w (by omega) hs hL) Z<|z6<|zTk 14 Z (zPt Z c2 Z)<|zTk 15 Z (y8 (v := .ifc _ _) Z)<|zTk 16 Z (zAb Z)<|zDn<|ze<|yp (x := .ifc _ _) (y := .bool _) Z Z ?_
    rw [hfe, hae]; exact congrArg (fun b => AV.tup [.ifc 164 (.agg [.str dst, .fro 1 ((evens w).map encS), .fro 1 ((odds w).map encS)]), .bool b]) (by unfold phiOk; simp_all <;> (intros; omega))
   ·refine zTf 12 Z Z Z c2<|zTf 13 Z Z Z c2<|zTk 14 Z (zPf Z c2 Z)<|zTk 15 Z (y8 (v := .ifc _ _) Z)<|zTk 16 Z (zAb Z)<|zDn<|ze<|yp (x := .ifc _ _) (y := .bool _) Z Z ?_
    rw [hfe, hae]; exact congrArg (fun b => AV.tup [.ifc 164 (.agg [.str dst, .fro 1 ((evens w).map encS), .fro 1 ((odds w).map encS)]), .bool b]) (by unfold phiOk; simp_all <;> (intros; omega))
  ·refine zTf 6 Z Z Z c1<|zTf 7 Z Z Z c1<|zTf 8 Z Z Z c1<|zTf 9 Z Z Z c1<|zTk 10 Z (zPf Z c1 Z)<|zTk 11 Z (zMb Z)<|zTf 12 Z Z Z Z<|zTf 13 Z Z Z Z<|zTk 14 Z (zPf Z Z Z)<|zTk 15 Z (y8 (v := .ifc _ _) Z)<|zTk 16 Z (zAb Z)<|zDn<|ze<|yp (x := .ifc _ _) (y := .bool _) Z Z ?_
   rw [hfe, hae]; exact congrArg (fun b => AV.tup [.ifc 164 (.agg [.str dst, .fro 1 ((evens w).map encS), .fro 1 ((odds w).map encS)]), .bool b]) (by unfold phiOk; simp_all <;> (intros; omega))
end Go.Proofs.YtbkgklpihnfnjaaGreatDoor
namespace Go.Proofs.YtbkgklpihnfnjaaGreatDoor
open Go.Proofs.Tryz
open Go Go.RowKit Go.Shelf Go.Proofs
attribute [local go_sem] Oper.semAt_some
def upto (k : Nat) : List Int := (List.range k).map fun j : Nat => (j : Int)
theorem upto_succ (k : Nat) : upto (k + 1) = upto k ++ [(k : Int)] := by simp [upto, List.range_succ]
theorem upto_length (k : Nat) : (upto k).length = k := by simp [upto]
theorem word_calls (op : Int) (W : World) : Calls prog 85 #[.int .i64 op] W fun e w' => e = .returned (.string (kRow op).1) ∧ Below W.heap.size W w' :=
 (AFun.call (word_spec op) ⟨_, _, rfl, rfl, rfl⟩ rfl).mono (by rintro e w' ⟨v, rfl, rfl, h⟩; exact ⟨rfl, h⟩)
theorem keepsOthers_below {W w' : World} (hb : Below W.heap.size W w') : KeepsOthers W w' := ⟨hb.size, fun k o hk _ => (hb.block k (Array.getElem?_eq_some_iff.1 hk).1).trans hk⟩
set_option maxRecDepth 100000 in
set_option maxHeartbeats 2000000 in
theorem all1_in (F : Fence) (n : Nat) (h7 : F.fn 216) (hro : F.round = none) (hn : 1 ≤ n) (l n₀ : Nat) (J Jx : List Int → World → Prop)
  (hY : ∀ pre x W, J pre W → pre.length < 27 → YieldAt F (n - 1) prog l #[.int .i64 x] W fun e W' =>
   (e = .returned (.bool true) ∧ J (pre ++ [x]) W' ∧ Below n₀ W W') ∨ (e = .returned (.bool false) ∧ Jx (pre ++ [x]) W'))
  (W : World) (h0 : J [] W) :
  CallsIn F n prog 216 #[.func (.yield l) #[] #[]] W fun e W' => (∃ v, e = .returned v) ∧
   ((∃ ys, ys = upto 27 ∧ J ys W') ∨ (∃ pre, (∃ k, k ≤ 27 ∧ pre = upto k) ∧ Jx pre W')) := by
 refine callsIn_of_wp func216 Z h7 ?_ hro
 simp only [Tryz.ntmps216, List.size_toArray, List.length_cons, List.length_nil, Nat.reduceAdd, Nat.reduceSub, Array.replicate_succ, Array.replicate_zero, List.push_toArray, List.append_toArray, List.nil_append, List.cons_append]
 gi_wp2
 gi_loopw [2] (fun i wr => ∃ k : Nat, k ≤ 27 ∧ i = .int .i64 k ∧ J (upto k) wr)
  (fun i _ => 27 - (intOf i).toNat)
 case atStart => exact ⟨0, qg _, rfl, h0⟩
 case round =>
  obtain ⟨k, hk, rfl, hJs⟩ := hrel
  by_cases hlt : k < 27
  ·obtain ⟨fn, tmps, assign, body, hy, hR⟩ := hY _ (k : Int) wr hJs (by rw [upto_length]; exact hlt)
   gi_wp2
   refine hR.mono ?_
   rintro e W3 (⟨rfl, hJ3, hk3⟩ | ⟨rfl, hJx3⟩)
   ·gi_wp2
    go_roundw
    case rel => exact ⟨k + 1, by omega, by simp, by rw [upto_succ]; exact hJ3⟩
    case measure => simp [intOf]; omega
   ·gi_wp2
    refine bodyPost_ret (results_none Z _ _ _) Z ?_
    exact ⟨⟨_, rfl⟩, .inr ⟨_, ⟨k + 1, by omega, (upto_succ _).symm⟩, hJx3⟩⟩
  ·obtain rfl : k = 27 := by omega
   gi_wp2
   go_end0
   exact ⟨⟨_, rfl⟩, .inl ⟨_, rfl, hJs⟩⟩
theorem all_stops (F : Fence) (n : Nat) (h7 : F.fn 216) (hro : F.round = none) (hn : 1 ≤ n) (n₀ : Nat) (w : World) :
  SeqStopsK F n prog 216 #[] (fun x : Int => #[Value.int .i64 x]) (Below n₀) (fun ys => ys = upto 27) (fun pre => ∃ k, k ≤ 27 ∧ pre = upto k) 27 w := fun l J Jx W _ _ _ hY h0 =>
 all1_in F n h7 hro hn l n₀ J Jx hY W h0
set_option maxHeartbeats 1000000 in
theorem all_in (F : Fence) (n : Nat) (h5 : F.fn 214) (hro : F.round = none) (w : World) :
  CallsIn F n prog 214 #[] w fun e w' => e = .returned (.func (.func 216) #[] #[]) ∧ w' = w := by
 refine callsIn_of_wp func214 Z h5 ?_ hro
 simp only [Tryz.ntmps214, List.size_toArray, List.length_cons, List.length_nil, Nat.reduceAdd, Nat.reduceSub, Array.replicate_succ, Array.replicate_zero, List.push_toArray, List.append_toArray, List.nil_append, List.cons_append]
 gi_wp2
 go_ret
 exact ⟨rfl, rfl⟩
def isOpW (w : ByteArray) : Bool := kindT.any (fun r => decide (r.1 = w))
def opOf (w : ByteArray) : Int := if isOpW w then firstI (fun r => decide (r.1 = w)) kindT 0 else 0
theorem cell_new_q (W : World) (v : Value) (t : TypeId) : (W.alloc (.cells #[v] t)).cell? ⟨W.heap.size, 0, none⟩ = some v ∧ (W.alloc (.cells #[v] t)).frozen? ⟨W.heap.size, 0, none⟩ = false :=
 by have h := World.alloc_heap_new W (.cells #[v] t); exact ⟨by simp only [World.cell?, h]; simp, by simp only [World.frozen?, h]; simp⟩
theorem cell_alloc_q {W : World} {a : Addr} {v : Value} (o : Obj) (h : W.cell? a = some v) : (W.alloc o).cell? a = some v := cell_kept h (World.grownBy_alloc W o none) (fun r e => by cases e)
theorem frozen_alloc_q {W : World} {a : Addr} {v : Value} (o : Obj) (h : W.cell? a = some v) (hf : W.frozen? a = false) : (W.alloc o).frozen? a = false := (frozen_kept h (World.grownBy_alloc W o none) (fun r e => by cases e)).trans hf
theorem lt_of_cell {W : World} {p : Addr} {v : Value} (h : W.cell? p = some v) : p.block < W.heap.size := by
 by_cases hl : p.block < W.heap.size
 ·exact hl
 ·simp [World.cell?, Array.getElem?_eq_none (by omega : W.heap.size ≤ p.block)] at h
set_option maxRecDepth 100000 in
set_option maxHeartbeats 4000000 in
theorem ofW_in (word : ByteArray) (w : World) : Calls prog 205 #[.string word] w fun e W' =>
  ((∃ k : Nat, k < 27 ∧ e = .returned (.tuple #[.int .i64 k, .bool true]) ∧ (kRow k).1 = word ∧ ∀ j : Nat, j < k → (kRow j).1 ≠ word) ∨ (e = .returned (.tuple #[.int .i64 0, .bool false]) ∧ ∀ j : Nat, j < 27 → (kRow j).1 ≠ word)) ∧ Below w.heap.size w W' := by
 refine (callsIn_wide (n := 3)).1 ?_
 have hro : Fence.wide.round = none := rfl
 refine callsIn_of_wp_marks func205 Z trivial ?_ hro
 simp only [Tryz.ntmps205, List.size_toArray, List.length_cons, List.length_nil, Nat.reduceAdd, Nat.reduceSub, Array.replicate_succ, Array.replicate_zero, List.push_toArray, List.append_toArray, List.nil_append, List.cons_append]
 gi_wp2_with (refine ⟨trivial, ?_⟩; gi_at_call 214; refine (all_in _ _ trivial rfl _).mono ?_; rintro e w' ⟨rfl, rfl⟩)
 have c0 := cell_new_q w (.string word) 9
 have c1 := cell_new_q (w.alloc (.cells #[.string word] 9)) (.int .i64 0) 39
 have c2 := cell_new_q ((w.alloc (.cells #[.string word] 9)).alloc (.cells #[.int .i64 0] 39)) (.bool false) 4
 simp only [World.size_alloc] at c1 c2
 have hB0 : Below w.heap.size w (((w.alloc (.cells #[.string word] 9)).alloc (.cells #[.int .i64 0] 39)).alloc (.cells #[.bool false] 4)) := (((Below.refl _ w).alloc (Nat.le_refl _) _).alloc (by simp) _).alloc (by simp; omega) _
 refine wpIn_rangeFunc_ownF hro (by omega) (gf := 216) (lb := #[]) rfl trivial (enters_of func216 (by kernel_rfl) rfl)
  (all_stops Fence.wide _ trivial hro (by omega) w.heap.size _) belowK_t (belowK_b (by simp; omega)) (Below.refl _ _) (fun _ => rfl)
  (fun pre W => ((∀ y ∈ pre, (kRow y).1 ≠ word) ∧ W.cell? ⟨w.heap.size, 0, none⟩ = some (.string word) ∧ (W.cell? ⟨w.heap.size + 1, 0, none⟩ = some (.int .i64 0) ∧ W.frozen? ⟨w.heap.size + 1, 0, none⟩ = false) ∧ W.cell? ⟨w.heap.size + 1 + 1, 0, none⟩ = some (.bool false) ∧ W.frozen? ⟨w.heap.size + 1 + 1, 0, none⟩ = false) ∧ Below w.heap.size w W)
  (fun c pre W => (c = .ret ∧ (∃ x p, pre = p ++ [x] ∧ (∀ y ∈ p, (kRow y).1 ≠ word) ∧ (kRow x).1 = word ∧ W.cell? ⟨w.heap.size + 1, 0, none⟩ = some (.int .i64 x)) ∧ W.cell? ⟨w.heap.size + 1 + 1, 0, none⟩ = some (.bool true)) ∧ Below w.heap.size w W)
  ?hI ?hIx ?h0
  (fun x => { tmps := #[.string word, .pointer (some ⟨w.heap.size, 0, none⟩), .pointer (some ⟨w.heap.size + 1, 0, none⟩), .pointer (some ⟨w.heap.size + 1 + 1, 0, none⟩), .int .i64 x, .func (.func 216) #[] #[], .int .i64 x, undef, undef, undef, undef, undef], defers := [] }) ?assign ?body ?done ?stop
 case hI => exact OwnFrom.and (Own.from (fun s A B row hs hg hr => ⟨hs.1, cell_kept hs.2.1 hg hr, ⟨cell_kept hs.2.2.1.1 hg hr, (frozen_kept hs.2.2.1.1 hg hr).trans hs.2.2.1.2⟩, cell_kept hs.2.2.2.1 hg hr, (frozen_kept hs.2.2.2.1 hg hr).trans hs.2.2.2.2⟩) _) (ownFrom_below (Nat.le_refl _) (by simp; omega))
 case hIx => exact fun c => OwnFrom.and (Own.from (fun s A B row hs hg hr => ⟨hs.1, (let ⟨x, p, e, h1, h2, h3⟩ := hs.2.1; ⟨x, p, e, h1, h2, cell_kept h3 hg hr⟩), cell_kept hs.2.2 hg hr⟩) _) (ownFrom_below (Nat.le_refl _) (by simp; omega))
 case h0 => exact ⟨⟨by simp, cell_alloc_q _ (cell_alloc_q _ c0.1), ⟨cell_alloc_q _ c1.1, frozen_alloc_q _ c1.1 c1.2⟩, c2.1, c2.2⟩, hB0⟩
 case assign =>
  intro l x W K hK
  gi_wp2
  exact hK
 case body =>
  rintro l pre x W ⟨⟨hp, hcw, ⟨hc2, hf2⟩, hc3, hf3⟩, hB⟩ _
  have hlt := lt_of_cell hc3
  simp only at hlt
  have hmx : prog.follows .mixedOrders = true := by kernel_rfl
  gi_wp2
  gi_region_with_o (refine ⟨trivial, ?_⟩; gi_at_call 85; refine (CallsIn.inRound l (callsIn_wide.2 (word_calls x _))).mono ?_; rintro e w' ⟨rfl, hb⟩; have hcw' := (hb.cell (p := ⟨w.heap.size, 0, none⟩) (by simp; omega)).trans hcw; have hc2' := (hb.cell (p := ⟨w.heap.size + 1, 0, none⟩) (by simp; omega)).trans hc2; have hc3' := (hb.cell (p := ⟨w.heap.size + 1 + 1, 0, none⟩) (by simp; omega)).trans hc3; have hf2' := (hb.frozen (p := ⟨w.heap.size + 1, 0, none⟩) (by simp; omega)).trans hf2; have hf3' := (hb.frozen (p := ⟨w.heap.size + 1 + 1, 0, none⟩) (by simp; omega)).trans hf3)
  all_goals gi_wp2
  all_goals (try go_bits)
  all_goals rename_i hx
  all_goals rw [bytes_eq] at hx
  all_goals have hB1 : Below w.heap.size W.drew w' := hb.mono hB.size
  all_goals have hB2 : Below w.heap.size W w' := ⟨hB1.os, hB1.tape, hB1.output, hB1.size, hB1.block⟩
  all_goals have hk2 : KeepsOthers W w' := (KeepsOthers.drew W).trans (keepsOthers_below hb)
  all_goals first
   | exact ⟨hk2, hB2, ⟨fun y hy => (List.mem_append.1 hy).elim (hp y) (fun e e' => by simp at e; subst e; exact of_decide_eq_false hx e'), hcw', ⟨hc2', hf2'⟩, hc3', hf3'⟩, hB.trans hB2⟩
   | exact ⟨(hk2.trans (KeepsOthers.setCell _ _ _)).trans (KeepsOthers.setCell _ _ _), ⟨rfl, ⟨x, pre, rfl, hp, of_decide_eq_true hx, (World.cell?_setCell_other _ _ _ _ (by simp)).trans (World.cell?_setCell_same' _ _ _ (by rw [hc2']; rfl))⟩, World.cell?_setCell_same' _ _ _ (by rw [World.cell?_setCell_other _ _ _ _ (by simp), hc3']; rfl)⟩, ((hB.trans hB2).setCell (p := ⟨w.heap.size + 1, 0, none⟩) (by simp) _).setCell (p := ⟨w.heap.size + 1 + 1, 0, none⟩) (by simp; omega) _⟩
 case done =>
  rintro D xs W hD rfl ⟨⟨hne, _, ⟨hc2, hf2⟩, hc3, hf3⟩, hB⟩ hK
  have hD2 : w.heap.size ≤ D := by simp at hD; omega
  have hb2 := lt_of_cell hc2
  have hb3 := lt_of_cell hc3
  simp only at hb2 hb3
  gi_wp2
  have hK' := ((KeepsOthers.setCell W ⟨w.heap.size + 1, 0, none⟩ (.int .i64 0)).trans (KeepsOthers.setCell _ ⟨w.heap.size + 1 + 1, 0, none⟩ (.bool false))).same D _ hK rfl
  refine ⟨by simp, .inl ⟨_, _, rfl, run_takeDeferred hK', ?_⟩⟩
  have hca := cell_kept ((World.cell?_setCell_other (W.setCell ⟨w.heap.size + 1, 0, none⟩ (.int .i64 0)) ⟨w.heap.size + 1 + 1, 0, none⟩ ⟨w.heap.size + 1, 0, none⟩ (.bool false) (by simp)).trans (World.cell?_setCell_same' W ⟨w.heap.size + 1, 0, none⟩ (.int .i64 0) (by rw [hc2]; rfl))) (grownBy_putObj' _ D (.deferred none)) (fun r e => by cases e; exact ⟨_, hK', rfl⟩)
  have hcb := cell_kept (World.cell?_setCell_same' (W.setCell ⟨w.heap.size + 1, 0, none⟩ (.int .i64 0)) ⟨w.heap.size + 1 + 1, 0, none⟩ (.bool false) (by rw [World.cell?_setCell_other _ _ _ _ (by simp), hc3]; rfl)) (grownBy_putObj' _ D (.deferred none)) (fun r e => by cases e; exact ⟨_, hK', rfl⟩)
  refine ⟨.tuple #[.int .i64 0, .bool false], ?_, .inr ⟨Z, fun j hj => hne j (List.mem_map.2 ⟨j, List.mem_range.2 hj, Z⟩)⟩, ((hB.setCell (p := ⟨w.heap.size + 1, 0, none⟩) (by simp) _).setCell (p := ⟨w.heap.size + 1 + 1, 0, none⟩) (by simp; omega) _).trans (belowK_b (w := w) (Nat.le_refl _) _ D _ _ hD2 hK' Z Z)⟩
  simp [results, Tryz.f205, go_sem, hca, hcb]
 case stop =>
  rintro D c pre W hD ⟨k, hk, rfl⟩ ⟨⟨rfl, ⟨x, p, hpx, hp, hx, hc2⟩, hc3⟩, hB⟩ hK
  have hD2 : w.heap.size ≤ D := by simp at hD; omega
  gi_wp2
  refine ⟨by simp, .inl ⟨_, _, rfl, run_takeDeferred hK, ?_⟩⟩
  have hca := cell_kept hc2 (grownBy_putObj' _ D (.deferred none)) (fun r e => by cases e; exact ⟨_, hK, rfl⟩)
  have hcb := cell_kept hc3 (grownBy_putObj' _ D (.deferred none)) (fun r e => by cases e; exact ⟨_, hK, rfl⟩)
  have hk0 : k ≠ 0 := fun e => by subst e; simp [upto] at hpx
  obtain ⟨j, rfl⟩ : ∃ j, k = j + 1 := ⟨k - 1, by omega⟩
  rw [upto_succ] at hpx
  obtain ⟨e1, e2⟩ := List.append_inj' hpx rfl
  simp only [List.cons.injEq, and_true] at e2
  subst e1 e2
  refine ⟨.tuple #[.int .i64 j, .bool true], ?_, .inl ⟨j, by omega, rfl, hx, fun i hi => hp i (List.mem_map.2 ⟨i, List.mem_range.2 hi, rfl⟩)⟩, hB.trans (belowK_b (w := w) (Nat.le_refl _) W D _ _ hD2 hK Z Z)⟩
  simp [results, Tryz.f205, go_sem, hca, hcb]
theorem AFun.ofBelowA {E : World} {P : Program} {f : FuncId} {fn : Func} {c : Code} {us1 : List AV} {vs : List Value} {r : AV} (hf : P.funcs[f]? = some fn) (hb : fn.body = some c) (hn : fn.name ≠ "runtime.NumGoroutine") (has : us1 = vs.map lit)
  (h : ∀ w, Below E.heap.size E w → Calls P f vs.toArray w fun e w' => (∃ v, e = .returned v ∧ ∀ I, RepV I r v) ∧ Below w.heap.size w w') : AFun P E f us1 r := fun I F w us h1 h2 => by
 subst has
 rw [lit_uns h1]
 obtain ⟨ht, L, hL, hS⟩ := h2
 have hL : L = [] := hL
 subst hL
 refine Fn.ofCalls hf hb hn ?_
 exact (h w hS.belowE).mono fun e w' ⟨⟨v, he, hv⟩, hw⟩ => ⟨v, he, I, r, [], .refl _, hv I, ⟨ht, [], rfl, hS.below hw⟩, rfl⟩
theorem firstI_at {α : Type} (p : α → Bool) : ∀ (xs : List α) (b k : Nat) (h : k < xs.length), p xs[k] = true → (∀ j (hj : j < k), p (xs[j]'(by omega)) = false) → firstI p xs b = ((b + k : Nat) : Int)
 | x :: xs, b, 0, _, h, _ => by rw [firstI, if_pos (by simpa using h)]; rfl
 | x :: xs, b, k + 1, hk, h, hj => by
  rw [firstI, if_neg (by simpa using hj 0 (by omega)), firstI_at p xs (b + 1) k (by simpa using hk) (by simpa using h) (fun j hj2 => by simpa using hj (j + 1) (by omega))]
  congr 1; omega
theorem kRow_nat {k : Nat} (h : k < kindT.length) : kRow (k : Int) = kindT[k] := by
 unfold kRow; rw [if_pos (by omega), Int.toNat_natCast, qd h]; rfl
theorem ofW_spec {E : World} (word : ByteArray) : AFun prog E 205 [.str word] (.tup [.int .i64 (opOf word), .bool (isOpW word)]) :=
 AFun.ofBelowA (vs := [.string word]) func205 rfl (by decide) rfl fun w _ => (ofW_in word w).mono (by
  rintro e w' ⟨h, hb⟩
  refine ⟨?_, hb⟩
  rcases h with ⟨k, hk, rfl, h1, h2⟩ | ⟨rfl, h2⟩
  ·have hk2 : k < kindT.length := hk
   have hr1 : kindT[k].1 = word := by rw [← kRow_nat hk2]; exact h1
   have hany : isOpW word = true := List.any_eq_true.2 ⟨kindT[k], qh hk2, qq hr1⟩
   have hop : opOf word = (k : Int) := by
    unfold opOf
    rw [if_pos hany, firstI_at _ _ 0 k hk2 (qq hr1) (fun j hj => qr (by rw [← kRow_nat]; exact h2 j hj)), Nat.zero_add]
   rw [hop, hany]
   exact ⟨_, rfl, fun I => ⟨_, rfl, ⟨_, _, rfl, rfl, ⟨_, _, rfl, rfl, rfl⟩⟩⟩⟩
  ·have hany : isOpW word = false := List.any_eq_false.2 fun r hr => by
    obtain ⟨j, hj, rfl⟩ := List.getElem_of_mem hr
    have := h2 j hj
    rw [kRow_nat hj] at this
    simpa using this
   have hop : opOf word = 0 := by unfold opOf; rw [hany]; rfl
   rw [hop, hany]
   exact ⟨_, rfl, fun I => ⟨_, rfl, ⟨_, _, rfl, rfl, ⟨_, _, rfl, rfl, rfl⟩⟩⟩⟩)
end Go.Proofs.YtbkgklpihnfnjaaGreatDoor
namespace Go.Proofs.YtbkgklpihnfnjaaGreatDoor
open Go.Proofs.Tryz
open Go.Proofs Go.Lib Go.Shelf Go.RowKit
theorem pl168 : Places prog 168 #[(0, 1), (1, 1), (2, 1), (3, 1)] [.int .i64 0, .str ⟨#[]⟩, .raw (.slice none 0 0), .int .i64 0] := ⟨_, _, Y2, zeroValue168, fun w => by kernel_rfl, rfl⟩
set_option maxRecDepth 20000
variable {E : World}
def itT : PItem → TypeId
 | .phi _ _ _ => 164
 | .inst _ _ _ _ => 168
def itC : PItem → AV
 | .phi d f a => .agg [.str d, .fro 1 (f.map encS), .fro 1 (a.map encS)]
 | .inst op d a n => .agg [.int .i64 op, .str d, .fro 1 (a.map encS), .int .i64 n]
def itemV (x : PItem) : AV := .ifc (itT x) (itC x)
theorem encItem_eq (x : PItem) : encItem x = [itemV x] := by cases x <;> rfl
def optV : Option PItem → AV
 | none => .any
 | some x => itemV x
def OptR (o : Option PItem) : AV → OL → Prop := fun x _ => ∃ y, x = .tup [y, .bool o.isSome] ∧ ∀ i, o = some i → y = itemV i
theorem opt_ret {o : Option PItem} {y : AV} {b : Bool} {O : OL} (hb : b = o.isSome) (hy : ∀ i, o = some i → y = itemV i) : OptR o (.tup [y, .bool b]) O := ⟨y, by rw [hb], hy⟩
theorem opt_eq {α : Type} {p : Prop} [Decidable p] {x i : α} (h : (if p then some x else none) = some i) : x = i := by
 split at h
 ·cases h; rfl
 ·cases h
theorem opt_none {o : Option PItem} {y : AV} {O : OL} (h : o = none) : OptR o (.tup [y, .bool false]) O := opt_ret (by rw [h]; rfl) (fun i e => by rw [h] at e; cases e)
theorem AFun.opt {f : FuncId} {xs : List AV} {o : Option PItem} (h : ACall prog E f xs [] (OptR o)) : AFun prog E f xs (.tup [optV o, .bool o.isSome]) :=
 ACall.know h fun I F w v x O' ⟨y, hx, hy⟩ hr hs => ⟨I, .tup [optV o, .bool o.isSome], O', .refl _, by
  subst hx
  obtain ⟨vs, e, v1, us, e2, h1, h2⟩ := hr
  refine ⟨vs, e, v1, us, e2, ?_, h2⟩
  cases o with
  | none => trivial
  | some i => rw [hy i rfl] at h1; exact h1, hs, rfl⟩
theorem takesL_len (op : Int) : (takesL op).length ≤ 3 := by
 rcases kRow_mem op with h | h
 ·unfold takesL; rw [h]; decide
 ·have : ∀ r ∈ kindT, r.2.1.data.toList.length ≤ 3 := by decide
  have := this _ h
  unfold takesL; simpa using this
def atW (r : List ByteArray) (k : Nat) : ByteArray := r[k]?.getD ⟨#[]⟩
def opCons (dst h : ByteArray) (r : List ByteArray) : Option PItem :=
 if isOpW h = true ∧ makesB (opOf h) = !decide (dst = ⟨#[]⟩) then
  if isNum (opOf h) = true then
   if r.length = (takesL (opOf h)).length + 1 ∧ numOk (atW r (takesL (opOf h)).length) = true ∧ namesOk (r.take (takesL (opOf h)).length) = true then
    some (.inst (opOf h) dst (r.take (takesL (opOf h)).length) (numV (atW r (takesL (opOf h)).length)))
   else none
  else if r.length = (takesL (opOf h)).length ∧ namesOk r = true then some (.inst (opOf h) dst r 0) else none
 else none
def opItem (dst : ByteArray) : List ByteArray → Option PItem
 | [] => none
 | h :: r => opCons dst h r
set_option maxHeartbeats 1000000 in
theorem operationR (dst : ByteArray) (w : List ByteArray) (hl : w.length ≤ 100000) (hs : ∀ x ∈ w, x.size ≤ 100000) (hL : Letters E) (hT : Pows E) (hV : Vars0 E) :
  ACall prog E 185 [.str dst, .fro 1 (w.map encS)] [] (OptR (opItem dst w)) := by
 refine zk func185 Z (by decide) Z<|zSr<|zVzAr Z<|zVzAb Z<|z6<|zb<|zSr<|zVzMf Z<|zVGvlenM jh Z<|zVGveqlI Z Z<|z6<|zr Z (fun c0=>?_) (fun c0=>?_)
 ·have h0 : w = [] := qn (by omega)
  subst h0
  refine zSr<|zVzAr Z<|zVzAb Z<|z6<|ze<|yp (x := .raw _) (y := .bool _) Z Z ?_
  exact opt_none rfl
 ·obtain ⟨h, r, rfl⟩ : ∃ h r, w = h :: r := by cases w with
   | nil => simp at c0
   | cons h r => exact ⟨h, r, rfl⟩
  have h3 := takesL_len (opOf h)
  have hrl : r.length ≤ 100000 := by simp at hl; omega
  have hrs : ∀ x ∈ r, x.size ≤ 100000 := fun x hx => hs x (.tail _ hx)
  refine zf<|zSr<|zVzMf Z<|z8 (zIM 0 jh jx Z Z Z Z)<|z8 (ya (c := .str _) Z5 Z)<|zd (ofW_spec h) Z<|z8 (zMu Z)<|z8 (zXi Z Z)<|z8 (zXb Z Z)<|zVzAi Z<|zVzAb Z<|z6<|zSr<|zVzMi Z<|zd (makes_spec _) Z<|z8 (zMu Z)<|z8 (zXi Z Z)<|z8 (zXb Z Z)<|zVzAi Z<|zVzAb Z<|z6<|zb<|zSr<|zVzMb Z<|zVGvnot Z<|zVzMb Z<|zo (s := 30) Z (fun co=>?_) (fun co=>?_)
  ·have ho : isOpW h = false := by simpa using co
   refine z7 Z Z co<|z7 Z Z co<|z7 Z Z co<|z7 Z Z co<|zVzPt Z co Z<|z6<|yh Z Z<|zSr<|zVzAr Z<|zVzAb Z<|z6<|ze<|yp (x := .raw _) (y := .bool _) Z Z ?_
   exact opt_none (by show opCons dst h r = none; unfold opCons; rw [if_neg]; rintro ⟨h1, _⟩; rw [ho] at h1; cases h1)
  ·have ho : isOpW h = true := by simpa using co
   refine za Z Z co<|zVzMb Z<|za Z Z co<|z8 (y9 (v := .str _) Z)<|za Z Z co<|z8 (Gv.neqT Z Z)<|za Z Z co<|z8 (Gv.neqB Zw Z Z)<|zVzPf Z co Z<|z6<|zz Z (fun cm=>?_) (fun cm=>?_)
   ·refine zSr<|zVzAr Z<|zVzAb Z<|z6<|ze<|yp (x := .raw _) (y := .bool _) Z Z ?_
    exact opt_none (by show opCons dst h r = none; unfold opCons; rw [if_neg]; rintro ⟨_, hm⟩; rw [hm] at cm; simp at cm)
   ·have hm : makesB (opOf h) = !decide (dst = ⟨#[]⟩) := by simpa using cm
    have hitem : opItem dst (h :: r) = if isNum (opOf h) = true then
      if r.length = (takesL (opOf h)).length + 1 ∧ numOk (atW r (takesL (opOf h)).length) = true ∧ namesOk (r.take (takesL (opOf h)).length) = true then
       some (.inst (opOf h) dst (r.take (takesL (opOf h)).length) (numV (atW r (takesL (opOf h)).length)))
      else none
     else if r.length = (takesL (opOf h)).length ∧ namesOk r = true then some (.inst (opOf h) dst r 0) else none := by
     show opCons dst h r = _; unfold opCons; rw [if_pos ⟨ho, hm⟩]
    refine zf<|zSr<|zVzMi Z<|z8 (y9 (v := .str _) Z)<|z8 (y4 (cps := [(0, [_]), (1, [_])]) (rs := [_, _, .raw (.slice none 0 0), .int .i64 0]) pl168 Z Z Z)<|zq (cs := [.int .i64 0, .str ⟨#[]⟩, .raw (.slice none 0 0), .int .i64 0]) zeroValue168 Z Z<|fun i10 => zm sizeOf168 Z Z Z Z Z Z .head Z<|z6<|zSr<|zVzMi Z<|zd (takes_spec _) Z<|zVGvlenM X4 Z<|zVzAi Z<|z6<|zSr<|zVzMf Z<|z8 (Gv.cutLoM (j := 1) jh jx Z Z Z (by simp))<|z8 (zAf Z)<|z6<|zb<|zSr<|zVzMi Z<|zd (numbered_spec _) Z<|z6<|zz Z (fun cn=>?_) (fun cn=>?_)
    ·rw [if_pos cn] at hitem
     refine zb<|zSr<|zVzMf Z<|zVGvlenM jh Z<|zVzMi Z<|zVzAd Z Z<|zVGvneqI Z Z<|z6<|zz Z (fun cl=>?_) (fun cl=>?_)
     ·refine zSr<|zVzAr Z<|zVzAb Z<|z6<|ze<|yp (x := .raw _) (y := .bool _) Z Z ?_
      exact opt_none (by rw [hitem, if_neg]; rintro ⟨hlen, _⟩; simp at cl; omega)
     ·have hlen : r.length = (takesL (opOf h)).length + 1 := by simp at cl; omega
      have hat : r[(takesL (opOf h)).length]? = some (atW r (takesL (opOf h)).length) := by unfold atW; rw [qd (by omega)]; rfl
      refine zf<|zSr<|zVzMf Z<|zVzMi Z<|z8 (yi (j := (takesL (opOf h)).length) jh jx Z Z Z hat)<|z8 (ya (c := .str _) Z5 Z)<|zd (number_spec (atW r (takesL (opOf h)).length) (hrs _ (qm hat)) hT hV) Z<|z8 (zMu Z)<|z8 (zXi Z Z)<|z8 (zXb Z Z)<|z8 (zc Y2 Z Yl (by decide) Z Z)<|y5 (l := [_]) (new := [_, _, _, _]) Yl Z Z Z Z Z Z .head Z Z<|zVzAb Z<|z6<|zRg<|zVzMf Z<|zVzMi Z<|z8 (Gv.cutHiM (j := (takesL (opOf h)).length) jh jx Z Z Z (by simp; omega))<|z8 (zAf Z)<|z6<|zSr<|zVzMf Z<|z8 (zc Y2 Z Zm (by decide) Z Z)<|y5 (l := [_]) (new := [_, _, _, _]) Zm Z Z Z Z Z Z .head Z Z<|z6<|zb<|zw (fun j => false) (by kernel_rfl) Z (zu (.r (.rest _)))<|zTk 0 Z (yg isAgg168 sizeOf168 Z ⟨_, .head⟩ Z)<|zTk 1 Z (Gv.mkI Y2 Z Z)<|zTk 2 Z (zMb Z)<|zTk 3 Z (zMb Z)<|qb (s := 68) Z (fun c1=>?_) (fun c1=>?_)
      ·refine zTt 4 Z Z Z c1 (zMf Z)<|zTt 5 Z Z Z c1 (Gv.lenM jh Z)<|zTt 6 Z Z Z c1 (zMi Z)<|zTt 7 Z Z Z c1 (Gv.eqlI Z Z)<|zTk 8 Z (zPt Z c1 Z)<|zTk 9 Z (zMb Z)<|qb (s := 74) Z (fun c2=>?_) (fun c2=>?_)
       ·refine zTt 10 Z Z Z c2 (zMf Z)<|zOn 11 Z<|za Z Z c2<|zd (names_spec (r.take (takesL (opOf h)).length) (by rw [qp]; omega) (fun x hx => hrs x (List.mem_of_mem_take hx)) hL) Z<|z6<|zTk 12 Z (zPt Z c2 Z)<|zTk 13 Z (y8 (v := .ifc _ _) Z)<|zTk 14 Z (zAb Z)<|zDn<|ze<|yp (x := .ifc _ _) (y := .bool _) Z Z ?_
        exact opt_ret (by rw [hitem]; simp_all <;> (try (split <;> simp_all)) <;> first | (rename_i hz; exact hz (by omega)) | (intro hz; omega)) (fun i hi => by rw [hitem] at hi; rw [← opt_eq hi]; rfl)
       ·refine zTf 10 Z Z Z c2<|zTf 11 Z Z Z c2<|zTk 12 Z (zPf Z c2 Z)<|zTk 13 Z (y8 (v := .ifc _ _) Z)<|zTk 14 Z (zAb Z)<|zDn<|ze<|yp (x := .ifc _ _) (y := .bool _) Z Z ?_
        exact opt_ret (by rw [hitem]; simp_all <;> (try (split <;> simp_all)) <;> first | (rename_i hz; exact hz (by omega)) | (intro hz; omega)) (fun i hi => by rw [hitem] at hi; rw [← opt_eq hi]; rfl)
      ·refine zTf 4 Z Z Z c1<|zTf 5 Z Z Z c1<|zTf 6 Z Z Z c1<|zTf 7 Z Z Z c1<|zTk 8 Z (zPf Z c1 Z)<|zTk 9 Z (zMb Z)<|zTf 10 Z Z Z Z<|zTf 11 Z Z Z Z<|zTk 12 Z (zPf Z Z Z)<|zTk 13 Z (y8 (v := .ifc _ _) Z)<|zTk 14 Z (zAb Z)<|zDn<|ze<|yp (x := .ifc _ _) (y := .bool _) Z Z ?_
       exact opt_ret (by rw [hitem]; simp_all <;> (try (split <;> simp_all)) <;> first | (rename_i hz; exact hz (by omega)) | (intro hz; omega)) (fun i hi => by rw [hitem] at hi; rw [← opt_eq hi]; rfl)
    ·rw [if_neg (by simpa using cn)] at hitem
     refine zf<|zSr<|zVzMf Z<|z8 (zc Y2 Z Zm (by decide) Z Z)<|y5 (l := [_]) (new := [_, _, _, _]) Zm Z Z Z Z Z Z .head Z Z<|z6<|zb<|zw (fun j => false) (by kernel_rfl) Z (zu (.r (.rest _)))<|zTk 0 Z (yg isAgg168 sizeOf168 Z ⟨_, .head⟩ Z)<|zTk 1 Z (Gv.mkI Y2 Z Z)<|zTk 2 Z (zMb Z)<|zTk 3 Z (zMb Z)<|qb (s := 68) Z (fun c3=>?_) (fun c3=>?_)
     ·refine zTt 4 Z Z Z c3 (zMf Z)<|zTt 5 Z Z Z c3 (Gv.lenM jh Z)<|zTt 6 Z Z Z c3 (zMi Z)<|zTt 7 Z Z Z c3 (Gv.eqlI Z Z)<|zTk 8 Z (zPt Z c3 Z)<|zTk 9 Z (zMb Z)<|qb (s := 74) Z (fun c4=>?_) (fun c4=>?_)
      ·refine zTt 10 Z Z Z c4 (zMf Z)<|zOn 11 Z<|za Z Z c4<|zd (names_spec r hrl hrs hL) Z<|z6<|zTk 12 Z (zPt Z c4 Z)<|zTk 13 Z (y8 (v := .ifc _ _) Z)<|zTk 14 Z (zAb Z)<|zDn<|ze<|yp (x := .ifc _ _) (y := .bool _) Z Z ?_
       exact opt_ret (by rw [hitem]; simp_all <;> (try (split <;> simp_all)) <;> first | (rename_i hz; exact hz (by omega)) | (intro hz; omega)) (fun i hi => by rw [hitem] at hi; rw [← opt_eq hi]; rfl)
      ·refine zTf 10 Z Z Z c4<|zTf 11 Z Z Z c4<|zTk 12 Z (zPf Z c4 Z)<|zTk 13 Z (y8 (v := .ifc _ _) Z)<|zTk 14 Z (zAb Z)<|zDn<|ze<|yp (x := .ifc _ _) (y := .bool _) Z Z ?_
       exact opt_ret (by rw [hitem]; simp_all <;> (try (split <;> simp_all)) <;> first | (rename_i hz; exact hz (by omega)) | (intro hz; omega)) (fun i hi => by rw [hitem] at hi; rw [← opt_eq hi]; rfl)
     ·refine zTf 4 Z Z Z c3<|zTf 5 Z Z Z c3<|zTf 6 Z Z Z c3<|zTf 7 Z Z Z c3<|zTk 8 Z (zPf Z c3 Z)<|zTk 9 Z (zMb Z)<|zTf 10 Z Z Z Z<|zTf 11 Z Z Z Z<|zTk 12 Z (zPf Z Z Z)<|zTk 13 Z (y8 (v := .ifc _ _) Z)<|zTk 14 Z (zAb Z)<|zDn<|ze<|yp (x := .ifc _ _) (y := .bool _) Z Z ?_
      exact opt_ret (by rw [hitem]; simp_all <;> (try (split <;> simp_all)) <;> first | (rename_i hz; exact hz (by omega)) | (intro hz; omega)) (fun i hi => by rw [hitem] at hi; rw [← opt_eq hi]; rfl)
theorem operation_spec (dst : ByteArray) (w : List ByteArray) (hl : w.length ≤ 100000) (hs : ∀ x ∈ w, x.size ≤ 100000) (hL : Letters E) (hT : Pows E) (hV : Vars0 E) :
  AFun prog E 185 [.str dst, .fro 1 (w.map encS)] (.tup [optV (opItem dst w), .bool (opItem dst w).isSome]) := AFun.opt (operationR dst w hl hs hL hT hV)
end Go.Proofs.YtbkgklpihnfnjaaGreatDoor
namespace Go.Proofs.YtbkgklpihnfnjaaGreatDoor
open Go.Proofs.Tryz
open Go.Proofs Go.Lib Go.Shelf Go.RowKit
set_option maxRecDepth 20000
variable {E : World}
def eqS : ByteArray := ⟨#[61]⟩
def phiS : ByteArray := ⟨#[112, 104, 105]⟩
def phiItem (dst : ByteArray) (w : List ByteArray) : Option PItem := if phiOk w = true then some (.phi dst (evens w) (odds w)) else none
def instrItem (w : List ByteArray) : Option PItem :=
 if w.length < 2 ∨ ¬ atW w 1 = eqS then opItem ⟨#[]⟩ w
 else if ¬ scanName (atW w 0) = true ∨ w.length < 3 then none
 else if atW w 2 = phiS then phiItem (atW w 0) (w.drop 3) else opItem (atW w 0) (w.drop 2)
theorem atW_get {w : List ByteArray} {k : Nat} (h : k < w.length) : w[k]? = some (atW w k) := by unfold atW; rw [qd h]; rfl
theorem optR_mk (o : Option PItem) {O : OL} : OptR o (.tup [optV o, .bool o.isSome]) O := ⟨_, rfl, fun i e => by rw [e]; rfl⟩
theorem tphi_opt (dst : ByteArray) (w : List ByteArray) (hl : w.length ≤ 100000) (hs : ∀ x ∈ w, x.size ≤ 100000) (hL : Letters E) :
  AFun prog E 186 [.str dst, .fro 1 (w.map encS)] (.tup [optV (phiItem dst w), .bool (phiItem dst w).isSome]) :=
 AFun.opt (ACall.mono (tphi_spec dst w hl hs hL) fun x O h => by
  subst h
  unfold phiItem
  by_cases hp : phiOk w = true
  ·rw [if_pos hp, hp]; exact opt_ret rfl (fun i e => by cases e; rfl)
  ·have hp2 : phiOk w = false := by simpa using hp
   rw [if_neg hp, hp2]; exact opt_none rfl)
theorem instructionR (w : List ByteArray) (hl : w.length ≤ 100000) (hs : ∀ x ∈ w, x.size ≤ 100000) (hL : Letters E) (hT : Pows E) (hV : Vars0 E) :
  ACall prog E 142 [.fro 1 (w.map encS)] [] (OptR (instrItem w)) := by
 have hsz : ∀ k, (atW w k).size ≤ 100000 := fun k => by
  unfold atW
  cases h : w[k]? with
  | none => exact qg _
  | some x => exact hs x (qm h)
 refine zk func142 Z (by decide) Z<|zSr<|zVzAr Z<|zVzAb Z<|z6<|zb<|zSr<|zVzMf Z<|zVGvlenM jh Z<|zVGvlss Z Z<|zVzMb Z ?_
 by_cases h2 : w.length < 2
 ·have hi : instrItem w = opItem ⟨#[]⟩ w := by unfold instrItem; rw [if_pos (.inl h2)]
  refine z7 Z Z (by simp; omega)<|z7 Z Z (by simp; omega)<|z7 Z Z (by simp; omega)<|z7 Z Z (by simp; omega)<|z8 (zPt Z (by simp; omega) Z)<|z6<|yh Z Z<|zSr<|zVzMf Z<|zd (operation_spec ⟨#[]⟩ w hl hs hL hT hV) Z<|z8 (yk (v := _) Z Z)<|z8 (zXb Z Z)<|z8 (y8 (v := _) Z)<|zVzAb Z<|z6<|ze<|yp (x := _) (y := .bool _) Z Z ?_
  rw [hi]; exact optR_mk _
 ·refine za Z Z (by simp; omega)<|zVzMf Z<|za Z Z (by simp; omega)<|z8 (zIM 1 jh jx Z Z Z (atW_get (by omega)))<|za Z Z (by simp; omega)<|z8 (ya (c := .str _) Z5 Z)<|za Z Z (by simp; omega)<|z8 (Gv.neqT Z Z)<|z8 (zPf Z (by simp; omega) Z)<|z6<|zz Z (fun ce=>?_) (fun ce=>?_)
  ·have hi : instrItem w = opItem ⟨#[]⟩ w := by unfold instrItem; rw [if_pos (.inr (by unfold eqS; simpa using ce))]
   refine zSr<|zVzMf Z<|zd (operation_spec ⟨#[]⟩ w hl hs hL hT hV) Z<|z8 (yk (v := _) Z Z)<|z8 (zXb Z Z)<|z8 (y8 (v := _) Z)<|zVzAb Z<|z6<|ze<|yp (x := _) (y := .bool _) Z Z ?_
   rw [hi]; exact optR_mk _
  ·have hq : atW w 1 = eqS := by unfold eqS; simpa using ce
   refine zf<|zb<|zSr<|zVzMf Z<|z8 (zIM 0 jh jx Z Z Z (atW_get (by omega)))<|z8 (ya (c := .str _) Z5 Z)<|zd (zname_spec _ (by have := hsz 0; omega) hL) Z<|zVGvnot Z<|zVzMb Z ?_
   by_cases h3 : w.length < 3
   ·have hi : instrItem w = none := by unfold instrItem; rw [if_neg (by simp [hq]; omega), if_pos (.inr h3)]
    refine zo (s := 22) Z (fun cs=>?_) (fun cs=>?_)
    ·refine z7 Z Z cs<|z7 Z Z cs<|z7 Z Z cs<|zVzPt Z cs Z<|z6<|yh Z Z<|zSr<|zVzAr Z<|zVzAb Z<|z6<|ze<|yp (x := .raw _) (y := .bool _) Z Z ?_
     exact opt_none hi
    ·refine za Z Z cs<|zVzMf Z<|za Z Z cs<|zVGvlenM jh Z<|za Z Z cs<|zVGvlss Z Z<|zVzPf Z cs Z<|z6<|yh Z (by simp; omega)<|zSr<|zVzAr Z<|zVzAb Z<|z6<|ze<|yp (x := .raw _) (y := .bool _) Z Z ?_
     exact opt_none hi
   ·refine zo (s := 22) Z (fun cs=>?_) (fun cs=>?_)
    ·have hi : instrItem w = none := by unfold instrItem; rw [if_neg (by simp [hq]; omega), if_pos (.inl (by simpa using cs))]
     refine z7 Z Z cs<|z7 Z Z cs<|z7 Z Z cs<|zVzPt Z cs Z<|z6<|yh Z Z<|zSr<|zVzAr Z<|zVzAb Z<|z6<|ze<|yp (x := .raw _) (y := .bool _) Z Z ?_
     exact opt_none hi
    ·have hn : scanName (atW w 0) = true := by simpa using cs
     refine za Z Z cs<|zVzMf Z<|za Z Z cs<|zVGvlenM jh Z<|za Z Z cs<|zVGvlss Z Z<|zVzPf Z cs Z<|z6<|yc Z (by simp; omega)<|zf<|zb<|zSr<|zVzMf Z<|z8 (zIM 2 jh jx Z Z Z (atW_get (by omega)))<|z8 (ya (c := .str _) Z5 Z)<|z8 (q8 Z Z)<|z6<|zr Z (fun cp=>?_) (fun cp=>?_)
     ·have cp : atW w 2 = phiS := cp
      have hi : instrItem w = phiItem (atW w 0) (w.drop 3) := by unfold instrItem; rw [if_neg (by simp [hq]; omega), if_neg (by simp [hn]; omega), if_pos cp]
      refine zb<|zw (fun j => false) (by kernel_rfl) Z (zu (.rest _))<|zTk 0 Z (zMf Z)<|zTk 1 Z (zIM 0 jh jx Z Z Z (atW_get (by omega)))<|zTk 2 Z (ya (c := .str _) Z5 Z)<|zTk 3 Z (zMf Z)<|zTk 4 Z (Gv.cutLoM (j := 3) jh jx Z Z Z (by omega))<|zOn 5 Z<|zd (tphi_opt _ (w.drop 3) (by simp; omega) (fun x hx => hs x (List.mem_of_mem_drop hx)) hL) Z<|z6<|zTk 6 Z (yk (v := _) Z Z)<|zTk 7 Z (zXb Z Z)<|zTk 8 Z (y8 (v := _) Z)<|zTk 9 Z (zAb Z)<|zDn<|ze<|yp (x := _) (y := .bool _) Z Z ?_
      rw [hi]; exact optR_mk _
     ·have cp : ¬ atW w 2 = phiS := cp
      have hi : instrItem w = opItem (atW w 0) (w.drop 2) := by unfold instrItem; rw [if_neg (by simp [hq]; omega), if_neg (by simp [hn]; omega), if_neg cp]
      refine zf<|zb<|zw (fun j => false) (by kernel_rfl) Z (zu (.rest _))<|zTk 0 Z (zMf Z)<|zTk 1 Z (zIM 0 jh jx Z Z Z (atW_get (by omega)))<|zTk 2 Z (ya (c := .str _) Z5 Z)<|zTk 3 Z (zMf Z)<|zTk 4 Z (Gv.cutLoM (j := 2) jh jx Z Z Z (by omega))<|zOn 5 Z<|zd (operation_spec _ (w.drop 2) (by simp; omega) (fun x hx => hs x (List.mem_of_mem_drop hx)) hL hT hV) Z<|z6<|zTk 6 Z (yk (v := _) Z Z)<|zTk 7 Z (zXb Z Z)<|zTk 8 Z (y8 (v := _) Z)<|zTk 9 Z (zAb Z)<|zDn<|ze<|yp (x := _) (y := .bool _) Z Z ?_
      rw [hi]; exact optR_mk _
theorem instruction_spec (w : List ByteArray) (hl : w.length ≤ 100000) (hs : ∀ x ∈ w, x.size ≤ 100000) (hL : Letters E) (hT : Pows E) (hV : Vars0 E) :
  AFun prog E 142 [.fro 1 (w.map encS)] (.tup [optV (instrItem w), .bool (instrItem w).isSome]) := AFun.opt (instructionR w hl hs hL hT hV)
end Go.Proofs.YtbkgklpihnfnjaaGreatDoor
