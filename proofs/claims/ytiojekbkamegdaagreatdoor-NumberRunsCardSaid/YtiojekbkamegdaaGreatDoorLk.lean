/- Where two meet; the nearest of each block. No conditions but bounds. -/
import Derived.Test.YtiojekbkamegdaaGreatDoorLf
import Derived.Test.YtiojekbkamegdaaGreatDoorLj
import Derived.Test.YtiojekbkamegdaaGreatDoorLg
import Derived.Test.YtiojekbkamegdaaGreatDoorLi
set_option linter.unusedVariables false
set_option linter.unusedSimpArgs false
set_option linter.unusedSectionVars false
namespace Go.Proofs.YtiojekbkamegdaaGreatDoor
open Go.Proofs.Tryz
open Go.Proofs Go.Lib Go.Shelf Go.RowKit
theorem ps311_1 : PlacesS prog 311 9 1 1 [.str ⟨#[]⟩] := ⟨_, Y8, Zq, zeroValue9, by decide, by decide, by kernel_rfl⟩
set_option maxRecDepth 20000
variable {E : World}
def inB (s : ByteArray) (l : List ByteArray) : Bool := l.any fun t => decide (t = s)
theorem inB_iff {s : ByteArray} {l : List ByteArray} : inB s l = true ↔ s ∈ l := by
 unfold inB; rw [List.any_eq_true]
 constructor
 ·rintro ⟨x, hx, h⟩; have h : x = s := by simpa using h
  exact h ▸ hx
 ·intro h; exact ⟨s, h, by simp⟩
theorem inB_snoc {s t : ByteArray} {l : List ByteArray} : inB s (l ++ [t]) = (inB s l || decide (t = s)) := by unfold inB; rw [List.any_append]; simp
def UnlP (l : List ByteArray) : Prop := ∀ i (h : i < l.length), scanName l[i] = true ∧ inB l[i] (l.take i) = false
instance (l : List ByteArray) : Decidable (UnlP l) := by unfold UnlP; infer_instance
theorem unl_new {t : ByteArray} {l : List ByteArray} {mt : Int} (ht : mt = if inB t l = true then 1 else 0) (hc : decide (0 < mt) = false) : inB t l = false := by
 have hc := of_decide_eq_false hc
 cases h : inB t l with
 | true => rw [h] at ht; simp at ht; omega
 | false => rfl
theorem unl_step {s t : ByteArray} {l : List ByteArray} {m : Option Int} {mt : Int} (hs : m.getD 0 = if inB s l = true then 1 else 0) (ht : mt = if inB t l = true then 1 else 0) (hc : decide (0 < mt) = false) :
  (if s = t then some (mt + 1) else m).getD 0 = if (inB s l || decide (t = s)) = true then 1 else 0 := by
 have h := unl_new ht hc
 rw [h] at ht
 have ht : mt = 0 := by simpa using ht
 by_cases e : s = t
 ·subst e; simp [ht]
 ·rw [if_neg e, hs]
  have e2 : ¬ t = s := fun h => e h.symm
  simp [e2]
theorem unl_upto {l : List ByteArray} {k : Nat} (hn : ∀ i (h : i < l.length), i < k → scanName l[i] = true ∧ inB l[i] (l.take i) = false) (hk : k < l.length) (h1 : scanName l[k] = true) (h2 : inB l[k] (l.take k) = false) :
  ∀ i (h : i < l.length), i < k + 1 → scanName l[i] = true ∧ inB l[i] (l.take i) = false := fun i h hi => by
 by_cases e : i = k
 ·subst e; exact ⟨h1, h2⟩
 ·exact hn i h (by omega)
theorem unlike_spec (l : List ByteArray) (hl : l.length ≤ 100000000) (hs : ∀ s ∈ l, s.size ≤ 140737488355328) (hL : Letters E) : AFun prog E 255 [.fro 1 (l.map encS)] (.bool (decide (UnlP l))) := by
 refine zp func255 Z (by decide) Z<|zSr<|zVzAb Z<|z2<|zSr<|AOps.makeMap<|fun b6 => z8 (qf (v := mref _) Z)<|z2<|zc<|zSr<|zVzMf Z<|zVGvlenM Y8 Z<|zVzMi Z<|z2<|zi<|y7 (γ := Nat × List (ByteArray × Int)) [3, 7, 8] (fun g => [(9, .int .i64 g.1)]) (fun g => [(0, mapO b6 g.2)]) (fun g => g.1 ≤ l.length ∧ (∀ i (h : i < l.length), i < g.1 → scanName l[i] = true ∧ inB l[i] (l.take i) = false) ∧ ∀ s, (mget s g.2).getD 0 = if inB s (l.take g.1) = true then 1 else 0) (fun g => l.length - g.1) (0, []) zR1 zLe (⟨qt _, fun i h h2 => absurd h2 (Nat.not_lt_zero _), fun s => Z⟩) ?_
 rintro ⟨k, es⟩ ⟨hk, hn, hm⟩
 try dsimp only at *
 refine zSr<|zVGvlss Z Z<|z2<|zc<|zo Z (fun ck=>?_) (fun ck=>?_)
 ·have hk2 : k < l.length := by omega
  have hmk := hm l[k]
  have hz := hs _ (qu hk2)
  refine zf<|zc<|zi<|zSr<|z8 (zIM k Y8 Zq Z Z Z (qq hk2))<|z8 (q9 (c := .str _) Y0 Z)<|z8 (qf (v := .str _) Z)<|z2<|zc<|zSr<|z8 (yw (v := .str _) Z)<|zg (zname_spec _ hz hL) Z<|zVGvnot Z<|zVzMb Z<|zq (s := 16) Z (fun c1=>?_) (fun c1=>?_)
  ·refine z6 Z Z c1<|z6 Z Z c1<|z6 Z Z c1<|z6 Z Z c1<|zVzPt Z c1 Z<|z2<|yq Z Z<|zSr<|zVzAb Z<|z2<|zj<|zk (x := .bool _) Z ?_
   exact jb (w5 fun h => by have h := h k hk2; simp_all).symm
  ·refine z7 Z Z c1<|z8 (yw (v := mref _) Z)<|z7 Z Z c1<|z8 (yw (v := .str _) Z)<|z7 Z Z c1<|z8 (Gv.lookup1S underlying343 Zi Yo Z Z ⟨_, .head⟩)<|z7 Z Z c1<|zVGvgtr Z Z<|zVzPf Z c1 Z<|z2<|zu Z (fun c2=>?_) (fun c2=>?_)
   ·refine zSr<|zVzAb Z<|z2<|zj<|zk (x := .bool _) Z ?_
    exact jb (w5 fun h => by have h := h k hk2; simp_all).symm
   ·refine zf<|zRg<|z8 (yw (v := mref _) Z)<|z8 (yw (v := .str _) Z)<|z8 (Gv.lookup1S underlying343 Zi Yo Z Z ⟨_, .head⟩)<|z8 (Gv.add Z Z (by first | (unfold I64; omega) | (unfold I64; rw [hmk]; split <;> omega)))<|AOps.mapSet underlying343 Zi Z Z Z .head<|z2<|zRg<|z8 (Gv.add Z Z (by first | (unfold I64; omega) | (unfold I64; rw [hmk]; split <;> omega)))<|zVzMi Z<|z2 ?_
    exact ⟨(k + 1, mset l[k] ((mget l[k] es).getD 0 + 1) es), zR3, zR1, zLe, ⟨hk2, unl_upto hn hk2 (by simpa using c1) (unl_new hmk (by assumption)), fun s => by dsimp only; rw [mget_set, qr hk2, inB_snoc]; exact unl_step (hm s) hmk (by assumption)⟩, by dsimp only; omega⟩
 ·have hkn : k = l.length := by omega
  refine y6<|zSr<|zVzAb Z<|z2<|zj<|zk (x := .bool _) Z ?_
  exact jb (w4 fun i h => hn i h (by omega)).symm
theorem map_take {α : Type} {g : α → ByteArray} {l : List α} {k : Nat} (h : k < l.length) : (l.map g).take (k + 1) = (l.map g).take k ++ [g l[k]] := by
 rw [qr (by simpa using h)]; simp
def VNames (f : PFunc) : List ByteArray := f.vars.map PVar.name
def BNames (f : PFunc) : List ByteArray := f.blocks.map PBlock.name
@[simp] theorem vn_len (f : PFunc) : (VNames f).length = f.vars.length := by unfold VNames; simp
@[simp] theorem bn_len (f : PFunc) : (BNames f).length = f.blocks.length := by unfold BNames; simp
theorem vn_take {f : PFunc} {k : Nat} (h : k < f.vars.length) : (VNames f).take (k + 1) = (VNames f).take k ++ [f.vars[k].name] := map_take h
theorem bn_take {f : PFunc} {k : Nat} (h : k < f.blocks.length) : (BNames f).take (k + 1) = (BNames f).take k ++ [f.blocks[k].name] := map_take h
def ParP (f : PFunc) : Prop := ∀ i (h : i < f.params.length), f.params[i] = (i : Int)
instance (f : PFunc) : Decidable (ParP f) := by unfold ParP; infer_instance
def TysP (f : PFunc) : Prop := ∀ i (h : i < f.vars.length), ¬ tyWord f.vars[i].ty = ⟨#[]⟩
instance (f : PFunc) : Decidable (TysP f) := by unfold TysP; infer_instance
def LensP (f : PFunc) : Prop := f.vars.length ≤ 512 ∧ f.params.length ≤ 8 ∧ f.params.length ≤ f.vars.length ∧ 1 ≤ f.blocks.length ∧ f.blocks.length ≤ 64
instance (f : PFunc) : Decidable (LensP f) := by unfold LensP; infer_instance
def NamesP (f : PFunc) : Prop := TysP f ∧ ParP f ∧ LensP f ∧ UnlP (VNames f) ∧ UnlP (BNames f)
instance (f : PFunc) : Decidable (NamesP f) := by unfold NamesP; infer_instance
theorem pnames_spec (f : PFunc) (h1 : f.vars.length ≤ 100000000) (h2 : f.blocks.length ≤ 100000000) (hp : f.params.length ≤ 100000000) (hn : okNames f) (hL : Letters E) : AFun prog E 214 [.agg (encF f)] (.bool (decide (NamesP f))) := by
 have hnv : (VNames f).length = f.vars.length := by unfold VNames; simp
 have hnb : (BNames f).length = f.blocks.length := by unfold BNames; simp
 refine zp func214 Z (by decide) Z<|zSr<|yc (cs := _) Z Z Z<|zVzAb Z<|z2<|zSr<|z8 (zAr Z)<|z8 (zAr Z)<|z2<|adopt_wp (t := 3) (k := 1) (T := 9) Z<|fun i3 => adopt_wp (t := 4) (k := 1) (T := 9) Z<|fun i4 => zc<|zSr<|zVzFF jh Z Ya Z Z<|zVzLf Yk Z<|zVGvlenM Z4 Z<|zVzMi Z<|z2<|zi<|y7 (γ := Nat × Nat) [1, 4, 12, 13] (fun g => [(3, .own g.2 g.1), (14, .int .i64 g.1)]) (fun g => [(i4, .grow 1 9 []), (g.2, .grow 1 9 ((((VNames f).take g.1).map encS).flatten))]) (fun g => g.1 ≤ f.vars.length ∧ ∀ i (h : i < f.vars.length), i < g.1 → ¬ tyWord f.vars[i].ty = ⟨#[]⟩) (fun g => f.vars.length - g.1) (0, i3) zR2 zLe (⟨qt _, fun i h h2 => absurd h2 (Nat.not_lt_zero _)⟩) ?_
 rintro ⟨k, i⟩ ⟨hk, hT⟩
 try dsimp only at *
 refine zSr<|zVGvlss Z Z<|z2<|zc<|zo Z (fun ck=>?_) (fun ck=>?_)
 ·have hk2 : k < f.vars.length := by simp at ck; omega
  refine zf<|zc<|zi<|zSr<|z8 (zIM k Z4 Ye Z Z Z (qq hk2))<|zVGvloadWF isAgg79 Ye Z Z<|zt (cs := [.str ⟨#[]⟩, .int .i64 0]) zeroValue79 Z Z<|fun i6 => zn Ye Z Z Z Z Z Z .head Z<|z2<|zSr<|z8 (zMo Z)<|z8 (ze Zl Z Zq (by decide) Z Z)<|z8 (zl (c := .str _) Y0 Z ⟨_, .head⟩ Z)<|zx (rows := [[_]]) ps311_1 Z Z Z Z Z<|ym (k := 1) Y8 type9 Z Z Z Z Z (fun _ => .t2) (by rw [grow_len (k := 1) (fun _ => rfl), w3]; omega) (by decide) Z (by show (_ + 1) * 16 ≤ _; omega) (by show _ + 1 ≤ _; omega)<|fun i22 => z8 (zAo Z)<|z2<|zSr<|z8 (ze Zl Z X5 (by decide) Z Z)<|z8 (zl (c := .int _ _) isAgg77 Z ⟨_, .head⟩ Z)<|zg (tyWord_spec _) Z<|z8 (yy Z Z)<|z2<|zo Z (fun ct=>?_) (fun ct=>?_)
  ·refine zSr<|zVzAb Z<|z2<|zj<|zk (x := .bool _) Z ?_
   exact jb (w5 fun h => h.1 k hk2 (by simpa using ct)).symm
  ·refine zf<|zRg<|zVzAd Z Z<|zVzMi Z<|z2 ?_
   exact ⟨(k + 1, i22), zR4, zR2, ⟨_, (.drop (.refl _)), by dsimp only; rw [← grow_push (enc := encS) (vn_take hk2)]; rfl⟩, ⟨hk2, fun i h h2 => by by_cases e : i = k; (subst e; simpa using ct); exact hT i h (by dsimp only at h2; omega)⟩, by dsimp only; omega⟩
 ·have hkn : k = f.vars.length := by simp at ck; omega
  subst hkn
  rw [List.take_of_length_le (by omega : (VNames f).length ≤ f.vars.length)]
  have hTys : TysP f := fun i h => hT i h h
  refine y6<|zc<|zSr<|zVzFF jh Z Z1 Z Z<|zVzLf Z8 Z<|zVGvlenM jl Z<|zVzMi Z<|z2<|zi<|y7 (γ := Nat × Nat) [1, 3, 29, 30] (fun g => [(4, .own g.2 g.1), (31, .int .i64 g.1)]) (fun g => [(g.2, .grow 1 9 ((((BNames f).take g.1).map encS).flatten)), (i, .grow 1 9 (((VNames f).map encS).flatten))]) (fun g => g.1 ≤ f.blocks.length) (fun g => f.blocks.length - g.1) (0, i4) zR2 zLe (qt _) ?_
  rintro ⟨k, j⟩ hk
  try dsimp only at *
  refine zSr<|zVGvlss Z Z<|z2<|zc<|zo Z (fun ck=>?_) (fun ck=>?_)
  ·have hk2 : k < f.blocks.length := by simp at ck; omega
   refine zf<|zc<|zi<|zSr<|z8 (zIM k jl jw Z Z Z (qq hk2))<|zVGvloadWF Yc jw Z Z<|zt (cs := [.str ⟨#[]⟩, .raw (.slice none 0 0), .raw (.slice none 0 0), .int .i64 0, .int .i64 0, .int .i64 0, .int .i64 0]) Zd Z Z<|fun i8 => zn jw Z Z Z Z Z Z .head Z<|z2<|zRg<|z8 (zMo Z)<|z8 (ze je Z Zq (by decide) Z Z)<|z8 (zl (c := .str _) Y0 Z ⟨_, .head⟩ Z)<|zx (rows := [[_]]) ps311_1 Z Z Z Z Z<|ym (k := 1) Y8 type9 Z Z Z Z Z (fun _ => .t1) (by rw [grow_len (k := 1) (fun _ => rfl), w3]; omega) (by decide) Z (by show (_ + 1) * 16 ≤ _; omega) (by show _ + 1 ≤ _; omega)<|fun i39 => z8 (zAo Z)<|z2<|zRg<|zVzAd Z Z<|zVzMi Z<|z2 ?_
   exact ⟨(k + 1, i39), zR4, zR2, ⟨_, (.drop (.refl _)), by dsimp only; rw [← grow_push (enc := encS) (bn_take hk2)]; rfl⟩, hk2, by dsimp only; omega⟩
  ·have hkn : k = f.blocks.length := by simp at ck; omega
   subst hkn
   rw [List.take_of_length_le (by omega : (BNames f).length ≤ f.blocks.length)]
   refine y6<|zc<|zSr<|zVzFF jh Z jd Z Z<|zVzLf jk Z<|zVGvlenM j6 Z<|zVzMi Z<|z2<|zi<|y7 (γ := Nat) [1, 3, 4, 42, 43] (fun k => [(44, .int .i64 k)]) (fun k => [(j, .grow 1 9 (((BNames f).map encS).flatten)), (i, .grow 1 9 (((VNames f).map encS).flatten))]) (fun k => k ≤ f.params.length ∧ ∀ i (h : i < f.params.length), i < k → f.params[i] = (i : Int)) (fun k => f.params.length - k) 0 zR1 zLe (⟨qt _, fun i h h2 => absurd h2 (Nat.not_lt_zero _)⟩) ?_
   rintro k ⟨hk, hP⟩
   refine zSr<|zVGvlss Z Z<|z2<|zc<|zo Z (fun ck=>?_) (fun ck=>?_)
   ·have hk2 : k < f.params.length := by simp at ck; omega
    refine zf<|zc<|zi<|zSr<|zVzMi Z<|z8 (zIM k j6 j7 Z Z Z (qq hk2))<|zVzLi j9 Z<|zVzAi Z<|zVzAi Z<|z2<|zSr<|zVzMi Z<|zVzMi Z<|zVGvneqI Z Z<|z2<|zu Z (fun cp=>?_) (fun cp=>?_)
    ·refine zSr<|zVzAb Z<|z2<|zj<|zk (x := .bool _) Z ?_
     exact jb (w5 fun h => by have := h.2.1 k hk2; simp [this] at cp).symm
    ·refine zf<|zRg<|zVzAd Z Z<|zVzMi Z<|z2 ?_
     exact ⟨k + 1, zR5, zR1, zLe, ⟨hk2, fun i h h2 => by by_cases e : i = k; (subst e; simpa using cp); exact hP i h (by omega)⟩, by omega⟩
   ·have hkn : k = f.params.length := by simp at ck; omega
    subst hkn
    have hPar : ParP f := fun i h => hP i h h
    refine zw (GStep.know (t := 3) (rows := (VNames f).map encS) Z .t1 (by intro r hr; obtain ⟨x, _, rfl⟩ := List.mem_map.1 hr; rfl) (by decide) (by simp))<|zw (GStep.know (t := 4) (rows := (BNames f).map encS) Z .head (by intro r hr; obtain ⟨x, _, rfl⟩ := List.mem_map.1 hr; rfl) (by decide) (by simp))<|y6<|zSr<|zVzMf Z<|zVGvlenM Y8 Z<|z8 (Gv.leq Z Z)<|zVzMb Z<|zq (s := 56) Z (fun c3=>?_) (fun c3=>?_)
    ·refine z7 Z Z c3<|zVzFF jh Z jd Z Z<|z7 Z Z c3<|zVzLf jk Z<|z7 Z Z c3<|zVGvlenM j6 Z<|z7 Z Z c3<|zVzMf Z<|z7 Z Z c3<|zVGvlenM Y8 Z<|z7 Z Z c3<|z8 (Gv.minI Z Z)<|z7 Z Z c3<|z8 (Gv.leq Z Z)<|zVzPt Z c3 Z<|zVzMb Z<|zq (s := 65) Z (fun c4=>?_) (fun c4=>?_)
     ·refine z7 Z Z c4<|zVzMf Z<|z7 Z Z c4<|zVGvlenM Y8 Z<|z7 Z Z c4<|z8 (qd Z Z)<|zVzPt Z c4 Z<|zVzMb Z<|zq (s := 70) Z (fun c5=>?_) (fun c5=>?_)
      ·refine z7 Z Z c5<|zVzMf Z<|z7 Z Z c5<|zVGvlenM Y8 Z<|z7 Z Z c5<|z8 (Gv.leq Z Z)<|zVzPt Z c5 Z<|zVzMb Z<|zq (s := 75) Z (fun c6=>?_) (fun c6=>?_)
       ·refine z7 Z Z c6<|zVzMf Z<|z7 Z Z c6<|zg (unlike_spec (VNames f) (by omega) (fun s hs => by obtain ⟨v, hv, rfl⟩ := List.mem_map.1 hs; exact hn.1 v hv) hL) Z<|zVzPt Z c6 Z<|zVzMb Z<|zq (s := 79) Z (fun c7=>?_) (fun c7=>?_)
        ·refine z7 Z Z c7<|zVzMf Z<|z7 Z Z c7<|zg (unlike_spec (BNames f) (by omega) (fun s hs => by obtain ⟨v, hv, rfl⟩ := List.mem_map.1 hs; exact hn.2 v hv) hL) Z<|zVzPt Z c7 Z<|zVzAb Z<|z2<|zj<|zk (x := .bool _) Z ?_
         exact jb (by unfold NamesP LensP; simp_all <;> grind)
        ·refine z6 Z Z c7<|z6 Z Z c7<|zVzPf Z c7 Z<|zVzAb Z<|z2<|zj<|zk (x := .bool _) Z ?_
         exact jb (by unfold NamesP LensP; simp_all <;> grind)
       ·refine z6 Z Z c6<|z6 Z Z c6<|zVzPf Z c6 Z<|zVzMb Z<|z6 Z Z Z<|z6 Z Z Z<|zVzPf Z Z Z<|zVzAb Z<|z2<|zj<|zk (x := .bool _) Z ?_
        exact jb (by unfold NamesP LensP; simp_all <;> grind)
      ·refine z6 Z Z c5<|z6 Z Z c5<|z6 Z Z c5<|zVzPf Z c5 Z<|zVzMb Z<|z6 Z Z Z<|z6 Z Z Z<|zVzPf Z Z Z<|zVzMb Z<|z6 Z Z Z<|z6 Z Z Z<|zVzPf Z Z Z<|zVzAb Z<|z2<|zj<|zk (x := .bool _) Z ?_
       exact jb (by unfold NamesP LensP; simp_all <;> grind)
     ·refine z6 Z Z c4<|z6 Z Z c4<|z6 Z Z c4<|zVzPf Z c4 Z<|zVzMb Z<|z6 Z Z Z<|z6 Z Z Z<|z6 Z Z Z<|zVzPf Z Z Z<|zVzMb Z<|z6 Z Z Z<|z6 Z Z Z<|zVzPf Z Z Z<|zVzMb Z<|z6 Z Z Z<|z6 Z Z Z<|zVzPf Z Z Z<|zVzAb Z<|z2<|zj<|zk (x := .bool _) Z ?_
      exact jb (by unfold NamesP LensP; simp_all <;> grind)
    ·refine z6 Z Z c3<|z6 Z Z c3<|z6 Z Z c3<|z6 Z Z c3<|z6 Z Z c3<|z6 Z Z c3<|z6 Z Z c3<|zVzPf Z c3 Z<|zVzMb Z<|z6 Z Z Z<|z6 Z Z Z<|z6 Z Z Z<|zVzPf Z Z Z<|zVzMb Z<|z6 Z Z Z<|z6 Z Z Z<|z6 Z Z Z<|zVzPf Z Z Z<|zVzMb Z<|z6 Z Z Z<|z6 Z Z Z<|zVzPf Z Z Z<|zVzMb Z<|z6 Z Z Z<|z6 Z Z Z<|zVzPf Z Z Z<|zVzAb Z<|z2<|zj<|zk (x := .bool _) Z ?_
     exact jb (by unfold NamesP LensP; simp_all <;> grind)
def phiOK (f : PFunc) (p : PPhi) : Bool := !decide (p.args.length = 0) && decide (p.args.length = p.from_.length) && hasV f p.dst && p.args.all (hasV f) && p.from_.all (hasB f)
theorem phi1_spec (f : PFunc) (v : Int) : AFun prog E 258 ([.int .i64 v] ++ [.pf (encF f)]) (.bool (!hasB f v)) := by
 refine zp func258 Z (by decide) Z<|zSr<|zVzAb Z<|z2<|zSr<|zVGvloadWF jq jj Z Z<|zVzMi Z<|zg (at_spec _ _) Z<|zVGvnot Z<|zVzAb Z<|z2<|zj<|zk (x := .bool _) Z ?_
 rfl
theorem phi_spec (f : PFunc) (p : PPhi) (hp : okPhi p) : AFun prog E 217 [.agg (encF f), .agg (encPhi p)] (.bool (phiOK f p)) := by
 have hl1 := hp.1.lt
 have hl2 := hp.2.lt
 refine zp func217 Z (by decide) Z<|zSr<|yc (cs := _) Z Z Z<|yc (cs := _) Z Z Z<|zVzAb Z<|z2<|zc<|zSr<|zVzFF js Z jd Z Z<|zVzLf jk Z<|zVGvlenM j6 Z<|zVGveqlI Z Z<|zVzMb Z<|zq (s := 9) Z (fun c8=>?_) (fun c8=>?_)
 ·refine z6 Z Z c8<|z6 Z Z c8<|z6 Z Z c8<|z6 Z Z c8<|z6 Z Z c8<|z6 Z Z c8<|z6 Z Z c8<|zVzPt Z c8 Z<|zVzMb Z<|z6 Z Z Z<|z6 Z Z Z<|z6 Z Z Z<|z6 Z Z Z<|z6 Z Z Z<|zVzPt Z Z Z<|zVzMb Z<|z6 Z Z Z<|z6 Z Z Z<|z6 Z Z Z<|z6 Z Z Z<|z6 Z Z Z<|zVzPt Z Z Z<|z2<|yq Z Z<|zSr<|zVzAb Z<|z2<|zj<|zk (x := .bool _) Z ?_
  exact jb (by have := List.any_eq_not_all_not (l := p.from_) (p := fun x => !hasB f x); simp_all [phiOK, Int.ofNat_inj] <;> grind)
 ·refine z7 Z Z c8<|zVzFF js Z jd Z Z<|z7 Z Z c8<|zVzLf jk Z<|z7 Z Z c8<|zVGvlenM j6 Z<|z7 Z Z c8<|zVzFF js Z jd Z Z<|z7 Z Z c8<|zVzLf jk Z<|z7 Z Z c8<|zVGvlenM j6 Z<|z7 Z Z c8<|zVGvneqI Z Z<|zVzPf Z c8 Z<|zVzMb Z<|zq (s := 18) Z (fun c9=>?_) (fun c9=>?_)
  ·refine z6 Z Z c9<|z6 Z Z c9<|z6 Z Z c9<|z6 Z Z c9<|z6 Z Z c9<|zVzPt Z c9 Z<|zVzMb Z<|z6 Z Z Z<|z6 Z Z Z<|z6 Z Z Z<|z6 Z Z Z<|z6 Z Z Z<|zVzPt Z Z Z<|z2<|yq Z Z<|zSr<|zVzAb Z<|z2<|zj<|zk (x := .bool _) Z ?_
   exact jb (by have := List.any_eq_not_all_not (l := p.from_) (p := fun x => !hasB f x); simp_all [phiOK, Int.ofNat_inj] <;> grind)
  ·refine z7 Z Z c9<|zVGvloadWF jq jj Z Z<|z7 Z Z c9<|zVzFF js Z j7 Z Z<|z7 Z Z c9<|zVzLi j9 Z<|z7 Z Z c9<|zg (has_spec _ _) Z<|z7 Z Z c9<|zVGvnot Z<|zVzPf Z c9 Z<|zVzMb Z<|zq (s := 25) Z (fun c10=>?_) (fun c10=>?_)
   ·refine z6 Z Z c10<|z6 Z Z c10<|z6 Z Z c10<|z6 Z Z c10<|z6 Z Z c10<|zVzPt Z c10 Z<|z2<|yq Z Z<|zSr<|zVzAb Z<|z2<|zj<|zk (x := .bool _) Z ?_
    exact jb (by have := List.any_eq_not_all_not (l := p.from_) (p := fun x => !hasB f x); simp_all [phiOK, Int.ofNat_inj] <;> grind)
   ·refine z7 Z Z c10<|zVGvloadWF jq jj Z Z<|z7 Z Z c10<|zVzFF js Z jd Z Z<|z7 Z Z c10<|zVzLf jk Z<|z7 Z Z c10<|zg (vars_spec f p.args (by omega)) Z<|z7 Z Z c10<|zVGvnot Z<|zVzPf Z c10 Z<|z2<|zu Z (fun c11=>?_) (fun c11=>?_)
    ·refine zSr<|zVzAb Z<|z2<|zj<|zk (x := .bool _) Z ?_
     exact jb (by have := List.any_eq_not_all_not (l := p.from_) (p := fun x => !hasB f x); simp_all [phiOK, Int.ofNat_inj] <;> grind)
    ·refine zf<|zSr<|zVzFF js Z jd Z Z<|zVzLf jk Z<|z8 (Gv.func Z Z)<|zg (containsFuncI_spec p.from_ (by omega) (phi1_spec f)) Z<|zVGvnot Z<|zVzAb Z<|z2<|zj<|zk (x := .bool _) Z ?_
     exact jb (by have := List.any_eq_not_all_not (l := p.from_) (p := fun x => !hasB f x); simp_all [phiOK, Int.ofNat_inj] <;> grind)
end Go.Proofs.YtiojekbkamegdaaGreatDoor
namespace Go.Proofs.YtiojekbkamegdaaGreatDoor
open Go.Proofs.Tryz
open Go.Proofs Go.Lib Go.Shelf Go.RowKit
set_option maxRecDepth 20000
variable {E : World}
theorem indexFuncP_spec {p : PPhi → Bool} {fn : FuncId} {c : List AV} (xs : List PPhi) (hl : xs.length ≤ 281474976710656) (hp : ∀ x ∈ xs, AFun prog E fn ([.agg (encPhi x)] ++ c) (.bool (p x))) :
  AFun prog E 177 [.fro 3 (xs.map encPhi), .fn fn [] c] (.int .i64 (firstI p xs 0)) := by
 refine zp func177 Z (by decide) Z<|zSr<|zVzAi Z<|z2<|zc<|zSr<|zVzMf Z<|zVGvlenM jx Z<|zVzMi Z<|z2<|zi<|y7 (γ := Nat) [0, 1, 7] (fun k => [(8, .int .i64 k)]) (fun k => []) (fun k => k ≤ xs.length ∧ (xs.take k).all (fun x => !p x)) (fun k => xs.length - k) 0 zR1 zLe (⟨qt _, Z⟩) ?_
 rintro k ⟨hk, hall⟩
 refine zSr<|zVGvlss Z Z<|z2<|zc<|zo Z (fun ck=>?_) (fun ck=>?_)
 ·have hk2 : k < xs.length := by omega
  refine zf<|zc<|zi<|zSr<|zVzMi Z<|zVzAi Z<|z2<|zSr<|z8 (yw (v := .fn _ _ _) Z)<|zVzMf Z<|zVzMi Z<|z8 (q7 jx Z0 Z Z Z (qq (by omega)))<|zVGvloadWF Yf Z0 Z Z<|AOps.callVP Z (hp _ (qu hk2)) Z<|z2<|zu Z (fun cp=>?_) (fun cp=>?_)
  ·refine zSr<|zVzMi Z<|zVzAi Z<|z2<|zj<|zk (x := .int _ _) Z ?_
   rw [firstI_drop p xs k hk hall, List.drop_eq_getElem_cons hk2, firstI, if_pos cp]
  ·refine zf<|zRg<|zVzAd Z Z<|zVzMi Z<|z2 ?_
   exact ⟨k + 1, zR3, zR1, zLe, ⟨hk2, by rw [qr hk2, List.all_append, hall]; simp [cp]⟩, by omega⟩
 ·have hkn : k = xs.length := by omega
  refine y6<|zSr<|zVzAi Z<|z2<|zj<|zk (x := .int _ _) Z ?_
  rw [firstI_drop p xs k hk hall, hkn, List.drop_length, firstI]
theorem containsFuncP_spec {p : PPhi → Bool} {fn : FuncId} {c : List AV} (xs : List PPhi) (hl : xs.length ≤ 281474976710656) (hp : ∀ x ∈ xs, AFun prog E fn ([.agg (encPhi x)] ++ c) (.bool (p x))) :
  AFun prog E 215 [.fro 3 (xs.map encPhi), .fn fn [] c] (.bool (xs.any p)) := by
 refine zp func215 Z (by decide) Z<|zSr<|zVzAb Z<|z2<|zSr<|zVzMf Z<|z8 (yw (v := .fn _ _ _) Z)<|zg (indexFuncP_spec xs hl hp) Z<|z8 (qd Z Z)<|zVzAb Z<|z2<|zj<|zk (x := .bool _) Z ?_
 rw [firstI_ge]
theorem indexFuncX_spec {p : PInst → Bool} {fn : FuncId} {c : List AV} (xs : List PInst) (hl : xs.length ≤ 281474976710656) (hp : ∀ x ∈ xs, AFun prog E fn ([.agg (encInst x)] ++ c) (.bool (p x))) :
  AFun prog E 164 [.fro 4 (xs.map encInst), .fn fn [] c] (.int .i64 (firstI p xs 0)) := by
 refine zp func164 Z (by decide) Z<|zSr<|zVzAi Z<|z2<|zc<|zSr<|zVzMf Z<|zVGvlenM jv Z<|zVzMi Z<|z2<|zi<|y7 (γ := Nat) [0, 1, 7] (fun k => [(8, .int .i64 k)]) (fun k => []) (fun k => k ≤ xs.length ∧ (xs.take k).all (fun x => !p x)) (fun k => xs.length - k) 0 zR1 zLe (⟨qt _, Z⟩) ?_
 rintro k ⟨hk, hall⟩
 refine zSr<|zVGvlss Z Z<|z2<|zc<|zo Z (fun ck=>?_) (fun ck=>?_)
 ·have hk2 : k < xs.length := by omega
  refine zf<|zc<|zi<|zSr<|zVzMi Z<|zVzAi Z<|z2<|zSr<|z8 (yw (v := .fn _ _ _) Z)<|zVzMf Z<|zVzMi Z<|z8 (q7 jv Z2 Z Z Z (qq (by omega)))<|zVGvloadWF Yg Z2 Z Z<|AOps.callVP Z (hp _ (qu hk2)) Z<|z2<|zu Z (fun cp=>?_) (fun cp=>?_)
  ·refine zSr<|zVzMi Z<|zVzAi Z<|z2<|zj<|zk (x := .int _ _) Z ?_
   rw [firstI_drop p xs k hk hall, List.drop_eq_getElem_cons hk2, firstI, if_pos cp]
  ·refine zf<|zRg<|zVzAd Z Z<|zVzMi Z<|z2 ?_
   exact ⟨k + 1, zR3, zR1, zLe, ⟨hk2, by rw [qr hk2, List.all_append, hall]; simp [cp]⟩, by omega⟩
 ·have hkn : k = xs.length := by omega
  refine y6<|zSr<|zVzAi Z<|z2<|zj<|zk (x := .int _ _) Z ?_
  rw [firstI_drop p xs k hk hall, hkn, List.drop_length, firstI]
theorem containsFuncX_spec {p : PInst → Bool} {fn : FuncId} {c : List AV} (xs : List PInst) (hl : xs.length ≤ 281474976710656) (hp : ∀ x ∈ xs, AFun prog E fn ([.agg (encInst x)] ++ c) (.bool (p x))) :
  AFun prog E 108 [.fro 4 (xs.map encInst), .fn fn [] c] (.bool (xs.any p)) := by
 refine zp func108 Z (by decide) Z<|zSr<|zVzAb Z<|z2<|zSr<|zVzMf Z<|z8 (yw (v := .fn _ _ _) Z)<|zg (indexFuncX_spec xs hl hp) Z<|z8 (qd Z Z)<|zVzAb Z<|z2<|zj<|zk (x := .bool _) Z ?_
 rw [firstI_ge]
theorem shaped1_spec (f : PFunc) (p : PPhi) (hp : okPhi p) : AFun prog E 216 ([.agg (encPhi p)] ++ [.pf (encF f)]) (.bool (!phiOK f p)) := by
 refine zp func216 Z (by decide) Z<|zSr<|yc (cs := _) Z Z Z<|zVzAb Z<|z2<|zSr<|zVGvloadWF jq jj Z Z<|zVGvloadWF Yf Z0 Z Z<|zg (phi_spec _ _ (by assumption)) Z<|zVGvnot Z<|zVzAb Z<|z2<|zj<|zk (x := .bool _) Z ?_
 rfl
theorem shaped2_spec (f : PFunc) (x : PInst) (hx : okL x.args) : AFun prog E 218 ([.agg (encInst x)] ++ [.pf (encF f)]) (.bool (!instOK f x)) := by
 refine zp func218 Z (by decide) Z<|zSr<|yc (cs := _) Z Z Z<|zVzAb Z<|z2<|zSr<|zVGvloadWF jq jj Z Z<|zVGvloadWF Yg Z2 Z Z<|zg (inst_spec _ _ (by assumption)) Z<|zVGvnot Z<|zVzAb Z<|z2<|zj<|zk (x := .bool _) Z ?_
 rfl
def blkOK (f : PFunc) (b : PBlock) : Bool := !(b.phis.any fun p => !phiOK f p) && !(b.insts.any fun x => !instOK f x) && termOK f b.term
theorem blk_bad1 {f : PFunc} {b : PBlock} (h : (b.phis.any fun p => !phiOK f p) = true) : blkOK f b = false := by unfold blkOK; rw [h]; rfl
theorem blk_bad2 {f : PFunc} {b : PBlock} (h : (b.insts.any fun x => !instOK f x) = true) : blkOK f b = false := by unfold blkOK; rw [h]; simp
theorem blk_bad3 {f : PFunc} {b : PBlock} (h : (!termOK f b.term) = true) : blkOK f b = false := by unfold blkOK; rw [show termOK f b.term = false by simpa using h]; simp
theorem blk_good {f : PFunc} {b : PBlock} (h1 : (b.phis.any fun p => !phiOK f p) = false) (h2 : (b.insts.any fun x => !instOK f x) = false) (h3 : (!termOK f b.term) = false) : blkOK f b = true := by unfold blkOK; rw [h1, h2, show termOK f b.term = true by simpa using h3]; rfl
def shapedB (f : PFunc) : Bool := decide (NamesP f) && (f.blocks.all (blkOK f) && decide (sumTo f.blocks ≤ 1024))
theorem Shaped_spec (f : PFunc) (hf : okFunc f) (h1 : f.vars.length ≤ 100000000) (h2 : f.blocks.length ≤ 100000000) (hp : f.params.length ≤ 100000000) (hn : okNames f) (hL : Letters E) : AFun prog E 180 [.agg (encF f)] (.bool (shapedB f)) := by
 refine zp func180 Z (by decide) Z<|zSr<|yc (cs := _) Z Z Z<|zVzAb Z<|z2<|zc<|zSr<|zVGvloadWF jq jj Z Z<|zg (pnames_spec _ (by omega) (by omega) (by omega) (by assumption) hL) Z<|zVGvnot Z<|z2<|zu Z (fun cn=>?_) (fun cn=>?_)
 ·refine zSr<|zVzAb Z<|z2<|zj<|zk (x := .bool _) Z ?_
  exact jb (by unfold shapedB; rw [show decide (NamesP f) = false by simpa using cn]; rfl)
 ·have hN : NamesP f := by simpa using cn
  have hbl := hN.2.2.1.2.2.2.2
  refine zf<|zSr<|zVzAi Z<|z2<|zc<|zSr<|zVzFF jh Z Z1 Z Z<|zVzLf Z8 Z<|zVGvlenM jl Z<|zVzMi Z<|z2<|zi<|y7 (γ := Nat) [1, 11, 12] (fun k => [(3, .int .i64 (sumTo (f.blocks.take k))), (13, .int .i64 k)]) (fun k => []) (fun k => k ≤ f.blocks.length ∧ sumTo (f.blocks.take k) ≤ k * 562949953421312 ∧ (f.blocks.take k).all (blkOK f) = true) (fun k => f.blocks.length - k) 0 zR2 zLe (⟨qt _, qt _, Z⟩) ?_
  rintro k ⟨hk, hsum, hall⟩
  refine zSr<|zVGvlss Z Z<|z2<|zc<|zo Z (fun ck=>?_) (fun ck=>?_)
  ·have hk2 : k < f.blocks.length := by simp at ck; omega
   obtain ⟨b, hbk⟩ : ∃ b, f.blocks[k] = b := ⟨_, rfl⟩
   have hget : f.blocks[k]? = some b := by rw [qq hk2, hbk]
   have hb := hf.2.2.2 b (hbk ▸ qu hk2)
   have hb1 := hb.1.lt
   have hb2 := hb.2.1.lt
   have hsucc := sumTo_succ f.blocks k hk2
   rw [hbk] at hsucc
   refine zf<|zc<|zi<|zSr<|z8 (zIM k jl jw Z Z Z hget)<|zVGvloadWF Yc jw Z Z<|zt (cs := [.str ⟨#[]⟩, .raw (.slice none 0 0), .raw (.slice none 0 0), .int .i64 0, .int .i64 0, .int .i64 0, .int .i64 0]) Zd Z Z<|fun i5 => zn jw Z Z Z Z Z Z .head Z<|z2<|zSr<|zVzMi Z<|z8 (ze je Z Zn (by decide) Z Z)<|z8 (zl (c := .fro _ _) Y4 Z ⟨_, .head⟩ Z)<|zVGvlenM jx Z<|z8 (ze je Z Zb (by decide) Z Z)<|z8 (zl (c := .fro _ _) Zw Z ⟨_, .head⟩ Z)<|zVGvlenM jv Z<|zVzAd Z Z<|zVzAd Z Z<|zVzAi Z<|z2<|zSr<|z8 (ze je Z Zn (by decide) Z Z)<|z8 (zl (c := .fro _ _) Y4 Z ⟨_, .head⟩ Z)<|z8 (Gv.func Z Z)<|zg (containsFuncP_spec b.phis (by omega) (fun p hp => shaped1_spec f p (hb.2.2.1 p hp))) Z<|zVzMb Z<|zq (s := 30) Z (fun c1=>?_) (fun c1=>?_)
   ·refine z6 Z Z c1<|z6 Z Z c1<|z6 Z Z c1<|z6 Z Z c1<|zVzPt Z c1 Z<|zVzAb Z<|z2<|zSr<|zVzMb Z<|zVzMb Z<|z6 Z Z Z<|z6 Z Z Z<|z6 Z Z Z<|z6 Z Z Z<|z6 Z Z Z<|zVzPt Z Z Z<|z2<|yq Z Z<|zSr<|zVzAb Z<|z2<|zj<|zk (x := .bool _) Z ?_
    exact jb (by unfold shapedB; rw [show f.blocks.all (blkOK f) = false from Bool.eq_false_iff.2 (all_bad hk2 (by rw [hbk]; first | exact blk_bad1 (by assumption) | exact blk_bad2 (by assumption) | exact blk_bad3 (by assumption)))]; simp)
   ·refine z7 Z Z c1<|z8 (ze je Z Zb (by decide) Z Z)<|z7 Z Z c1<|z8 (zl (c := .fro _ _) Zw Z ⟨_, .head⟩ Z)<|z7 Z Z c1<|z8 (Gv.func Z Z)<|z7 Z Z c1<|zg (containsFuncX_spec b.insts (by omega) (fun x hx => shaped2_spec f x (hb.2.2.2 x hx))) Z<|zVzPf Z c1 Z<|zVzAb Z<|z2<|zSr<|zVzMb Z<|zVzMb Z<|zq (s := 37) Z (fun c2=>?_) (fun c2=>?_)
    ·refine z6 Z Z c2<|z6 Z Z c2<|z6 Z Z c2<|z6 Z Z c2<|z6 Z Z c2<|zVzPt Z c2 Z<|z2<|yq Z Z<|zSr<|zVzAb Z<|z2<|zj<|zk (x := .bool _) Z ?_
     exact jb (by unfold shapedB; rw [show f.blocks.all (blkOK f) = false from Bool.eq_false_iff.2 (all_bad hk2 (by rw [hbk]; first | exact blk_bad1 (by assumption) | exact blk_bad2 (by assumption) | exact blk_bad3 (by assumption)))]; simp)
    ·refine z7 Z Z c2<|zVGvloadWF jq jj Z Z<|z7 Z Z c2<|z8 (ze je Z Ze (by decide) Z Z)<|z7 Z Z c2<|z8 (Gv.loadAC (l := [_, _, _, _]) isAgg56 Ze Z ⟨_, .head⟩ Z Z)<|z7 Z Z c2<|zg (term_spec _ _) Z<|z7 Z Z c2<|zVGvnot Z<|zVzPf Z c2 Z<|z2<|zu Z (fun c3=>?_) (fun c3=>?_)
     ·refine zSr<|zVzAb Z<|z2<|zj<|zk (x := .bool _) Z ?_
      exact jb (by unfold shapedB; rw [show f.blocks.all (blkOK f) = false from Bool.eq_false_iff.2 (all_bad hk2 (by rw [hbk]; first | exact blk_bad1 (by assumption) | exact blk_bad2 (by assumption) | exact blk_bad3 (by assumption)))]; simp)
     ·refine zf<|zRg<|zVzAd Z Z<|zVzMi Z<|z2 ?_
      exact ⟨k + 1, zR3, ⟨congrArg (AV.int .i64) (by rw [hsucc]; omega), rfl, trivial⟩, ⟨_, (.drop (.refl _)), rfl⟩, ⟨hk2, by rw [hsucc]; omega, all_take hk2 hall (by rw [hbk]; exact blk_good (by assumption) (by assumption) (by assumption))⟩, by omega⟩
  ·have hkn : k = f.blocks.length := by simp at ck; omega
   subst hkn
   rw [qv] at hall ⊢
   refine y6<|zSr<|zVzMi Z<|z8 (Gv.leq Z Z)<|zVzAb Z<|z2<|zj<|zk (x := .bool _) Z ?_
   exact jb (by unfold shapedB; rw [w4 hN, hall]; simp; omega)
theorem phiOK_iff (f : PFunc) (p : PPhi) : phiOK f p = true ↔ PhiP f p := by
 unfold phiOK PhiP
 simp only [w6, Bool.not_eq_true', decide_eq_false_iff_not, w9]
 constructor
 ·rintro ⟨⟨⟨⟨h1, h2⟩, h3⟩, h4⟩, h5⟩; exact ⟨h3, h2, by omega, h4, h5⟩
 ·rintro ⟨h3, h2, h1, h4, h5⟩; exact ⟨⟨⟨⟨by omega, h2⟩, h3⟩, h4⟩, h5⟩
theorem tyWord_ne (t : Int) : ¬ tyWord t = ⟨#[]⟩ ↔ 0 ≤ t ∧ t ≤ 2 := by
 unfold tyWord
 constructor
 ·intro h
  by_cases h0 : t = 0
  ·omega
  ·by_cases h1 : t = 1
   ·omega
   ·by_cases h2 : t = 2
    ·omega
    ·rw [if_neg h0, if_neg h1, if_neg h2] at h; exact absurd rfl h
 ·intro h e
  have : t = 0 ∨ t = 1 ∨ t = 2 := by omega
  rcases this with rfl | rfl | rfl <;> exact absurd e (by decide)
theorem blkOK_iff (f : PFunc) (b : PBlock) : blkOK f b = true ↔ BlkP f b := by
 unfold blkOK BlkP
 simp only [w6, Bool.not_eq_true', List.any_eq_false, Bool.not_eq_false]
 constructor
 ·rintro ⟨⟨h1, h2⟩, h3⟩
  exact ⟨fun p hp => (phiOK_iff f p).1 (by simpa using h1 p hp), fun x hx => (instOK_iff f x).1 (by simpa using h2 x hx), h3⟩
 ·rintro ⟨h1, h2, h3⟩
  exact ⟨⟨fun p hp => by simpa using (phiOK_iff f p).2 (h1 p hp), fun x hx => by simpa using (instOK_iff f x).2 (h2 x hx)⟩, h3⟩
theorem unlP_iff {l : List ByteArray} : UnlP l ↔ ∀ i (h : i < l.length), scanName l[i] = true ∧ l[i] ∉ l.take i := by
 unfold UnlP
 constructor <;> intro h i hi
 ·exact ⟨(h i hi).1, fun hm => by have := inB_iff.2 hm; rw [(h i hi).2] at this; cases this⟩
 ·exact ⟨(h i hi).1, Bool.eq_false_iff.2 fun hm => (h i hi).2 (inB_iff.1 hm)⟩
theorem vn_getE {f : PFunc} {i : Nat} (h : i < (VNames f).length) (h' : i < f.vars.length) : (VNames f)[i] = f.vars[i].name := by
 have : (VNames f)[i]? = some f.vars[i].name := by unfold VNames; rw [qy, qq h']; rfl
 rw [qq h] at this
 simpa using this
theorem bn_getE {f : PFunc} {i : Nat} (h : i < (BNames f).length) (h' : i < f.blocks.length) : (BNames f)[i] = f.blocks[i].name := by
 have : (BNames f)[i]? = some f.blocks[i].name := by unfold BNames; rw [qy, qq h']; rfl
 rw [qq h] at this
 simpa using this
theorem shapedB_eq (f : PFunc) : shapedB f = decide (ShapedP f) := by
 rw [qz, decide_eq_true_iff]
 unfold shapedB
 simp only [w6, decide_eq_true_iff, w7, blkOK_iff]
 unfold NamesP LensP ShapedP bad1
 simp only [unlP_iff]
 constructor
 ·rintro ⟨⟨h1, h2, ⟨g1, g2, g3, g4, g5⟩, h4, h5⟩, h6, h7⟩
  refine ⟨?_, h2, fun i h => ?_, fun i h => ?_, h7, h6⟩
  ·simp; omega
  ·have ht := (tyWord_ne _).1 (h1 i h)
   have hu := h4 i (by unfold VNames; simpa using h)
   have e := vn_getE (f := f) (i := i) (by unfold VNames; simpa using h) h
   rw [e] at hu
   exact ⟨by rw [name_eq]; exact hu.1, ht.1, ht.2, fun s hs e2 => hu.2 (by unfold VNames; rw [← List.map_take, ← e2]; exact hs)⟩
  ·have hu := h5 i (by unfold BNames; simpa using h)
   have e := bn_getE (f := f) (i := i) (by unfold BNames; simpa using h) h
   rw [e] at hu
   exact ⟨by rw [name_eq]; exact hu.1, fun s hs e2 => hu.2 (by unfold BNames; rw [← List.map_take, ← e2]; exact hs)⟩
 ·rintro ⟨h1, h2, h3, h4, h7, h6⟩
  simp at h1
  refine ⟨⟨fun i h => (tyWord_ne _).2 ⟨(h3 i h).2.1, (h3 i h).2.2.1⟩, h2, by omega, fun i h => ?_, fun i h => ?_⟩, h6, h7⟩
  ·have h' : i < f.vars.length := by simpa using h
   have e := vn_getE h h'
   rw [e]
   exact ⟨by rw [← name_eq]; exact (h3 i h').1, fun hm => (h3 i h').2.2.2 _ (by unfold VNames at hm; rw [← List.map_take] at hm; exact hm) rfl⟩
  ·have h' : i < f.blocks.length := by simpa using h
   have e := bn_getE h h'
   rw [e]
   exact ⟨by rw [← name_eq]; exact (h4 i h').1, fun hm => (h4 i h').2 _ (by unfold BNames at hm; rw [← List.map_take] at hm; exact hm) rfl⟩
end Go.Proofs.YtiojekbkamegdaaGreatDoor
namespace Go.Proofs.YtiojekbkamegdaaGreatDoor
open Go.Proofs.Tryz
open Go.Proofs Go.Lib Go.Shelf Go.RowKit
variable {E : World}
set_option maxRecDepth 20000
theorem ShapedP.ends {f : PFunc} (h : ShapedP f) : EndsOk f := by
 obtain ⟨h1, _, _, _, _, h6⟩ := h
 unfold bad1 at h1
 simp only [Bool.or_eq_false_iff, decide_eq_false_iff_not] at h1
 refine ⟨by omega, fun b hb c hc => ?_⟩
 have ht := (h6 b hb).2.2
 unfold termOK at ht
 unfold endsL at hc
 split at hc
 ·rename_i hk
  rw [if_pos hk] at ht
  simp only [w6, hasB, w9] at ht
  simp at hc; subst hc; exact ht.1.1
 ·rename_i hk
  rw [if_neg hk] at ht
  split at hc
  ·rename_i hk1
   rw [if_pos hk1] at ht
   simp only [w6, hasB, w9] at ht
   split at hc
   ·simp at hc; subst hc; exact ht.1.2
   ·simp at hc; rcases hc with rfl | rfl
    ·exact ht.1.2
    ·exact ht.2
  ·cases hc
def blkT (f : PFunc) (b : PBlock) : Bool := b.phis.all (phiT f) && b.insts.all (instT f) && termT f b.term
def typedB (f : PFunc) : Bool := shapedB f && f.blocks.all (blkT f)
theorem small.shaped {f : PFunc} (hf : small f) (hL : Letters E) : AFun prog E 180 [.agg (encF f)] (.bool (shapedB f)) :=
 Shaped_spec f hf.ok (by have := hf.1; omega) (by have := hf.2.2.1; omega) (by have := hf.2.1; omega) hf.names hL
theorem term_var {f : PFunc} {t : PTerm} (h : termOK f t = true) (hk : ¬ t.kind = 0) : hasV f t.var = true := by
 unfold termOK at h
 rw [if_neg hk] at h
 split at h
 ·simp only [w6] at h; exact h.1.1
 ·split at h
  ·simp only [w6] at h; exact h.1
  ·cases h
theorem Typed_spec (f : PFunc) (hf : small f) (hL : Letters E) : AFun prog E 133 [.agg (encF f)] (.int .i64 (if typedB f then 0 else 3)) := by
 have hok := hf.ok
 refine zp func133 Z (by decide) Z<|zSr<|yc (cs := _) Z Z Z<|zVzAi Z<|z2<|zc<|zSr<|zVGvloadWF jq jj Z Z<|zg (hf.shaped hL) Z<|zVGvnot Z<|z2<|zu Z (fun cs=>?_) (fun cs=>?_)
 ·refine zSr<|zVzAi Z<|z2<|zj<|zk (x := .int _ _) Z ?_
  unfold typedB; rw [show shapedB f = false by simpa using cs]; rfl
 ·have hsb : shapedB f = true := by simpa using cs
  have hS : ShapedP f := by rw [shapedB_eq] at hsb; exact of_decide_eq_true hsb
  have hB := hS.2.2.2.2.2
  have hfl := hok.2.2.1.lt
  refine zf<|zc<|zSr<|zVzFF jh Z Z1 Z Z<|zVzLf Z8 Z<|zVGvlenM jl Z<|zVzMi Z<|z2<|zi<|y7 (γ := Nat) [1, 13, 14] (fun k => [(15, .int .i64 k)]) (fun k => []) (fun k => k ≤ f.blocks.length ∧ (f.blocks.take k).all (blkT f) = true) (fun k => f.blocks.length - k) 0 zR1 zLe (⟨qt _, Z⟩) ?_
  rintro k ⟨hk, hall⟩
  refine zSr<|zVGvlss Z Z<|z2<|zc<|zo Z (fun ck=>?_) (fun ck=>?_)
  ·have hk2 : k < f.blocks.length := by simp at ck; omega
   obtain ⟨b, hbk⟩ : ∃ b, f.blocks[k] = b := ⟨_, rfl⟩
   have hget : f.blocks[k]? = some b := by rw [qq hk2, hbk]
   have hmem : b ∈ f.blocks := hbk ▸ qu hk2
   obtain ⟨hph, hin, htm⟩ := hB b hmem
   have hbad : blkT f b = false → typedB f = false := fun h => by unfold typedB; rw [Bool.eq_false_iff.2 (all_bad hk2 (by rw [hbk]; exact h))]; simp
   have hs5 := hok.2.2.2 b hmem
   have hpl := hs5.1.lt
   have hil := hs5.2.1.lt
   refine zf<|zc<|zi<|zSr<|z8 (zIM k jl jw Z Z Z hget)<|zVGvloadWF Yc jw Z Z<|zt (cs := [.str ⟨#[]⟩, .raw (.slice none 0 0), .raw (.slice none 0 0), .int .i64 0, .int .i64 0, .int .i64 0, .int .i64 0]) Zd Z Z<|fun i4 => zn jw Z Z Z Z Z Z .head Z<|zd (yf (t := 4) Z .head)<|z2<|zc<|zSr<|zVzFF je Z Zn Z Z<|zVzLf Y4 Z<|zVGvlenM jx Z<|zVzMi Z<|z2<|zi<|y7 (γ := Nat) [1, 4, 13, 14, 15, 20, 21] (fun p => [(22, .int .i64 p)]) (fun p => []) (fun p => p ≤ b.phis.length ∧ (b.phis.take p).all (phiT f) = true) (fun p => b.phis.length - p) 0 zR1 zLe (⟨qt _, Z⟩) ?_
   rintro p ⟨hp, hpall⟩
   refine zSr<|zVGvlss Z Z<|z2<|zc<|zo Z (fun cp=>?_) (fun cp=>?_)
   ·have hp2 : p < b.phis.length := by simp at cp; omega
    have hpm := qu hp2
    have hP := hph _ hpm
    refine zf<|zc<|zi<|zSr<|z8 (zIM p jx Z0 Z Z Z (qq hp2))<|zVGvloadWF Yf Z0 Z Z<|zt (cs := [.int .i64 0, .raw (.slice none 0 0), .raw (.slice none 0 0)]) Zk Z Z<|fun i6 => zn Z0 Z Z Z Z Z Z .head Z<|zd (yf (t := 6) Z .head)<|z2<|zSr<|zVGvloadWF jq jj Z Z<|zVGvloadWF Yf Z0 Z Z<|zg (yphi_spec f b.phis[p] (hs5.2.2.1 _ hpm) hP.2.2.2.1 hP.1) Z<|zVGvnot Z<|z2<|zu Z (fun cq=>?_) (fun cq=>?_)
    ·refine zSr<|zVzAi Z<|z2<|zj<|zk (x := .int _ _) Z ?_
     rw [hbad (by unfold blkT; rw [Bool.eq_false_iff.2 (all_bad hp2 (by simpa using cq))]; rfl)]; rfl
    ·refine zf<|zRg<|zVzAd Z Z<|zVzMi Z<|z2 ?_
     exact ⟨p + 1, zR7, zR1, zLe, ⟨hp2, all_take hp2 hpall (by simpa using cq)⟩, by omega⟩
   ·have hpn : p = b.phis.length := by simp at cp; omega
    subst hpn
    rw [qv] at hpall
    refine y6<|zc<|zSr<|zVzFF je Z Zb Z Z<|zVzLf Zw Z<|zVGvlenM jv Z<|zVzMi Z<|z2<|zi<|y7 (γ := Nat) [1, 4, 13, 14, 15, 32, 33] (fun q => [(34, .int .i64 q)]) (fun q => []) (fun q => q ≤ b.insts.length ∧ (b.insts.take q).all (instT f) = true) (fun q => b.insts.length - q) 0 zR1 zLe (⟨qt _, Z⟩) ?_
    rintro q ⟨hq, hqall⟩
    refine zSr<|zVGvlss Z Z<|z2<|zc<|zo Z (fun cp2=>?_) (fun cp2=>?_)
    ·have hq2 : q < b.insts.length := by simp at cp2; omega
     have hqm := qu hq2
     have hI := instP_F (hin _ hqm)
     have hId : makesB b.insts[q].op = true → hasV f b.insts[q].dst = true := fun h => by
      rcases hI.dst with ⟨d1, _⟩ | ⟨_, _, d3⟩
      ·rw [h] at d1; cases d1
      ·exact d3
     refine zf<|zc<|zi<|zSr<|z8 (zIM q jv Z2 Z Z Z (qq hq2))<|zVGvloadWF Yg Z2 Z Z<|zt (cs := [.int .i64 0, .int .i64 0, .raw (.slice none 0 0), .int .i64 0]) Zy Z Z<|fun i8 => zn Z2 Z Z Z Z Z Z .head Z<|zd (yf (t := 8) Z .head)<|z2<|zSr<|zVGvloadWF jq jj Z Z<|zVGvloadWF Yg Z2 Z Z<|zg (yinst_spec f b.insts[q] (List.all_eq_true.2 hI.args) hI.len hId) Z<|zVGvnot Z<|z2<|zu Z (fun cq=>?_) (fun cq=>?_)
     ·refine zSr<|zVzAi Z<|z2<|zj<|zk (x := .int _ _) Z ?_
      rw [hbad (by unfold blkT; rw [hpall, Bool.eq_false_iff.2 (all_bad hq2 (by simpa using cq))]; rfl)]; rfl
     ·refine zf<|zRg<|zVzAd Z Z<|zVzMi Z<|z2 ?_
      exact ⟨q + 1, zR7, zR1, zLe, ⟨hq2, all_take hq2 hqall (by simpa using cq)⟩, by omega⟩
    ·have hqn : q = b.insts.length := by simp at cp2; omega
     subst hqn
     rw [qv] at hqall
     refine y6<|zSr<|zVGvloadWF jq jj Z Z<|zVzFF je Z Ze Z Z<|zVGvloadWF isAgg56 Ze Z Z<|zg (yterm_spec f b.term (term_var htm)) Z<|zVGvnot Z<|z2<|zu Z (fun ct=>?_) (fun ct=>?_)
     ·refine zSr<|zVzAi Z<|z2<|zj<|zk (x := .int _ _) Z ?_
      rw [hbad (by unfold blkT; rw [hpall, hqall]; simpa using ct)]; rfl
     ·refine zf<|zRg<|zVzAd Z Z<|zVzMi Z<|z2 ?_
      exact ⟨k + 1, zR3, zR1, zLe, ⟨hk2, all_take hk2 hall (by rw [hbk]; unfold blkT; rw [hpall, hqall]; simpa using ct)⟩, by omega⟩
  ·have hkn : k = f.blocks.length := by simp at ck; omega
   subst hkn
   rw [qv] at hall
   refine y6<|zSr<|zVzAi Z<|z2<|zj<|zk (x := .int _ _) Z ?_
   unfold typedB; rw [hsb, hall]; rfl
end Go.Proofs.YtiojekbkamegdaaGreatDoor
namespace Go.Proofs.YtiojekbkamegdaaGreatDoor
open Go.Proofs.Tryz
open Go.Proofs Go.Lib Go.Shelf Go.RowKit
variable {E : World}
set_option maxRecDepth 20000
theorem right_spec (f : PFunc) (hf : small f) (hL : Letters E) : AFun prog E 143 [.agg (encF f)] (.bool (typedB f)) := by
 refine zp func143 Z (by decide) Z<|zSr<|yc (cs := _) Z Z Z<|zVzAb Z<|z2<|zSr<|zVGvloadWF jq jj Z Z<|zg (Typed_spec f hf hL) Z<|zVGveqlI Z Z<|zVzAb Z<|z2<|zj<|zk (x := .bool _) Z ?_
 cases typedB f <;> rfl
theorem typedB_ends {f : PFunc} (h : typedB f = true) : EndsOk f := by
 unfold typedB at h
 rw [w6, shapedB_eq] at h
 exact (of_decide_eq_true h.1).ends
theorem predsX_spec (f : PFunc) (hf : small f) (hL : Letters E) (ht : typedB f = true) : AFun prog E 88 [.agg (encF f)] (froN eI (predsR f f.blocks.length)) := by
 have hn := hf.2.2.1
 refine zp func88 Z (by decide) Z<|zSr<|yc (cs := _) Z Z Z<|z8 (zAr Z)<|z2<|zc<|zSr<|zVGvloadWF jq jj Z Z<|zg (right_spec f hf hL) Z<|zVGvnot Z<|z2<|yj Z (by rw [ht]; rfl)<|zf<|zSr<|zVGvloadWF jq jj Z Z<|zg (preds_spec f (typedB_ends ht) (by omega)) Z<|z8 (zAf Z)<|z2<|zj<|zk (x := .fro _ _) Z ?_
 rfl
theorem orderO_spec (f : PFunc) (hE : EndsOk f) (hn : f.blocks.length ≤ 1000) : AFun prog E 150 [.agg (encF f)] (.fro 1 ((orderT (EndsOf f) f.blocks.length).map encI)) :=
 order_spec f hE (by omega) fun l i T h => reverse_own l i T h
theorem orderX_spec (f : PFunc) (hf : small f) (hL : Letters E) (ht : typedB f = true) : AFun prog E 87 [.agg (encF f)] (.fro 1 ((orderT (EndsOf f) f.blocks.length).map encI)) := by
 have hn := hf.2.2.1
 refine zp func87 Z (by decide) Z<|zSr<|yc (cs := _) Z Z Z<|z8 (zAr Z)<|z2<|zc<|zSr<|zVGvloadWF jq jj Z Z<|zg (right_spec f hf hL) Z<|zVGvnot Z<|z2<|yj Z (by rw [ht]; rfl)<|zf<|zSr<|zVGvloadWF jq jj Z Z<|zg (orderO_spec f (typedB_ends ht) (by omega)) Z<|z8 (zAf Z)<|z2<|zj<|zk (x := .fro _ _) Z ?_
 rfl
def encB (x : Bool) : List AV := [.bool x]
theorem reach_spec (f : PFunc) (hE : EndsOk f) (hn : f.blocks.length ≤ 1000) : AFun prog E 146 [.agg (encF f)] (.fro 1 ((reachB (EndsOf f) f.blocks.length).map encB)) := by
 have hG := hE.grph
 have hol := order_len hG
 refine zp func146 Z (by decide) Z<|zSr<|yc (cs := _) Z Z Z<|z8 (zAr Z)<|z2<|zSr<|zVzFF jh Z Z1 Z Z<|zVzLf Z8 Z<|zVGvlenM jl Z<|AOps.makeB (m := f.blocks.length) jm Yb Z Z Z Z Z (by simp) (by simp) (by show (1 : Int) * _ ≤ _; omega) (by omega)<|fun i9 => z8 (zAo Z)<|z2<|zc<|zSr<|zVGvloadWF jq jj Z Z<|zg (orderO_spec f hE hn) Z<|zVGvlenM j6 Z<|zVzMi Z<|z2<|zi<|y7 (γ := Nat) [3, 11, 12] (fun k => [(13, .int .i64 k)]) (fun k => [(i9, .grow 1 4 (cB (setsT (List.replicate f.blocks.length false) ((orderT (EndsOf f) f.blocks.length).take k))))]) (fun k => k ≤ (orderT (EndsOf f) f.blocks.length).length) (fun k => (orderT (EndsOf f) f.blocks.length).length - k) 0 zR1 zLe (qt _) ?_
 rintro k hk
 refine zSr<|zVGvlss Z Z<|z2<|zc<|zo Z (fun ck=>?_) (fun ck=>?_)
 ·have hk2 : k < (orderT (EndsOf f) f.blocks.length).length := by simp at ck; omega
  obtain ⟨b, hb⟩ : ∃ b, (orderT (EndsOf f) f.blocks.length)[k] = b := ⟨_, rfl⟩
  have hr := order_rng hG.toEOk (hb ▸ qu hk2)
  refine zf<|zc<|zi<|zSr<|z8 (zIM k j6 j7 Z Z Z (by rw [qq hk2, hb])) ?_
  refine zVzLi j9 Z<|zVzAi Z<|z2<|zRg<|z8 (zMo Z)<|zVzMi Z<|z8 (yg (j := b.toNat) jm Z5 Z Z (by omega) ⟨_, .head⟩ (by rw [cB_len, setsT_len]; simp) (by omega))<|q8 (j := b.toNat) Z5 Z Z .head (by rw [setsT_len]; simp; omega)<|z2<|zRg<|zVzAd Z Z<|zVzMi Z<|z2 ?_
  exact ⟨k + 1, zR3, zR1, ⟨_, (.refl _), by rw [qr hk2, setsT_snoc, hb]⟩, hk2, by omega⟩
 ·have hkn : k = (orderT (EndsOf f) f.blocks.length).length := by simp at ck; omega
  subst hkn
  rw [qv]
  refine y6<|zSr<|z8 (zMo Z)<|z8 (zAo Z)<|z2<|zw (GStep.knowB (t := 2) Z .head (by rw [setsT_len]; simp))<|zj<|zk (x := .fro _ _) Z ?_
  rfl
theorem reachX_spec (f : PFunc) (hf : small f) (hL : Letters E) (ht : typedB f = true) : AFun prog E 83 [.agg (encF f)] (.fro 1 ((reachB (EndsOf f) f.blocks.length).map encB)) := by
 have hn := hf.2.2.1
 refine zp func83 Z (by decide) Z<|zSr<|yc (cs := _) Z Z Z<|z8 (zAr Z)<|z2<|zc<|zSr<|zVGvloadWF jq jj Z Z<|zg (right_spec f hf hL) Z<|zVGvnot Z<|z2<|yj Z (by rw [ht]; rfl)<|zf<|zSr<|zVGvloadWF jq jj Z Z<|zg (reach_spec f (typedB_ends ht) (by omega)) Z<|z8 (zAf Z)<|z2<|zj<|zk (x := .fro _ _) Z ?_
 rfl
theorem indexB_spec (xs : List Bool) (v : Bool) (hl : xs.length ≤ 281474976710656) : AFun prog E 145 [.fro 1 (xs.map encB), .bool v] (.int .i64 (firstI (fun x => decide (v = x)) xs 0)) := by
 refine zp func145 Z (by decide) Z<|zSr<|zVzAi Z<|z2<|zc<|zSr<|zVzMf Z<|zVGvlenM jm Z<|zVzMi Z<|z2<|zi<|y7 (γ := Nat) [0, 1, 7] (fun k => [(8, .int .i64 k)]) (fun k => []) (fun k => k ≤ xs.length ∧ (xs.take k).all (fun x => !decide (v = x))) (fun k => xs.length - k) 0 zR1 zLe (⟨qt _, Z⟩) ?_
 rintro k ⟨hk, hall⟩
 refine zSr<|zVGvlss Z Z<|z2<|zc<|zo Z (fun ck=>?_) (fun ck=>?_)
 ·have hk2 : k < xs.length := by simp at ck; omega
  refine zf<|zc<|zi<|zSr<|zVzMi Z<|zVzAi Z<|z2<|zSr<|zVzMb Z<|zVzMf Z<|zVzMi Z<|z8 (zIM k jm Z5 Z Z Z (qq hk2))<|z8 (q9 (c := .bool _) Yy Z)<|z8 (Gv.eqlB Yw Z Z)<|z2<|zu Z (fun cp=>?_) (fun cp=>?_)
  ·refine zSr<|zVzMi Z<|zVzAi Z<|z2<|zj<|zk (x := .int _ _) Z ?_
   rw [firstI_drop _ xs k hk hall, List.drop_eq_getElem_cons hk2, firstI, if_pos (by simpa using cp)]
  ·refine zf<|zRg<|zVzAd Z Z<|zVzMi Z<|z2 ?_
   exact ⟨k + 1, zR3, zR1, zLe, ⟨hk2, by rw [qr hk2, List.all_append, hall]; simpa using cp⟩, by omega⟩
 ·have hkn : k = xs.length := by simp at ck; omega
  refine y6<|zSr<|zVzAi Z<|z2<|zj<|zk (x := .int _ _) Z ?_
  rw [firstI_drop _ xs k hk hall, hkn, List.drop_length, firstI]
theorem containsB_spec (xs : List Bool) (v : Bool) (hl : xs.length ≤ 281474976710656) : AFun prog E 82 [.fro 1 (xs.map encB), .bool v] (.bool (xs.contains v)) := by
 refine zp func82 Z (by decide) Z<|zSr<|zVzAb Z<|z2<|zSr<|zVzMf Z<|zVzMb Z<|zg (indexB_spec xs v hl) Z<|z8 (qd Z Z)<|zVzAb Z<|z2<|zj<|zk (x := .bool _) Z ?_
 rw [firstI_ge]; congr 1; rw [qz]; simp
theorem cloneO (xs : List Int) (hl : xs.length ≤ 1000) : ACall prog E 93 [.fro 1 (xs.map encI)] [] (fun x O' => ∃ i : Nat, x = .own i xs.length ∧ O' = [(i, .grow 1 3 (cI xs))]) := by
 refine zp func93 Z (by decide) Z<|zSr<|z8 (zAr Z)<|z2<|zc<|zSr<|zVzMf Z<|AOps.isNil j6 Z Z (fun hnil=>?_) ?_
 ·have hx : xs = [] := by simpa using hnil
  subst hx
  refine z2<|yq Z Z<|zSr<|z8 (zAr Z)<|z2<|zj ?_
  repeat (first | refine aseqQ_ret ?_ | refine ablockQ_ret ?_)
  refine adopt_fin (s := 2) (k := 1) (T := 3) Z (fun i=>?_)
  refine zk (x := .own _ _) Z ?_
  exact ⟨i, rfl, rfl⟩
 ·refine z2<|yj Z Z<|zf<|zSr<|yh (k := 1) j6 Zr<|fun i5 => zVzMf Z<|ym (k := 1) j6 Zr Z Z Z Z Z (fun _ => .head) (by simp) (by decide) (all_cell (fun _ => Z) xs) (by show (_ + _) * 8 ≤ _; simp <;> omega) (by simp <;> omega)<|fun i7 => z8 (zAo Z)<|z2<|zj<|zk (x := .own _ _) Z ?_
  exact ⟨i7, (by simp), by rw [← cI_flat]; rfl⟩
theorem predsR_row (f : PFunc) {k : Nat} (h : k < f.blocks.length) : (predsR f f.blocks.length)[k]? = some (predsT (EndsOf f) f.blocks.length (k : Int)) := by unfold predsR; rw [qy, List.getElem?_range h]; rfl
theorem joined_spec (f : PFunc) (hE : EndsOk f) (hf : small f) : AFun prog E 144 [.agg (encF f)] (.bool (joinedB f)) := by
 have hn := hf.2.2.1
 refine zp func144 Z (by decide) Z<|zSr<|yc (cs := _) Z Z Z<|zVzAb Z<|z2<|zSr<|zVGvloadWF jq jj Z Z<|zg (preds_spec f hE (by omega)) Z<|z8 (zAf Z)<|z2<|zc<|zSr<|zVzFF jh Z Z1 Z Z<|zVzLf Z8 Z<|zVGvlenM jl Z<|zVzMi Z<|z2<|zi<|y7 (γ := Nat) [3, 12, 13] (fun k => [(14, .int .i64 k)]) (fun k => []) (fun k => k ≤ f.blocks.length ∧ (List.range k).all (blkJ f) = true) (fun k => f.blocks.length - k) 0 zR1 zLe (⟨qt _, Z⟩) ?_
 rintro k ⟨hk, hall⟩
 refine zSr<|zVGvlss Z Z<|z2<|zc<|zo Z (fun ck=>?_) (fun ck=>?_)
 ·have hk2 : k < f.blocks.length := by simp at ck; omega
  obtain ⟨b, hbk⟩ : ∃ b, f.blocks[k] = b := ⟨_, rfl⟩
  have hget : f.blocks[k]? = some b := by rw [qq hk2, hbk]
  obtain ⟨hb0, hb1, hb2, hb3, hb4⟩ := hf.2.2.2.2 b (hbk ▸ qu hk2)
  refine zf<|zc<|zi<|zSr<|zVzMi Z<|z8 (zIM k jl jw Z Z Z hget)<|zVGvloadWF Yc jw Z Z<|zt (cs := [.str ⟨#[]⟩, .raw (.slice none 0 0), .raw (.slice none 0 0), .int .i64 0, .int .i64 0, .int .i64 0, .int .i64 0]) Zd Z Z<|fun i5 => zVzAi Z<|zn jw Z Z Z Z Z Z .head Z<|zd (yf (t := 5) Z .head)<|z2<|zSr<|zVzFF je Z Zn Z Z<|zVzLf Y4 Z<|zVGvlenM jx Z<|zVzMi Z<|z2<|zi<|y7 (γ := Nat) [3, 4, 12, 13, 14, 20, 21] (fun j => [(22, .int .i64 j)]) (fun j => []) (fun j => j ≤ b.phis.length ∧ (b.phis.take j).all (phJ f k) = true) (fun j => b.phis.length - j) 0 zR1 zLe (⟨qt _, Z⟩) ?_
  rintro j ⟨hj, hjall⟩
  refine zSr<|zVGvlss Z Z<|z2<|zc<|zo Z (fun cj=>?_) (fun cj=>?_)
  ·have hj2 : j < b.phis.length := by simp at cj; omega
   have hpf := (hb3 _ (qu hj2)).2
   refine zf<|zc<|zi<|zSr<|z8 (zIM j jx Z0 Z Z Z (qq hj2))<|zVGvloadWF Yf Z0 Z Z<|zt (cs := [.int .i64 0, .raw (.slice none 0 0), .raw (.slice none 0 0)]) Zk Z Z<|fun i7 => zn Z0 Z Z Z Z Z Z .head Z<|zd (yf (t := 7) Z .head)<|z2<|zSr<|zVzFF js Z jd Z Z<|zVzLf jk Z<|zy Z (zm (.rest _)) (cloneO b.phis[j].from_ hpf) ?_
   rintro r28 O28 ⟨i8, rfl, rfl⟩
   refine z8 (zAo Z)<|z2<|zSr<|z8 (zMo Z)<|zy Z (zm (.l (.rest _))) (sort_own b.phis[j].from_ i8 _ (by omega)) ?_
   rintro r30 O30 ⟨rfl, rfl⟩
   refine z2<|zw (GStep.knowI (t := 8) Z .head (by rw [(sortI_perm _).length_eq]))<|zSr<|zVzMf Z<|zVzMf Z<|zVzMi Z<|z8 (zIM k jg jd Z Z Z (predsR_row f hk2))<|zVzLf jk Z<|zg (equalI_spec (sortI b.phis[j].from_) (predsT (EndsOf f) f.blocks.length (k : Int)) (by unfold okL; rw [(sortI_perm _).length_eq]; omega)) Z<|zVGvnot Z<|z2<|zu Z (fun cq=>?_) (fun cq=>?_)
   ·refine zSr<|zVzAb Z<|z2<|zj<|zk (x := .bool _) Z ?_
    rw [show joinedB f = false from range_all_bad hk2 (by rw [blkJ_at hget]; exact Bool.eq_false_iff.2 (all_bad hj2 (by simpa [phJ] using cq)))]
   ·refine zf<|zRg<|zVzAd Z Z<|zVzMi Z<|z2 ?_
    exact ⟨j + 1, zR7, zR1, zLe, ⟨hj2, all_take hj2 hjall (by simpa [phJ] using cq)⟩, by omega⟩
  ·have hjn : j = b.phis.length := by simp at cj; omega
   subst hjn
   rw [qv] at hjall
   refine y6<|zRg<|zVzAd Z Z<|zVzMi Z<|z2 ?_
   exact ⟨k + 1, zR3, zR1, zLe, ⟨hk2, range_all_succ hall (by rw [blkJ_at hget]; exact hjall)⟩, by omega⟩
 ·have hkn : k = f.blocks.length := by simp at ck; omega
  subst hkn
  refine y6<|zSr<|zVzAb Z<|z2<|zj<|zk (x := .bool _) Z ?_
  rw [show joinedB f = true from hall]
theorem joinedX_spec (f : PFunc) (hf : small f) (hL : Letters E) : AFun prog E 81 [.agg (encF f)] (.int .i64 (if (typedB f && joinedB f) = true then 0 else 3)) := by
 refine zp func81 Z (by decide) Z<|zSr<|yc (cs := _) Z Z Z<|zVzAi Z<|z2<|zc<|zSr<|zVGvloadWF jq jj Z Z<|zg (right_spec f hf hL) Z<|zVGvnot Z<|zVzMb Z<|zq (s := 6) Z (fun ct=>?_) (fun ct=>?_)
 ·refine z6 Z Z ct<|z6 Z Z ct<|z6 Z Z ct<|zVzPt Z ct Z<|z2<|yq Z Z<|zSr<|zVzAi Z<|z2<|zj<|zk (x := .int _ _) Z ?_
  rw [show typedB f = false by simpa using ct]; rfl
 ·have ht : typedB f = true := by simpa using ct
  refine z7 Z Z ct<|zVGvloadWF jq jj Z Z<|z7 Z Z ct<|zg (joined_spec f (typedB_ends ht) hf) Z<|z7 Z Z ct<|zVGvnot Z<|zVzPf Z ct Z<|z2<|zu Z (fun cj=>?_) (fun cj=>?_)
  ·refine zSr<|zVzAi Z<|z2<|zj<|zk (x := .int _ _) Z ?_
   rw [show joinedB f = false by simpa using cj]; simp
  ·refine zf<|zSr<|zVzAi Z<|z2<|zj<|zk (x := .int _ _) Z ?_
   rw [ht, show joinedB f = true by simpa using cj]; rfl
end Go.Proofs.YtiojekbkamegdaaGreatDoor
namespace Go.Proofs.YtiojekbkamegdaaGreatDoor
open Go.Proofs.Tryz
open Go.Proofs
variable {E : World}
set_option maxRecDepth 20000
theorem meet_spec {S : Int → List Int} {V nr al : List Int} {n K i j : Nat} {T T' : TypeId} (hV : Ord S (gi al) V) (hN : NInv S (gi al) V (gi nr)) (hK : ∀ a b, a ∈ V → b ∈ V → gi al a + gi al b < K) (hK0 : 0 < K) (hnl : nr.length = n) (hal : al.length = n) (hlt : ∀ b ∈ V, b < n) {a b : Int} (ha : gi nr a ≠ -1) (hb : gi nr b ≠ -1) :
  ACall prog E 152 [.agg [.own i n, .own j n], .int .i64 a, .int .i64 b] [(j, .grow 1 T' (cI al)), (i, .grow 1 T (cI nr))]
   fun r O => r = .int .i64 (meetF (gi nr) (gi al) K a b) ∧ O = [(j, .grow 1 T' (cI al)), (i, .grow 1 T (cI nr))] := by
 have hget : ∀ x, gi nr x ≠ -1 → 0 ≤ x ∧ x.toNat < n := fun x hx => by
  have hm := hN.mem x hx
  have := hV.nn x hm
  have := hlt x hm
  omega
 have hNl : ∀ x, gi nr x ≠ -1 → nr[x.toNat]? = some (gi nr x) := fun x hx => gi_get (hget x hx).1 (by rw [hnl]; exact (hget x hx).2)
 have hAl : ∀ x, gi nr x ≠ -1 → al[x.toNat]? = some (gi al x) := fun x hx => gi_get (hget x hx).1 (by rw [hal]; exact (hget x hx).2)
 have hpos : ∀ x, gi nr x ≠ -1 → 0 ≤ gi al x := fun x hx => (hV.pos x).1 (hN.mem x hx)
 refine zp func152 Z (by decide) Z<|zSr<|yk (cs := _) Z Z Z Z<|fun i3 => zVzAi Z<|z2<|zc<|zi<|y7 (γ := Int × Int) [3] (fun g => [(1, .int .i64 g.1), (2, .int .i64 g.2)]) (fun g => [(i3, .cells 221 [.own i n, .own j n]), (j, .grow 1 T' (cI al)), (i, .grow 1 T (cI nr))]) (fun g => gi nr g.1 ≠ -1 ∧ gi nr g.2 ≠ -1 ∧ meetF (gi nr) (gi al) K g.1 g.2 = meetF (gi nr) (gi al) K a b) (fun g => (gi al g.1 + gi al g.2).toNat) (a, b) zR2 zLe (⟨ha, hb, Z⟩) ?_
 rintro ⟨x, y⟩ ⟨hx, hy, hm⟩
 try dsimp only at *
 refine zc<|zSr<|zVzMi Z<|zVzMi Z<|zVGvneqI Z Z<|z2<|zu Z (fun cxy=>?_) (fun cxy=>?_)
 ·have hxy : x ≠ y := by simpa using cxy
  refine zf<|zi<|zc<|zi<|y7 (γ := Int) [2, 3] (fun u => [(1, .int .i64 u)]) (fun u => [(i3, .cells 221 [.own i n, .own j n]), (j, .grow 1 T' (cI al)), (i, .grow 1 T (cI nr))]) (fun u => gi nr u ≠ -1 ∧ meetF (gi nr) (gi al) K u y = meetF (gi nr) (gi al) K a b ∧ (u = x ∨ gi al u < gi al x)) (fun u => (gi al u).toNat) x zR1 zLe (⟨hx, hm, .inl Z⟩) ?_
  rintro u ⟨hu, hmu, hux⟩
  refine zc<|zc<|zr (fun j => false) (by kernel_rfl) Z (zm (.r (.r (.r (.rest _)))))<|zTk 0 Z (ze Zh Z jd (by decide) Z Z)<|zTk 1 Z (zl (c := .own _ _) jk Z ⟨_, .head⟩ Z)<|zTk 2 Z (zMi Z)<|zTk 3 Z (yg (j := u.toNat) j6 j7 Z Z (by have := hget u hu; omega) ⟨_, .t1⟩ (by first | rfl | (simp [cI_len, cB_len]; done) | (simp [cI_len, cB_len]; omega)) (hget u hu).2)<|zTk 4 Z (yr (j := u.toNat) j9 Z ⟨_, .t1⟩ (hAl u hu))<|zTk 5 Z (ze Zh Z jd (by decide) Z Z)<|zTk 6 Z (zl (c := .own _ _) jk Z ⟨_, .head⟩ Z)<|zTk 7 Z (zMi Z)<|zTk 8 Z (yg (j := y.toNat) j6 j7 Z Z (by have := hget y hy; omega) ⟨_, .t1⟩ (by first | rfl | (simp [cI_len, cB_len]; done) | (simp [cI_len, cB_len]; omega)) (hget y hy).2)<|zTk 9 Z (yr (j := y.toNat) j9 Z ⟨_, .t1⟩ (hAl y hy))<|zTk 10 Z (Gv.gtr Z Z)<|zDn<|zu Z (fun c1=>?_) (fun c1=>?_)
  ·have c1 : gi al y < gi al u := by simpa using c1
   obtain ⟨h1, h2, h3, h4⟩ := meet_left hV hN hK hu hy c1
   have hp := hpos u hu
   have hp' := hpos _ h2
   refine zf<|zi<|zRg<|z8 (ze Zh Z jd (by decide) Z Z)<|z8 (zl (c := .own _ _) jk Z ⟨_, .head⟩ Z)<|zVzMi Z<|z8 (yg (j := u.toNat) j6 j7 Z Z (by have := hget u hu; omega) ⟨_, .t2⟩ (by first | rfl | (simp [cI_len, cB_len]; done) | (simp [cI_len, cB_len]; omega)) (hget u hu).2)<|z8 (yr (j := u.toNat) j9 Z ⟨_, .t2⟩ (hNl u hu))<|zVzAi Z<|z2 ?_
   exact ⟨gi nr u, zR2, zR1, zLe, ⟨h2, by rw [← h4]; exact hmu, .inr (by rcases hux with rfl | h <;> omega)⟩, by omega⟩
  ·have c1 : ¬ gi al y < gi al u := by simpa using c1
   refine y6<|zi<|y7 (γ := Int) [1, 3] (fun z => [(2, .int .i64 z)]) (fun z => [(i3, .cells 221 [.own i n, .own j n]), (j, .grow 1 T' (cI al)), (i, .grow 1 T (cI nr))]) (fun z => gi nr z ≠ -1 ∧ meetF (gi nr) (gi al) K u z = meetF (gi nr) (gi al) K a b ∧ (z = y ∨ gi al z < gi al y)) (fun z => (gi al z).toNat) y zR1 zLe (⟨hy, hmu, .inl Z⟩) ?_
   rintro z ⟨hz, hmz, hzy⟩
   refine zc<|zc<|zr (fun j => false) (by kernel_rfl) Z (zm (.r (.r (.r (.rest _)))))<|zTk 0 Z (ze Zh Z jd (by decide) Z Z)<|zTk 1 Z (zl (c := .own _ _) jk Z ⟨_, .head⟩ Z)<|zTk 2 Z (zMi Z)<|zTk 3 Z (yg (j := z.toNat) j6 j7 Z Z (by have := hget z hz; omega) ⟨_, .t1⟩ (by first | rfl | (simp [cI_len, cB_len]; done) | (simp [cI_len, cB_len]; omega)) (hget z hz).2)<|zTk 4 Z (yr (j := z.toNat) j9 Z ⟨_, .t1⟩ (hAl z hz))<|zTk 5 Z (ze Zh Z jd (by decide) Z Z)<|zTk 6 Z (zl (c := .own _ _) jk Z ⟨_, .head⟩ Z)<|zTk 7 Z (zMi Z)<|zTk 8 Z (yg (j := u.toNat) j6 j7 Z Z (by have := hget u hu; omega) ⟨_, .t1⟩ (by first | rfl | (simp [cI_len, cB_len]; done) | (simp [cI_len, cB_len]; omega)) (hget u hu).2)<|zTk 9 Z (yr (j := u.toNat) j9 Z ⟨_, .t1⟩ (hAl u hu))<|zTk 10 Z (Gv.gtr Z Z)<|zDn<|zu Z (fun c2=>?_) (fun c2=>?_)
   ·have c2 : gi al u < gi al z := by simpa using c2
    obtain ⟨h1, h2, h3, h4⟩ := meet_right hV hN hK hu hz c2
    have hp := hpos z hz
    have hp' := hpos _ h2
    refine zf<|zi<|zRg<|z8 (ze Zh Z jd (by decide) Z Z)<|z8 (zl (c := .own _ _) jk Z ⟨_, .head⟩ Z)<|zVzMi Z<|z8 (yg (j := z.toNat) j6 j7 Z Z (by have := hget z hz; omega) ⟨_, .t2⟩ (by first | rfl | (simp [cI_len, cB_len]; done) | (simp [cI_len, cB_len]; omega)) (hget z hz).2)<|z8 (yr (j := z.toNat) j9 Z ⟨_, .t2⟩ (hNl z hz))<|zVzAi Z<|z2 ?_
    exact ⟨gi nr z, zR2, zR1, zLe, ⟨h2, by rw [← h4]; exact hmz, .inr (by rcases hzy with rfl | h <;> omega)⟩, by omega⟩
   ·have c2 : ¬ gi al u < gi al z := by simpa using c2
    have hp1 := hpos x hx
    have hp2 := hpos y hy
    have hp3 := hpos u hu
    have hp4 := hpos z hz
    have hin : gi al x = gi al y → x = y := fun e => hV.inj x y (hN.mem x hx) (hN.mem y hy) e
    refine y6 ?_
    exact ⟨(u, z), zR1, zR2, zLe, ⟨hu, hz, hmz⟩, by dsimp only; rcases hux with rfl | hux <;> rcases hzy with rfl | hzy <;> omega⟩
 ·have hxy : x = y := by simpa using cxy
  subst hxy
  rw [meet_same hK0] at hm
  refine y6<|zSr<|zVzMi Z<|zVzAi Z<|z2<|zw (GStep.drop .head)<|zj<|zk (x := .int _ _) Z ?_
  exact ⟨by rw [hm], rfl⟩
end Go.Proofs.YtiojekbkamegdaaGreatDoor
