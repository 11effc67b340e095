/- The rule of an instruction, of a phi; rounds that only grow; what holds of less. Plain law. No conditions but int64s. -/
import Derived.Test.YtbkgklpihnfnjaaGreatDoorJh
import Derived.Test.YtbkgklpihnfnjaaGreatDoorJd
import Derived.Lib.MapLaws
import Derived.Test.YtbkgklpihnfnjaaGreatDoorJe
import Derived.Test.YtbkgklpihnfnjaaGreatDoorJa
import Derived.Test.YtbkgklpihnfnjaaGreatDoorJc
set_option linter.unusedVariables false
set_option linter.unusedSimpArgs false
set_option linter.unusedSectionVars false
namespace Go.Proofs.YtbkgklpihnfnjaaGreatDoor
open Go.Proofs.Tryz
open Go.Proofs Go.Lib Go.Shelf Go.RowKit
set_option maxRecDepth 20000
variable {E : World}
def tyWord (t : Int) : ByteArray := if t = 0 then ⟨#[105, 110, 116]⟩ else if t = 1 then ⟨#[98, 111, 111, 108]⟩ else if t = 2 then ⟨#[97, 114, 114]⟩ else ⟨#[]⟩
theorem strL_of (s : ByteArray) : strL s.data.toList = s := by unfold strL; simp
def nameR : List Int → Bool
 | [] => false
 | c :: rs => letterC c && (rs.all innerC && decide (rs.length + 1 ≤ 16))
theorem letter_inner {c : Int} (h : letterC c = true) : innerC c = true := by unfold innerC; rw [h]; rfl
theorem nmGo_pos (s : ByteArray) : ∀ (n p : Nat), s.size - p ≤ n → 0 < p → p ≤ s.size → nmGo s p = ((runesFrom s p).all innerC && decide ((runesFrom s 0).length ≤ 16)) := by
 intro n
 induction n with
 | zero =>
  intro p h hp hps
  have hne : ¬ s = ⟨#[]⟩ := fun e => by subst e; have : p ≤ 0 := hps; omega
  rw [nmGo, dif_neg (by omega), runesFrom_ge (p := p) (by omega)]
  simp [hne]; omega
 | succ n ih =>
  intro p h hp hps
  by_cases hlt : p < s.size
  ·have hd := (decode_ok s p).1
   have hw : p + (Utf8.decode s p).2 ≤ s.size := by
    have := decodeL_le (s.data.toList.drop p) (by intro e; have := congrArg List.length e; rw [List.length_drop] at this; have h2 : s.data.toList.length = s.size := Array.length_toList; simp only [List.length_nil] at this; omega)
    rw [decodeL_drop, List.length_drop] at this
    have h2 : s.data.toList.length = s.size := Array.length_toList
    omega
   rw [nmGo, dif_pos hlt, runesFrom_lt hlt, List.all_cons]
   have hp0 : decide (p = 0) = false := qr (by omega)
   rw [hp0, Bool.false_and, Bool.false_or]
   cases hi : innerC ((Utf8.decode s p).1 : Int) with
   | false => simp
   | true => rw [if_neg (by simp), ih _ (by omega) (by omega) hw]; simp
  ·have hne : ¬ s = ⟨#[]⟩ := fun e => by subst e; have : p ≤ 0 := hps; omega
   rw [nmGo, dif_neg hlt, runesFrom_ge (p := p) hlt]
   simp [hne]; omega
theorem step_le {s : ByteArray} {p : Nat} (hlt : p < s.size) : p + (Utf8.decode s p).2 ≤ s.size := by
 have h2 : s.data.toList.length = s.size := Array.length_toList
 have := decodeL_le (s.data.toList.drop p) (by intro e; have := congrArg List.length e; rw [List.length_drop] at this; simp only [List.length_nil] at this; omega)
 rw [decodeL_drop, List.length_drop] at this
 omega
theorem scanName_R (s : ByteArray) : scanName s = nameR (runesFrom s 0) := by
 unfold scanName
 by_cases hlt : 0 < s.size
 ·have hd := (decode_ok s 0).1
  have hw := step_le hlt
  have hr := runesFrom_lt hlt
  have hl := congrArg List.length hr
  rw [List.length_cons] at hl
  rw [nmGo, dif_pos hlt]
  have h2 : nameR (runesFrom s 0) = (letterC ((Utf8.decode s 0).1 : Int) && ((runesFrom s (0 + (Utf8.decode s 0).2)).all innerC && decide ((runesFrom s (0 + (Utf8.decode s 0).2)).length + 1 ≤ 16))) := by rw [hr]; rfl
  rw [h2]
  cases hc : letterC ((Utf8.decode s 0).1 : Int) with
  | false => simp
  | true =>
   rw [letter_inner hc, if_neg (by simp), nmGo_pos s _ _ (Nat.le_refl _) (by omega) hw, hl]; rfl
 ·rw [nmGo, dif_neg hlt, runesFrom_ge hlt]
  have : s = ⟨#[]⟩ := by
   have h2 : s.data.toList.length = s.size := Array.length_toList
   have h3 : s.data.toList = [] := qn (by omega)
   rw [← strL_of s, h3]; rfl
  simp [this, nameR]
theorem cnt_end (k : Nat) : (decide ((1 : Int) ≤ ((k + 1 : Nat) : Int)) && decide (((k + 1 : Nat) : Int) ≤ 16)) = (([] : List Int).all innerC && decide (k + 1 + ([] : List Int).length ≤ 16)) := by
 rw [qq (by omega), Bool.true_and]
 show _ = (true && _)
 rw [Bool.true_and, decide_eq_decide]
 show ((k + 1 : Nat) : Int) ≤ 16 ↔ k + 1 + 0 ≤ 16
 omega
theorem nameFrom_pos (s : ByteArray) : ∀ (n p k : Nat), s.size - p ≤ n → nameFrom s p (k + 1) = ((runesFrom s p).all innerC && decide (k + 1 + (runesFrom s p).length ≤ 16)) := by
 intro n
 induction n with
 | zero =>
  intro p k h
  rw [nameFrom, dif_neg (by omega), runesFrom_ge (by omega)]
  exact cnt_end k
 | succ n ih =>
  intro p k h
  by_cases hlt : p < s.size
  ·have hd := (decode_ok s p).1
   rw [nameFrom, dif_pos hlt, runesFrom_lt hlt, List.all_cons]
   have ho : okRune ((Utf8.decode s p).1 : Int) (k + 1) = innerC ((Utf8.decode s p).1 : Int) := by
    unfold okRune innerC letterC digitC
    have : decide (((k + 1 : Nat) : Int) = 0) = false := qr (by omega)
    rw [this]; simp [Bool.or_assoc]
   rw [ho]
   cases hi : innerC ((Utf8.decode s p).1 : Int) with
   | false => simp
   | true => rw [if_pos rfl, ih _ _ (by omega), Bool.true_and, List.length_cons]; congr 2; simp; omega
  ·rw [nameFrom, dif_neg hlt, runesFrom_ge hlt]
   exact cnt_end k
theorem nameB_R (s : ByteArray) : nameB s = nameR (runesFrom s 0) := by
 unfold nameB
 by_cases hlt : 0 < s.size
 ·rw [nameFrom, dif_pos hlt, runesFrom_lt hlt]
  have ho : okRune ((Utf8.decode s 0).1 : Int) 0 = letterC ((Utf8.decode s 0).1 : Int) := by unfold okRune letterC; simp
  rw [ho]
  show _ = (letterC ((Utf8.decode s 0).1 : Int) && _)
  cases hc : letterC ((Utf8.decode s 0).1 : Int) with
  | false => simp
  | true => rw [if_pos rfl, nameFrom_pos s _ _ _ (Nat.le_refl _), Bool.true_and]; congr 2; simp; omega
 ·rw [nameFrom, dif_neg hlt, runesFrom_ge hlt]; rfl
theorem name_eq (s : ByteArray) : nameB s = scanName s := by rw [nameB_R, scanName_R]
structure InstF (f : PFunc) (x : PInst) : Prop where
 op : 0 ≤ x.op ∧ x.op ≤ 26
 len : x.args.length = (takesL x.op).length
 dst : (makesB x.op = false ∧ x.dst = -1) ∨ (makesB x.op = true ∧ x.dst ≠ -1 ∧ hasV f x.dst = true)
 num : isNum x.op = false → x.num = 0
 args : ∀ a ∈ x.args, hasV f a = true
theorem instP_F {f : PFunc} {x : PInst} (h : InstP f x) : InstF f x := by
 obtain ⟨h1, h2, h3, h4⟩ := h
 have hw := wordB_num ⟨h1, h2⟩
 unfold bad2 at h3
 simp only [Bool.or_eq_false_iff, Bool.not_eq_false', qu, Bool.and_eq_false_iff, beq_iff_eq] at h3
 obtain ⟨g1, g2, g3, g4⟩ := h3
 refine ⟨⟨h1, h2⟩, by rw [takes_len]; omega, ?_, fun hn=>?_, List.all_eq_true.1 h4⟩
 ·rw [makesB_eq]
  by_cases hd : x.dst = -1
  ·left
   rw [qq hd] at g2
   exact ⟨by rw [g2]; rfl, hd⟩
  ·right
   rw [qr hd] at g2
   refine ⟨by rw [g2]; rfl, hd, ?_⟩
   rcases g3 with g | g
   ·exact absurd g hd
   ·exact g
 ·rcases g4 with g | g
  ·exact g
  ·rw [hw, hn] at g; cases g
theorem tyWord_spec (t : Int) : AFun prog E 84 [.int .i64 t] (.str (tyWord t)) := by
 refine zk func84 Z (by decide) Z<|zSr<|z8 (y8 (v := .str _) Z)<|z6<|zb<|zSr<|zVzMi Z<|z6<|zg<|zSr<|zVGveqlI Z Z<|zVzAb Z<|z6<|zz Z (fun c1=>?_) (fun c1=>?_)
 ·refine zSr<|z8 (y8 (v := .str _) Z)<|z6<|ze<|zi (x := .str _) Z ?_
  exact congrArg AV.str (by simp_all [tyWord])
 ·refine zSr<|zVGveqlI Z Z<|zVzAb Z<|z6<|zz Z (fun c2=>?_) (fun c2=>?_)
  ·refine zSr<|z8 (y8 (v := .str _) Z)<|z6<|ze<|zi (x := .str _) Z ?_
   exact congrArg AV.str (by simp_all [tyWord])
  ·refine zSr<|zVGveqlI Z Z<|zVzAb Z<|z6<|zz Z (fun c3=>?_) (fun c3=>?_)
   ·refine zSr<|z8 (y8 (v := .str _) Z)<|z6<|ze<|zi (x := .str _) Z ?_
    exact congrArg AV.str (by simp_all [tyWord])
   ·refine zf<|zSr<|z8 (y8 (v := .str _) Z)<|z6<|ze<|zi (x := .str _) Z ?_
    exact congrArg AV.str (by simp_all [tyWord])
end Go.Proofs.YtbkgklpihnfnjaaGreatDoor
namespace Go.Proofs.YtbkgklpihnfnjaaGreatDoor
open Go.Proofs.Tryz
open Go.Proofs Go.Lib Go.Shelf Go.RowKit
set_option maxRecDepth 20000
variable {E : World}
def inB (s : ByteArray) (l : List ByteArray) : Bool := l.any fun t => decide (t = s)
theorem inB_iff {s : ByteArray} {l : List ByteArray} : inB s l = true ↔ s ∈ l := by
 unfold inB; rw [List.any_eq_true]
 constructor
 ·rintro ⟨x, hx, h⟩; have h : x = s := by simpa using h
  exact h ▸ hx
 ·intro h; exact ⟨s, h, by simp⟩
theorem inB_snoc {s t : ByteArray} {l : List ByteArray} : inB s (l ++ [t]) = (inB s l || decide (t = s)) := by unfold inB; rw [List.any_append]; simp
def UnlP (l : List ByteArray) : Prop := ∀ i (h : i < l.length), scanName l[i] = true ∧ inB l[i] (l.take i) = false
instance (l : List ByteArray) : Decidable (UnlP l) := by unfold UnlP; infer_instance
theorem unl_new {t : ByteArray} {l : List ByteArray} {mt : Int} (ht : mt = if inB t l = true then 1 else 0) (hc : decide (0 < mt) = false) : inB t l = false := by
 have hc := of_decide_eq_false hc
 cases h : inB t l with
 | true => rw [h] at ht; simp at ht; omega
 | false => rfl
theorem unl_step {s t : ByteArray} {l : List ByteArray} {m : Option Int} {mt : Int} (hs : m.getD 0 = if inB s l = true then 1 else 0) (ht : mt = if inB t l = true then 1 else 0) (hc : decide (0 < mt) = false) :
  (if s = t then some (mt + 1) else m).getD 0 = if (inB s l || decide (t = s)) = true then 1 else 0 := by
 have h := unl_new ht hc
 rw [h] at ht
 have ht : mt = 0 := by simpa using ht
 by_cases e : s = t
 ·subst e; simp [ht]
 ·rw [if_neg e, hs]
  have e2 : ¬ t = s := fun h => e h.symm
  simp [e2]
theorem unl_upto {l : List ByteArray} {k : Nat} (hn : ∀ i (h : i < l.length), i < k → scanName l[i] = true ∧ inB l[i] (l.take i) = false) (hk : k < l.length) (h1 : scanName l[k] = true) (h2 : inB l[k] (l.take k) = false) :
  ∀ i (h : i < l.length), i < k + 1 → scanName l[i] = true ∧ inB l[i] (l.take i) = false := fun i h hi => by
 by_cases e : i = k
 ·subst e; exact ⟨h1, h2⟩
 ·exact hn i h (by omega)
theorem unlike_spec (l : List ByteArray) (hl : l.length ≤ 100000000) (hs : ∀ s ∈ l, s.size ≤ 140737488355328) (hL : Letters E) : AFun prog E 120 [.fro 1 (l.map encS)] (.bool (decide (UnlP l))) := by
 refine zk func120 Z (by decide) Z<|zSr<|zVzAb Z<|z6<|zSr<|AOps.makeMap<|fun b6 => z8 (y8 (v := mref _) Z)<|z6<|zb<|zSr<|zVzMf Z<|zVGvlenM jh Z<|zVzMi Z<|z6<|zg<|y3 (γ := Nat × List (ByteArray × Int)) [3, 7, 8] (fun g => [(9, .int .i64 g.1)]) (fun g => [(0, mapO b6 g.2)]) (fun g => g.1 ≤ l.length ∧ (∀ i (h : i < l.length), i < g.1 → scanName l[i] = true ∧ inB l[i] (l.take i) = false) ∧ ∀ s, (mget s g.2).getD 0 = if inB s (l.take g.1) = true then 1 else 0) (fun g => l.length - g.1) (0, []) zR1 zLe (⟨qg _, fun i h h2 => absurd h2 (Nat.not_lt_zero _), fun s => Z⟩) ?_
 rintro ⟨k, es⟩ ⟨hk, hn, hm⟩
 try dsimp only at *
 refine zSr<|zVGvlss Z Z<|z6<|zb<|zr Z (fun ck=>?_) (fun ck=>?_)
 ·have hk2 : k < l.length := by omega
  have hmk := hm l[k]
  have hz := hs _ (qh hk2)
  refine zf<|zb<|zg<|zSr<|z8 (zIM k jh jx Z Z Z (qd hk2))<|z8 (ya (c := .str _) Z5 Z)<|z8 (y8 (v := .str _) Z)<|z6<|zb<|zSr<|z8 (y9 (v := .str _) Z)<|zd (zname_spec _ hz hL) Z<|zVGvnot Z<|zVzMb Z<|zo (s := 16) Z (fun c1=>?_) (fun c1=>?_)
  ·refine z7 Z Z c1<|z7 Z Z c1<|z7 Z Z c1<|z7 Z Z c1<|zVzPt Z c1 Z<|z6<|yh Z Z<|zSr<|zVzAb Z<|z6<|ze<|zi (x := .bool _) Z ?_
   exact jb (qr fun h => by have h := h k hk2; simp_all).symm
  ·refine za Z Z c1<|z8 (y9 (v := mref _) Z)<|za Z Z c1<|z8 (y9 (v := .str _) Z)<|za Z Z c1<|z8 (Gv.lookup1S Yg Z3 Zs Z Z ⟨_, .head⟩)<|za Z Z c1<|z8 (yr Z Z)<|zVzPf Z c1 Z<|z6<|zz Z (fun c2=>?_) (fun c2=>?_)
   ·refine zSr<|zVzAb Z<|z6<|ze<|zi (x := .bool _) Z ?_
    exact jb (qr fun h => by have h := h k hk2; simp_all).symm
   ·refine zf<|zRg<|z8 (y9 (v := mref _) Z)<|z8 (y9 (v := .str _) Z)<|z8 (Gv.lookup1S Yg Z3 Zs Z Z ⟨_, .head⟩)<|z8 (Gv.add Z Z (by first | (unfold I64; omega) | (unfold I64; rw [hmk]; split <;> omega)))<|AOps.mapSet Yg Z3 Z Z Z .head<|z6<|zRg<|z8 (Gv.add Z Z (by first | (unfold I64; omega) | (unfold I64; rw [hmk]; split <;> omega)))<|zVzMi Z<|z6 ?_
    exact ⟨(k + 1, mset l[k] ((mget l[k] es).getD 0 + 1) es), zR3, zR1, zLe, ⟨hk2, unl_upto hn hk2 (by simpa using c1) (unl_new hmk (by assumption)), fun s => by dsimp only; rw [mget_set, qe hk2, inB_snoc]; exact unl_step (hm s) hmk (by assumption)⟩, by dsimp only; omega⟩
 ·have hkn : k = l.length := by omega
  refine y2<|zSr<|zVzAb Z<|z6<|ze<|zi (x := .bool _) Z ?_
  exact jb (qq fun i h => hn i h (by omega)).symm
theorem map_take {α : Type} {g : α → ByteArray} {l : List α} {k : Nat} (h : k < l.length) : (l.map g).take (k + 1) = (l.map g).take k ++ [g l[k]] := by
 rw [qe (by simpa using h)]; simp
def VNames (f : PFunc) : List ByteArray := f.vars.map PVar.name
def BNames (f : PFunc) : List ByteArray := f.blocks.map PBlock.name
@[simp] theorem vn_len (f : PFunc) : (VNames f).length = f.vars.length := by unfold VNames; simp
@[simp] theorem bn_len (f : PFunc) : (BNames f).length = f.blocks.length := by unfold BNames; simp
theorem vn_take {f : PFunc} {k : Nat} (h : k < f.vars.length) : (VNames f).take (k + 1) = (VNames f).take k ++ [f.vars[k].name] := map_take h
theorem bn_take {f : PFunc} {k : Nat} (h : k < f.blocks.length) : (BNames f).take (k + 1) = (BNames f).take k ++ [f.blocks[k].name] := map_take h
def ParP (f : PFunc) : Prop := ∀ i (h : i < f.params.length), f.params[i] = (i : Int)
instance (f : PFunc) : Decidable (ParP f) := by unfold ParP; infer_instance
def TysP (f : PFunc) : Prop := ∀ i (h : i < f.vars.length), ¬ tyWord f.vars[i].ty = ⟨#[]⟩
instance (f : PFunc) : Decidable (TysP f) := by unfold TysP; infer_instance
def LensP (f : PFunc) : Prop := f.vars.length ≤ 512 ∧ f.params.length ≤ 8 ∧ f.params.length ≤ f.vars.length ∧ 1 ≤ f.blocks.length ∧ f.blocks.length ≤ 64
instance (f : PFunc) : Decidable (LensP f) := by unfold LensP; infer_instance
def NamesP (f : PFunc) : Prop := TysP f ∧ ParP f ∧ LensP f ∧ UnlP (VNames f) ∧ UnlP (BNames f)
instance (f : PFunc) : Decidable (NamesP f) := by unfold NamesP; infer_instance
theorem pnames_spec (f : PFunc) (h1 : f.vars.length ≤ 100000000) (h2 : f.blocks.length ≤ 100000000) (hp : f.params.length ≤ 100000000) (hn : okNames f) (hL : Letters E) : AFun prog E 74 [.agg (encF f)] (.bool (decide (NamesP f))) := by
 have hnv : (VNames f).length = f.vars.length := by unfold VNames; simp
 have hnb : (BNames f).length = f.blocks.length := by unfold BNames; simp
 refine zk func74 Z (by decide) Z<|zSr<|y6 (cs := _) Z Z Z<|zVzAb Z<|z6<|zSr<|zVzAr Z<|zVzAr Z<|z6<|adopt_wp (t := 3) (k := 1) (T := 9) Z<|fun i3 => adopt_wp (t := 4) (k := 1) (T := 9) Z<|fun i4 => zb<|zSr<|zVzFF jc Z Z9 Z Z<|zVzLf Zn Z<|zVGvlenM js Z<|zVzMi Z<|z6<|zg<|y3 (γ := Nat × Nat) [1, 4, 12, 13] (fun g => [(3, .own g.2 g.1), (14, .int .i64 g.1)]) (fun g => [(i4, .grow 1 9 []), (g.2, .grow 1 9 ((((VNames f).take g.1).map encS).flatten))]) (fun g => g.1 ≤ f.vars.length ∧ ∀ i (h : i < f.vars.length), i < g.1 → ¬ tyWord f.vars[i].ty = ⟨#[]⟩) (fun g => f.vars.length - g.1) (0, i3) zR2 zLe (⟨qg _, fun i h h2 => absurd h2 (Nat.not_lt_zero _)⟩) ?_
 rintro ⟨k, i⟩ ⟨hk, hT⟩
 try dsimp only at *
 refine zSr<|zVGvlss Z Z<|z6<|zb<|zr Z (fun ck=>?_) (fun ck=>?_)
 ·have hk2 : k < f.vars.length := by simp at ck; omega
  refine zf<|zb<|zg<|zSr<|z8 (zIM k js Zd Z Z Z (qd hk2))<|zVGvloadWF Xg Zd Z Z<|zq (cs := [.str ⟨#[]⟩, .int .i64 0]) Yz Z Z<|fun i6 => zm Zd Z Z Z Z Z Z .head Z<|z6<|zSr<|zVzMo Z<|z8 (zc Zf Z jx (by decide) Z Z)<|z8 (zj (c := .str _) Z5 Z ⟨_, .head⟩ Z)<|zl (rows := [[_]]) ps88_1 Z Z Z Z Z<|zy (k := 1) jh type9 Z Z Z Z Z (fun _ => .t2) (by rw [grow_len (k := 1) (fun _ => rfl), qp]; omega) (by decide) Z (by show (_ + 1) * 16 ≤ _; omega) (by show _ + 1 ≤ _; omega)<|fun i22 => zVzAo Z<|z6<|zSr<|z8 (zc Zf Z Xh (by decide) Z Z)<|z8 (zj (c := .int _ _) isAgg36 Z ⟨_, .head⟩ Z)<|zd (tyWord_spec _) Z<|z8 (q8 Z Z)<|z6<|zr Z (fun ct=>?_) (fun ct=>?_)
  ·refine zSr<|zVzAb Z<|z6<|ze<|zi (x := .bool _) Z ?_
   exact jb (qr fun h => h.1 k hk2 (by simpa using ct)).symm
  ·refine zf<|zRg<|zVzAd Z Z<|zVzMi Z<|z6 ?_
   exact ⟨(k + 1, i22), zR4, zR2, ⟨_, (.drop (.refl _)), by dsimp only; rw [← grow_push (enc := encS) (vn_take hk2)]; rfl⟩, ⟨hk2, fun i h h2 => by by_cases e : i = k; (subst e; simpa using ct); exact hT i h (by dsimp only at h2; omega)⟩, by dsimp only; omega⟩
 ·have hkn : k = f.vars.length := by simp at ck; omega
  subst hkn
  rw [List.take_of_length_le (by omega : (VNames f).length ≤ f.vars.length)]
  have hTys : TysP f := fun i h => hT i h h
  refine y2<|zb<|zSr<|zVzFF jc Z Z2 Z Z<|zVzLf Ze Z<|zVGvlenM jo Z<|zVzMi Z<|z6<|zg<|y3 (γ := Nat × Nat) [1, 3, 29, 30] (fun g => [(4, .own g.2 g.1), (31, .int .i64 g.1)]) (fun g => [(g.2, .grow 1 9 ((((BNames f).take g.1).map encS).flatten)), (i, .grow 1 9 (((VNames f).map encS).flatten))]) (fun g => g.1 ≤ f.blocks.length) (fun g => f.blocks.length - g.1) (0, i4) zR2 zLe (qg _) ?_
  rintro ⟨k, j⟩ hk
  try dsimp only at *
  refine zSr<|zVGvlss Z Z<|z6<|zb<|zr Z (fun ck=>?_) (fun ck=>?_)
  ·have hk2 : k < f.blocks.length := by simp at ck; omega
   refine zf<|zb<|zg<|zSr<|z8 (zIM k jo jt Z Z Z (qd hk2))<|zVGvloadWF Zq jt Z Z<|zq (cs := [.str ⟨#[]⟩, .raw (.slice none 0 0), .raw (.slice none 0 0), .int .i64 0, .int .i64 0, .int .i64 0, .int .i64 0]) Zb Z Z<|fun i8 => zm jt Z Z Z Z Z Z .head Z<|z6<|zRg<|zVzMo Z<|z8 (zc ja Z jx (by decide) Z Z)<|z8 (zj (c := .str _) Z5 Z ⟨_, .head⟩ Z)<|zl (rows := [[_]]) ps88_1 Z Z Z Z Z<|zy (k := 1) jh type9 Z Z Z Z Z (fun _ => .t1) (by rw [grow_len (k := 1) (fun _ => rfl), qp]; omega) (by decide) Z (by show (_ + 1) * 16 ≤ _; omega) (by show _ + 1 ≤ _; omega)<|fun i39 => zVzAo Z<|z6<|zRg<|zVzAd Z Z<|zVzMi Z<|z6 ?_
   exact ⟨(k + 1, i39), zR4, zR2, ⟨_, (.drop (.refl _)), by dsimp only; rw [← grow_push (enc := encS) (bn_take hk2)]; rfl⟩, hk2, by dsimp only; omega⟩
  ·have hkn : k = f.blocks.length := by simp at ck; omega
   subst hkn
   rw [List.take_of_length_le (by omega : (BNames f).length ≤ f.blocks.length)]
   refine y2<|zb<|zSr<|zVzFF jc Z jn Z Z<|zVzLf jz Z<|zVGvlenM j9 Z<|zVzMi Z<|z6<|zg<|y3 (γ := Nat) [1, 3, 4, 42, 43] (fun k => [(44, .int .i64 k)]) (fun k => [(j, .grow 1 9 (((BNames f).map encS).flatten)), (i, .grow 1 9 (((VNames f).map encS).flatten))]) (fun k => k ≤ f.params.length ∧ ∀ i (h : i < f.params.length), i < k → f.params[i] = (i : Int)) (fun k => f.params.length - k) 0 zR1 zLe (⟨qg _, fun i h h2 => absurd h2 (Nat.not_lt_zero _)⟩) ?_
   rintro k ⟨hk, hP⟩
   refine zSr<|zVGvlss Z Z<|z6<|zb<|zr Z (fun ck=>?_) (fun ck=>?_)
   ·have hk2 : k < f.params.length := by simp at ck; omega
    refine zf<|zb<|zg<|zSr<|zVzMi Z<|z8 (zIM k j9 jd Z Z Z (qd hk2))<|zVzLi jr Z<|zVzAi Z<|zVzAi Z<|z6<|zSr<|zVzMi Z<|zVzMi Z<|zVGvneqI Z Z<|z6<|zz Z (fun cp=>?_) (fun cp=>?_)
    ·refine zSr<|zVzAb Z<|z6<|ze<|zi (x := .bool _) Z ?_
     exact jb (qr fun h => by have := h.2.1 k hk2; simp [this] at cp).symm
    ·refine zf<|zRg<|zVzAd Z Z<|zVzMi Z<|z6 ?_
     exact ⟨k + 1, zR5, zR1, zLe, ⟨hk2, fun i h h2 => by by_cases e : i = k; (subst e; simpa using cp); exact hP i h (by omega)⟩, by omega⟩
   ·have hkn : k = f.params.length := by simp at ck; omega
    subst hkn
    have hPar : ParP f := fun i h => hP i h h
    refine zt (yw (t := 3) (rows := (VNames f).map encS) Z .t1 (by intro r hr; obtain ⟨x, _, rfl⟩ := List.mem_map.1 hr; rfl) (by decide) (by simp))<|zt (yw (t := 4) (rows := (BNames f).map encS) Z .head (by intro r hr; obtain ⟨x, _, rfl⟩ := List.mem_map.1 hr; rfl) (by decide) (by simp))<|y2<|zSr<|zVzMf Z<|zVGvlenM jh Z<|z8 (Gv.leq Z Z)<|zVzMb Z<|zo (s := 56) Z (fun c3=>?_) (fun c3=>?_)
    ·refine za Z Z c3<|zVzFF jc Z jn Z Z<|za Z Z c3<|zVzLf jz Z<|za Z Z c3<|zVGvlenM j9 Z<|za Z Z c3<|zVzMf Z<|za Z Z c3<|zVGvlenM jh Z<|za Z Z c3<|z8 (Gv.minI Z Z)<|za Z Z c3<|z8 (Gv.leq Z Z)<|zVzPt Z c3 Z<|zVzMb Z<|zo (s := 65) Z (fun c4=>?_) (fun c4=>?_)
     ·refine za Z Z c4<|zVzMf Z<|za Z Z c4<|zVGvlenM jh Z<|za Z Z c4<|z8 (qc Z Z)<|zVzPt Z c4 Z<|zVzMb Z<|zo (s := 70) Z (fun c5=>?_) (fun c5=>?_)
      ·refine za Z Z c5<|zVzMf Z<|za Z Z c5<|zVGvlenM jh Z<|za Z Z c5<|z8 (Gv.leq Z Z)<|zVzPt Z c5 Z<|zVzMb Z<|zo (s := 75) Z (fun c6=>?_) (fun c6=>?_)
       ·refine za Z Z c6<|zVzMf Z<|za Z Z c6<|zd (unlike_spec (VNames f) (by omega) (fun s hs => by obtain ⟨v, hv, rfl⟩ := List.mem_map.1 hs; exact hn.1 v hv) hL) Z<|zVzPt Z c6 Z<|zVzMb Z<|zo (s := 79) Z (fun c7=>?_) (fun c7=>?_)
        ·refine za Z Z c7<|zVzMf Z<|za Z Z c7<|zd (unlike_spec (BNames f) (by omega) (fun s hs => by obtain ⟨v, hv, rfl⟩ := List.mem_map.1 hs; exact hn.2 v hv) hL) Z<|zVzPt Z c7 Z<|zVzAb Z<|z6<|ze<|zi (x := .bool _) Z ?_
         exact jb (by unfold NamesP LensP; simp_all <;> grind)
        ·refine z7 Z Z c7<|z7 Z Z c7<|zVzPf Z c7 Z<|zVzAb Z<|z6<|ze<|zi (x := .bool _) Z ?_
         exact jb (by unfold NamesP LensP; simp_all <;> grind)
       ·refine z7 Z Z c6<|z7 Z Z c6<|zVzPf Z c6 Z<|zVzMb Z<|z7 Z Z Z<|z7 Z Z Z<|zVzPf Z Z Z<|zVzAb Z<|z6<|ze<|zi (x := .bool _) Z ?_
        exact jb (by unfold NamesP LensP; simp_all <;> grind)
      ·refine z7 Z Z c5<|z7 Z Z c5<|z7 Z Z c5<|zVzPf Z c5 Z<|zVzMb Z<|z7 Z Z Z<|z7 Z Z Z<|zVzPf Z Z Z<|zVzMb Z<|z7 Z Z Z<|z7 Z Z Z<|zVzPf Z Z Z<|zVzAb Z<|z6<|ze<|zi (x := .bool _) Z ?_
       exact jb (by unfold NamesP LensP; simp_all <;> grind)
     ·refine z7 Z Z c4<|z7 Z Z c4<|z7 Z Z c4<|zVzPf Z c4 Z<|zVzMb Z<|z7 Z Z Z<|z7 Z Z Z<|z7 Z Z Z<|zVzPf Z Z Z<|zVzMb Z<|z7 Z Z Z<|z7 Z Z Z<|zVzPf Z Z Z<|zVzMb Z<|z7 Z Z Z<|z7 Z Z Z<|zVzPf Z Z Z<|zVzAb Z<|z6<|ze<|zi (x := .bool _) Z ?_
      exact jb (by unfold NamesP LensP; simp_all <;> grind)
    ·refine z7 Z Z c3<|z7 Z Z c3<|z7 Z Z c3<|z7 Z Z c3<|z7 Z Z c3<|z7 Z Z c3<|z7 Z Z c3<|zVzPf Z c3 Z<|zVzMb Z<|z7 Z Z Z<|z7 Z Z Z<|z7 Z Z Z<|zVzPf Z Z Z<|zVzMb Z<|z7 Z Z Z<|z7 Z Z Z<|z7 Z Z Z<|zVzPf Z Z Z<|zVzMb Z<|z7 Z Z Z<|z7 Z Z Z<|zVzPf Z Z Z<|zVzMb Z<|z7 Z Z Z<|z7 Z Z Z<|zVzPf Z Z Z<|zVzAb Z<|z6<|ze<|zi (x := .bool _) Z ?_
     exact jb (by unfold NamesP LensP; simp_all <;> grind)
def phiOK (f : PFunc) (p : PPhi) : Bool := !decide (p.args.length = 0) && decide (p.args.length = p.from_.length) && hasV f p.dst && p.args.all (hasV f) && p.from_.all (hasB f)
theorem phi1_spec (f : PFunc) (v : Int) : AFun prog E 125 ([.int .i64 v] ++ [.pf (encF f)]) (.bool (!hasB f v)) := by
 refine zk func125 Z (by decide) Z<|zSr<|zVzAb Z<|z6<|zSr<|zVGvloadWF ju jj Z Z<|zVzMi Z<|zd (at_spec _ _) Z<|zVGvnot Z<|zVzAb Z<|z6<|ze<|zi (x := .bool _) Z ?_
 rfl
theorem phi_spec (f : PFunc) (p : PPhi) (hp : okPhi p) : AFun prog E 77 [.agg (encF f), .agg (encPhi p)] (.bool (phiOK f p)) := by
 have hl1 := hp.1.lt
 have hl2 := hp.2.lt
 refine zk func77 Z (by decide) Z<|zSr<|y6 (cs := _) Z Z Z<|y6 (cs := _) Z Z Z<|zVzAb Z<|z6<|zb<|zSr<|zVzFF jm Z jn Z Z<|zVzLf jz Z<|zVGvlenM j9 Z<|zVGveqlI Z Z<|zVzMb Z<|zo (s := 9) Z (fun c8=>?_) (fun c8=>?_)
 ·refine z7 Z Z c8<|z7 Z Z c8<|z7 Z Z c8<|z7 Z Z c8<|z7 Z Z c8<|z7 Z Z c8<|z7 Z Z c8<|zVzPt Z c8 Z<|zVzMb Z<|z7 Z Z Z<|z7 Z Z Z<|z7 Z Z Z<|z7 Z Z Z<|z7 Z Z Z<|zVzPt Z Z Z<|zVzMb Z<|z7 Z Z Z<|z7 Z Z Z<|z7 Z Z Z<|z7 Z Z Z<|z7 Z Z Z<|zVzPt Z Z Z<|z6<|yh Z Z<|zSr<|zVzAb Z<|z6<|ze<|zi (x := .bool _) Z ?_
  exact jb (by have := List.any_eq_not_all_not (l := p.from_) (p := fun x => !hasB f x); simp_all [phiOK, Int.ofNat_inj] <;> grind)
 ·refine za Z Z c8<|zVzFF jm Z jn Z Z<|za Z Z c8<|zVzLf jz Z<|za Z Z c8<|zVGvlenM j9 Z<|za Z Z c8<|zVzFF jm Z jn Z Z<|za Z Z c8<|zVzLf jz Z<|za Z Z c8<|zVGvlenM j9 Z<|za Z Z c8<|zVGvneqI Z Z<|zVzPf Z c8 Z<|zVzMb Z<|zo (s := 18) Z (fun c9=>?_) (fun c9=>?_)
  ·refine z7 Z Z c9<|z7 Z Z c9<|z7 Z Z c9<|z7 Z Z c9<|z7 Z Z c9<|zVzPt Z c9 Z<|zVzMb Z<|z7 Z Z Z<|z7 Z Z Z<|z7 Z Z Z<|z7 Z Z Z<|z7 Z Z Z<|zVzPt Z Z Z<|z6<|yh Z Z<|zSr<|zVzAb Z<|z6<|ze<|zi (x := .bool _) Z ?_
   exact jb (by have := List.any_eq_not_all_not (l := p.from_) (p := fun x => !hasB f x); simp_all [phiOK, Int.ofNat_inj] <;> grind)
  ·refine za Z Z c9<|zVGvloadWF ju jj Z Z<|za Z Z c9<|zVzFF jm Z jd Z Z<|za Z Z c9<|zVzLi jr Z<|za Z Z c9<|zd (has_spec _ _) Z<|za Z Z c9<|zVGvnot Z<|zVzPf Z c9 Z<|zVzMb Z<|zo (s := 25) Z (fun c10=>?_) (fun c10=>?_)
   ·refine z7 Z Z c10<|z7 Z Z c10<|z7 Z Z c10<|z7 Z Z c10<|z7 Z Z c10<|zVzPt Z c10 Z<|z6<|yh Z Z<|zSr<|zVzAb Z<|z6<|ze<|zi (x := .bool _) Z ?_
    exact jb (by have := List.any_eq_not_all_not (l := p.from_) (p := fun x => !hasB f x); simp_all [phiOK, Int.ofNat_inj] <;> grind)
   ·refine za Z Z c10<|zVGvloadWF ju jj Z Z<|za Z Z c10<|zVzFF jm Z jn Z Z<|za Z Z c10<|zVzLf jz Z<|za Z Z c10<|zd (vars_spec f p.args (by omega)) Z<|za Z Z c10<|zVGvnot Z<|zVzPf Z c10 Z<|z6<|zz Z (fun c11=>?_) (fun c11=>?_)
    ·refine zSr<|zVzAb Z<|z6<|ze<|zi (x := .bool _) Z ?_
     exact jb (by have := List.any_eq_not_all_not (l := p.from_) (p := fun x => !hasB f x); simp_all [phiOK, Int.ofNat_inj] <;> grind)
    ·refine zf<|zSr<|zVzFF jm Z jn Z Z<|zVzLf jz Z<|z8 (Gv.func Z Z)<|zd (containsFuncI_spec p.from_ (by omega) (phi1_spec f)) Z<|zVGvnot Z<|zVzAb Z<|z6<|ze<|zi (x := .bool _) Z ?_
     exact jb (by have := List.any_eq_not_all_not (l := p.from_) (p := fun x => !hasB f x); simp_all [phiOK, Int.ofNat_inj] <;> grind)
end Go.Proofs.YtbkgklpihnfnjaaGreatDoor
namespace Go.Proofs.YtbkgklpihnfnjaaGreatDoor
open Go.Proofs.Tryz
open Go.Proofs Go.Lib Go.Shelf Go.RowKit
set_option maxRecDepth 20000
variable {E : World}
theorem indexFuncP_spec {p : PPhi → Bool} {fn : FuncId} {c : List AV} (xs : List PPhi) (hl : xs.length ≤ 281474976710656) (hp : ∀ x ∈ xs, AFun prog E fn ([.agg (encPhi x)] ++ c) (.bool (p x))) :
  AFun prog E 121 [.fro 3 (xs.map encPhi), .fn fn [] c] (.int .i64 (firstI p xs 0)) := by
 refine zk func121 Z (by decide) Z<|zSr<|zVzAi Z<|z6<|zb<|zSr<|zVzMf Z<|zVGvlenM jw Z<|zVzMi Z<|z6<|zg<|y3 (γ := Nat) [0, 1, 7] (fun k => [(8, .int .i64 k)]) (fun k => []) (fun k => k ≤ xs.length ∧ (xs.take k).all (fun x => !p x)) (fun k => xs.length - k) 0 zR1 zLe (⟨qg _, Z⟩) ?_
 rintro k ⟨hk, hall⟩
 refine zSr<|zVGvlss Z Z<|z6<|zb<|zr Z (fun ck=>?_) (fun ck=>?_)
 ·have hk2 : k < xs.length := by omega
  refine zf<|zb<|zg<|zSr<|zVzMi Z<|zVzAi Z<|z6<|zSr<|z8 (y9 (v := .fn _ _ _) Z)<|zVzMf Z<|zVzMi Z<|z8 (yi jw Z0 Z Z Z (qd (by omega)))<|zVGvloadWF Zv Z0 Z Z<|AOps.callVP Z (hp _ (qh hk2)) Z<|z6<|zz Z (fun cp=>?_) (fun cp=>?_)
  ·refine zSr<|zVzMi Z<|zVzAi Z<|z6<|ze<|zi (x := .int _ _) Z ?_
   rw [firstI_drop p xs k hk hall, List.drop_eq_getElem_cons hk2, firstI, if_pos cp]
  ·refine zf<|zRg<|zVzAd Z Z<|zVzMi Z<|z6 ?_
   exact ⟨k + 1, zR3, zR1, zLe, ⟨hk2, by rw [qe hk2, List.all_append, hall]; simp [cp]⟩, by omega⟩
 ·have hkn : k = xs.length := by omega
  refine y2<|zSr<|zVzAi Z<|z6<|ze<|zi (x := .int _ _) Z ?_
  rw [firstI_drop p xs k hk hall, hkn, List.drop_length, firstI]
theorem containsFuncP_spec {p : PPhi → Bool} {fn : FuncId} {c : List AV} (xs : List PPhi) (hl : xs.length ≤ 281474976710656) (hp : ∀ x ∈ xs, AFun prog E fn ([.agg (encPhi x)] ++ c) (.bool (p x))) :
  AFun prog E 75 [.fro 3 (xs.map encPhi), .fn fn [] c] (.bool (xs.any p)) := by
 refine zk func75 Z (by decide) Z<|zSr<|zVzAb Z<|z6<|zSr<|zVzMf Z<|z8 (y9 (v := .fn _ _ _) Z)<|zd (indexFuncP_spec xs hl hp) Z<|z8 (qc Z Z)<|zVzAb Z<|z6<|ze<|zi (x := .bool _) Z ?_
 rw [firstI_ge]
theorem indexFuncX_spec {p : PInst → Bool} {fn : FuncId} {c : List AV} (xs : List PInst) (hl : xs.length ≤ 281474976710656) (hp : ∀ x ∈ xs, AFun prog E fn ([.agg (encInst x)] ++ c) (.bool (p x))) :
  AFun prog E 127 [.fro 4 (xs.map encInst), .fn fn [] c] (.int .i64 (firstI p xs 0)) := by
 refine zk func127 Z (by decide) Z<|zSr<|zVzAi Z<|z6<|zb<|zSr<|zVzMf Z<|zVGvlenM Z1 Z<|zVzMi Z<|z6<|zg<|y3 (γ := Nat) [0, 1, 7] (fun k => [(8, .int .i64 k)]) (fun k => []) (fun k => k ≤ xs.length ∧ (xs.take k).all (fun x => !p x)) (fun k => xs.length - k) 0 zR1 zLe (⟨qg _, Z⟩) ?_
 rintro k ⟨hk, hall⟩
 refine zSr<|zVGvlss Z Z<|z6<|zb<|zr Z (fun ck=>?_) (fun ck=>?_)
 ·have hk2 : k < xs.length := by omega
  refine zf<|zb<|zg<|zSr<|zVzMi Z<|zVzAi Z<|z6<|zSr<|z8 (y9 (v := .fn _ _ _) Z)<|zVzMf Z<|zVzMi Z<|z8 (yi Z1 Z7 Z Z Z (qd (by omega)))<|zVGvloadWF Y3 Z7 Z Z<|AOps.callVP Z (hp _ (qh hk2)) Z<|z6<|zz Z (fun cp=>?_) (fun cp=>?_)
  ·refine zSr<|zVzMi Z<|zVzAi Z<|z6<|ze<|zi (x := .int _ _) Z ?_
   rw [firstI_drop p xs k hk hall, List.drop_eq_getElem_cons hk2, firstI, if_pos cp]
  ·refine zf<|zRg<|zVzAd Z Z<|zVzMi Z<|z6 ?_
   exact ⟨k + 1, zR3, zR1, zLe, ⟨hk2, by rw [qe hk2, List.all_append, hall]; simp [cp]⟩, by omega⟩
 ·have hkn : k = xs.length := by omega
  refine y2<|zSr<|zVzAi Z<|z6<|ze<|zi (x := .int _ _) Z ?_
  rw [firstI_drop p xs k hk hall, hkn, List.drop_length, firstI]
theorem containsFuncX_spec {p : PInst → Bool} {fn : FuncId} {c : List AV} (xs : List PInst) (hl : xs.length ≤ 281474976710656) (hp : ∀ x ∈ xs, AFun prog E fn ([.agg (encInst x)] ++ c) (.bool (p x))) :
  AFun prog E 78 [.fro 4 (xs.map encInst), .fn fn [] c] (.bool (xs.any p)) := by
 refine zk func78 Z (by decide) Z<|zSr<|zVzAb Z<|z6<|zSr<|zVzMf Z<|z8 (y9 (v := .fn _ _ _) Z)<|zd (indexFuncX_spec xs hl hp) Z<|z8 (qc Z Z)<|zVzAb Z<|z6<|ze<|zi (x := .bool _) Z ?_
 rw [firstI_ge]
theorem shaped1_spec (f : PFunc) (p : PPhi) (hp : okPhi p) : AFun prog E 76 ([.agg (encPhi p)] ++ [.pf (encF f)]) (.bool (!phiOK f p)) := by
 refine zk func76 Z (by decide) Z<|zSr<|y6 (cs := _) Z Z Z<|zVzAb Z<|z6<|zSr<|zVGvloadWF ju jj Z Z<|zVGvloadWF Zv Z0 Z Z<|zd (phi_spec _ _ (by assumption)) Z<|zVGvnot Z<|zVzAb Z<|z6<|ze<|zi (x := .bool _) Z ?_
 rfl
theorem shaped2_spec (f : PFunc) (x : PInst) (hx : okL x.args) : AFun prog E 79 ([.agg (encInst x)] ++ [.pf (encF f)]) (.bool (!instOK f x)) := by
 refine zk func79 Z (by decide) Z<|zSr<|y6 (cs := _) Z Z Z<|zVzAb Z<|z6<|zSr<|zVGvloadWF ju jj Z Z<|zVGvloadWF Y3 Z7 Z Z<|zd (inst_spec _ _ (by assumption)) Z<|zVGvnot Z<|zVzAb Z<|z6<|ze<|zi (x := .bool _) Z ?_
 rfl
def blkOK (f : PFunc) (b : PBlock) : Bool := !(b.phis.any fun p => !phiOK f p) && !(b.insts.any fun x => !instOK f x) && termOK f b.term
theorem blk_bad1 {f : PFunc} {b : PBlock} (h : (b.phis.any fun p => !phiOK f p) = true) : blkOK f b = false := by unfold blkOK; rw [h]; rfl
theorem blk_bad2 {f : PFunc} {b : PBlock} (h : (b.insts.any fun x => !instOK f x) = true) : blkOK f b = false := by unfold blkOK; rw [h]; simp
theorem blk_bad3 {f : PFunc} {b : PBlock} (h : (!termOK f b.term) = true) : blkOK f b = false := by unfold blkOK; rw [show termOK f b.term = false by simpa using h]; simp
theorem blk_good {f : PFunc} {b : PBlock} (h1 : (b.phis.any fun p => !phiOK f p) = false) (h2 : (b.insts.any fun x => !instOK f x) = false) (h3 : (!termOK f b.term) = false) : blkOK f b = true := by unfold blkOK; rw [h1, h2, show termOK f b.term = true by simpa using h3]; rfl
def shapedB (f : PFunc) : Bool := decide (NamesP f) && (f.blocks.all (blkOK f) && decide (sumTo f.blocks ≤ 1024))
theorem Shaped_spec (f : PFunc) (hf : okFunc f) (h1 : f.vars.length ≤ 100000000) (h2 : f.blocks.length ≤ 100000000) (hp : f.params.length ≤ 100000000) (hn : okNames f) (hL : Letters E) : AFun prog E 41 [.agg (encF f)] (.bool (shapedB f)) := by
 refine zk func41 Z (by decide) Z<|zSr<|y6 (cs := _) Z Z Z<|zVzAb Z<|z6<|zb<|zSr<|zVGvloadWF ju jj Z Z<|zd (pnames_spec _ (by omega) (by omega) (by omega) (by assumption) hL) Z<|zVGvnot Z<|z6<|zz Z (fun cn=>?_) (fun cn=>?_)
 ·refine zSr<|zVzAb Z<|z6<|ze<|zi (x := .bool _) Z ?_
  exact jb (by unfold shapedB; rw [show decide (NamesP f) = false by simpa using cn]; rfl)
 ·have hN : NamesP f := by simpa using cn
  have hbl := hN.2.2.1.2.2.2.2
  refine zf<|zSr<|zVzAi Z<|z6<|zb<|zSr<|zVzFF jc Z Z2 Z Z<|zVzLf Ze Z<|zVGvlenM jo Z<|zVzMi Z<|z6<|zg<|y3 (γ := Nat) [1, 11, 12] (fun k => [(3, .int .i64 (sumTo (f.blocks.take k))), (13, .int .i64 k)]) (fun k => []) (fun k => k ≤ f.blocks.length ∧ sumTo (f.blocks.take k) ≤ k * 562949953421312 ∧ (f.blocks.take k).all (blkOK f) = true) (fun k => f.blocks.length - k) 0 zR2 zLe (⟨qg _, qg _, Z⟩) ?_
  rintro k ⟨hk, hsum, hall⟩
  refine zSr<|zVGvlss Z Z<|z6<|zb<|zr Z (fun ck=>?_) (fun ck=>?_)
  ·have hk2 : k < f.blocks.length := by simp at ck; omega
   obtain ⟨b, hbk⟩ : ∃ b, f.blocks[k] = b := ⟨_, rfl⟩
   have hget : f.blocks[k]? = some b := by rw [qd hk2, hbk]
   have hb := hf.2.2.2 b (hbk ▸ qh hk2)
   have hb1 := hb.1.lt
   have hb2 := hb.2.1.lt
   have hsucc := sumTo_succ f.blocks k hk2
   rw [hbk] at hsucc
   refine zf<|zb<|zg<|zSr<|z8 (zIM k jo jt Z Z Z hget)<|zVGvloadWF Zq jt Z Z<|zq (cs := [.str ⟨#[]⟩, .raw (.slice none 0 0), .raw (.slice none 0 0), .int .i64 0, .int .i64 0, .int .i64 0, .int .i64 0]) Zb Z Z<|fun i5 => zm jt Z Z Z Z Z Z .head Z<|z6<|zSr<|zVzMi Z<|z8 (zc ja Z Za (by decide) Z Z)<|z8 (zj (c := .fro _ _) Zu Z ⟨_, .head⟩ Z)<|zVGvlenM jw Z<|z8 (zc ja Z Zi (by decide) Z Z)<|z8 (zj (c := .fro _ _) Y1 Z ⟨_, .head⟩ Z)<|zVGvlenM Z1 Z<|zVzAd Z Z<|zVzAd Z Z<|zVzAi Z<|z6<|zSr<|z8 (zc ja Z Za (by decide) Z Z)<|z8 (zj (c := .fro _ _) Zu Z ⟨_, .head⟩ Z)<|z8 (Gv.func Z Z)<|zd (containsFuncP_spec b.phis (by omega) (fun p hp => shaped1_spec f p (hb.2.2.1 p hp))) Z<|zVzMb Z<|zo (s := 30) Z (fun c1=>?_) (fun c1=>?_)
   ·refine z7 Z Z c1<|z7 Z Z c1<|z7 Z Z c1<|z7 Z Z c1<|zVzPt Z c1 Z<|zVzAb Z<|z6<|zSr<|zVzMb Z<|zVzMb Z<|z7 Z Z Z<|z7 Z Z Z<|z7 Z Z Z<|z7 Z Z Z<|z7 Z Z Z<|zVzPt Z Z Z<|z6<|yh Z Z<|zSr<|zVzAb Z<|z6<|ze<|zi (x := .bool _) Z ?_
    exact jb (by unfold shapedB; rw [show f.blocks.all (blkOK f) = false from Bool.eq_false_iff.2 (all_bad hk2 (by rw [hbk]; first | exact blk_bad1 (by assumption) | exact blk_bad2 (by assumption) | exact blk_bad3 (by assumption)))]; simp)
   ·refine za Z Z c1<|z8 (zc ja Z Zi (by decide) Z Z)<|za Z Z c1<|z8 (zj (c := .fro _ _) Y1 Z ⟨_, .head⟩ Z)<|za Z Z c1<|z8 (Gv.func Z Z)<|za Z Z c1<|zd (containsFuncX_spec b.insts (by omega) (fun x hx => shaped2_spec f x (hb.2.2.2 x hx))) Z<|zVzPf Z c1 Z<|zVzAb Z<|z6<|zSr<|zVzMb Z<|zVzMb Z<|zo (s := 37) Z (fun c2=>?_) (fun c2=>?_)
    ·refine z7 Z Z c2<|z7 Z Z c2<|z7 Z Z c2<|z7 Z Z c2<|z7 Z Z c2<|zVzPt Z c2 Z<|z6<|yh Z Z<|zSr<|zVzAb Z<|z6<|ze<|zi (x := .bool _) Z ?_
     exact jb (by unfold shapedB; rw [show f.blocks.all (blkOK f) = false from Bool.eq_false_iff.2 (all_bad hk2 (by rw [hbk]; first | exact blk_bad1 (by assumption) | exact blk_bad2 (by assumption) | exact blk_bad3 (by assumption)))]; simp)
    ·refine za Z Z c2<|zVGvloadWF ju jj Z Z<|za Z Z c2<|z8 (zc ja Z Z4 (by decide) Z Z)<|za Z Z c2<|z8 (Gv.loadAC (l := [_, _, _, _]) Ym Z4 Z ⟨_, .head⟩ Z Z)<|za Z Z c2<|zd (term_spec _ _) Z<|za Z Z c2<|zVGvnot Z<|zVzPf Z c2 Z<|z6<|zz Z (fun c3=>?_) (fun c3=>?_)
     ·refine zSr<|zVzAb Z<|z6<|ze<|zi (x := .bool _) Z ?_
      exact jb (by unfold shapedB; rw [show f.blocks.all (blkOK f) = false from Bool.eq_false_iff.2 (all_bad hk2 (by rw [hbk]; first | exact blk_bad1 (by assumption) | exact blk_bad2 (by assumption) | exact blk_bad3 (by assumption)))]; simp)
     ·refine zf<|zRg<|zVzAd Z Z<|zVzMi Z<|z6 ?_
      exact ⟨k + 1, zR3, ⟨congrArg (AV.int .i64) (by rw [hsucc]; omega), rfl, trivial⟩, ⟨_, (.drop (.refl _)), rfl⟩, ⟨hk2, by rw [hsucc]; omega, all_take hk2 hall (by rw [hbk]; exact blk_good (by assumption) (by assumption) (by assumption))⟩, by omega⟩
  ·have hkn : k = f.blocks.length := by simp at ck; omega
   subst hkn
   rw [qi] at hall ⊢
   refine y2<|zSr<|zVzMi Z<|z8 (Gv.leq Z Z)<|zVzAb Z<|z6<|ze<|zi (x := .bool _) Z ?_
   exact jb (by unfold shapedB; rw [qq hN, hall]; simp; omega)
theorem phiOK_iff (f : PFunc) (p : PPhi) : phiOK f p = true ↔ PhiP f p := by
 unfold phiOK PhiP
 simp only [qs, Bool.not_eq_true', decide_eq_false_iff_not, qu]
 constructor
 ·rintro ⟨⟨⟨⟨h1, h2⟩, h3⟩, h4⟩, h5⟩; exact ⟨h3, h2, by omega, h4, h5⟩
 ·rintro ⟨h3, h2, h1, h4, h5⟩; exact ⟨⟨⟨⟨by omega, h2⟩, h3⟩, h4⟩, h5⟩
theorem tyWord_ne (t : Int) : ¬ tyWord t = ⟨#[]⟩ ↔ 0 ≤ t ∧ t ≤ 2 := by
 unfold tyWord
 constructor
 ·intro h
  by_cases h0 : t = 0
  ·omega
  ·by_cases h1 : t = 1
   ·omega
   ·by_cases h2 : t = 2
    ·omega
    ·rw [if_neg h0, if_neg h1, if_neg h2] at h; exact absurd rfl h
 ·intro h e
  have : t = 0 ∨ t = 1 ∨ t = 2 := by omega
  rcases this with rfl | rfl | rfl <;> exact absurd e (by decide)
theorem blkOK_iff (f : PFunc) (b : PBlock) : blkOK f b = true ↔ BlkP f b := by
 unfold blkOK BlkP
 simp only [qs, Bool.not_eq_true', List.any_eq_false, Bool.not_eq_false]
 constructor
 ·rintro ⟨⟨h1, h2⟩, h3⟩
  exact ⟨fun p hp => (phiOK_iff f p).1 (by simpa using h1 p hp), fun x hx => (instOK_iff f x).1 (by simpa using h2 x hx), h3⟩
 ·rintro ⟨h1, h2, h3⟩
  exact ⟨⟨fun p hp => by simpa using (phiOK_iff f p).2 (h1 p hp), fun x hx => by simpa using (instOK_iff f x).2 (h2 x hx)⟩, h3⟩
theorem unlP_iff {l : List ByteArray} : UnlP l ↔ ∀ i (h : i < l.length), scanName l[i] = true ∧ l[i] ∉ l.take i := by
 unfold UnlP
 constructor <;> intro h i hi
 ·exact ⟨(h i hi).1, fun hm => by have := inB_iff.2 hm; rw [(h i hi).2] at this; cases this⟩
 ·exact ⟨(h i hi).1, Bool.eq_false_iff.2 fun hm => (h i hi).2 (inB_iff.1 hm)⟩
theorem vn_getE {f : PFunc} {i : Nat} (h : i < (VNames f).length) (h' : i < f.vars.length) : (VNames f)[i] = f.vars[i].name := by
 have : (VNames f)[i]? = some f.vars[i].name := by unfold VNames; rw [ql, qd h']; rfl
 rw [qd h] at this
 simpa using this
theorem bn_getE {f : PFunc} {i : Nat} (h : i < (BNames f).length) (h' : i < f.blocks.length) : (BNames f)[i] = f.blocks[i].name := by
 have : (BNames f)[i]? = some f.blocks[i].name := by unfold BNames; rw [ql, qd h']; rfl
 rw [qd h] at this
 simpa using this
theorem shapedB_eq (f : PFunc) : shapedB f = decide (ShapedP f) := by
 rw [Bool.eq_iff_iff, decide_eq_true_iff]
 unfold shapedB
 simp only [qs, decide_eq_true_iff, List.all_eq_true, blkOK_iff]
 unfold NamesP LensP ShapedP bad1
 simp only [unlP_iff]
 constructor
 ·rintro ⟨⟨h1, h2, ⟨g1, g2, g3, g4, g5⟩, h4, h5⟩, h6, h7⟩
  refine ⟨?_, h2, fun i h => ?_, fun i h => ?_, h7, h6⟩
  ·simp; omega
  ·have ht := (tyWord_ne _).1 (h1 i h)
   have hu := h4 i (by unfold VNames; simpa using h)
   have e := vn_getE (f := f) (i := i) (by unfold VNames; simpa using h) h
   rw [e] at hu
   exact ⟨by rw [name_eq]; exact hu.1, ht.1, ht.2, fun s hs e2 => hu.2 (by unfold VNames; rw [← List.map_take, ← e2]; exact hs)⟩
  ·have hu := h5 i (by unfold BNames; simpa using h)
   have e := bn_getE (f := f) (i := i) (by unfold BNames; simpa using h) h
   rw [e] at hu
   exact ⟨by rw [name_eq]; exact hu.1, fun s hs e2 => hu.2 (by unfold BNames; rw [← List.map_take, ← e2]; exact hs)⟩
 ·rintro ⟨h1, h2, h3, h4, h7, h6⟩
  simp at h1
  refine ⟨⟨fun i h => (tyWord_ne _).2 ⟨(h3 i h).2.1, (h3 i h).2.2.1⟩, h2, by omega, fun i h => ?_, fun i h => ?_⟩, h6, h7⟩
  ·have h' : i < f.vars.length := by simpa using h
   have e := vn_getE h h'
   rw [e]
   exact ⟨by rw [← name_eq]; exact (h3 i h').1, fun hm => (h3 i h').2.2.2 _ (by unfold VNames at hm; rw [← List.map_take] at hm; exact hm) rfl⟩
  ·have h' : i < f.blocks.length := by simpa using h
   have e := bn_getE h h'
   rw [e]
   exact ⟨by rw [← name_eq]; exact (h4 i h').1, fun hm => (h4 i h').2 _ (by unfold BNames at hm; rw [← List.map_take] at hm; exact hm) rfl⟩
end Go.Proofs.YtbkgklpihnfnjaaGreatDoor
namespace Go.Proofs.YtbkgklpihnfnjaaGreatDoor
open Go.Proofs.Tryz
open Go.Proofs Go.Lib Go.Shelf Go.RowKit
variable {E : World}
set_option maxRecDepth 20000
theorem ShapedP.ends {f : PFunc} (h : ShapedP f) : EndsOk f := by
 obtain ⟨h1, _, _, _, _, h6⟩ := h
 unfold bad1 at h1
 simp only [Bool.or_eq_false_iff, decide_eq_false_iff_not] at h1
 refine ⟨by omega, fun b hb c hc => ?_⟩
 have ht := (h6 b hb).2.2
 unfold termOK at ht
 unfold endsL at hc
 split at hc
 ·rename_i hk
  rw [if_pos hk] at ht
  simp only [qs, hasB, qu] at ht
  simp at hc; subst hc; exact ht.1.1
 ·rename_i hk
  rw [if_neg hk] at ht
  split at hc
  ·rename_i hk1
   rw [if_pos hk1] at ht
   simp only [qs, hasB, qu] at ht
   split at hc
   ·simp at hc; subst hc; exact ht.1.2
   ·simp at hc; rcases hc with rfl | rfl
    ·exact ht.1.2
    ·exact ht.2
  ·cases hc
def blkT (f : PFunc) (b : PBlock) : Bool := b.phis.all (phiT f) && b.insts.all (instT f) && termT f b.term
def typedB (f : PFunc) : Bool := shapedB f && f.blocks.all (blkT f)
theorem small.shaped {f : PFunc} (hf : small f) (hL : Letters E) : AFun prog E 41 [.agg (encF f)] (.bool (shapedB f)) :=
 Shaped_spec f hf.ok (by have := hf.1; omega) (by have := hf.2.2.1; omega) (by have := hf.2.1; omega) hf.names hL
theorem term_var {f : PFunc} {t : PTerm} (h : termOK f t = true) (hk : ¬ t.kind = 0) : hasV f t.var = true := by
 unfold termOK at h
 rw [if_neg hk] at h
 split at h
 ·simp only [qs] at h; exact h.1.1
 ·split at h
  ·simp only [qs] at h; exact h.1
  ·cases h
theorem Typed_spec (f : PFunc) (hf : small f) (hL : Letters E) : AFun prog E 65 [.agg (encF f)] (.int .i64 (if typedB f then 0 else 3)) := by
 have hok := hf.ok
 refine zk func65 Z (by decide) Z<|zSr<|y6 (cs := _) Z Z Z<|zVzAi Z<|z6<|zb<|zSr<|zVGvloadWF ju jj Z Z<|zd (hf.shaped hL) Z<|zVGvnot Z<|z6<|zz Z (fun cs=>?_) (fun cs=>?_)
 ·refine zSr<|zVzAi Z<|z6<|ze<|zi (x := .int _ _) Z ?_
  unfold typedB; rw [show shapedB f = false by simpa using cs]; rfl
 ·have hsb : shapedB f = true := by simpa using cs
  have hS : ShapedP f := by rw [shapedB_eq] at hsb; exact of_decide_eq_true hsb
  have hB := hS.2.2.2.2.2
  have hfl := hok.2.2.1.lt
  refine zf<|zb<|zSr<|zVzFF jc Z Z2 Z Z<|zVzLf Ze Z<|zVGvlenM jo Z<|zVzMi Z<|z6<|zg<|y3 (γ := Nat) [1, 13, 14] (fun k => [(15, .int .i64 k)]) (fun k => []) (fun k => k ≤ f.blocks.length ∧ (f.blocks.take k).all (blkT f) = true) (fun k => f.blocks.length - k) 0 zR1 zLe (⟨qg _, Z⟩) ?_
  rintro k ⟨hk, hall⟩
  refine zSr<|zVGvlss Z Z<|z6<|zb<|zr Z (fun ck=>?_) (fun ck=>?_)
  ·have hk2 : k < f.blocks.length := by simp at ck; omega
   obtain ⟨b, hbk⟩ : ∃ b, f.blocks[k] = b := ⟨_, rfl⟩
   have hget : f.blocks[k]? = some b := by rw [qd hk2, hbk]
   have hmem : b ∈ f.blocks := hbk ▸ qh hk2
   obtain ⟨hph, hin, htm⟩ := hB b hmem
   have hbad : blkT f b = false → typedB f = false := fun h => by unfold typedB; rw [Bool.eq_false_iff.2 (all_bad hk2 (by rw [hbk]; exact h))]; simp
   have hs5 := hok.2.2.2 b hmem
   have hpl := hs5.1.lt
   have hil := hs5.2.1.lt
   refine zf<|zb<|zg<|zSr<|z8 (zIM k jo jt Z Z Z hget)<|zVGvloadWF Zq jt Z Z<|zq (cs := [.str ⟨#[]⟩, .raw (.slice none 0 0), .raw (.slice none 0 0), .int .i64 0, .int .i64 0, .int .i64 0, .int .i64 0]) Zb Z Z<|fun i4 => zm jt Z Z Z Z Z Z .head Z<|y1 (yj (t := 4) Z .head)<|z6<|zb<|zSr<|zVzFF ja Z Za Z Z<|zVzLf Zu Z<|zVGvlenM jw Z<|zVzMi Z<|z6<|zg<|y3 (γ := Nat) [1, 4, 13, 14, 15, 20, 21] (fun p => [(22, .int .i64 p)]) (fun p => []) (fun p => p ≤ b.phis.length ∧ (b.phis.take p).all (phiT f) = true) (fun p => b.phis.length - p) 0 zR1 zLe (⟨qg _, Z⟩) ?_
   rintro p ⟨hp, hpall⟩
   refine zSr<|zVGvlss Z Z<|z6<|zb<|zr Z (fun cp=>?_) (fun cp=>?_)
   ·have hp2 : p < b.phis.length := by simp at cp; omega
    have hpm := qh hp2
    have hP := hph _ hpm
    refine zf<|zb<|zg<|zSr<|z8 (zIM p jw Z0 Z Z Z (qd hp2))<|zVGvloadWF Zv Z0 Z Z<|zq (cs := [.int .i64 0, .raw (.slice none 0 0), .raw (.slice none 0 0)]) Zk Z Z<|fun i6 => zm Z0 Z Z Z Z Z Z .head Z<|y1 (yj (t := 6) Z .head)<|z6<|zSr<|zVGvloadWF ju jj Z Z<|zVGvloadWF Zv Z0 Z Z<|zd (yphi_spec f b.phis[p] (hs5.2.2.1 _ hpm) hP.2.2.2.1 hP.1) Z<|zVGvnot Z<|z6<|zz Z (fun cq=>?_) (fun cq=>?_)
    ·refine zSr<|zVzAi Z<|z6<|ze<|zi (x := .int _ _) Z ?_
     rw [hbad (by unfold blkT; rw [Bool.eq_false_iff.2 (all_bad hp2 (by simpa using cq))]; rfl)]; rfl
    ·refine zf<|zRg<|zVzAd Z Z<|zVzMi Z<|z6 ?_
     exact ⟨p + 1, zR7, zR1, zLe, ⟨hp2, all_take hp2 hpall (by simpa using cq)⟩, by omega⟩
   ·have hpn : p = b.phis.length := by simp at cp; omega
    subst hpn
    rw [qi] at hpall
    refine y2<|zb<|zSr<|zVzFF ja Z Zi Z Z<|zVzLf Y1 Z<|zVGvlenM Z1 Z<|zVzMi Z<|z6<|zg<|y3 (γ := Nat) [1, 4, 13, 14, 15, 32, 33] (fun q => [(34, .int .i64 q)]) (fun q => []) (fun q => q ≤ b.insts.length ∧ (b.insts.take q).all (instT f) = true) (fun q => b.insts.length - q) 0 zR1 zLe (⟨qg _, Z⟩) ?_
    rintro q ⟨hq, hqall⟩
    refine zSr<|zVGvlss Z Z<|z6<|zb<|zr Z (fun cp2=>?_) (fun cp2=>?_)
    ·have hq2 : q < b.insts.length := by simp at cp2; omega
     have hqm := qh hq2
     have hI := instP_F (hin _ hqm)
     have hId : makesB b.insts[q].op = true → hasV f b.insts[q].dst = true := fun h => by
      rcases hI.dst with ⟨d1, _⟩ | ⟨_, _, d3⟩
      ·rw [h] at d1; cases d1
      ·exact d3
     refine zf<|zb<|zg<|zSr<|z8 (zIM q Z1 Z7 Z Z Z (qd hq2))<|zVGvloadWF Y3 Z7 Z Z<|zq (cs := [.int .i64 0, .int .i64 0, .raw (.slice none 0 0), .int .i64 0]) Zt Z Z<|fun i8 => zm Z7 Z Z Z Z Z Z .head Z<|y1 (yj (t := 8) Z .head)<|z6<|zSr<|zVGvloadWF ju jj Z Z<|zVGvloadWF Y3 Z7 Z Z<|zd (yinst_spec f b.insts[q] (List.all_eq_true.2 hI.args) hI.len hId) Z<|zVGvnot Z<|z6<|zz Z (fun cq=>?_) (fun cq=>?_)
     ·refine zSr<|zVzAi Z<|z6<|ze<|zi (x := .int _ _) Z ?_
      rw [hbad (by unfold blkT; rw [hpall, Bool.eq_false_iff.2 (all_bad hq2 (by simpa using cq))]; rfl)]; rfl
     ·refine zf<|zRg<|zVzAd Z Z<|zVzMi Z<|z6 ?_
      exact ⟨q + 1, zR7, zR1, zLe, ⟨hq2, all_take hq2 hqall (by simpa using cq)⟩, by omega⟩
    ·have hqn : q = b.insts.length := by simp at cp2; omega
     subst hqn
     rw [qi] at hqall
     refine y2<|zSr<|zVGvloadWF ju jj Z Z<|zVzFF ja Z Z4 Z Z<|zVGvloadWF Ym Z4 Z Z<|zd (yterm_spec f b.term (term_var htm)) Z<|zVGvnot Z<|z6<|zz Z (fun ct=>?_) (fun ct=>?_)
     ·refine zSr<|zVzAi Z<|z6<|ze<|zi (x := .int _ _) Z ?_
      rw [hbad (by unfold blkT; rw [hpall, hqall]; simpa using ct)]; rfl
     ·refine zf<|zRg<|zVzAd Z Z<|zVzMi Z<|z6 ?_
      exact ⟨k + 1, zR3, zR1, zLe, ⟨hk2, all_take hk2 hall (by rw [hbk]; unfold blkT; rw [hpall, hqall]; simpa using ct)⟩, by omega⟩
  ·have hkn : k = f.blocks.length := by simp at ck; omega
   subst hkn
   rw [qi] at hall
   refine y2<|zSr<|zVzAi Z<|z6<|ze<|zi (x := .int _ _) Z ?_
   unfold typedB; rw [hsb, hall]; rfl
end Go.Proofs.YtbkgklpihnfnjaaGreatDoor
namespace Go.Proofs.YtbkgklpihnfnjaaGreatDoor
open Go.Proofs.Tryz
open Go.Proofs Go.Lib
def ord (f : PFunc) : List Int := orderT (EndsOf f) f.blocks.length
def noBlk : PBlock := ⟨⟨#[]⟩, [], [], ⟨0, 0, 0, 0⟩⟩
def blkX (f : PFunc) (x : Int) : PBlock := (f.blocks[x.toNat]?).getD noBlk
def prs (p : PPhi) : List (Int × Int) := p.from_.zip p.args
def lookP (p : PPhi) (x : Int) : Option Int := ((prs p).find? fun q => decide (q.1 = x)).map (·.2)
def posI (l : List Int) (x : Int) : Int := (l.idxOf x : Int)
def trmM (ν β : Int → Int) (t : PTerm) : PTerm :=
 if t.kind = 0 then ⟨t.kind, t.var, β t.to0, t.to1⟩ else if t.kind = 1 then ⟨t.kind, ν t.var, β t.to0, β t.to1⟩ else ⟨t.kind, ν t.var, t.to0, t.to1⟩
def insM (ν : Int → Int) (x : PInst) : PInst := ⟨x.op, if 0 ≤ x.dst then ν x.dst else x.dst, x.args.map ν, x.num⟩
def phM (ν : Int → Int) (p : PPhi) : PPhi := ⟨ν p.dst, p.args.map ν, p.from_⟩
def mapV (ν : Int → Int) (b : PBlock) : PBlock := ⟨b.name, b.phis.map (phM ν), b.insts.map (insM ν), trmM ν id b.term⟩
def phPairs (l : List Int) (p : PPhi) : List (Int × Int) := (List.range l.length).filterMap fun (n : Nat) => (l[n]?).bind fun x => (lookP p x).map fun a => ((n : Int), a)
def phD (l : List Int) (p : PPhi) : PPhi := ⟨p.dst, (phPairs l p).map (·.2), (phPairs l p).map (·.1)⟩
def nameK (c : UInt8) (i : Nat) : ByteArray := strL (c :: decDigits i)
def turnB (l : List Int) (i : Nat) (b : PBlock) : PBlock := ⟨nameK 98 i, b.phis.map (phD l), b.insts, trmM id (posI l) b.term⟩
def canB (f : PFunc) : List PBlock := (ord f).zipIdx.map fun q => turnB (ord f) q.2 (blkX f q.1)
def see1 (l : List Int) (v : Int) : List Int := if v ∈ l then l else l ++ [v]
def seeL (l vs : List Int) : List Int := vs.foldl see1 l
def phiVars (p : PPhi) : List Int := p.dst :: p.args
def instVars (x : PInst) : List Int := x.args ++ if 0 ≤ x.dst then [x.dst] else []
def termVars (t : PTerm) : List Int := if t.kind = 0 then [] else [t.var]
def blkVars (b : PBlock) : List Int := b.phis.flatMap phiVars ++ (b.insts.flatMap instVars ++ termVars b.term)
def vsL (f : PFunc) : List Int := seeL [] (f.params ++ (canB f).flatMap blkVars)
def canV (f : PFunc) (q : Int × Nat) : PVar := ⟨nameK 118 q.2, kindV f q.1⟩
def canD (f : PFunc) : PFunc := ⟨(vsL f).zipIdx.map (canV f), f.params, (canB f).map (mapV (posI (vsL f)))⟩
structure LikeB (R V : Int → Prop) (β ν : Int → Int) (b c : PBlock) : Prop where
 nphi : c.phis.length = b.phis.length
 phi : ∀ (i : Nat) (p q : PPhi), b.phis[i]? = some p → c.phis[i]? = some q → q.dst = ν p.dst ∧ V p.dst ∧ q.from_.length = q.args.length ∧ ∃ k : List (Int × Int), (∀ z, z ∈ k ↔ z ∈ prs p ∧ R z.1) ∧ List.Sublist k (prs p) ∧ (∀ z ∈ k, V z.2) ∧ (prs q).Perm (k.map fun z => (β z.1, ν z.2))
 insts : c.insts = b.insts.map (insM ν)
 instv : ∀ x ∈ b.insts, ∀ v ∈ instVars x, V v
 term : c.term = trmM ν β b.term
 termv : ∀ v ∈ termVars b.term, V v
structure Like (R V : Int → Prop) (β ν : Int → Int) (f g : PFunc) : Prop where
 okf : EndsOk f
 okg : EndsOk g
 r0 : R 0
 b0 : β 0 = 0
 rng : ∀ x, R x → (0 ≤ x ∧ x < f.blocks.length) ∧ 0 ≤ β x ∧ β x < g.blocks.length
 cl : ∀ x, R x → ∀ c ∈ EndsOf f x, R c
 onto : ∀ y : Int, 0 ≤ y → y < g.blocks.length → ∃ x, R x ∧ β x = y
 inj : ∀ x y, R x → R y → β x = β y → x = y
 blk : ∀ x, R x → LikeB R V β ν (blkX f x) (blkX g (β x))
 par : g.params = f.params
 parv : ∀ v ∈ f.params, V v ∧ ν v = v
 vty : ∀ v, V v → 0 ≤ v ∧ 0 ≤ ν v ∧ kindV g (ν v) = kindV f v
 vinj : ∀ u v, V u → V v → ν u = ν v → u = v
theorem ends_at {f : PFunc} {x : Int} (h0 : 0 ≤ x) (h1 : x < f.blocks.length) : EndsOf f x = endsL (blkX f x).term := by
 unfold EndsOf blkX
 rw [if_pos h0, qd (by omega)]; rfl
theorem endsL_map {ν β : Int → Int} {t : PTerm} (h : ∀ x ∈ endsL t, ∀ y ∈ endsL t, β x = β y → x = y) : endsL (trmM ν β t) = (endsL t).map β := by
 unfold endsL trmM at *
 by_cases h0 : t.kind = 0
 ·rw [if_pos h0]; dsimp only; rw [if_pos h0, if_pos h0]; rfl
 ·rw [if_neg h0] at h ⊢
  by_cases h1 : t.kind = 1
  ·rw [if_pos h1] at h ⊢
   dsimp only
   rw [if_neg h0, if_pos h1]
   by_cases e : t.to0 = t.to1
   ·rw [if_pos e, if_pos (by rw [e]), if_neg h0, if_pos h1]; rfl
   ·rw [if_neg e] at h ⊢
    rw [if_neg fun k => e (h _ (by simp) _ (by simp) k), if_neg h0, if_pos h1]; rfl
  ·rw [if_neg h1]; dsimp only; rw [if_neg h0, if_neg h1]; rfl
section
variable {R V : Int → Prop} {β ν : Int → Int} {f g : PFunc} (h : Like R V β ν f g)
include h
theorem Like.leads {x : Int} (hx : R x) : EndsOf g (β x) = (EndsOf f x).map β := by
 have hr := h.rng x hx
 rw [ends_at hr.1.1 hr.1.2, ends_at hr.2.1 hr.2.2, (h.blk x hx).term]
 apply endsL_map
 rw [← ends_at hr.1.1 hr.1.2]
 exact fun a ha b hb => h.inj a b (h.cl x hx a ha) (h.cl x hx b hb)
theorem Like.reach {x : Int} (hx : x ∈ ord f) : R x := by
 have hr := (order_mem h.okf.grph.toEOk x).1 hx
 unfold Rch at hr
 induction hr with
 | refl _ => exact h.r0
 | step hw hc _ ih => exact h.cl _ (ih ((order_mem h.okf.grph.toEOk _).2 hw)) _ hc
theorem Like.orders : ord g = (ord f).map β := order_map h.okf.grph.toEOk h.okg.grph.toEOk h.b0 (fun x hx => h.leads (h.reach hx)) (fun x hx => (h.rng x (h.reach hx)).2) (fun x hx y hy => h.inj x y (h.reach hx) (h.reach hy))
end
theorem idx_map {β : Int → Int} {x : Int} : ∀ {l : List Int}, (∀ y ∈ l, β y = β x → y = x) → (l.map β).idxOf (β x) = l.idxOf x
 | [], _ => rfl
 | y :: l, h => by
  rw [List.map_cons, List.idxOf_cons, List.idxOf_cons, idx_map fun z hz => h z (.tail _ hz)]
  by_cases e : y = x
  ·rw [e]; simp
  ·have : ¬ β y = β x := fun k => e (h y (.head _) k)
   rw [beq_eq_false_iff_ne.2 e, beq_eq_false_iff_ne.2 this]
theorem see_map {ν : Int → Int} (V : Int → Prop) (hi : ∀ u v, V u → V v → ν u = ν v → u = v) : ∀ (vs l : List Int), (∀ v ∈ l, V v) → (∀ v ∈ vs, V v) → seeL (l.map ν) (vs.map ν) = (seeL l vs).map ν ∧ ∀ v ∈ seeL l vs, V v
 | [], l, hl, _ => ⟨rfl, hl⟩
 | v :: vs, l, hl, hv => by
  have hv0 := hv v (.head _)
  have e : see1 (l.map ν) (ν v) = (see1 l v).map ν := by
   unfold see1
   by_cases hm : v ∈ l
   ·rw [if_pos hm, if_pos (List.mem_map_of_mem hm)]
   ·rw [if_neg hm, if_neg (fun k => by obtain ⟨u, hu, e⟩ := List.mem_map.1 k; exact hm (hi u v (hl u hu) hv0 e ▸ hu)), qo]; rfl
  show seeL (see1 (l.map ν) (ν v)) (vs.map ν) = (seeL (see1 l v) vs).map ν ∧ ∀ u ∈ seeL (see1 l v) vs, V u
  rw [e]
  refine see_map V hi vs (see1 l v) (fun u hu => ?_) fun u hu => hv u (.tail _ hu)
  unfold see1 at hu
  split at hu
  ·exact hl u hu
  ·rcases List.mem_append.1 hu with k | k
   ·exact hl u k
   ·rw [List.mem_singleton.1 k]; exact hv0
end Go.Proofs.YtbkgklpihnfnjaaGreatDoor
namespace Go.Proofs.YtbkgklpihnfnjaaGreatDoor
open Go.Proofs.Tryz
open Go.Proofs Go.Lib
def DistP (p : PPhi) : Prop := ((prs p).map (·.1)).Nodup
theorem look_iff {p : PPhi} (hn : DistP p) {x a : Int} : lookP p x = some a ↔ (x, a) ∈ prs p := by
 unfold lookP DistP at *
 generalize prs p = l at *
 induction l with
 | nil => simp
 | cons z l ih =>
  rw [List.map_cons, List.nodup_cons] at hn
  rw [List.find?_cons]
  by_cases e : z.1 = x
  ·rw [qq e]
   show some z.2 = some a ↔ _
   rw [List.mem_cons]
   constructor
   ·intro h; left; rw [← e, ← Option.some.inj h]
   ·rintro (h | h)
    ·rw [← h]
    ·exact absurd (List.mem_map.2 ⟨_, h, rfl⟩) (e ▸ hn.1)
  ·rw [qr e]
   refine (ih hn.2).trans ?_
   rw [List.mem_cons]
   exact ⟨.inr, fun h => h.resolve_left fun k => e (by rw [← k])⟩
theorem insM_comp {a ν c : Int → Int} {x : PInst} (h : ∀ v ∈ instVars x, a (ν v) = c v ∧ 0 ≤ ν v) : insM a (insM ν x) = insM c x := by
 unfold insM instVars at *
 congr 1
 ·by_cases h0 : 0 ≤ x.dst
  ·have := h x.dst (by rw [if_pos h0]; simp)
   dsimp only
   rw [if_pos h0, if_pos this.2, if_pos h0, this.1]
  ·dsimp only; rw [if_neg h0, if_neg h0, if_neg h0]
 ·dsimp only
  rw [List.map_map]
  exact List.map_congr_left fun v hv => (h v (List.mem_append_left _ hv)).1
theorem phM_comp {a ν c : Int → Int} {p : PPhi} (h : ∀ v ∈ phiVars p, a (ν v) = c v) : phM a (phM ν p) = phM c p := by
 unfold phM phiVars at *
 congr 1
 ·exact h _ (.head _)
 ·dsimp only
  rw [List.map_map]
  exact List.map_congr_left fun v hv => h v (.tail _ hv)
theorem trm_comp {a ν c : Int → Int} {t : PTerm} (h : ∀ v ∈ termVars t, a (ν v) = c v) : trmM a id (trmM ν id t) = trmM c id t := by
 unfold trmM termVars at *
 by_cases h0 : t.kind = 0
 ·rw [if_pos h0, if_pos h0]; dsimp only; rw [if_pos h0]; rfl
 ·rw [if_neg h0] at h
  have h := h _ (.head _)
  rw [if_neg h0, if_neg h0]
  by_cases h1 : t.kind = 1
  ·rw [if_pos h1, if_pos h1]; dsimp only; rw [if_neg h0, if_pos h1, h]; rfl
  ·rw [if_neg h1, if_neg h1]; dsimp only; rw [if_neg h0, if_neg h1, h]
theorem mapV_comp {a ν c : Int → Int} {b : PBlock} (h : ∀ v ∈ blkVars b, a (ν v) = c v ∧ 0 ≤ ν v) : mapV a (mapV ν b) = mapV c b := by
 unfold mapV
 congr 1
 ·dsimp only
  rw [List.map_map]
  exact List.map_congr_left fun p hp => phM_comp fun v hv => (h v (List.mem_append_left _ (List.mem_flatMap.2 ⟨p, hp, hv⟩))).1
 ·dsimp only
  rw [List.map_map]
  exact List.map_congr_left fun p hp => insM_comp fun v hv => h v (List.mem_append_right _ (List.mem_append_left _ (List.mem_flatMap.2 ⟨p, hp, hv⟩)))
 ·exact trm_comp fun v hv => (h v (List.mem_append_right _ (List.mem_append_right _ hv))).1
theorem blkVars_map {ν : Int → Int} {b : PBlock} (h : ∀ v ∈ blkVars b, 0 ≤ ν v) : blkVars (mapV ν b) = (blkVars b).map ν := by
 unfold blkVars mapV
 dsimp only
 rw [qo, qo, List.flatMap_map, List.flatMap_map, List.map_flatMap, List.map_flatMap]
 congr 1
 congr 1
 ·unfold List.flatMap
  congr 1
  refine List.map_congr_left fun x hx => ?_
  have hv : ∀ v ∈ instVars x, 0 ≤ ν v := fun v hv => h v (List.mem_append_right _ (List.mem_append_left _ (List.mem_flatMap.2 ⟨x, hx, hv⟩)))
  show instVars (insM ν x) = (instVars x).map ν
  unfold instVars at hv ⊢
  unfold insM
  dsimp only
  rw [qo]
  by_cases h0 : 0 ≤ x.dst
  ·have := hv x.dst (by rw [if_pos h0]; simp)
   rw [if_pos h0, if_pos this, if_pos h0]; rfl
  ·rw [if_neg h0, if_neg h0]; rfl
 ·unfold termVars trmM
  by_cases h0 : b.term.kind = 0
  ·rw [if_pos h0, if_pos h0]; rfl
  ·rw [if_neg h0, if_neg h0]
   by_cases h1 : b.term.kind = 1
   ·rw [if_pos h1, if_neg h0]; rfl
   ·rw [if_neg h1, if_neg h0]; rfl
section
variable {R V : Int → Prop} {β ν : Int → Int} {f g : PFunc} (h : Like R V β ν f g) (hD : ∀ x, R x → ∀ p ∈ (blkX f x).phis, DistP p)
include h
theorem Like.pos {x : Int} (hx : R x) : posI (ord g) (β x) = posI (ord f) x := by
 unfold posI
 rw [h.orders, idx_map fun y hy e => h.inj y x (h.reach hy) hx e]
include hD
theorem Like.look {x y : Int} (hx : R x) (hy : R y) {i : Nat} {p q : PPhi} (hp : (blkX f x).phis[i]? = some p) (hq : (blkX g (β x)).phis[i]? = some q) : lookP q (β y) = (lookP p y).map ν ∧ ∀ a, lookP p y = some a → V a := by
 obtain ⟨_, _, _, k, k1, k2, k3, k4⟩ := (h.blk x hx).phi i p q hp hq
 have hpn := hD x hx p (qm hp)
 have hkn : (k.map (·.1)).Nodup := (k2.map _).nodup hpn
 have hqn : DistP q := by
  unfold DistP
  refine (k4.map (·.1)).nodup_iff.2 ?_
  rw [List.map_map]
  have : ∀ l : List (Int × Int), (∀ z ∈ l, R z.1) → (l.map (·.1)).Nodup → (l.map ((fun z : Int × Int => z.1) ∘ fun z => (β z.1, ν z.2))).Nodup := by
   intro l
   induction l with
   | nil => intro _ _; simp
   | cons z l ih =>
    intro h1 h2
    rw [List.map_cons, List.nodup_cons] at h2 ⊢
    refine ⟨fun hm=>?_, ih (fun z hz => h1 z (.tail _ hz)) h2.2⟩
    obtain ⟨w, hw, e⟩ := List.mem_map.1 hm
    exact h2.1 (List.mem_map.2 ⟨w, hw, h.inj _ _ (h1 w (.tail _ hw)) (h1 z (.head _)) e⟩)
  exact this k (fun z hz => ((k1 z).1 hz).2) hkn
 have hmem : ∀ a', (β y, a') ∈ prs q ↔ ∃ a, (y, a) ∈ prs p ∧ ν a = a' := fun a' => by
  rw [k4.mem_iff, List.mem_map]
  constructor
  ·rintro ⟨z, hz, e⟩
   obtain ⟨e1, e2⟩ := Prod.mk.inj e
   obtain ⟨z1, z2⟩ := (k1 z).1 hz
   have := h.inj _ _ z2 hy e1
   exact ⟨z.2, by rw [← this]; exact z1, e2⟩
  ·rintro ⟨a, ha, e⟩
   exact ⟨(y, a), (k1 _).2 ⟨ha, hy⟩, by rw [← e]⟩
 refine ⟨?_, fun a ha => k3 (y, a) ((k1 _).2 ⟨(look_iff hpn).1 ha, hy⟩)⟩
 cases hl : lookP p y with
 | some a => exact (look_iff hqn).2 ((hmem _).2 ⟨a, (look_iff hpn).1 hl, rfl⟩)
 | none =>
  cases hl2 : lookP q (β y) with
  | none => rfl
  | some a' =>
   obtain ⟨a, ha, _⟩ := (hmem a').1 ((look_iff hqn).1 hl2)
   rw [(look_iff hpn).2 ha] at hl; cases hl
theorem Like.phiD {x : Int} (hx : R x) {i : Nat} {p q : PPhi} (hp : (blkX f x).phis[i]? = some p) (hq : (blkX g (β x)).phis[i]? = some q) : phD (ord g) q = phM ν (phD (ord f) p) ∧ ∀ v ∈ phiVars (phD (ord f) p), V v := by
 have hd := (h.blk x hx).phi i p q hp hq
 have e : phPairs (ord g) q = (phPairs (ord f) p).map fun z => (z.1, ν z.2) := by
  unfold phPairs
  rw [h.orders, qk, List.map_filterMap]
  refine congrArg (fun F => List.filterMap F (List.range (ord f).length)) (funext fun n=>?_)
  rw [ql]
  cases hy : (ord f)[n]? with
  | none => rfl
  | some y =>
   show (lookP q (β y)).map _ = ((lookP p y).map _).map _
   rw [(h.look hD hx (h.reach (qm hy)) hp hq).1, Option.map_map, Option.map_map]; rfl
 refine ⟨?_, fun v hv => ?_⟩
 ·unfold phD phM
  rw [e, hd.1, List.map_map, List.map_map, List.map_map]
  congr 1
 ·unfold phiVars at hv
  rcases List.mem_cons.1 hv with e | hv
  ·rw [e]; exact hd.2.1
  ·obtain ⟨z, hz, e⟩ := List.mem_map.1 hv
   obtain ⟨n, hn, hz⟩ := List.mem_filterMap.1 hz
   cases hy : (ord f)[n]? with
   | none => rw [hy] at hz; cases hz
   | some y =>
    rw [hy] at hz
    have hz : (lookP p y).map (fun a => ((n : Int), a)) = some z := hz
    cases hl : lookP p y with
    | none => rw [hl] at hz; cases hz
    | some a =>
     rw [hl] at hz
     have : ((n : Int), a) = z := Option.some.inj hz
     rw [← e, ← this]
     exact (h.look hD hx (h.reach (qm hy)) hp hq).2 a hl
theorem Like.turn {x : Int} (hx : R x) (n : Nat) : turnB (ord g) n (blkX g (β x)) = mapV ν (turnB (ord f) n (blkX f x)) ∧ ∀ v ∈ blkVars (turnB (ord f) n (blkX f x)), V v := by
 have hb := h.blk x hx
 have hr := h.rng x hx
 have hend : ∀ c ∈ endsL (blkX f x).term, R c := by rw [← ends_at hr.1.1 hr.1.2]; exact h.cl x hx
 constructor
 ·unfold turnB mapV
  congr 1
  ·dsimp only
   rw [List.map_map]
   apply List.ext_getElem?
   intro i
   rw [ql, ql]
   by_cases hi : i < (blkX f x).phis.length
   ·have hp := qd hi
    have hi2 : i < (blkX g (β x)).phis.length := by rw [hb.nphi]; exact hi
    have hq := qd hi2
    rw [hp, hq]
    exact congrArg some (h.phiD hD hx hp hq).1
   ·rw [List.getElem?_eq_none (l := (blkX f x).phis) (by omega), List.getElem?_eq_none (l := (blkX g (β x)).phis) (by rw [hb.nphi]; omega)]; rfl
  ·exact hb.insts
  ·dsimp only
   rw [hb.term]
   generalize (blkX f x).term = t at hend
   unfold trmM
   unfold endsL at hend
   by_cases h0 : t.kind = 0
   ·rw [if_pos h0] at hend
    rw [if_pos h0, if_pos h0]; dsimp only; rw [if_pos h0, if_pos h0, h.pos (hend _ (.head _))]; rfl
   ·rw [if_neg h0] at hend
    by_cases h1 : t.kind = 1
    ·rw [if_pos h1] at hend
     have e0 : posI (ord g) (β t.to0) = posI (ord f) t.to0 := h.pos (hend _ (by split <;> simp))
     have e1 : posI (ord g) (β t.to1) = posI (ord f) t.to1 := by
      by_cases e : t.to0 = t.to1
      ·rw [← e]; exact e0
      ·exact h.pos (hend _ (by rw [if_neg e]; simp))
     rw [if_neg h0, if_pos h1, if_neg h0, if_pos h1]; dsimp only
     rw [if_neg h0, if_pos h1, if_neg h0, if_pos h1, e0, e1]; rfl
    ·rw [if_neg h0, if_neg h1, if_neg h0, if_neg h1]; dsimp only
     rw [if_neg h0, if_neg h1, if_neg h0, if_neg h1]; rfl
 ·intro v hv
  unfold blkVars at hv
  rcases List.mem_append.1 hv with hv | hv
  ·obtain ⟨q, hq, hv⟩ := List.mem_flatMap.1 hv
   obtain ⟨p, hp, rfl⟩ := List.mem_map.1 hq
   obtain ⟨i, hi, rfl⟩ := List.getElem_of_mem hp
   have hi2 : i < (blkX g (β x)).phis.length := by rw [hb.nphi]; exact hi
   exact (h.phiD hD hx (qd hi) (qd hi2)).2 v hv
  ·rcases List.mem_append.1 hv with hv | hv
   ·obtain ⟨z, hz, hv⟩ := List.mem_flatMap.1 hv
    exact hb.instv z hz v hv
   ·refine hb.termv v ?_
    unfold termVars turnB trmM at hv
    unfold termVars
    by_cases h0 : (blkX f x).term.kind = 0
    ·rw [if_pos h0] at hv; dsimp only at hv; rw [if_pos h0] at hv; cases hv
    ·rw [if_neg h0]
     by_cases h1 : (blkX f x).term.kind = 1
     ·rw [if_neg h0, if_pos h1] at hv; dsimp only at hv; rw [if_neg h0] at hv; exact hv
     ·rw [if_neg h0, if_neg h1] at hv; dsimp only at hv; rw [if_neg h0] at hv; exact hv
theorem Like.cans : canB g = (canB f).map (mapV ν) ∧ ∀ b ∈ canB f, ∀ v ∈ blkVars b, V v := by
 constructor
 ·unfold canB
  rw [h.orders, List.zipIdx_map, List.map_map, List.map_map, ← h.orders]
  refine List.map_congr_left fun q hq => ?_
  exact (h.turn hD (h.reach (qm (List.mem_zipIdx_iff_getElem?.1 hq))) q.2).1
 ·intro b hb
  obtain ⟨q, hq, rfl⟩ := List.mem_map.1 hb
  exact (h.turn hD (h.reach (qm (List.mem_zipIdx_iff_getElem?.1 hq))) q.2).2
theorem Like.vars : vsL g = (vsL f).map ν ∧ ∀ v ∈ vsL f, V v := by
 obtain ⟨e, hv⟩ := h.cans hD
 have hall : ∀ v ∈ f.params ++ (canB f).flatMap blkVars, V v := fun v hm => by
  rcases List.mem_append.1 hm with k | k
  ·exact (h.parv v k).1
  ·obtain ⟨b, hb, hk⟩ := List.mem_flatMap.1 k
   exact hv b hb v hk
 have := see_map V (ν := ν) h.vinj (f.params ++ (canB f).flatMap blkVars) [] (fun _ k => by cases k) hall
 refine ⟨?_, this.2⟩
 unfold vsL
 rw [← this.1, e, h.par, qo, List.flatMap_map, List.map_flatMap]
 congr 1
 congr 1
 ·refine (List.map_id _).symm.trans (List.map_congr_left fun v hv => ((h.parv v hv).2).symm)
 ·unfold List.flatMap
  congr 1
  refine List.map_congr_left fun b hb => ?_
  exact blkVars_map fun v hm => (h.vty v (hv b hb v hm)).2.1
theorem Like.can : canD g = canD f := by
 obtain ⟨e, hv⟩ := h.cans hD
 obtain ⟨e2, hv2⟩ := h.vars hD
 unfold canD
 rw [h.par]
 congr 1
 ·rw [e2, List.zipIdx_map, List.map_map]
  refine List.map_congr_left fun q hq => ?_
  have := h.vty q.1 (hv2 q.1 (qm (List.mem_zipIdx_iff_getElem?.1 hq)))
  show (⟨_, kindV g (ν q.1)⟩ : PVar) = ⟨_, kindV f q.1⟩
  rw [this.2.2]; rfl
 ·rw [e, List.map_map]
  refine List.map_congr_left fun b hb => mapV_comp fun v hm => ⟨?_, (h.vty v (hv b hb v hm)).2.1⟩
  unfold posI
  rw [e2, idx_map fun y hy k => h.vinj y v (hv2 y hy) (hv b hb v hm) k]
end
end Go.Proofs.YtbkgklpihnfnjaaGreatDoor
namespace Go.Proofs.YtbkgklpihnfnjaaGreatDoor
open Go.Proofs.Tryz
open Go.Proofs Go.Lib
def rlL (f : PFunc) : List Nat := (List.range f.blocks.length).filter fun (b : Nat) => decide ((b : Int) ∈ ord f)
def nmb (f : PFunc) (x : Int) : Int := if x ∈ ord f then ((rlL f).idxOf x.toNat : Int) else -1
def kept (nm : Int → Int) (fr : List Int) (p : PPhi) : List (Int × Int) := (prs p).filter fun z => decide (z.1 ∈ fr ∧ 0 ≤ nm z.1)
def pruneP (nm : Int → Int) (fr : List Int) (p : PPhi) : PPhi := ⟨p.dst, (kept nm fr p).map (·.2), (kept nm fr p).map fun z => nm z.1⟩
def pruneB (nm : Int → Int) (fr : List Int) (b : PBlock) : PBlock := ⟨b.name, b.phis.map (pruneP nm fr), b.insts, trmM id nm b.term⟩
def frL (f : PFunc) (b : Nat) : List Int := predsT (EndsOf f) f.blocks.length b
def pruneF (f : PFunc) : PFunc := ⟨f.vars, f.params, (rlL f).map fun b => pruneB (nmb f) (frL f b) (blkX f b)⟩
section
variable {f : PFunc}
theorem mem_rl {b : Nat} (hE : EndsOk f) : b ∈ rlL f ↔ (b : Int) ∈ ord f := by
 unfold rlL
 rw [List.mem_filter, List.mem_range, qu]
 exact ⟨fun h => h.2, fun h => ⟨by have := order_rng hE.grph.toEOk h; omega, h⟩⟩
theorem rl_nodup : (rlL f).Nodup := List.Nodup.sublist List.filter_sublist List.nodup_range
theorem nmb_at (hE : EndsOk f) {x : Int} (hx : x ∈ ord f) : ∃ k : Nat, nmb f x = k ∧ (rlL f)[k]? = some x.toNat ∧ k < (rlL f).length := by
 have h0 := order_rng hE.grph.toEOk hx
 have hm : x.toNat ∈ rlL f := (mem_rl hE).2 (by rwa [qt h0.1])
 have hl := List.idxOf_lt_length_of_mem hm
 refine ⟨(rlL f).idxOf x.toNat, by unfold nmb; rw [if_pos hx], ?_, hl⟩
 rw [qd hl, List.getElem_idxOf hl]
theorem nmb_row (hE : EndsOk f) {k : Nat} {b : Nat} (hk : (rlL f)[k]? = some b) : nmb f b = k := by
 have hm : (b : Int) ∈ ord f := (mem_rl hE).1 (qm hk)
 obtain ⟨j, hj, h2, _⟩ := nmb_at hE hm
 rw [hj]
 have h3 : (rlL f)[j]? = some b := h2
 obtain ⟨hk1, hk2⟩ := List.getElem?_eq_some_iff.1 hk
 obtain ⟨hj1, hj2⟩ := List.getElem?_eq_some_iff.1 h3
 have := (List.getElem_inj rl_nodup (h₀ := hj1) (h₁ := hk1)).1 (by rw [hj2, hk2])
 rw [this]
theorem nmb_inj (hE : EndsOk f) {x y : Int} (hx : x ∈ ord f) (hy : y ∈ ord f) (h : nmb f x = nmb f y) : x = y := by
 obtain ⟨k, hk, h2, _⟩ := nmb_at hE hx
 obtain ⟨j, hj, h3, _⟩ := nmb_at hE hy
 have a := order_rng hE.grph.toEOk hx
 have b := order_rng hE.grph.toEOk hy
 have : k = j := by omega
 rw [this, h3] at h2
 have := Option.some.inj h2
 omega
theorem nmb_neg (hE : EndsOk f) {x : Int} : 0 ≤ nmb f x ↔ x ∈ ord f := by
 by_cases h : x ∈ ord f
 ·obtain ⟨k, hk, _⟩ := nmb_at hE h
  exact ⟨fun _ => h, fun _ => by omega⟩
 ·exact ⟨fun k => by unfold nmb at k; rw [if_neg h] at k; omega, fun k => absurd k h⟩
theorem zero_ord (hE : EndsOk f) : (0 : Int) ∈ ord f := qm (order_head hE.grph.toEOk)
theorem rl_head (hE : EndsOk f) : (rlL f)[0]? = some 0 := by
 have hz := zero_ord hE
 obtain ⟨n, hn⟩ : ∃ n, f.blocks.length = n + 1 := ⟨f.blocks.length - 1, by have := hE.pos; omega⟩
 unfold rlL
 rw [hn, List.range_succ_eq_map, List.filter_cons, if_pos (by simpa using hz)]; rfl
theorem nmb_zero (hE : EndsOk f) : nmb f 0 = 0 := nmb_row hE (rl_head hE)
theorem blkX_get {k : Nat} {b : PBlock} (h : f.blocks[k]? = some b) : blkX f k = b := by unfold blkX; rw [show ((k : Int).toNat) = k from rfl, h]; rfl
theorem prune_at (hE : EndsOk f) {x : Int} (hx : x ∈ ord f) : blkX (pruneF f) (nmb f x) = pruneB (nmb f) (frL f x.toNat) (blkX f x) := by
 obtain ⟨k, hk, h2, _⟩ := nmb_at hE hx
 have h0 := order_rng hE.grph.toEOk hx
 rw [hk]
 refine blkX_get ?_
 show ((rlL f).map _)[k]? = _
 rw [ql, h2]
 show some (pruneB _ _ (blkX f (x.toNat : Int))) = _
 rw [qt h0.1]
theorem insM_id (x : PInst) : insM id x = x := by unfold insM; rw [List.map_id]; simp
theorem ord_rch (hE : EndsOk f) {x c : Int} (hx : x ∈ ord f) (hc : c ∈ EndsOf f x) : c ∈ ord f := (order_mem hE.grph.toEOk c).2 (.step ((order_mem hE.grph.toEOk x).1 hx) hc trivial)
theorem prune_ends (hE : EndsOk f) : EndsOk (pruneF f) := by
 refine ⟨?_, fun b hb c hc => ?_⟩
 ·show 0 < ((rlL f).map _).length
  rw [qk]
  exact (List.getElem?_eq_some_iff.1 (rl_head hE)).1
 ·obtain ⟨x, hx, rfl⟩ := List.mem_map.1 hb
  have hxo := (mem_rl hE).1 hx
  have hr := order_rng hE.grph.toEOk hxo
  have hend : ∀ c ∈ endsL (blkX f x).term, c ∈ ord f := by rw [← ends_at hr.1 hr.2]; exact fun c hc => ord_rch hE hxo hc
  have hc : c ∈ endsL (trmM id (nmb f) (blkX f x).term) := hc
  rw [endsL_map fun a ha b hb => nmb_inj hE (hend a ha) (hend b hb)] at hc
  obtain ⟨a, ha, rfl⟩ := List.mem_map.1 hc
  obtain ⟨k, hk, _, h3⟩ := nmb_at hE (hend a ha)
  show 0 ≤ nmb f a ∧ nmb f a < (((rlL f).map _).length : Nat)
  rw [qk, hk]
  omega
theorem prs_zip {nm : Int → Int} : ∀ l : List (Int × Int), (l.map fun z => nm z.1).zip (l.map (·.2)) = l.map fun z => (nm z.1, id z.2)
 | [] => rfl
 | z :: l => by rw [List.map_cons, List.map_cons, List.zip_cons_cons, prs_zip l]; rfl
theorem inst_vars {b : PBlock} (hS : ShapedP f) (hb : b ∈ f.blocks) {x : PInst} (hx : x ∈ b.insts) : ∀ v ∈ instVars x, hasV f v = true := fun v hv => by
 obtain ⟨_, _, h3, h4⟩ := (hS.2.2.2.2.2 b hb).2.1 x hx
 unfold instVars at hv
 rcases List.mem_append.1 hv with h | h
 ·exact List.all_eq_true.1 h4 v h
 ·by_cases h0 : 0 ≤ x.dst
  ·rw [if_pos h0] at h
   rw [List.mem_singleton.1 h]
   unfold bad2 at h3
   rw [show decide (x.dst = -1) = false from qr (by omega)] at h3
   simp only [Bool.or_eq_false_iff] at h3
   simpa using h3.2.2.1
  ·rw [if_neg h0] at h; cases h
theorem term_vars {b : PBlock} (hS : ShapedP f) (hb : b ∈ f.blocks) : ∀ v ∈ termVars b.term, hasV f v = true := fun v hv => by
 have h := (hS.2.2.2.2.2 b hb).2.2
 unfold termVars at hv
 by_cases h0 : b.term.kind = 0
 ·rw [if_pos h0] at hv; cases hv
 ·rw [if_neg h0] at hv
  rw [List.mem_singleton.1 hv]
  exact term_var h h0
theorem par_vars (hS : ShapedP f) : ∀ v ∈ f.params, hasV f v = true := fun v hv => by
 obtain ⟨i, hi, rfl⟩ := List.getElem_of_mem hv
 have h1 := hS.1
 unfold bad1 at h1
 simp only [Bool.or_eq_false_iff, decide_eq_false_iff_not] at h1
 rw [hS.2.1 i hi]
 unfold hasV
 simp; omega
theorem prune_like (hE : EndsOk f) (hS : ShapedP f) (hJ : JoinP f) : Like (· ∈ ord f) (fun v => hasV f v = true) (nmb f) id f (pruneF f) := by
 have hl : (pruneF f).blocks.length = (rlL f).length := qk ..
 refine { okf := hE, okg := prune_ends hE, r0 := zero_ord hE, b0 := nmb_zero hE, rng := fun x hx => ?_, cl := fun x hx c hc => ord_rch hE hx hc, onto := fun y h0 h1 => ?_, inj := fun x y => nmb_inj hE, blk := fun x hx => ?_, par := Z, parv := fun v hv => ⟨par_vars hS v hv, Z⟩, vty := fun v hv => ?_, vinj := fun _ _ _ _ e => e }
 ·obtain ⟨k, hk, _, h3⟩ := nmb_at hE hx
  have := order_rng hE.grph.toEOk hx
  exact ⟨this, by omega, by rw [hk, hl]; omega⟩
 ·obtain ⟨k, rfl⟩ : ∃ k : Nat, y = k := ⟨y.toNat, by omega⟩
  have hk : k < (rlL f).length := by omega
  exact ⟨((rlL f)[k] : Nat), (mem_rl hE).1 (qh hk), nmb_row hE (qd hk)⟩
 ·rw [prune_at hE hx]
  have hr := order_rng hE.grph.toEOk hx
  have hxl : x.toNat < f.blocks.length := by omega
  have ex : f.blocks[x.toNat] = blkX f x := by unfold blkX; rw [qd hxl]; rfl
  have hm : blkX f x ∈ f.blocks := by rw [← ex]; exact qh hxl
  refine ⟨qk .., fun i p q hp hq => ?_, ?_, fun z hz => inst_vars hS hm hz, Z, term_vars hS hm⟩
  ·have hq : ((blkX f x).phis.map (pruneP (nmb f) (frL f x.toNat)))[i]? = some q := hq
   rw [ql, hp] at hq
   have hq := (Option.some.inj hq).symm
   subst hq
   have hpm := qm hp
   obtain ⟨p1, p2, p3, p4, p5⟩ := (hS.2.2.2.2.2 _ hm).1 p hpm
   have hj := hJ x.toNat hxl p (by rw [ex]; exact hpm)
   refine ⟨Z, p1, ?_, kept (nmb f) (frL f x.toNat) p, fun z=>?_, List.filter_sublist, fun z hz => ?_, ?_⟩
   ·show ((kept _ _ p).map _).length = ((kept _ _ p).map _).length
    rw [qk, qk]
   ·unfold kept
    rw [List.mem_filter, qu, nmb_neg hE]
    exact and_congr_right fun hz => ⟨fun h => h.2, fun h => ⟨hj.mem_iff.1 (List.of_mem_zip hz).1, h⟩⟩
   ·exact List.all_eq_true.1 p4 _ (List.of_mem_zip (List.mem_filter.1 hz).1).2
   ·show (((kept _ _ p).map _).zip ((kept _ _ p).map _)).Perm _
    rw [prs_zip]
  ·exact (List.map_id _).symm.trans (List.map_congr_left fun z _ => (insM_id z).symm)
 ·have := hv
  unfold hasV at this
  simp only [qs, qu] at this
  exact ⟨this.1, this.1, rfl⟩
end
end Go.Proofs.YtbkgklpihnfnjaaGreatDoor
namespace Go.Proofs.YtbkgklpihnfnjaaGreatDoor
open Go.Proofs.Tryz
def okX (a : Int) (out : List Bool) (shut x : Int) : Prop := x ≠ shut ∧ (x = a ∨ gb out x = true)
instance (a : Int) (out : List Bool) (shut x : Int) : Decidable (okX a out shut x) := by unfold okX; infer_instance
end Go.Proofs.YtbkgklpihnfnjaaGreatDoor
namespace Go.Proofs.YtbkgklpihnfnjaaGreatDoor
open Go.Proofs.Tryz
noncomputable section
end
end Go.Proofs.YtbkgklpihnfnjaaGreatDoor
namespace Go.Proofs.YtbkgklpihnfnjaaGreatDoor
open Go.Proofs.Tryz
abbrev Rng := Int × Int
def is64 (x : Int) : Prop := -9223372036854775808 ≤ x ∧ x ≤ 9223372036854775807
instance (x : Int) : Decidable (is64 x) := by unfold is64; infer_instance
def ok64 (r : Rng) : Prop := is64 r.1 ∧ is64 r.2
def noR : Rng := (1, 0)
def rMade (lo hi : Int) : Rng := if hi < lo then noR else (lo, hi)
def imin (a b : Int) : Int := if b < a then b else a
def imax (a b : Int) : Int := if a < b then b else a
def rJoin (a b : Rng) : Rng := if a.2 < a.1 then rMade b.1 b.2 else if b.2 < b.1 then a else (imin a.1 b.1, imax a.2 b.2)
def op3 (k : Nat) (x y : Int) : Int := if k = 0 then x + y else if k = 1 then x - y else x * y
def fit3 (k : Nat) (x y : Int) : Prop := is64 (op3 k x y)
instance (k : Nat) (x y : Int) : Decidable (fit3 k x y) := by unfold fit3; infer_instance
def rOf (n : Int) : Rng := (n, n)
def cornF (k : Nat) (a b : Rng) : Prop := fit3 k a.1 b.1 ∧ fit3 k a.1 b.2 ∧ fit3 k a.2 b.1 ∧ fit3 k a.2 b.2
instance (k : Nat) (a b : Rng) : Decidable (cornF k a b) := by unfold cornF; infer_instance
end Go.Proofs.YtbkgklpihnfnjaaGreatDoor
namespace Go.Proofs.YtbkgklpihnfnjaaGreatDoor
open Go.Proofs.Tryz
def rSub (r s : Rng) : Prop := r.2 < r.1 ∨ (s.1 ≤ r.1 ∧ r.2 ≤ s.2)
end Go.Proofs.YtbkgklpihnfnjaaGreatDoor
namespace Go.Proofs.YtbkgklpihnfnjaaGreatDoor
open Go.Proofs.Tryz
end Go.Proofs.YtbkgklpihnfnjaaGreatDoor
namespace Go.Proofs.YtbkgklpihnfnjaaGreatDoor
open Go.Proofs.Tryz
end Go.Proofs.YtbkgklpihnfnjaaGreatDoor
namespace Go.Proofs.YtbkgklpihnfnjaaGreatDoor
open Go.Proofs.Tryz
def ra (rs : List Rng) (i : Nat) : Rng := (rs[i]?).getD (0, 0)
end Go.Proofs.YtbkgklpihnfnjaaGreatDoor
