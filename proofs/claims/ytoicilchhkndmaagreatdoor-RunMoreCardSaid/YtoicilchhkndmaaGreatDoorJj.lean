/- Two runs side by side; inputs that are little. Of programs and inputs that are little. -/
import Derived.Test.YtoicilchhkndmaaGreatDoorJi
import Derived.Test.YtoicilchhkndmaaGreatDoorJf
set_option linter.unusedVariables false
set_option linter.unusedSimpArgs false
set_option linter.unusedSectionVars false
namespace Go.Proofs.YtoicilchhkndmaaGreatDoor
open Go.Proofs.Tryz
open Go.Proofs Go.Lib Go.Shelf Go.RowKit
theorem pl40 : Places prog 40 #[(0, 1), (1, 1), (2, 1), (3, 1), (4, 1), (5, 8)] [.int .i64 0, .int .i64 0, .int .i64 0, .raw (.slice none 0 0), .int .i64 0, .int .i64 0, .int .i64 0, .int .i64 0, .int .i64 0, .int .i64 0, .int .i64 0, .int .i64 0, .int .i64 0] := ⟨_, _, j4, j7, fun w => by kernel_rfl, rfl⟩
theorem pl84 : Places prog 84 #[(0, 3), (3, 1), (4, 1), (5, 1), (6, 1), (7, 13), (20, 1)] [.raw (.slice none 0 0), .raw (.slice none 0 0), .raw (.slice none 0 0), .raw (.slice none 0 0), .raw (.pointer none), .int .i64 0, .int .i64 0, .int .i64 0, .int .i64 0, .int .i64 0, .raw (.slice none 0 0), .int .i64 0, .int .i64 0, .int .i64 0, .int .i64 0, .int .i64 0, .int .i64 0, .int .i64 0, .int .i64 0, .int .i64 0, .bool false] := ⟨_, _, wz, zeroValue84, fun w => by kernel_rfl, rfl⟩
variable {E : World}
set_option maxRecDepth 20000
def rightB (t : Int) (a : PArg) (n : Int) : Bool := decide (t ≠ 2) || (decide (-1 ≤ a.arr) && decide (a.arr < n))
theorem sright_spec (t : Int) (a : PArg) (n : Int) : AFun prog E 21 [.int .i64 t, .agg (encArg a), .int .i64 n] (.bool (rightB t a n)) := by
 refine zn func21 Z (by decide) Z<|zSr<|zz (cs := _) Z Z Z<|zVzAb Z<|z6<|zSr<|zVzMi Z<|z7 (yq Z Z)<|zVzMb Z<|zx (s := 9) Z (fun c1=>?_) (fun c1=>?_)
 ·have d1 : ¬ t = 2 := by simpa using c1
  refine z8 Z Z c1<|z8 Z Z c1<|z8 Z Z c1<|z8 Z Z c1<|AOps.guardUd Z Z<|AOps.guardUd Z Z<|AOps.guardUd Z Z<|AOps.guardUd Z Z<|z8 Z Z c1<|zVzPt Z c1 Z<|zVzAb Z<|z6<|ze<|zk (x := .bool _) Z ?_
  exact jb (by unfold rightB; simp [d1])
 ·have d1 : t = 2 := by simpa using c1
  refine za Z Z c1<|zVzFF j8 Z j6 Z Z<|za Z Z c1<|zVzLi je Z<|za Z Z c1<|z7 (Gv.geq Z Z)<|za Z Z c1<|zVzMb Z<|zx (s := 13) Z (fun c2=>?_) (fun c2=>?_)
  ·have d2 : -1 ≤ a.arr := by simpa using c2
   refine za Z Z c2<|zVzFF j8 Z j6 Z Z<|za Z Z c2<|zVzLi je Z<|za Z Z c2<|zVzMi Z<|za Z Z c2<|zVGvlss Z Z<|za Z Z c1<|zVzPt Z c2 Z<|zVzPf Z c1 Z<|zVzAb Z<|z6<|ze<|zk (x := .bool _) Z ?_
   exact jb (by unfold rightB; simp [d1, d2])
  ·have d2 : ¬ -1 ≤ a.arr := by simpa using c2
   refine z8 Z Z c2<|z8 Z Z c2<|z8 Z Z c2<|z8 Z Z c2<|za Z Z c1<|zVzPf Z c2 Z<|zVzPf Z c1 Z<|zVzAb Z<|z6<|ze<|zk (x := .bool _) Z ?_
   exact jb (by unfold rightB; simp [d1, d2])
def onlyP (t : Int) (a : PArg) : PArg := if t = 0 then numA a.int else if t = 1 then truA a.b else arrA a.arr
theorem sonly_spec (t : Int) (a : PArg) : AFun prog E 24 [.int .i64 t, .agg (encArg a)] (.agg (encA (onlyP t a))) := by
 refine zn func24 Z (by decide) Z<|zSr<|zz (cs := _) Z Z Z<|zo (cs := [.int .i64 0, .bool false, .int .i64 0]) jc Z Z<|fun i4 => z6<|zc<|zSr<|zVzMi Z<|z6<|zi<|zSr<|zVGveqlI Z Z<|zVzAb Z<|z6<|y9 Z (fun c0=>?_) (fun c0=>?_)
 ·have c0 : t = 0 := by simpa using c0
  refine zSr<|zVzFF j8 Z jm Z Z<|zVzLi Z5 Z<|z7 (yn (cps := [(0, [_]), (2, [_])]) (rs := [_, .bool false, _]) pl50 Z Z Z)<|zg wy Z Z Z Z Z Z .head Z<|z6<|ze<|afin.c1 Z ⟨_, .head⟩ jj wy Z ?_
  unfold onlyP; rw [if_pos c0]; rfl
 ·have c0 : ¬ t = 0 := by simpa using c0
  refine zSr<|zVGveqlI Z Z<|zVzAb Z<|z6<|y9 Z (fun c1=>?_) (fun c1=>?_)
  ·have c1 : t = 1 := by simpa using c1
   refine zSr<|zVzFF j8 Z Zj Z Z<|z7 (Gv.load1F (c := .bool _) Y3 Z)<|z7 (yn (cps := [(1, [_]), (2, [_])]) (rs := [.int .i64 0, _, _]) pl50 Z Z Z)<|zg wy Z Z Z Z Z Z .head Z<|z6<|ze<|afin.c1 Z ⟨_, .head⟩ jj wy Z ?_
   unfold onlyP; rw [if_neg c0, if_pos c1]; rfl
  ·have c1 : ¬ t = 1 := by simpa using c1
   refine zj<|zSr<|zVzFF j8 Z j6 Z Z<|zVzLi je Z<|z7 (yn (cps := [(2, [_])]) (rs := [.int .i64 0, .bool false, _]) pl50 Z Z Z)<|zg wy Z Z Z Z Z Z .head Z<|z6<|ze<|afin.c1 Z ⟨_, .head⟩ jj wy Z ?_
   unfold onlyP; rw [if_neg c0, if_neg c1]; rfl
def begV (f : PFunc) (i : PIn) (j : Nat) : PArg := match i.args[j]? with
 | some a => onlyP (tyL f j) a
 | none => zA
def begL (f : PFunc) (i : PIn) (k : Nat) : List PArg := (List.range k).map (begV f i)
theorem begL_push (f : PFunc) (i : PIn) (k : Nat) : begL f i k ++ [begV f i k] = begL f i (k + 1) := by unfold begL; rw [List.range_succ, List.map_append]; rfl
theorem begL_len (f : PFunc) (i : PIn) (k : Nat) : (begL f i k).length = k := by unfold begL; simp
def begP (f : PFunc) (i : PIn) : PS := ⟨begL f i f.vars.length, i.arrays, 0, 0, 3, 0, 0, [], 0, [0, 0, 0, 0, 0, 0, 0, 0], false⟩
def argsBad (f : PFunc) (i : PIn) : Bool := (i.args.zipIdx).any fun q => !rightB (tyL f q.2) q.1 i.arrays.length
def begBad (f : PFunc) (i : PIn) : Bool := !typedB f || (decide (i.args.length ≠ f.params.length) || (argsBad f i || newBad i.arrays))
set_option maxHeartbeats 4000000 in
theorem sbegin_bad (f : PFunc) (i : PIn) (hf : small f) (hL : Letters E) (hn : i.args.length ≤ 281474976710656) (hn2 : i.arrays.length ≤ 281474976710656) (hb : begBad f i = true) : ACall prog E 13 [.agg (encF f), .agg (encIn i)] [] (fun y O => (∃ e : Int, e ≠ 0 ∧ y = .tup [.raw (.pointer none), .int .i64 e]) ∧ O = []) := by
 have hT := Typed_spec (E := E) f hf hL
 have hfv := hf.1
 refine zn func13 Z (by decide) Z<|zSr<|zz (cs := _) Z Z Z<|zz (cs := _) Z Z Z<|z7 (zAr Z)<|zVzAi Z<|z6 ?_
 by_cases ct : typedB f = true
 ·refine zc<|zSr<|zVGvloadWF jp jf Z Z<|zd (hT) Z<|zVzAi Z<|z6<|zSr<|zVzMi Z<|z7 (yq Z Z)<|z6<|zb Z (by rw [if_pos ct]; rfl)<|zj<|zc<|zSr<|zVzFF Z2 Z Ze Z Z<|zVzLf Zv Z<|zVGvlenM j5 Z<|zVzFF jd Z ju Z Z<|zVzLf Z1 Z<|zVGvlenM ja Z<|z7 (yq Z Z)<|z6<|yb Z (fun ca=>?_) (fun ca=>?_)
  ·refine zSr<|z7 (zAr Z)<|zVzAi Z<|z6<|ze<|yh (x := .raw _) (y := .int _ _) Z Z ?_
   exact ⟨⟨1, by decide, rfl⟩, rfl⟩
  ·have ca : i.args.length = f.params.length := by have h := ca; simp at h; omega
   have hS : ShapedP f := by
    unfold typedB at ct
    simp only [q9] at ct
    have := ct.1
    rw [shapedB_eq] at this; exact of_decide_eq_true this
   have hpl := shaped_pars hS
   refine zj<|zc<|zSr<|zVzFF Z2 Z Ze Z Z<|zVzLf Zv Z<|zVGvlenM j5 Z<|zVzMi Z<|z6<|zi<|yg (γ := Nat) [2, 3, 28, 29] (fun k => [(30, .int .i64 k)]) (fun k => []) (fun k => k ≤ i.args.length ∧ (i.args.take k).zipIdx.all (fun q => rightB (tyL f q.2) q.1 i.arrays.length) = true) (fun k => i.args.length - k) 0 zR1 zLe (⟨q5 _, Z⟩) ?_
   rintro k ⟨hk, hok⟩
   refine zSr<|zVGvlss Z Z<|z6<|zc<|y9 Z (fun ck=>?_) (fun ck=>?_)
   ·have hk2 : k < i.args.length := by simp at ck; omega
    obtain ⟨a, hea⟩ : ∃ a, i.args[k] = a := ⟨_, rfl⟩
    have hag : i.args[k]? = some a := by rw [q3 hk2, hea]
    obtain ⟨v, hev⟩ : ∃ v, f.vars[k]? = some v := ⟨_, q3 (by omega)⟩
    have hty : tyL f k = v.ty := by unfold tyL; rw [hev]; rfl
    refine zj<|zc<|zi<|zSr<|zVzMi Z<|z7 (zIM k j5 wy Z Z Z hag)<|zVGvloadWF jj wy Z Z<|zo (cs := [.int .i64 0, .bool false, .int .i64 0]) jc Z Z<|fun i8 => zVzAi Z<|zg wy Z Z Z Z Z Z .head Z<|ye (yu (t := 8) Z .head)<|z6<|zc<|zw (fun j => false) (by kernel_rfl) Z (zr (.rest _))<|zTk 0 Z (zFF jd Z Y5 Z Z)<|zTk 1 Z (zLf isAgg22 Z)<|zTk 2 Z (zMi Z)<|zTk 3 Z (zIM k jz Zs Z Z Z hev)<|zTk 4 Z (zFF Zh Z sizeOf52 Z Z)<|zTk 5 Z (zLi isAgg52 Z)<|zTk 6 Z (yk jj wy Z Z)<|zTk 7 Z (zFF Z2 Z Zi Z Z)<|zTk 8 Z (zLf Zx Z)<|zTk 9 Z (Gv.lenM jn Z)<|zOn 10 Z<|zd (sright_spec v.ty a i.arrays.length) Z<|z6<|zTk 11 Z (Gv.not Z)<|zDn<|yb Z (fun cr=>?_) (fun cr=>?_)
    ·refine zSr<|z7 (zAr Z)<|zVzAi Z<|z6<|ze<|yh (x := .raw _) (y := .int _ _) Z Z ?_
     exact ⟨⟨1, by decide, rfl⟩, rfl⟩
    ·have cr : rightB v.ty a i.arrays.length = true := by simpa using cr
     refine zj<|zRg<|zVzAd Z Z<|zVzMi Z<|z6 ?_
     exact ⟨k + 1, zR4, zR1, zLe, ⟨hk2, by rw [q4 hk2, List.zipIdx_append, List.all_append, hok, hea]; simp [hty, cr, Nat.min_eq_left hk]⟩, by omega⟩
   ·obtain rfl : k = i.args.length := by simp at ck; omega
    rw [q7] at hok
    have hnb : newBad i.arrays = true := by
     unfold begBad at hb
     rw [ct, decide_eq_false (by omega)] at hb
     have h2 : argsBad f i = false := by
      unfold argsBad
      rw [List.any_eq_false]
      intro q hq
      rw [List.all_eq_true] at hok
      simpa using hok q hq
     rw [h2] at hb
     simpa using hb
    refine yf<|zSr<|zVzFF Z2 Z Zi Z Z<|zVzLf Zx Z<|zd (hnew_bad i.arrays hn2 hnb) Z<|z7 (zMu Z)<|z7 (yt (v := .raw _) Z Z)<|z7 (zXi Z Z)<|z7 (zAr Z)<|zVzAi Z<|z6<|zc<|zSr<|zVzMi Z<|z7 (yq Z Z)<|z6<|zy Z Z<|zSr<|zVzMi Z<|z7 (zAr Z)<|zVzAi Z<|z6<|ze<|yh (x := .raw _) (y := .int _ _) Z Z ?_
    exact ⟨⟨4, by decide, rfl⟩, rfl⟩
 ·refine zc<|zSr<|zVGvloadWF jp jf Z Z<|zd (hT) Z<|zVzAi Z<|z6<|zSr<|zVzMi Z<|z7 (yq Z Z)<|z6<|zy Z (by rw [if_neg ct]; rfl)<|zSr<|zVzMi Z<|z7 (zAr Z)<|zVzAi Z<|z6<|ze<|yh (x := .raw _) (y := .int _ _) Z Z ?_
  exact ⟨⟨3, by decide, by rw [if_neg ct]⟩, rfl⟩
theorem begBad_not {f : PFunc} {i : PIn} (h : begBad f i = false) : typedB f = true ∧ i.args.length = f.params.length ∧ argsBad f i = false ∧ newBad i.arrays = false := by
 unfold begBad at h
 simp only [Bool.or_eq_false_iff] at h
 exact ⟨by simpa using h.1, by simpa using h.2.1, h.2.2.1, h.2.2.2⟩
theorem args_ok {f : PFunc} {i : PIn} (h : argsBad f i = false) {k : Nat} {a : PArg} (ha : i.args[k]? = some a) : rightB (tyL f k) a i.arrays.length = true := by
 unfold argsBad at h
 rw [List.any_eq_false] at h
 have := h (a, k) (List.mk_mem_zipIdx_iff_getElem?.2 ha)
 simpa using this
set_option maxHeartbeats 8000000 in
theorem sbegin_good (f : PFunc) (i : PIn) (hf : small f) (hL : Letters E) (hb : begBad f i = false) : ACall prog E 13 [.agg (encF f), .agg (encIn i)] [] (fun y O => ∃ iw jv jh jo jt ids, ids.length = i.arrays.length ∧ y = .tup [.po iw 0, .int .i64 0] ∧ O = sO f iw jv jh jo jt ids (begP f i)) := by
 have hT := Typed_spec (E := E) f hf hL
 have hfv := hf.1
 obtain ⟨ct, ca, hab, hnb⟩ := begBad_not hb
 rw [if_pos ct] at hT
 have hpl := shaped_pars (typedB_shaped ct)
 have hnw := hnew_good (E := E) i.arrays hnb
 have hcp := copyF_spec (E := E) f hf
 refine zn func13 Z (by decide) Z<|zSr<|zz (cs := _) Z Z Z<|zz (cs := _) Z Z Z<|z7 (zAr Z)<|zVzAi Z<|z6<|zc<|zSr<|zVGvloadWF jp jf Z Z<|zd (hT) Z<|zVzAi Z<|z6<|zSr<|zVzMi Z<|z7 (yq Z Z)<|z6<|zb Z (by decide)<|zj<|zc<|zSr<|zVzFF Z2 Z Ze Z Z<|zVzLf Zv Z<|zVGvlenM j5 Z<|zVzFF jd Z ju Z Z<|zVzLf Z1 Z<|zVGvlenM ja Z<|z7 (yq Z Z)<|z6<|zb Z (by rw [decide_eq_true (show (i.args.length : Int) = f.params.length by omega)]; rfl)<|zj<|zc<|zSr<|zVzFF Z2 Z Ze Z Z<|zVzLf Zv Z<|zVGvlenM j5 Z<|zVzMi Z<|z6<|zi<|yg (γ := Nat) [2, 3, 28, 29] (fun k => [(30, .int .i64 k)]) (fun k => []) (fun k => k ≤ i.args.length) (fun k => i.args.length - k) 0 zR1 zLe (q5 _) ?_
 rintro k hk
 refine zSr<|zVGvlss Z Z<|z6<|zc<|y9 Z (fun ck=>?_) (fun ck=>?_)
 ·have hk2 : k < i.args.length := by simp at ck; omega
  obtain ⟨a, hea⟩ : ∃ a, i.args[k] = a := ⟨_, rfl⟩
  have hag : i.args[k]? = some a := by rw [q3 hk2, hea]
  obtain ⟨v, hev⟩ : ∃ v, f.vars[k]? = some v := ⟨_, q3 (by omega)⟩
  have hty : tyL f k = v.ty := by unfold tyL; rw [hev]; rfl
  have hro := args_ok hab hag
  rw [hty] at hro
  refine zj<|zc<|zi<|zSr<|zVzMi Z<|z7 (zIM k j5 wy Z Z Z hag)<|zVGvloadWF jj wy Z Z<|zo (cs := [.int .i64 0, .bool false, .int .i64 0]) jc Z Z<|fun i8 => zVzAi Z<|zg wy Z Z Z Z Z Z .head Z<|ye (yu (t := 8) Z .head)<|z6<|zc<|zw (fun j => false) (by kernel_rfl) Z (zr (.rest _))<|zTk 0 Z (zFF jd Z Y5 Z Z)<|zTk 1 Z (zLf isAgg22 Z)<|zTk 2 Z (zMi Z)<|zTk 3 Z (zIM k jz Zs Z Z Z hev)<|zTk 4 Z (zFF Zh Z sizeOf52 Z Z)<|zTk 5 Z (zLi isAgg52 Z)<|zTk 6 Z (yk jj wy Z Z)<|zTk 7 Z (zFF Z2 Z Zi Z Z)<|zTk 8 Z (zLf Zx Z)<|zTk 9 Z (Gv.lenM jn Z)<|zOn 10 Z<|zd (sright_spec v.ty a i.arrays.length) Z<|z6<|zTk 11 Z (Gv.not Z)<|zDn<|zb Z (by rw [hro]; rfl)<|zj<|zRg<|zVzAd Z Z<|zVzMi Z<|z6 ?_
  exact ⟨k + 1, zR4, zR1, zLe, hk2, by omega⟩
 ·refine yf<|zSr<|zVzFF Z2 Z Zi Z Z<|zVzLf Zx Z<|y7 Z (zr (.rest _)) (hnw) ?_
  rintro r51 O51 ⟨jh, jo, ids, hids, rfl, rfl⟩
  refine z7 (zMu Z)<|z7 (yt (v := .po _ _) Z Z)<|z7 (zXi Z Z)<|z7 (zAp Z)<|zVzAi Z<|z6<|zc<|zSr<|zVzMi Z<|z7 (yq Z Z)<|z6<|zb Z (by decide)<|zj<|zSr<|zVGvloadWF jp jf Z Z<|zd (hcp) Z<|zVzMp Z<|z7 (yn (cps := [(0, [_])]) (rs := [_, .int .i64 0, .int .i64 0, .raw (.slice none 0 0), .int .i64 0, .int .i64 0, .int .i64 0, .int .i64 0, .int .i64 0, .int .i64 0, .int .i64 0, .int .i64 0, .int .i64 0]) pl40 Z Z Z)<|z7 (yn (cps := [(0, [_, _, _]), (2, [_]), (5, [_, _, _, _, _, _, _, _, _, _, _, _, _])]) (rs := [_, _, _, .raw (.slice none 0 0), _, .int .i64 0, .int .i64 0, _, _, _, _, _, _, _, _, _, _, _, _, _, .bool false]) pl84 Z Z Z)<|AOps.boxO (cs := _) Z Z Z Z<|fun i62 => z7 (zAp Z)<|z6<|adoptC_wp (off := 3) (k := 3) (T := 50) (fun _ => .head) Z<|fun jv => adoptC_wp (off := 10) (k := 1) (T := 2) (fun _ => .t1) Z<|fun jt => zp (zh (zm .t5))<|zp (zh (zm .t1))<|zp (zh (zm .t5))<|zp (zh (zm .t5))<|zp (zh (zm .t4))<|zp (zh (zm .t5))<|zc<|zSr<|zVzFF jd Z Y5 Z Z<|zVzLf isAgg22 Z<|zVGvlenM jz Z<|zVzMi Z<|z6<|zi ?_
  refine yg (γ := Nat × Nat) [3, 11, 64, 65] (fun g => [(66, .int .i64 g.1)]) (fun g => sO f i62 g.2 jh jo jt ids ⟨begL f i g.1, i.arrays, 0, 0, 3, 0, 0, [], 0, [0, 0, 0, 0, 0, 0, 0, 0], false⟩) (fun g => g.1 ≤ f.vars.length) (fun g => f.vars.length - g.1) (0, jv) zR1 zLe (q5 _) ?_
  rintro ⟨k, jv⟩ hk
  try dsimp only at *
  refine zSr<|zVGvlss Z Z<|z6<|zc<|y9 Z (fun ck=>?_) (fun ck=>?_)
  ·have hk2 : k < f.vars.length := by simp at ck; omega
   obtain ⟨v, hev⟩ : ∃ v, f.vars[k]? = some v := ⟨_, q3 (by omega)⟩
   have hty : tyL f k = v.ty := by unfold tyL; rw [hev]; rfl
   have hpu := begL_push f i k
   refine zj<|zc<|zi<|zSr<|zVzMi Z<|z7 (zIM k jz Zs Z Z Z hev)<|zVGvloadWF isAgg54 Zs Z Z<|zo (cs := [.str ⟨#[]⟩, .int .i64 0]) zeroValue54 Z Z<|fun i13 => zVzAi Z<|zg Zs Z Z Z Z Z Z .head Z<|ye (yu (t := 13) Z .head)<|z6<|zSr<|z7 (yn (cps := [(2, [_])]) (rs := [.int .i64 0, .bool false, _]) pl50 Z Z Z)<|zo (cs := [.int .i64 0, .bool false, .int .i64 0]) jc Z Z<|fun i14 => zg wy Z Z Z Z Z Z .head Z<|z6<|zc<|zSr<|zVzMi Z<|zVzFF Z2 Z Ze Z Z<|zVzLf Zv Z<|zVGvlenM j5 Z<|zVGvlss Z Z<|z6<|AWP.cutS (γ := PArg) [3, 11, 14, 64, 65, 66] (fun z => []) (fun z => (i14, .cells 50 (encA z)) :: sO f i62 jv jh jo jt ids ⟨begL f i k, i.arrays, 0, 0, 3, 0, 0, [], 0, [0, 0, 0, 0, 0, 0, 0, 0], false⟩) (fun z => z = begV f i k) ?_ (fun _ _ h => h) ?_
   ·refine y9 Z (fun ca2=>?_) (fun ca2=>?_)
    ·have ca2 : k < i.args.length := by simp at ca2; omega
     obtain ⟨a, hea⟩ : ∃ a, i.args[k] = a := ⟨_, rfl⟩
     have hag : i.args[k]? = some a := by rw [q3 ca2, hea]
     refine zw (fun j => Nat.beq j 8) (by kernel_rfl) Z (zr (.rest _))<|zTk 0 Z (zFF Zh Z sizeOf52 Z Z)<|zTk 1 Z (zLi isAgg52 Z)<|zTk 2 Z (zFF Z2 Z Ze Z Z)<|zTk 3 Z (zLf Zv Z)<|zTk 4 Z (zMi Z)<|zTk 5 Z (zIM k j5 wy Z Z Z hag)<|zTk 6 Z (yk jj wy Z Z)<|zOn 7 Z<|zd (sonly_spec v.ty a) Z<|z6<|y8<|zu (i := 8) Z (by kernel_rfl) (by kernel_rfl)<|zg wy Z Z Z Z Z Z .head Z<|z6<|ya (by kernel_rfl) ?_
     exact ⟨_, ⟨rfl, rfl, rfl, rfl, rfl, rfl, trivial⟩, trivial, zLe, by unfold begV; rw [hag, hty]⟩
    ·have ca2 : ¬ k < i.args.length := by simp at ca2; omega
     refine zj ?_
     exact ⟨zA, ⟨rfl, rfl, rfl, rfl, rfl, rfl, trivial⟩, trivial, zLe, by unfold begV; rw [List.getElem?_eq_none (by omega)]⟩
   ·rintro z hz
    refine zp (yu (t := 14) Z .head)<|zw (fun j => Nat.beq j 10) (by kernel_rfl) Z (zr (.r (.rest _)))<|zTk 0 Z (zMp Z)<|zTk 1 Z (zMp Z)<|zTk 2 Z (zq Z)<|zTk 3 Z (zf wz Z Ze (by decide) Z Z)<|zTk 4 Z (zt (c := .own _ _) Zv Z ⟨_, .head⟩ Z)<|zTk 5 Z (yk jj wy Z Z)<|zOn 6 Z<|yi (rows := [[_, _, _]]) ps27_1 Z Z Z Z Z<|z6<|zOn 7 Z<|yo (k := 3) j5 type50 Z Z Z Z Z (fun _ => .head) (by rw [aC_len, begL_len]) (by decide) Z (by show ((begL f i k).length + 1) * 24 ≤ _; rw [begL_len]; omega) (by show (begL f i k).length + 1 ≤ _; rw [begL_len]; omega)<|fun i92 => z6<|yc (i := 8) Z (by kernel_rfl) (by kernel_rfl) (by kernel_rfl) (by kernel_rfl) (zq Z)<|zTk 9 Z (zf wz Z Ze (by decide) Z Z)<|y8<|zu (i := 10) Z (by kernel_rfl) (by kernel_rfl)<|yd (l := [_]) (new := [_, _, _, _, _, _, _, _, _, _, _, _, _, _, _, _, _, _, _, _, _]) Ze Z Z Z Z Z Z .head Z Z<|z6<|ya (by kernel_rfl)<|zRg<|zVzAd Z Z<|zVzMi Z<|z6 ?_
    exact ⟨(k + 1, i92), zR4, zR1, ⟨_, (.refl _), by dsimp only; unfold sO sR sCe; dsimp only; rw [← hpu, ← hz, ← aC_push, q8]; rfl⟩, hk2, by dsimp only; omega⟩
  ·obtain rfl : k = f.vars.length := by simp at ck; omega
   refine yf<|zSr<|zVzMp Z<|z7 (zAp Z)<|zVzAi Z<|z6<|ze<|yh (x := .po _ _) (y := .int _ _) Z Z ?_
   exact ⟨i62, jv, jh, jo, jt, ids, hids, rfl, rfl⟩
def encOutP (s : PS) : List AV := [.int .i64 s.en, .int .i64 s.val, .int .i64 s.tr, .fro 1 (s.trace.map encI), .int .i64 s.st, .int .i64 (vi s.ck 0), .int .i64 (vi s.ck 1), .int .i64 (vi s.ck 2), .int .i64 (vi s.ck 3), .int .i64 (vi s.ck 4), .int .i64 (vi s.ck 5), .int .i64 (vi s.ck 6), .int .i64 (vi s.ck 7)]
theorem soutcome_aux (f : PFunc) (iw jv jh jo jt : Nat) (ids : List Nat) (s : PS) (ht : s.trace.length ≤ 4096) : ACall prog E 15 [.po iw 0] (sO f iw jv jh jo jt ids s) (fun y O1 => ∃ O, (y = .tup [.agg (encOutP s), .bool s.ended] ∧ O = []) ∧ Left O1 O) := by
 refine zn func15 Z (by decide) Z<|zp (GStep.knowIC (off := 10) .t4 .head Z Z)<|zSr<|zo (cs := [.int .i64 0, .int .i64 0, .int .i64 0, .raw (.slice none 0 0), .int .i64 0, .int .i64 0, .int .i64 0, .int .i64 0, .int .i64 0, .int .i64 0, .int .i64 0, .int .i64 0, .int .i64 0]) j7 Z Z<|fun i2 => zVzAb Z<|z6<|zc<|zSr<|zVzMp Z<|z7 (Gv.eqlPo underlying68 type84 Z)<|z6<|zb Z Z<|zj<|zSr<|zVzMp Z<|z7 (zq Z)<|z7 (zf wz Z j3 (by decide) Z Z)<|z7 (Gv.loadAC (l := [_, _, _, _, _, _, _, _, _, _, _, _, _]) Zk j3 Z ⟨_, .t1⟩ Z Z)<|zo (cs := [.int .i64 0, .int .i64 0, .int .i64 0, .raw (.slice none 0 0), .int .i64 0, .int .i64 0, .int .i64 0, .int .i64 0, .int .i64 0, .int .i64 0, .int .i64 0, .int .i64 0, .int .i64 0]) j7 Z Z<|fun i4 => zg j3 Z Z Z Z Z Z .head Z<|z6<|zSr<|z7 (zf j4 Z Z0 (by decide) Z Z)<|z7 (zt (c := .fro _ _) Zg Z ⟨_, .head⟩ Z)<|zd (cloneL_spec s.trace (by omega)) Z<|z7 (zf j4 Z Z0 (by decide) Z Z)<|yd (l := [_]) (new := [_, _, _, _, _, _, _, _, _, _, _, _, _]) Z0 Z Z Z Z Z Z .head Z Z<|z6<|zc<|AWP.regionDrawR (by kernel_rfl) Z (zr (.r (.l (.r (.l (.l (.l (.l (.rest _)))))))))<|AAnyR.takeK (i := 0) Z (by kernel_rfl) (by kernel_rfl) (by kernel_rfl) (Gv.loadWC Zk j3 Z ⟨_, .head⟩ Z)<|AAnyR.takeK (i := 1) Z (by kernel_rfl) (by kernel_rfl) (by kernel_rfl) (zMp Z)<|AAnyR.takeK (i := 2) Z (by kernel_rfl) (by kernel_rfl) (by kernel_rfl) (zq Z)<|AAnyR.takeK (i := 3) Z (by kernel_rfl) (by kernel_rfl) (by kernel_rfl) (zf wz Z Zj (by decide) Z Z)<|AAnyR.takeK (i := 4) Z (by kernel_rfl) (by kernel_rfl) (by kernel_rfl) (zt (c := .bool _) Y3 Z ⟨_, .t1⟩ Z)<|AAnyR.one (i := 5) Z (by kernel_rfl)<|zg j3 Z Z Z Z Z Z .head Z<|z6<|AAnyR.takeK (i := 6) Z (by kernel_rfl) (by kernel_rfl) (by kernel_rfl) (zAb Z) ?_
 refine AAnyR.done (by kernel_rfl)<|zp (GStep.drop .head)<|zp (GStep.drop .head)<|zp (GStep.drop .t1)<|zp (GStep.drop .t1)<|zp (GStep.drop .t1)<|zp (GStep.drop .t1)<|ze<|yl (y := .bool _) Z Z ⟨_, .head⟩ Zk j3 Z ?_
 exact ⟨[], ⟨rfl, rfl⟩, ⟨_, sub_none _, rfl⟩⟩
theorem soutcome_spec (f : PFunc) (iw jv jh jo jt : Nat) (ids : List Nat) (s : PS) (ht : s.trace.length ≤ 4096) : ACall prog E 15 [.po iw 0] (sO f iw jv jh jo jt ids s) (fun y O => y = .tup [.agg (encOutP s), .bool s.ended] ∧ O = []) := (soutcome_aux f iw jv jh jo jt ids s ht).sub
def refP : PS := ⟨[], [], 0, 0, 4, 0, 0, [], 0, [0, 0, 0, 0, 0, 0, 0, 0], false⟩
theorem begP_inv {f : PFunc} {i : PIn} (hb : begBad f i = false) (h64 : in64 i) (hR : RunP f) : PInv f 0 (begP f i) := by
 obtain ⟨_, _, _, hnb⟩ := begBad_not hb
 unfold newBad at hnb
 simp only [Bool.or_eq_false_iff, decide_eq_false_iff_not] at hnb
 refine ⟨begL_len f i _, fun a ha => ?_, h64.2, fun r hr => ?_, Z, fun x hx => ?_, by show (0 : Nat) ≤ 4096; omega, Int.le_refl 0, by show (0 : Int) < f.blocks.length; have := hR.pos; omega, q5 _⟩
 ·have ha : a ∈ begL f i f.vars.length := ha
  unfold begL at ha
  obtain ⟨j, _, rfl⟩ := List.mem_map.1 ha
  unfold begV
  split
  ·rename_i b hb
   have := h64.1 b (List.mem_of_getElem? hb)
   unfold onlyP
   split
   ·exact this
   ·split
    ·exact is64_0
    ·exact is64_0
  ·exact is64_0
 ·have := List.any_eq_false.1 hnb.2 r hr
  simp at this; exact this
 ·have hx : x ∈ ([0, 0, 0, 0, 0, 0, 0, 0] : List Int) := hx
  simp at hx; omega
set_option maxHeartbeats 4000000 in
theorem srun_bad0 (f : PFunc) (i : PIn) (n : Nat) (hf : small f) (hL : Letters E) (hn : i.args.length ≤ 281474976710656) (hn2 : i.arrays.length ≤ 281474976710656) (hb : begBad f i = true) (hm : n ≤ 131072) : AFun prog E 7 [.agg (encF f), .agg (encIn i), .int .i64 n] (.agg [.int .i64 4, .int .i64 0, .int .i64 0, .raw (.slice none 0 0), .int .i64 0, .int .i64 0, .int .i64 0, .int .i64 0, .int .i64 0, .int .i64 0, .int .i64 0, .int .i64 0, .int .i64 0]) := by
 refine zn func7 Z (by decide) Z<|zSr<|zz (cs := _) Z Z Z<|zz (cs := _) Z Z Z<|zo (cs := [.int .i64 0, .int .i64 0, .int .i64 0, .raw (.slice none 0 0), .int .i64 0, .int .i64 0, .int .i64 0, .int .i64 0, .int .i64 0, .int .i64 0, .int .i64 0, .int .i64 0, .int .i64 0]) j7 Z Z<|fun i6 => z6<|zc<|zSr<|zVzMi Z<|zVGvlss Z Z<|zVzMb Z<|za Z Z (by simp)<|zVzMi Z<|za Z Z (by simp)<|z7 (q0 Z Z)<|z7 (zPf Z (by simp) Z)<|z6<|zb Z (by simp; omega)<|zj<|zSr<|zVGvloadWF jp jf Z Z<|zVGvloadWF isAgg30 sizeOf30 Z Z<|y7 Z (zr (.r (.rest _))) (sbegin_bad f i hf hL hn hn2 hb) ?_
 rintro r21 O21 ⟨⟨e, he, rfl⟩, rfl⟩
 refine z7 (zMu Z)<|z7 (yt (v := .raw _) Z Z)<|z7 (zXi Z Z)<|z7 (zAr Z)<|zVzAi Z<|z6<|zc<|zSr<|zVzMi Z<|z7 (yq Z Z)<|z6<|zy Z (by simpa using he)<|zSr<|z7 (yn (cps := [(0, [_])]) (rs := [_, .int .i64 0, .int .i64 0, .raw (.slice none 0 0), .int .i64 0, .int .i64 0, .int .i64 0, .int .i64 0, .int .i64 0, .int .i64 0, .int .i64 0, .int .i64 0, .int .i64 0]) pl40 Z Z Z)<|zg j3 Z Z Z Z Z Z .head Z<|z6<|ze<|afin.c1 Z ⟨_, .head⟩ Zk j3 Z ?_
 rfl
theorem AFun.imp {P : Program} {f : FuncId} {ars : List AV} {x y : AV} (h : AFun P E f ars x) (hi : Imp x y) : AFun P E f ars y := fun I F w vs h1 h2 =>
 (h I F w vs h1 h2).mono fun _ _ ⟨J, z, O', a, b, c, d⟩ => ⟨J, y, O', a, hi J _ (d ▸ b), c, rfl⟩
theorem srun_bad (f : PFunc) (i : PIn) (n : Nat) (hf : small f) (hL : Letters E) (hn : i.args.length ≤ 281474976710656) (hn2 : i.arrays.length ≤ 281474976710656) (hb : begBad f i = true) (hm : n ≤ 131072) : AFun prog E 7 [.agg (encF f), .agg (encIn i), .int .i64 n] (.agg (encOutP refP)) :=
 (srun_bad0 f i n hf hL hn hn2 hb hm).imp (Imp.agg (.cons (.refl _) (.cons (.refl _) (.cons (.refl _) (.cons (Imp.nil 1) (.cons (.refl _) (.cons (.refl _) (.cons (.refl _) (.cons (.refl _) (.cons (.refl _) (.cons (.refl _) (.cons (.refl _) (.cons (.refl _) (.cons (.refl _) .nil))))))))))))))
set_option maxHeartbeats 8000000 in
theorem srun_good (f : PFunc) (i : PIn) (n : Nat) (hf : small f) (hL : Letters E) (hb : begBad f i = false) (h64 : in64 i) (hR : RunP f) (hm : n ≤ 131072) : AFun prog E 7 [.agg (encF f), .agg (encIn i), .int .i64 n] (.agg (encOutP (runP f n (begP f i)))) := by
 have hbi := begP_inv hb h64 hR
 have hv : f.vars.length ≤ 1000 := hf.1
 refine zn func7 Z (by decide) Z<|zSr<|zz (cs := _) Z Z Z<|zz (cs := _) Z Z Z<|zo (cs := [.int .i64 0, .int .i64 0, .int .i64 0, .raw (.slice none 0 0), .int .i64 0, .int .i64 0, .int .i64 0, .int .i64 0, .int .i64 0, .int .i64 0, .int .i64 0, .int .i64 0, .int .i64 0]) j7 Z Z<|fun i6 => z6<|zc<|zSr<|zVzMi Z<|zVGvlss Z Z<|zVzMb Z<|za Z Z (by simp)<|zVzMi Z<|za Z Z (by simp)<|z7 (q0 Z Z)<|z7 (zPf Z (by simp) Z)<|z6<|zb Z (by simp; omega)<|zj<|zSr<|zVGvloadWF jp jf Z Z<|zVGvloadWF isAgg30 sizeOf30 Z Z<|y7 Z (zr (.r (.rest _))) (sbegin_good f i hf hL hb) ?_
 rintro r21 O21 ⟨iw, jv, jh, jo, jt, ids, hids, rfl, rfl⟩
 refine z7 (zMu Z)<|z7 (yt (v := .po _ _) Z Z)<|z7 (zXi Z Z)<|z7 (zAp Z)<|zVzAi Z<|z6<|zc<|zSr<|zVzMi Z<|z7 (yq Z Z)<|z6<|zb Z (by decide)<|zj<|zc<|zSr<|zVzMi Z<|zVzMi Z<|z6<|zi<|yg (γ := Nat × PS × Nat × Nat × List Nat) [6, 7, 27] (fun g => [(28, .int .i64 g.1)]) (fun g => sO f iw jv jh g.2.2.1 g.2.2.2.1 g.2.2.2.2 g.2.1 ++ [(i6, .cells 40 [.int .i64 0, .int .i64 0, .int .i64 0, .raw (.slice none 0 0), .int .i64 0, .int .i64 0, .int .i64 0, .int .i64 0, .int .i64 0, .int .i64 0, .int .i64 0, .int .i64 0, .int .i64 0])]) (fun g => g.1 ≤ n ∧ runP f (n - g.1) g.2.1 = runP f n (begP f i) ∧ PInv f g.1 g.2.1 ∧ g.2.1.st ≤ g.1 ∧ g.2.2.2.2.length = g.2.1.rows.length) (fun g => n - g.1) (0, begP f i, jo, jt, ids) zR1 zLe (⟨q5 _, Z, hbi, Nat.le_refl _, hids⟩) ?_
 rintro ⟨k, s, jo, jt, ids⟩ ⟨hk, hrun, hg, hst, hids⟩
 try dsimp only at *
 refine zSr<|zVGvlss Z Z<|z6<|zc<|y9 Z (fun ck=>?_) (fun ck=>?_)
 ·have hk2 : k < n := by simp at ck; omega
  by_cases he : s.ended = true
  ·have hend : runP f n (begP f i) = s := by rw [← hrun]; exact runP_end f _ s he
   rw [hend]
   refine zj<|zc<|zi<|zSr<|zVzMp Z<|y7 Z (zr (.l (.l (.l (.l (.l (.l (.r (.rest _))))))))) (sStep_end f iw jv jh jo jt ids s he) ?_
   rintro r31 O31 ⟨rfl, rfl⟩
   refine zVGvnot Z<|z6<|zy Z Z<|yf<|zSr<|zVzMp Z<|y7 Z (zr (.l (.l (.l (.l (.l (.l (.r (.rest _))))))))) (soutcome_spec f iw jv jh jo jt ids s hg.lt) ?_
   rintro r36 O36 ⟨rfl, rfl⟩
   refine z7 (zMu Z)<|z7 (yt (v := .agg _) Z Z)<|z7 (zXb Z Z)<|zo (cs := [.int .i64 0, .int .i64 0, .int .i64 0, .raw (.slice none 0 0), .int .i64 0, .int .i64 0, .int .i64 0, .int .i64 0, .int .i64 0, .int .i64 0, .int .i64 0, .int .i64 0, .int .i64 0]) j7 Z Z<|fun i9 => zg j3 Z Z Z Z Z Z .head Z<|ye (yu (t := 9) Z .head)<|zVzAb Z<|z6<|zSr<|zVGvloadWF Zk j3 Z Z<|zg j3 Z Z Z Z Z Z .head Z<|z6<|ze<|afin.c1 Z ⟨_, .head⟩ Zk j3 Z ?_
   rfl
  ·have he : s.ended = false := by simpa using he
   rw [show n - k = (n - (k + 1)) + 1 by omega, runP, if_neg (by rw [he]; decide)] at hrun
   refine zj<|zc<|zi<|zSr<|zVzMp Z<|y7 Z (zr (.l (.l (.l (.l (.l (.l (.r (.rest _))))))))) (sStep_spec f iw jv jh jo jt ids s k (by omega) (by omega) hids hg hR hv hf he) ?_
   rintro r31 O31 ⟨jo', jt', ids', hl', rfl, rfl⟩
   refine zVGvnot Z<|z6<|zb Z Z<|zj<|zRg<|zVzAd Z Z<|zVzMi Z<|z6 ?_
   exact ⟨(k + 1, stepP f s, jo', jt', ids'), zR3, zR1, zLe, ⟨hk2, hrun, hg.step hR, by rw [stepP_st]; dsimp only; omega, hl'⟩, by dsimp only; omega⟩
 ·have hk2 : k = n := by simp at ck; omega
  have hend : runP f n (begP f i) = s := by rw [← hrun, hk2, Nat.sub_self]; rfl
  rw [hend]
  refine yf<|zSr<|zVzMp Z<|y7 Z (zr (.l (.l (.l (.l (.l (.l (.r (.rest _))))))))) (soutcome_spec f iw jv jh jo jt ids s hg.lt) ?_
  rintro r36 O36 ⟨rfl, rfl⟩
  refine z7 (zMu Z)<|z7 (yt (v := .agg _) Z Z)<|z7 (zXb Z Z)<|zo (cs := [.int .i64 0, .int .i64 0, .int .i64 0, .raw (.slice none 0 0), .int .i64 0, .int .i64 0, .int .i64 0, .int .i64 0, .int .i64 0, .int .i64 0, .int .i64 0, .int .i64 0, .int .i64 0]) j7 Z Z<|fun i9 => zg j3 Z Z Z Z Z Z .head Z<|ye (yu (t := 9) Z .head)<|zVzAb Z<|z6<|zSr<|zVGvloadWF Zk j3 Z Z<|zg j3 Z Z Z Z Z Z .head Z<|z6<|ze<|afin.c1 Z ⟨_, .head⟩ Zk j3 Z ?_
  rfl
end Go.Proofs.YtoicilchhkndmaaGreatDoor
namespace Go.Proofs.YtoicilchhkndmaaGreatDoor
open Go.Proofs.Tryz
open Go.Proofs Go.Lib Go.Shelf Go.RowKit
variable {E : World}
set_option maxRecDepth 20000
theorem alike_spec (a b : GS) (hl : a.trace.length ≤ 281474976710656) : AFun prog E 16 [.agg (encOut a), .agg (encOut b)] (.bool (alikeG a b)) := by
 refine zn func16 Z (by decide) Z<|zSr<|zz (cs := _) Z Z Z<|zz (cs := _) Z Z Z<|zVzAb Z<|z6<|zc<|zc<|AWP.cutS (γ := Bool) [2, 3] (fun z => [(33, .bool z)]) (fun z => []) (fun z => z = !decide (a.en = b.en ∧ a.val = b.val ∧ a.tr = b.tr ∧ a.trace.length = b.trace.length)) ?_ (fun _ _ h => h) ?_
 ·refine zRg<|zVzFF j4 Z Y6 Z Z<|zVzLi isAgg35 Z<|zVzFF j4 Z Y6 Z Z<|zVzLi isAgg35 Z<|z7 (yq Z Z)<|zVzMb Z<|zx (s := 11) Z (fun c1=>?_) (fun c1=>?_)
  ·have d1 : ¬ a.en = b.en := by simpa using c1
   refine z8 Z Z c1<|z8 Z Z c1<|z8 Z Z c1<|z8 Z Z c1<|z8 Z Z c1<|zVzPt Z c1 Z<|zVzMb Z<|z8 Z Z Z<|z8 Z Z Z<|z8 Z Z Z<|z8 Z Z Z<|z8 Z Z Z<|zVzPt Z Z Z<|zVzMb Z<|z8 Z Z Z<|z8 Z Z Z<|z8 Z Z Z<|z8 Z Z Z<|z8 Z Z Z<|z8 Z Z Z<|z8 Z Z Z<|zVzPt Z Z Z<|z6 ?_
   exact ⟨_, zR2, zR1, zLe, by simp [d1]⟩
  ·have d1 : a.en = b.en := by simpa using c1
   refine za Z Z c1<|zVzFF j4 Z jm Z Z<|za Z Z c1<|zVzLi Z5 Z<|za Z Z c1<|zVzFF j4 Z jm Z Z<|za Z Z c1<|zVzLi Z5 Z<|za Z Z c1<|z7 (yq Z Z)<|zVzPf Z c1 Z<|zVzMb Z<|zx (s := 18) Z (fun c2=>?_) (fun c2=>?_)
   ·have d2 : ¬ a.val = b.val := by simpa using c2
    refine z8 Z Z c2<|z8 Z Z c2<|z8 Z Z c2<|z8 Z Z c2<|z8 Z Z c2<|zVzPt Z c2 Z<|zVzMb Z<|z8 Z Z Z<|z8 Z Z Z<|z8 Z Z Z<|z8 Z Z Z<|z8 Z Z Z<|z8 Z Z Z<|z8 Z Z Z<|zVzPt Z Z Z<|z6 ?_
    exact ⟨_, zR2, zR1, zLe, by simp [d2]⟩
   ·have d2 : a.val = b.val := by simpa using c2
    refine za Z Z c2<|zVzFF j4 Z Zf Z Z<|za Z Z c2<|zVzLi isAgg36 Z<|za Z Z c2<|zVzFF j4 Z Zf Z Z<|za Z Z c2<|zVzLi isAgg36 Z<|za Z Z c2<|z7 (yq Z Z)<|zVzPf Z c2 Z<|zVzMb Z<|zx (s := 25) Z (fun c3=>?_) (fun c3=>?_)
    ·have d3 : ¬ a.tr = b.tr := by simpa using c3
     refine z8 Z Z c3<|z8 Z Z c3<|z8 Z Z c3<|z8 Z Z c3<|z8 Z Z c3<|z8 Z Z c3<|z8 Z Z c3<|zVzPt Z c3 Z<|z6 ?_
     exact ⟨_, zR2, zR1, zLe, by simp [d3]⟩
    ·have d3 : a.tr = b.tr := by simpa using c3
     refine za Z Z c3<|zVzFF j4 Z Z0 Z Z<|za Z Z c3<|zVzLf Zg Z<|za Z Z c3<|zVGvlenM ji Z<|za Z Z c3<|zVzFF j4 Z Z0 Z Z<|za Z Z c3<|zVzLf Zg Z<|za Z Z c3<|zVGvlenM ji Z<|za Z Z c3<|z7 (yq Z Z)<|zVzPf Z c3 Z<|z6 ?_
     exact ⟨_, zR2, zR1, zLe, by simp [d1, d2, d3]; omega⟩
 ·rintro z hz
  refine yb Z (fun cz=>?_) (fun cz=>?_)
  ·have cz : ¬ (a.en = b.en ∧ a.val = b.val ∧ a.tr = b.tr ∧ a.trace.length = b.trace.length) := by intro h; rw [hz, decide_eq_true h] at cz; cases cz
   refine zSr<|zVzAb Z<|z6<|ze<|zk (x := .bool _) Z ?_
   unfold alikeG; rw [decide_eq_false]; rintro ⟨h1, h2, h3, h4⟩; exact cz ⟨h1, h2, h3, by rw [h4]⟩
  ·have cz : a.en = b.en ∧ a.val = b.val ∧ a.tr = b.tr ∧ a.trace.length = b.trace.length := Classical.byContradiction fun h => by rw [hz, decide_eq_false h] at cz; cases cz
   refine zj<|zc<|zSr<|zVzFF j4 Z Z0 Z Z<|zVzLf Zg Z<|zVGvlenM ji Z<|zVzMi Z<|z6<|zi<|yg (γ := Nat) [2, 3, 36] (fun k => [(37, .int .i64 k)]) (fun k => []) (fun k => k ≤ a.trace.length ∧ a.trace.take k = b.trace.take k) (fun k => a.trace.length - k) 0 zR1 zLe (⟨q5 _, by simp⟩) ?_
   rintro k ⟨hk, hok⟩
   refine zSr<|zVGvlss Z Z<|z6<|zc<|y9 Z (fun ck=>?_) (fun ck=>?_)
   ·have hk2 : k < a.trace.length := by simp at ck; omega
    have hk3 : k < b.trace.length := by omega
    refine zj<|zc<|zi<|zSr<|zVzMi Z<|zVzAi Z<|z6<|zc<|zw (fun j => false) (by kernel_rfl) Z (zr (.rest _))<|zTk 0 Z (zFF j4 Z Z0 Z Z)<|zTk 1 Z (zLf Zg Z)<|zTk 2 Z (zMi Z)<|zTk 3 Z (zIM k ji jm Z Z Z (q3 hk2))<|zTk 4 Z (zLi Z5 Z)<|zTk 5 Z (zFF j4 Z Z0 Z Z)<|zTk 6 Z (zLf Zg Z)<|zTk 7 Z (zMi Z)<|zTk 8 Z (zIM k ji jm Z Z Z (q3 hk3))<|zTk 9 Z (zLi Z5 Z)<|zTk 10 Z (yq Z Z)<|zDn<|yb Z (fun cn=>?_) (fun cn=>?_)
    ·have cn : ¬ a.trace[k] = b.trace[k] := by simpa using cn
     refine zSr<|zVzAb Z<|z6<|ze<|zk (x := .bool _) Z ?_
     unfold alikeG; rw [decide_eq_false]; rintro ⟨h1, h2, h3, h4⟩; exact cn (by simp only [h4])
    ·have cn : a.trace[k] = b.trace[k] := by simpa using cn
     refine zj<|zRg<|zVzAd Z Z<|zVzMi Z<|z6 ?_
     exact ⟨k + 1, zR3, zR1, zLe, ⟨hk2, by rw [q4 hk2, q4 hk3, hok, cn]⟩, by omega⟩
   ·obtain rfl : k = a.trace.length := by simp at ck; omega
    have ht : a.trace = b.trace := by rw [q7] at hok; rw [hok, cz.2.2.2, q7]
    refine yf<|zSr<|zVzAb Z<|z6<|ze<|zk (x := .bool _) Z ?_
    unfold alikeG; rw [decide_eq_true]; exact ⟨cz.1, cz.2.1, cz.2.2.1, ht⟩
end Go.Proofs.YtoicilchhkndmaaGreatDoor
namespace Go.Proofs.YtoicilchhkndmaaGreatDoor
open Go.Proofs.Tryz
open Go.Proofs Go.Lib Go.Shelf Go.RowKit
variable {E : World}
set_option maxRecDepth 20000
def smallIn (i : PIn) : Bool := decide (i.args.length ≤ 20) && (decide (i.arrays.length ≤ 40) && i.arrays.all fun r => decide (r.length ≤ 100))
theorem smallIn_spec (i : PIn) (hl : i.args.length ≤ 9223372036854775807) (hl2 : i.arrays.length ≤ 9223372036854775807) : AFun prog E 6 [.agg (encIn i)] (.bool (smallIn i)) := by
 refine zn func6 Z (by decide) Z<|zSr<|zz (cs := _) Z Z Z<|zVzAb Z<|z6<|zc<|zSr<|zVzFF Z2 Z Ze Z Z<|zVzLf Zv Z<|zVGvlenM j5 Z<|z7 (q0 Z Z)<|zVzMb Z<|zx (s := 9) Z (fun c1=>?_) (fun c1=>?_)
 ·refine z8 Z Z c1<|z8 Z Z c1<|z8 Z Z c1<|z8 Z Z c1<|zVzPt Z c1 Z<|z6<|zy Z Z<|zSr<|zVzAb Z<|z6<|ze<|zk (x := .bool _) Z ?_
  unfold smallIn; rw [decide_eq_false (fun h => by simp at c1; omega)]; rfl
 ·have h1 : i.args.length ≤ 20 := by simp at c1; omega
  refine za Z Z c1<|zVzFF Z2 Z Zi Z Z<|za Z Z c1<|zVzLf Zx Z<|za Z Z c1<|zVGvlenM jn Z<|za Z Z c1<|z7 (q0 Z Z)<|zVzPf Z c1 Z<|z6<|yb Z (fun c2=>?_) (fun c2=>?_)
  ·refine zSr<|zVzAb Z<|z6<|ze<|zk (x := .bool _) Z ?_
   unfold smallIn; rw [decide_eq_true h1, decide_eq_false (fun h => by simp at c2; omega)]; rfl
  ·have h2 : i.arrays.length ≤ 40 := by simp at c2; omega
   refine zj<|zc<|zSr<|zVzFF Z2 Z Zi Z Z<|zVzLf Zx Z<|zVGvlenM jn Z<|zVzMi Z<|z6<|zi<|yg (γ := Nat) [16, 17] (fun k => [(18, .int .i64 k)]) (fun k => []) (fun k => k ≤ i.arrays.length ∧ ∀ r ∈ i.arrays.take k, r.length ≤ 100) (fun k => i.arrays.length - k) 0 zR1 zLe (⟨q5 _, fun _ h => by cases h⟩) ?_
   rintro k ⟨hk, hall⟩
   refine zSr<|zVGvlss Z Z<|z6<|zc<|y9 Z (fun ck=>?_) (fun ck=>?_)
   ·have hk2 : k < i.arrays.length := by omega
    refine zj<|zc<|zi<|zSr<|z7 (zIM k jn Z0 Z Z Z (q3 hk2))<|zVzLf Zg Z<|z7 (zAf Z)<|z6<|zSr<|zVzMf Z<|zVGvlenM ji Z<|z7 (q0 Z Z)<|z6<|y9 Z (fun cr=>?_) (fun cr=>?_)
    ·refine zSr<|zVzAb Z<|z6<|ze<|zk (x := .bool _) Z ?_
     unfold smallIn; rw [decide_eq_true h1, decide_eq_true h2, Bool.true_and, Bool.true_and]; exact jb (List.all_eq_false.2 ⟨i.arrays[k], q6 hk2, by simp; omega⟩).symm
    ·have hall2 : ∀ r ∈ i.arrays.take (k + 1), r.length ≤ 100 := fun r hr => by
      rw [q4 hk2] at hr
      rcases List.mem_append.1 hr with h | h
      ·exact hall r h
      ·rw [List.mem_singleton.1 h]; omega
     refine zj<|zRg<|zVzAd Z Z<|zVzMi Z<|z6 ?_
     exact ⟨k + 1, zR2, zR1, zLe, ⟨hk2, hall2⟩, by omega⟩
   ·obtain rfl : k = i.arrays.length := by omega
    rw [q7] at hall
    refine yf<|zSr<|zVzAb Z<|z6<|ze<|zk (x := .bool _) Z ?_
    unfold smallIn; rw [decide_eq_true h1, decide_eq_true h2, Bool.true_and, Bool.true_and]; exact jb (List.all_eq_true.2 fun r hr => decide_eq_true (hall r hr)).symm
end Go.Proofs.YtoicilchhkndmaaGreatDoor
