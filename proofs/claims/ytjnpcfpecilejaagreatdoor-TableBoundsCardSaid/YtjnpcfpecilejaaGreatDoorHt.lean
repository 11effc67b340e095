/- The document's edges of an instruction. Of programs that are little. -/
import Derived.Test.YtjnpcfpecilejaaGreatDoorHs
set_option linter.unusedVariables false
set_option linter.unusedSimpArgs false
set_option linter.unusedSectionVars false
namespace Go.Proofs.YtjnpcfpecilejaaGreatDoor
open Go.Proofs.Tryz
open Go.Proofs Go.Lib Go.Shelf Go.RowKit
theorem ps44_2 : PlacesS prog 44 119 2 3 [.int .i64 0, .int .i64 0, .int .i64 0, .int .i64 0, .int .i64 0, .int .i64 0] := ⟨_, underlying44, sizeOf119, zeroValue119, by decide, by decide, by kernel_rfl⟩
variable {E : World}
set_option maxRecDepth 20000
def posR (r : Rng) : Bool := decide (r.1 ≤ r.2) && (decide (0 ≤ r.1) && decide (r.1 ≠ M64))
theorem posR_eq (f : PFunc) (l : List Rng) (v : Int) : posB f l v = posR (ofR f l v) := by
 unfold posB posR toldB
 rw [qs]
 unfold m64 M64
 simp only [qw, Bool.not_eq_true', w4, decide_eq_false_iff_not]
 omega
def fitY (k : Nat) (a b : Rng) : Bool := !(decide (a.1 ≤ a.2) && decide (b.1 ≤ b.2)) || decide (cornF k a b)
theorem fitY_eq (f : PFunc) (l : List Rng) (x : PInst) : fitsX f l x = fitY (x.op - 2).toNat (ofR f l (x0 x)) (ofR f l (x1 x)) := by
 unfold fitsX fitY
 rw [qs]
 simp only [Bool.or_eq_true, Bool.not_eq_true', w4, Bool.and_eq_false_iff, decide_eq_false_iff_not]
 constructor
 ·rintro (h | h | h)
  ·exact .inl (.inl (by omega))
  ·exact .inl (.inr (by omega))
  ·exact .inr h
 ·rintro ((h | h) | h)
  ·exact .inl (by omega)
  ·exact .inr (.inl (by omega))
  ·exact .inr (.inr h)
theorem told_end {f : PFunc} {l : List Rng} {v : Int} (ho : ok64 (ofR f l v)) {n : Int} (hn : n = (ofR f l v).1 ∨ n = (ofR f l v).2) {s : Int} (hs : s = 1 ∨ s = -1) : toldB (ofR f l v) n = true → is64 (s * n) := fun h => by
 have h1 := ho.1; have h2 := ho.2
 unfold toldB m64 M64 at h
 simp only [qw, w4] at h
 unfold is64 at h1 h2 ⊢
 rcases hs with rfl | rfl <;> rcases hn with rfl | rfl <;> omega
theorem argsR_0 {f : PFunc} {l : List Rng} {x : PInst} (h : 1 ≤ x.args.length) : ra (argsR f l x) 0 = ofR f l (x0 x) := by
 rw [ra_map]; unfold x0; rw [qj (by omega)]; rfl
theorem argsR_1 {f : PFunc} {l : List Rng} {x : PInst} (h : 2 ≤ x.args.length) : ra (argsR f l x) 1 = ofR f l (x1 x) := by
 rw [ra_map]; unfold x1; rw [qj (by omega)]; rfl
theorem x0_memQ {x : PInst} (h : 1 ≤ x.args.length) : x0 x ∈ x.args := by unfold x0; rw [qj (by omega)]; exact qn _
theorem x1_memQ {x : PInst} (h : 2 ≤ x.args.length) : x1 x ∈ x.args := by unfold x1; rw [qj (by omega)]; exact qn _
theorem GStep.knowE {env : AEnv} {O O' : OL} {t i m : Nat} {T : TypeId} {es : List Ejk} (hv : env t = .own i m) (hO : Pick O i (.grow 3 T (eC es)) O') (hm : es.length = m) : GStep E env O (aupd env t (.fro 3 (es.map encE))) O' := by
 rw [eC_flat] at hO
 exact GStep.know hv hO (fun r hr => by obtain ⟨z, _, rfl⟩ := List.mem_map.1 hr; rfl) (by decide) (by rw [qq]; exact hm)
theorem ins0 {f : PFunc} {l : List Rng} {up : Bool} {x : PInst} {b a : Int} (h : x.op = 0) : instE f l up x b a = [(n0 f, x.dst, x.num)] := by unfold instE; rw [if_pos h]
theorem ins1 {f : PFunc} {l : List Rng} {up : Bool} {x : PInst} {b a : Int} (h : x.op = 1 ∨ x.op = 12 ∨ x.op = 15) : instE f l up x b a = [(x0 x, x.dst, 0)] := by unfold instE; rw [if_neg (by omega), if_pos h]
theorem ins16 {f : PFunc} {l : List Rng} {up : Bool} {x : PInst} {b a : Int} (h : x.op = 16) : instE f l up x b a = [(n0 f, x.dst, 0)] := by unfold instE; rw [if_neg (by omega), if_neg (by omega), if_neg (by omega), if_neg (by omega), if_pos h]
theorem ins2 {f : PFunc} {l : List Rng} {up : Bool} {x : PInst} {b a : Int} (h : x.op = 2 ∨ x.op = 3) : instE f l up x b a = sumE f l up x b a := by unfold instE; rw [if_neg (by omega), if_neg (by omega), if_pos h]
theorem ins5 {f : PFunc} {l : List Rng} {up : Bool} {x : PInst} {b a : Int} (h : x.op = 5 ∨ x.op = 6) : instE f l up x b a = restE f l up x := by unfold instE; rw [if_neg (by omega), if_neg (by omega), if_neg (by omega), if_pos h]
theorem ins25 {f : PFunc} {l : List Rng} {up : Bool} {x : PInst} {b a : Int} (h : x.op = 25) : instE f l up x b a = piE up x := by unfold instE; rw [if_neg (by omega), if_neg (by omega), if_neg (by omega), if_neg (by omega), if_neg (by omega), if_pos h]
theorem ins26 {f : PFunc} {l : List Rng} {up : Bool} {x : PInst} {b a : Int} (h : x.op = 26) : instE f l up x b a = [(x0 x, x.dst, 0), if up = true then (x1 x, x.dst, -1) else (n0 f, x.dst, 0)] := by unfold instE; rw [if_neg (by omega), if_neg (by omega), if_neg (by omega), if_neg (by omega), if_neg (by omega), if_neg (by omega), if_pos h]
theorem insO {f : PFunc} {l : List Rng} {up : Bool} {x : PInst} {b a : Int} (h0 : ¬ x.op = 0) (h1 : ¬ (x.op = 1 ∨ x.op = 12 ∨ x.op = 15)) (h2 : ¬ x.op = 2) (h3 : ¬ x.op = 3) (h5 : ¬ x.op = 5) (h6 : ¬ x.op = 6) (h16 : ¬ x.op = 16) (h25 : ¬ x.op = 25) (h26 : ¬ x.op = 26) : instE f l up x b a = [] := by
 unfold instE; rw [if_neg h0, if_neg h1, if_neg (by omega), if_neg (by omega), if_neg h16, if_neg h25, if_neg h26]
theorem sumN {f : PFunc} {l : List Rng} {up : Bool} {x : PInst} {b a : Int} (hc : (fitsX f l x || chkX f x b a) = false) : sumE f l up x b a = [] := by unfold sumE; rw [hc]; rfl
theorem sum2U {f : PFunc} {l : List Rng} {x : PInst} {b a : Int} (h : x.op = 2) (hc : (fitsX f l x || chkX f x b a) = true) : sumE f l true x b a = withE (withE [] x.dst (x0 x) (ofR f l (x1 x)) (ofR f l (x1 x)).2 1) x.dst (x1 x) (ofR f l (x0 x)) (ofR f l (x0 x)).2 1 := by unfold sumE; rw [hc, if_pos rfl, if_neg (by omega)]; rfl
theorem sum2D {f : PFunc} {l : List Rng} {x : PInst} {b a : Int} (h : x.op = 2) (hc : (fitsX f l x || chkX f x b a) = true) : sumE f l false x b a = withE (withE [] x.dst (x0 x) (ofR f l (x1 x)) (ofR f l (x1 x)).1 1) x.dst (x1 x) (ofR f l (x0 x)) (ofR f l (x0 x)).1 1 := by unfold sumE; rw [hc, if_pos rfl, if_neg (by omega)]; rfl
theorem sum3U {f : PFunc} {l : List Rng} {x : PInst} {b a : Int} (h : x.op = 3) (hc : (fitsX f l x || chkX f x b a) = true) : sumE f l true x b a = withE [] x.dst (x0 x) (ofR f l (x1 x)) (ofR f l (x1 x)).1 (-1) := by unfold sumE; rw [hc, if_pos rfl, if_pos h]; rfl
theorem sum3D {f : PFunc} {l : List Rng} {x : PInst} {b a : Int} (h : x.op = 3) (hc : (fitsX f l x || chkX f x b a) = true) : sumE f l false x b a = withE [] x.dst (x0 x) (ofR f l (x1 x)) (ofR f l (x1 x)).2 (-1) := by unfold sumE; rw [hc, if_pos rfl, if_pos h]; rfl
theorem withE_nil (to from_ : Int) (r : Rng) (n s : Int) : (withE [] to from_ r n s).length ≤ 1 := by have := withE_len [] to from_ r n s; simpa using this
theorem bothE {f : PFunc} {l : List Rng} {x : PInst} {b a : Int} {U D : List Ejk} (h1 : instE f l true x b a = U) (h2 : instE f l false x b a = D) : AV.tup [.fro 3 (U.map encE), .fro 3 (D.map encE)] = AV.tup [.fro 3 ((instE f l true x b a).map encE), .fro 3 ((instE f l false x b a).map encE)] := by rw [h1, h2]
set_option maxHeartbeats 8000000 in
theorem refOf_spec (f : PFunc) (hf : small f) (hS : ShapedP f) (hE : EndsOk f) (l : List Rng) (hll : l.length = f.vars.length) (hok : ∀ u : Int, 0 ≤ u → ok64 (lv l u)) (x : PInst) (hI : InstF f x) (block at_ : Nat) (hb : block < f.blocks.length) :
  AFun prog E 63 [.agg (encF f), froB (tabR f), .fro 2 (l.map encZ), .agg (encInst x), .int .i64 block, .int .i64 at_] (.tup [.fro 3 ((instE f l true x block at_).map encE), .fro 3 ((instE f l false x block at_).map encE)]) := by
 have hal : (argsR f l x).length = x.args.length := by unfold argsR; rw [qq]
 have hvn := hf.1
 have hx3 : x.args.length ≤ 3 := by
  rw [hI.len]
  rcases kRow_mem x.op with h | h
  ·unfold takesL; rw [h]; decide
  ·have : ∀ r ∈ kindT, r.2.1.data.toList.length ≤ 3 := by decide
   have := this _ h
   unfold takesL; simpa using this
 refine zo func63 rfl (by decide) rfl<|zSr<|y7 (cs := _) rfl rfl rfl<|y7 (cs := _) rfl rfl rfl<|z2 (zAr rfl)<|z2 (zAr rfl)<|z6<|za<|y1 (fun j => false) (by kernel_rfl) rfl (zn (.rest _))<|zTk 0 rfl (zFF underlying33 rfl sizeOf3 rfl rfl)<|zTk 1 rfl (zLi isAgg3 rfl)<|zTk 2 rfl (zFF underlying26 rfl sizeOf22 rfl rfl)<|zTk 3 rfl (zLf isAgg22 rfl)<|zTk 4 rfl (zz underlying22 rfl)<|zTk 5 rfl (zAi rfl)<|zTk 6 rfl (zAi rfl)<|zDn<|zSr<|zq (cs := [.int .i64 0, .int .i64 0, .int .i64 0, .int .i64 0, .int .i64 0, .int .i64 0]) zeroValue175 rfl rfl<|fun i16 => z6<|za<|zSr<|z2 (zFF underlying33 rfl sizeOf23 rfl rfl)<|z2 (zLf isAgg23 rfl)<|z2 (zz underlying23 rfl)<|z2 (zMi rfl)<|z6<|zh<|y6 (γ := Nat) [1, 2, 4, 5, 6, 9, 12, 13, 14, 15, 16, 31, 32] (fun m => [(33, .int .i64 m)]) (fun m => [(i16, .cells 175 (c3 ((argsR f l x).take m)))]) (fun m => m ≤ x.args.length) (fun m => x.args.length - m) 0 zR1 zLe (qm _) ?_
 rintro m hm
 refine zSr<|z2 (y8 rfl rfl)<|z6<|za<|zp rfl (fun cm=>?_) (fun cm=>?_)
 ·have hm2 : m < x.args.length := by simp at cm; omega
  obtain ⟨a, ha⟩ : ∃ a, x.args[m] = a := ⟨_, rfl⟩
  have hav := hI.args a (ha ▸ qn hm2)
  obtain ⟨ha0, ha1⟩ := hasV_rng hav
  obtain ⟨y, hy, hyt, hy0, hy2⟩ := ty_get hS hav
  have htk := args_take (f := f) (l := l) hm2
  rw [ha] at htk
  have hAl : ((argsR f l x).take m).length = m := by rw [List.length_take]; omega
  obtain ⟨A, hA⟩ : ∃ A, (argsR f l x).take m = A := ⟨_, rfl⟩
  rw [hA] at hAl htk ⊢
  have hof : rMeet (lv l a) (rType y.ty) = ofR f l a := by unfold ofR; rw [← hyt]
  refine zc<|za<|zh<|zSr<|z2 (zMi rfl)<|z2 (zIM m underlying23 sizeOf3 rfl rfl rfl (by rw [qj hm2, ha]))<|z2 (zLi isAgg3 rfl)<|z2 (zAi rfl)<|z2 (zAi rfl)<|z6 ?_
  rcases (by omega : m = 0 ∨ m = 1 ∨ m = 2) with rfl | rfl | rfl
  ·obtain rfl : A = [] := List.eq_nil_of_length_eq_zero hAl
   refine y1 (fun j => Nat.beq j 14) (by kernel_rfl) rfl (zn (.rest _))<|zTk 0 rfl (zMi rfl)<|zTk 1 rfl (zMf rfl)<|zTk 2 rfl (zMi rfl)<|zTk 3 rfl (zIM a.toNat underlying47 sizeOf75 rfl rfl (by omega) (lv_get (by omega)))<|zTk 4 rfl (zk isAgg75 sizeOf75 rfl rfl)<|zTk 5 rfl (zFF underlying26 rfl sizeOf22 rfl rfl)<|zTk 6 rfl (zLf isAgg22 rfl)<|zTk 7 rfl (zMi rfl)<|zTk 8 rfl (zIM a.toNat underlying22 sizeOf56 rfl rfl (by omega) hy)<|zTk 9 rfl (zFF underlying56 rfl sizeOf54 rfl rfl)<|zTk 10 rfl (zLi isAgg54 rfl)<|zOn 11 rfl<|ze (rType_s (t := y.ty) ⟨hy0, hy2⟩) rfl<|z6<|zOn 12 rfl<|ze (rMeet_s (lv l a) (rType y.ty)) rfl<|z6<|zTk 13 rfl (Gv.idxAO (j := 0) underlying175 sizeOf75 rfl rfl rfl (by decide) rfl)<|yw<|q4 (i := 14) rfl (by kernel_rfl) (by kernel_rfl)<|qg (l := [_, _]) (new := [_, _, _, _, _, _]) sizeOf75 rfl rfl rfl rfl rfl rfl .head rfl rfl<|z6<|yz (by kernel_rfl)<|zRg<|z2 (zAd rfl rfl)<|z2 (zMi rfl)<|z6 ?_
   exact ⟨1, zR13, zR1, ⟨_, (.refl _), by rw [htk, ← hof]; rfl⟩, hm2, by omega⟩
  ·obtain ⟨r0, rfl⟩ := List.length_eq_one_iff.1 hAl
   refine y1 (fun j => Nat.beq j 14) (by kernel_rfl) rfl (zn (.rest _))<|zTk 0 rfl (zMi rfl)<|zTk 1 rfl (zMf rfl)<|zTk 2 rfl (zMi rfl)<|zTk 3 rfl (zIM a.toNat underlying47 sizeOf75 rfl rfl (by omega) (lv_get (by omega)))<|zTk 4 rfl (zk isAgg75 sizeOf75 rfl rfl)<|zTk 5 rfl (zFF underlying26 rfl sizeOf22 rfl rfl)<|zTk 6 rfl (zLf isAgg22 rfl)<|zTk 7 rfl (zMi rfl)<|zTk 8 rfl (zIM a.toNat underlying22 sizeOf56 rfl rfl (by omega) hy)<|zTk 9 rfl (zFF underlying56 rfl sizeOf54 rfl rfl)<|zTk 10 rfl (zLi isAgg54 rfl)<|zOn 11 rfl<|ze (rType_s (t := y.ty) ⟨hy0, hy2⟩) rfl<|z6<|zOn 12 rfl<|ze (rMeet_s (lv l a) (rType y.ty)) rfl<|z6<|zTk 13 rfl (Gv.idxAO (j := 1) underlying175 sizeOf75 rfl rfl rfl (by decide) rfl)<|yw<|q4 (i := 14) rfl (by kernel_rfl) (by kernel_rfl)<|qg (l := [_, _]) (new := [_, _, _, _, _, _]) sizeOf75 rfl rfl rfl rfl rfl rfl .head rfl rfl<|z6<|yz (by kernel_rfl)<|zRg<|z2 (zAd rfl rfl)<|z2 (zMi rfl)<|z6 ?_
   exact ⟨2, zR13, zR1, ⟨_, (.refl _), by rw [htk, ← hof]; rfl⟩, hm2, by omega⟩
  ·obtain ⟨r0, r1, rfl⟩ : ∃ r0 r1, A = [r0, r1] := by
    match A, hAl with
    | [r0, r1], _ => exact ⟨r0, r1, rfl⟩
   refine y1 (fun j => Nat.beq j 14) (by kernel_rfl) rfl (zn (.rest _))<|zTk 0 rfl (zMi rfl)<|zTk 1 rfl (zMf rfl)<|zTk 2 rfl (zMi rfl)<|zTk 3 rfl (zIM a.toNat underlying47 sizeOf75 rfl rfl (by omega) (lv_get (by omega)))<|zTk 4 rfl (zk isAgg75 sizeOf75 rfl rfl)<|zTk 5 rfl (zFF underlying26 rfl sizeOf22 rfl rfl)<|zTk 6 rfl (zLf isAgg22 rfl)<|zTk 7 rfl (zMi rfl)<|zTk 8 rfl (zIM a.toNat underlying22 sizeOf56 rfl rfl (by omega) hy)<|zTk 9 rfl (zFF underlying56 rfl sizeOf54 rfl rfl)<|zTk 10 rfl (zLi isAgg54 rfl)<|zOn 11 rfl<|ze (rType_s (t := y.ty) ⟨hy0, hy2⟩) rfl<|z6<|zOn 12 rfl<|ze (rMeet_s (lv l a) (rType y.ty)) rfl<|z6<|zTk 13 rfl (Gv.idxAO (j := 2) underlying175 sizeOf75 rfl rfl rfl (by decide) rfl)<|yw<|q4 (i := 14) rfl (by kernel_rfl) (by kernel_rfl)<|qg (l := [_, _]) (new := [_, _, _, _, _, _]) sizeOf75 rfl rfl rfl rfl rfl rfl .head rfl rfl<|z6<|yz (by kernel_rfl)<|zRg<|z2 (zAd rfl rfl)<|z2 (zMi rfl)<|z6 ?_
   exact ⟨3, zR13, zR1, ⟨_, (.refl _), by rw [htk, ← hof]; rfl⟩, hm2, by omega⟩
 ·have hmn : m = x.args.length := by simp at cm; omega
  subst hmn
  rw [← hal, qo]
  obtain ⟨rs, hrs⟩ : ∃ rs, argsR f l x = rs := ⟨_, rfl⟩
  rw [hrs] at hal ⊢
  have hl0 : 1 ≤ x.args.length → ra rs 0 = ofR f l (x0 x) := fun h => by rw [← hrs]; exact argsR_0 h
  have hl1 : 2 ≤ x.args.length → ra rs 1 = ofR f l (x1 x) := fun h => by rw [← hrs]; exact argsR_1 h
  have hg0 : 1 ≤ x.args.length → x.args[0]? = some (x0 x) := fun h => by unfold x0; rw [qj (by omega)]; rfl
  have hg1 : 2 ≤ x.args.length → x.args[1]? = some (x1 x) := fun h => by unfold x1; rw [qj (by omega)]; rfl
  have htwo : x.op = 2 ∨ x.op = 3 ∨ x.op = 5 ∨ x.op = 6 ∨ x.op = 25 ∨ x.op = 26 → x.args.length = 2 := fun h => by rw [hI.len]; exact takes2 h
  have hone : x.op = 1 ∨ x.op = 12 ∨ x.op = 15 → 1 ≤ x.args.length := fun h => by rw [hI.len]; exact takes1 h
  refine yf (y9 (t := 16) rfl .head)<|y4<|zSr<|z2 (zAi rfl)<|z2 (zAi rfl)<|z6<|za<|zSr<|z2 (zFF underlying33 rfl sizeOf23 rfl rfl)<|z2 (zLf isAgg23 rfl)<|z2 (zz underlying23 rfl)<|z2 (yv rfl rfl)<|z6<|yc (γ := Int) [1, 4, 5, 6, 9, 12, 13, 14, 15, 16, 20] (fun y => [(19, .int .i64 y)]) (fun y => []) (fun y => y = if 1 ≤ x.args.length then x0 x else -1) ?_ (fun _ _ h => h) ?_
  ·refine zp rfl (fun c=>?_) (fun c=>?_)
   ·have c2 : 1 ≤ x.args.length := by omega
    refine zRg<|z2 (zFF underlying33 rfl sizeOf23 rfl rfl)<|z2 (zLf isAgg23 rfl)<|z2 (zIM 0 underlying23 sizeOf3 rfl rfl rfl (hg0 c2))<|z2 (zLi isAgg3 rfl)<|z2 (zAi rfl)<|z6 ?_
    exact ⟨_, zR11, zR1, zLe, by rw [if_pos c2]⟩
   ·refine zc ?_
    exact ⟨_, zR11, zR1, zLe, by rw [if_neg (by omega)]⟩
  ·rintro Y hY
   refine za<|zSr<|z2 (zFF underlying33 rfl sizeOf23 rfl rfl)<|z2 (zLf isAgg23 rfl)<|z2 (zz underlying23 rfl)<|z2 (yv rfl rfl)<|z6<|yc (γ := Int) [1, 4, 5, 6, 9, 12, 13, 14, 15, 16, 19] (fun y => [(20, .int .i64 y)]) (fun y => []) (fun y => y = if 2 ≤ x.args.length then x1 x else -1) ?_ (fun _ _ h => h) ?_
   ·refine zp rfl (fun c=>?_) (fun c=>?_)
    ·have c2 : 2 ≤ x.args.length := by omega
     refine zRg<|z2 (zFF underlying33 rfl sizeOf23 rfl rfl)<|z2 (zLf isAgg23 rfl)<|z2 (zIM 1 underlying23 sizeOf3 rfl rfl rfl (hg1 c2))<|z2 (zLi isAgg3 rfl)<|z2 (zAi rfl)<|z6 ?_
     exact ⟨_, zR11, zR1, zLe, by rw [if_pos c2]⟩
    ·refine zc ?_
     exact ⟨_, zR11, zR1, zLe, by rw [if_neg (by omega)]⟩
   ·rintro Z hZ
    refine za<|yc (γ := Bool) [1, 4, 5, 6, 9, 12, 13, 14, 15, 16, 19, 20] (fun u => [(21, .bool u)]) (fun u => []) (fun u => u = posR (ra rs 0)) ?_ (fun _ _ h => h) ?_
    ·refine zRg<|z2 (yo (j := 0) underlying175 sizeOf75 rfl rfl rfl (by decide) rfl)<|z2 (zFF underlying75 rfl sizeOf2 rfl rfl)<|z2 (zLi isAgg2 rfl)<|z2 (yo (j := 0) underlying175 sizeOf75 rfl rfl rfl (by decide) rfl)<|z2 (zFF underlying75 rfl sizeOf2 rfl rfl)<|z2 (zLi isAgg2 rfl)<|z2 (Gv.leq rfl rfl)<|z2 (zMb rfl)<|zl (s := 76) rfl (fun c1=>?_) (fun c1=>?_)
     ·refine z8 rfl rfl c1<|z2 (yo (j := 0) underlying175 sizeOf75 rfl rfl rfl (by decide) rfl)<|z8 rfl rfl c1<|z2 (zFF underlying75 rfl sizeOf2 rfl rfl)<|z8 rfl rfl c1<|z2 (zLi isAgg2 rfl)<|z8 rfl rfl c1<|z2 (q9 rfl rfl)<|z2 (zPt rfl c1 rfl)<|z2 (zMb rfl)<|zl (s := 82) rfl (fun c2=>?_) (fun c2=>?_)
      ·refine z8 rfl rfl c2<|z2 (yo (j := 0) underlying175 sizeOf75 rfl rfl rfl (by decide) rfl)<|z8 rfl rfl c2<|z2 (zFF underlying75 rfl sizeOf2 rfl rfl)<|z8 rfl rfl c2<|z2 (zLi isAgg2 rfl)<|z8 rfl rfl c2<|z2 (yi rfl rfl)<|z2 (zPt rfl c2 rfl)<|z2 (zAb rfl)<|z6 ?_
       exact ⟨_, zR12, zR1, zLe, by unfold posR M64; simp_all <;> omega⟩
      ·refine z7 rfl rfl c2<|z7 rfl rfl c2<|z7 rfl rfl c2<|z7 rfl rfl c2<|z2 (zPf rfl c2 rfl)<|z2 (zAb rfl)<|z6 ?_
       exact ⟨_, zR12, zR1, zLe, by unfold posR M64; simp_all <;> omega⟩
     ·refine z7 rfl rfl c1<|z7 rfl rfl c1<|z7 rfl rfl c1<|z7 rfl rfl c1<|z2 (zPf rfl c1 rfl)<|z2 (zMb rfl)<|z7 rfl rfl rfl<|z7 rfl rfl rfl<|z7 rfl rfl rfl<|z7 rfl rfl rfl<|z2 (zPf rfl rfl rfl)<|z2 (zAb rfl)<|z6 ?_
      exact ⟨_, zR12, zR1, zLe, by unfold posR M64; simp_all <;> omega⟩
    ·rintro p hp
     refine za<|yc (γ := Bool) [1, 4, 5, 6, 9, 12, 13, 14, 15, 16, 19, 20, 21] (fun u => [(22, .bool u)]) (fun u => []) (fun u => u = posR (ra rs 1)) ?_ (fun _ _ h => h) ?_
     ·refine zRg<|z2 (yo (j := 1) underlying175 sizeOf75 rfl rfl rfl (by decide) rfl)<|z2 (zFF underlying75 rfl sizeOf2 rfl rfl)<|z2 (zLi isAgg2 rfl)<|z2 (yo (j := 1) underlying175 sizeOf75 rfl rfl rfl (by decide) rfl)<|z2 (zFF underlying75 rfl sizeOf2 rfl rfl)<|z2 (zLi isAgg2 rfl)<|z2 (Gv.leq rfl rfl)<|z2 (zMb rfl)<|zl (s := 95) rfl (fun c3=>?_) (fun c3=>?_)
      ·refine z8 rfl rfl c3<|z2 (yo (j := 1) underlying175 sizeOf75 rfl rfl rfl (by decide) rfl)<|z8 rfl rfl c3<|z2 (zFF underlying75 rfl sizeOf2 rfl rfl)<|z8 rfl rfl c3<|z2 (zLi isAgg2 rfl)<|z8 rfl rfl c3<|z2 (q9 rfl rfl)<|z2 (zPt rfl c3 rfl)<|z2 (zMb rfl)<|zl (s := 101) rfl (fun c4=>?_) (fun c4=>?_)
       ·refine z8 rfl rfl c4<|z2 (yo (j := 1) underlying175 sizeOf75 rfl rfl rfl (by decide) rfl)<|z8 rfl rfl c4<|z2 (zFF underlying75 rfl sizeOf2 rfl rfl)<|z8 rfl rfl c4<|z2 (zLi isAgg2 rfl)<|z8 rfl rfl c4<|z2 (yi rfl rfl)<|z2 (zPt rfl c4 rfl)<|z2 (zAb rfl)<|z6 ?_
        exact ⟨_, zR13, zR1, zLe, by unfold posR M64; simp_all <;> omega⟩
       ·refine z7 rfl rfl c4<|z7 rfl rfl c4<|z7 rfl rfl c4<|z7 rfl rfl c4<|z2 (zPf rfl c4 rfl)<|z2 (zAb rfl)<|z6 ?_
        exact ⟨_, zR13, zR1, zLe, by unfold posR M64; simp_all <;> omega⟩
      ·refine z7 rfl rfl c3<|z7 rfl rfl c3<|z7 rfl rfl c3<|z7 rfl rfl c3<|z2 (zPf rfl c3 rfl)<|z2 (zMb rfl)<|z7 rfl rfl rfl<|z7 rfl rfl rfl<|z7 rfl rfl rfl<|z7 rfl rfl rfl<|z2 (zPf rfl rfl rfl)<|z2 (zAb rfl)<|z6 ?_
       exact ⟨_, zR13, zR1, zLe, by unfold posR M64; simp_all <;> omega⟩
     ·rintro q hq
      refine za<|yc (γ := Bool) [1, 4, 5, 6, 9, 12, 13, 14, 15, 16, 19, 20, 21, 22] (fun u => [(23, .bool u)]) (fun u => []) (fun u => u = (decide ((ra rs 0).1 ≤ (ra rs 0).2) && decide ((ra rs 1).1 ≤ (ra rs 1).2))) ?_ (fun _ _ h => h) ?_
      ·refine zRg<|z2 (yo (j := 0) underlying175 sizeOf75 rfl rfl rfl (by decide) rfl)<|z2 (zFF underlying75 rfl sizeOf2 rfl rfl)<|z2 (zLi isAgg2 rfl)<|z2 (yo (j := 0) underlying175 sizeOf75 rfl rfl rfl (by decide) rfl)<|z2 (zFF underlying75 rfl sizeOf2 rfl rfl)<|z2 (zLi isAgg2 rfl)<|z2 (Gv.leq rfl rfl)<|z2 (zMb rfl)<|zl (s := 114) rfl (fun c5=>?_) (fun c5=>?_)
       ·refine z8 rfl rfl c5<|z2 (yo (j := 1) underlying175 sizeOf75 rfl rfl rfl (by decide) rfl)<|z8 rfl rfl c5<|z2 (zFF underlying75 rfl sizeOf2 rfl rfl)<|z8 rfl rfl c5<|z2 (zLi isAgg2 rfl)<|z8 rfl rfl c5<|z2 (yo (j := 1) underlying175 sizeOf75 rfl rfl rfl (by decide) rfl)<|z8 rfl rfl c5<|z2 (zFF underlying75 rfl sizeOf2 rfl rfl)<|z8 rfl rfl c5<|z2 (zLi isAgg2 rfl)<|z8 rfl rfl c5<|z2 (Gv.leq rfl rfl)<|z2 (zPt rfl c5 rfl)<|z2 (zAb rfl)<|z6 ?_
        exact ⟨_, zR14, zR1, zLe, by simp_all <;> omega⟩
       ·refine z7 rfl rfl c5<|z7 rfl rfl c5<|z7 rfl rfl c5<|z7 rfl rfl c5<|z7 rfl rfl c5<|z7 rfl rfl c5<|z7 rfl rfl c5<|z2 (zPf rfl c5 rfl)<|z2 (zAb rfl)<|z6 ?_
        exact ⟨_, zR14, zR1, zLe, by simp_all <;> omega⟩
      ·rintro some hso
       have hch := refChecked_spec (E := E) f hf x (by omega) block at_ hb
       obtain ⟨C, hC⟩ : ∃ C, chkX f x block at_ = C := ⟨_, rfl⟩
       rw [hC] at hch
       refine zSr<|z2 (zk isAgg26 sizeOf26 rfl rfl)<|z2 (zMf rfl)<|z2 (zk isAgg33 sizeOf33 rfl rfl)<|z2 (zMi rfl)<|z2 (zMi rfl)<|ze (hch) rfl<|z2 (zAb rfl)<|z6<|za<|za<|yc (γ := Bool) [9, 12, 13, 14, 15, 16, 19, 20, 21, 22, 23, 24] (fun u => [(136, .bool u)]) (fun u => []) (fun u => u = decide (x.op = 2 ∨ x.op = 3)) ?_ (fun _ _ h => h) ?_
       ·refine zRg<|z2 (zFF underlying33 rfl sizeOf31 rfl rfl)<|z2 (zLi isAgg31 rfl)<|z2 (y3 rfl rfl)<|z2 (zMb rfl)<|zl (s := 132) rfl (fun c6=>?_) (fun c6=>?_)
        ·refine z7 rfl rfl c6<|z7 rfl rfl c6<|z7 rfl rfl c6<|z2 (zPt rfl c6 rfl)<|z6 ?_
         exact ⟨_, zR12, zR1, zLe, by simp_all⟩
        ·refine z8 rfl rfl c6<|z2 (zFF underlying33 rfl sizeOf31 rfl rfl)<|z8 rfl rfl c6<|z2 (zLi isAgg31 rfl)<|z8 rfl rfl c6<|z2 (y3 rfl rfl)<|z2 (zPf rfl c6 rfl)<|z6 ?_
         exact ⟨_, zR12, zR1, zLe, by simp_all⟩
       ·rintro u hu
        subst hu
        refine yc (γ := Bool) [9, 12, 13, 14, 15, 16, 19, 20, 21, 22] (fun FB => [(24, .bool FB)]) (fun FB => []) (fun FB => FB = if x.op = 2 ∨ x.op = 3 then (C || fitY (x.op - 2).toNat (ra rs 0) (ra rs 1)) else C) ?_ (fun _ _ h => h) ?_
        ·refine zp rfl (fun c2=>?_) (fun c2=>?_)
         ·have h2 := htwo (by omega)
          have ok0 : ok64 (ra rs 0) := by rw [hl0 (by omega)]; exact ofR_ok hok (hasV_rng (hI.args _ (x0_memQ (by omega)))).1
          have ok1 : ok64 (ra rs 1) := by rw [hl1 (by omega)]; exact ofR_ok hok (hasV_rng (hI.args _ (x1_memQ (by omega)))).1
          have hk : (((x.op - 2).toNat : Nat) : Int) = x.op - 2 := by omega
          have hrf := rFits (E := E) (k := (x.op - 2).toNat) (by omega) ok0 ok1
          rw [hk] at hrf
          refine zRg<|z2 (zMb rfl)<|z2 (zMb rfl)<|zl (s := 138) rfl (fun c7=>?_) (fun c7=>?_)
          ·refine z7 rfl rfl c7<|z7 rfl rfl c7<|z2 (zPt rfl c7 rfl)<|z2 (zMb rfl)<|z7 rfl rfl rfl<|z7 rfl rfl rfl<|z7 rfl rfl rfl<|z7 rfl rfl rfl<|z7 rfl rfl rfl<|z7 rfl rfl rfl<|z7 rfl rfl rfl<|z7 rfl rfl rfl<|z2 (zPt rfl rfl rfl)<|z2 (zAb rfl)<|z6 ?_
           exact ⟨_, zR10, zR1, zLe, by rw [if_pos c2]; unfold fitY; simp_all⟩
          ·refine z8 rfl rfl c7<|z2 (zMb rfl)<|z8 rfl rfl c7<|z2 (yd rfl)<|z2 (zPf rfl c7 rfl)<|z2 (zMb rfl)<|zl (s := 142) rfl (fun c8=>?_) (fun c8=>?_)
           ·refine z7 rfl rfl c8<|z7 rfl rfl c8<|z7 rfl rfl c8<|z7 rfl rfl c8<|z7 rfl rfl c8<|z7 rfl rfl c8<|z7 rfl rfl c8<|z7 rfl rfl c8<|z2 (zPt rfl c8 rfl)<|z2 (zAb rfl)<|z6 ?_
            exact ⟨_, zR10, zR1, zLe, by rw [if_pos c2]; unfold fitY; simp_all⟩
           ·refine z8 rfl rfl c8<|z2 (zFF underlying33 rfl sizeOf31 rfl rfl)<|z8 rfl rfl c8<|z2 (zLi isAgg31 rfl)<|z8 rfl rfl c8<|z2 (Gv.sub rfl rfl (by unfold I64; omega))<|z8 rfl rfl c8<|z2 (yo (j := 0) underlying175 sizeOf75 rfl rfl rfl (by decide) rfl)<|z8 rfl rfl c8<|z2 (Gv.loadAF (l := [_, _]) isAgg75 sizeOf75 rfl rfl rfl)<|z8 rfl rfl c8<|z2 (yo (j := 1) underlying175 sizeOf75 rfl rfl rfl (by decide) rfl)<|z8 rfl rfl c8<|z2 (Gv.loadAF (l := [_, _]) isAgg75 sizeOf75 rfl rfl rfl)<|z8 rfl rfl c8<|ze (hrf) rfl<|z2 (zPf rfl c8 rfl)<|z2 (zAb rfl)<|z6 ?_
            exact ⟨_, zR10, zR1, zLe, by rw [if_pos c2]; unfold fitY; simp_all⟩
         ·refine zc ?_
          exact ⟨_, zR10, zR1, zLe, by rw [if_neg c2]⟩
        ·rintro FB hFB
         refine za<|zSr<|z2 (zFF underlying33 rfl sizeOf31 rfl rfl)<|z2 (zLi isAgg31 rfl)<|z6<|yc (γ := List Ejk × List Ejk) [] (fun g => [(12, .fro 3 (g.1.map encE)), (13, .fro 3 (g.2.map encE))]) (fun g => []) (fun g => g.1 = instE f l true x block at_ ∧ g.2 = instE f l false x block at_) ?_ (fun _ _ h => h) ?_
         ·refine zh<|zSr<|z2 (y3 rfl rfl)<|z2 (zAb rfl)<|z6<|zp rfl (fun c0=>?_) (fun c0=>?_)
          ·refine za<|y1 (fun j => false) (by kernel_rfl) rfl (zn (.rest _))<|zTk 0 rfl (zMi rfl)<|zTk 1 rfl (zMi rfl)<|zTk 2 rfl (zFF underlying33 rfl sizeOf2 rfl rfl)<|zTk 3 rfl (zLi isAgg2 rfl)<|zTk 4 rfl (y5 (cps := [(0, [_]), (1, [_]), (2, [_])]) (rs := [_, _, _]) pl119 rfl rfl rfl)<|zTk 6 rfl (zMi rfl)<|zTk 7 rfl (zMi rfl)<|zTk 8 rfl (zFF underlying33 rfl sizeOf2 rfl rfl)<|zTk 9 rfl (zLi isAgg2 rfl)<|zTk 10 rfl (y5 (cps := [(0, [_]), (1, [_]), (2, [_])]) (rs := [_, _, _]) pl119 rfl rfl rfl)<|yk (i := 5) (j := 11) rfl rfl (by kernel_rfl) ?_ ?_
           ·refine zw (rows := [[_, _, _]]) ps44_1 rfl rfl rfl rfl rfl<|z6<|zTk 12 rfl (zAf rfl)<|zOn 11 rfl<|zw (rows := [[_, _, _]]) ps44_1 rfl rfl rfl rfl rfl<|z6<|zTk 13 rfl (zAf rfl)<|zDn<|zf<|q7 (x := .fro _ _) (y := .fro _ _) rfl rfl ?_
            rw [ins0 c0, ins0 c0]; rfl
           ·refine zw (rows := [[_, _, _]]) ps44_1 rfl rfl rfl rfl rfl<|z6<|zOn 5 rfl<|zw (rows := [[_, _, _]]) ps44_1 rfl rfl rfl rfl rfl<|z6<|zTk 12 rfl (zAf rfl)<|zTk 13 rfl (zAf rfl)<|zDn<|zf<|q7 (x := .fro _ _) (y := .fro _ _) rfl rfl ?_
            rw [ins0 c0, ins0 c0]; rfl
          ·refine za<|zSr<|z2 (y3 rfl rfl)<|z2 (zAb rfl)<|z6<|yc (γ := Bool) [9, 12, 13, 14, 15, 16, 19, 20, 21, 22, 24, 153] (fun u => [(168, .bool u)]) (fun u => []) (fun u => u = decide (x.op = 1 ∨ x.op = 12 ∨ x.op = 15)) ?_ (fun _ _ h => h) ?_
           ·refine zr rfl (fun c9=>?_) (fun c9=>?_)
            ·refine zc ?_
             exact ⟨_, zR12, zR1, zLe, by simp_all⟩
            ·refine zSr<|z2 (y3 rfl rfl)<|z2 (zAb rfl)<|z6<|zr rfl (fun c10=>?_) (fun c10=>?_)
             ·refine zc ?_
              exact ⟨_, zR12, zR1, zLe, by simp_all⟩
             ·refine zRg<|z2 (y3 rfl rfl)<|z2 (zAb rfl)<|z6 ?_
              exact ⟨_, zR12, zR1, zLe, by simp_all⟩
           ·rintro u hu
            subst hu
            refine zp rfl (fun c1=>?_) (fun c1=>?_)
            ·have hy0 : Y = x0 x := by rw [hY, if_pos (hone c1)]
             rw [hy0]
             refine zSr<|z2 (zMi rfl)<|z2 (zMi rfl)<|z2 (y5 (cps := [(0, [_]), (1, [_]), (2, [_])]) (rs := [_, _, _]) pl119 rfl rfl rfl)<|zw (rows := [[_, _, _]]) ps44_1 rfl rfl rfl rfl rfl<|z2 (zMi rfl)<|z2 (zMi rfl)<|z2 (y5 (cps := [(0, [_]), (1, [_]), (2, [_])]) (rs := [_, _, _]) pl119 rfl rfl rfl)<|zw (rows := [[_, _, _]]) ps44_1 rfl rfl rfl rfl rfl<|z2 (zAf rfl)<|z2 (zAf rfl)<|z6<|zf<|q7 (x := .fro _ _) (y := .fro _ _) rfl rfl ?_
             rw [ins1 c1, ins1 c1]; rfl
            ·refine zSr<|z2 (y3 rfl rfl)<|z2 (zAb rfl)<|z6<|zp rfl (fun c16=>?_) (fun c16=>?_)
             ·refine zSr<|z2 (zMi rfl)<|z2 (zMi rfl)<|z2 (y5 (cps := [(0, [_]), (1, [_]), (2, [_])]) (rs := [_, _, _]) pl119 rfl rfl rfl)<|zw (rows := [[_, _, _]]) ps44_1 rfl rfl rfl rfl rfl<|z2 (zMi rfl)<|z2 (zMi rfl)<|z2 (y5 (cps := [(0, [_]), (1, [_]), (2, [_])]) (rs := [_, _, _]) pl119 rfl rfl rfl)<|zw (rows := [[_, _, _]]) ps44_1 rfl rfl rfl rfl rfl<|z2 (zAf rfl)<|z2 (zAf rfl)<|z6<|zf<|q7 (x := .fro _ _) (y := .fro _ _) rfl rfl ?_
              rw [ins16 c16, ins16 c16]; rfl
             ·refine zSr<|z2 (y3 rfl rfl)<|z2 (zAb rfl)<|z6<|zp rfl (fun c2=>?_) (fun c2=>?_)
              ·have h2 := htwo (by omega)
               have r0 := hl0 (by omega)
               have r1 := hl1 (by omega)
               have hy0 : Y = x0 x := by rw [hY, if_pos (by omega)]
               have hz0 : Z = x1 x := by rw [hZ, if_pos (by omega)]
               have o0 : ok64 (ofR f l (x0 x)) := ofR_ok hok (hasV_rng (hI.args _ (x0_memQ (by omega)))).1
               have o1 : ok64 (ofR f l (x1 x)) := ofR_ok hok (hasV_rng (hI.args _ (x1_memQ (by omega)))).1
               have hcd : (fitsX f l x || chkX f x block at_) = FB := by rw [fitY_eq, hFB, if_pos (by omega), hC, r0, r1, Bool.or_comm]
               refine zSr<|z2 (zMb rfl)<|z6<|zr rfl (fun cF=>?_) (fun cF=>?_)
               ·have hT : (fitsX f l x || chkX f x block at_) = true := hcd.trans cF
                have e1 := sum2U (a := at_) (b := block) c2 hT
                have e2 := sum2D (a := at_) (b := block) c2 hT
                rw [← r0, ← r1] at e1 e2
                rw [hy0, hz0]
                have w1 := withE_nil x.dst (x0 x) (ra rs 1) (ra rs 1).2 1
                have w2 := withE_nil x.dst (x0 x) (ra rs 1) (ra rs 1).1 1
                refine adopt_wp (t := 12) (k := 3) (T := 119) rfl<|fun i12 => adopt_wp (t := 13) (k := 3) (T := 119) rfl<|fun i13 => za<|y1 (fun j => false) (by kernel_rfl) rfl (zn (.rest _))<|zTk 0 rfl (zMo rfl)<|zTk 1 rfl (zMi rfl)<|zTk 2 rfl (zMi rfl)<|zTk 3 rfl (yo (j := 1) underlying175 sizeOf75 rfl rfl rfl (by decide) rfl)<|zTk 4 rfl (Gv.loadAF (l := [_, _]) isAgg75 sizeOf75 rfl rfl rfl)<|zTk 5 rfl (yo (j := 1) underlying175 sizeOf75 rfl rfl rfl (by decide) rfl)<|zTk 6 rfl (zFF underlying75 rfl sizeOf2 rfl rfl)<|zTk 7 rfl (zLi isAgg2 rfl)<|zTk 9 rfl (zMi rfl)<|zTk 10 rfl (zMi rfl)<|zTk 11 rfl (yo (j := 0) underlying175 sizeOf75 rfl rfl rfl (by decide) rfl)<|zTk 12 rfl (Gv.loadAF (l := [_, _]) isAgg75 sizeOf75 rfl rfl rfl)<|zTk 13 rfl (yo (j := 0) underlying175 sizeOf75 rfl rfl rfl (by decide) rfl)<|zTk 14 rfl (zFF underlying75 rfl sizeOf2 rfl rfl)<|zTk 15 rfl (zLi isAgg2 rfl)<|zOn 8 rfl<|zt rfl (zn (.r (.l (.rest _)))) (with_spec i12 [] (by decide) x.dst (x0 x) (ra rs 1) (ra rs 1).2 1 (by rw [r1]; exact told_end o1 (.inr rfl) (.inl rfl))) ?_
                rintro r201 O201 ⟨j1, rfl, rfl, _⟩
                refine z6<|zOn 16 rfl<|zt rfl (zn (.l (.r (.rest _)))) (with_spec j1 _ (by omega) x.dst (x1 x) (ra rs 0) (ra rs 0).2 1 (by rw [r0]; exact told_end o0 (.inr rfl) (.inl rfl))) ?_
                rintro r209 O209 ⟨j2, rfl, rfl, _⟩
                refine z6<|zTk 17 rfl (zAo rfl)<|zDn<|yf (GStep.knowE (t := 12) (by rfl) .head (by rfl))<|y1 (fun j => false) (by kernel_rfl) rfl (zn (.rest _))<|zTk 0 rfl (zMo rfl)<|zTk 1 rfl (zMi rfl)<|zTk 2 rfl (zMi rfl)<|zTk 3 rfl (yo (j := 1) underlying175 sizeOf75 rfl rfl rfl (by decide) rfl)<|zTk 4 rfl (Gv.loadAF (l := [_, _]) isAgg75 sizeOf75 rfl rfl rfl)<|zTk 5 rfl (yo (j := 1) underlying175 sizeOf75 rfl rfl rfl (by decide) rfl)<|zTk 6 rfl (zFF underlying75 rfl sizeOf2 rfl rfl)<|zTk 7 rfl (zLi isAgg2 rfl)<|zTk 9 rfl (zMi rfl)<|zTk 10 rfl (zMi rfl)<|zTk 11 rfl (yo (j := 0) underlying175 sizeOf75 rfl rfl rfl (by decide) rfl)<|zTk 12 rfl (Gv.loadAF (l := [_, _]) isAgg75 sizeOf75 rfl rfl rfl)<|zTk 13 rfl (yo (j := 0) underlying175 sizeOf75 rfl rfl rfl (by decide) rfl)<|zTk 14 rfl (zFF underlying75 rfl sizeOf2 rfl rfl)<|zTk 15 rfl (zLi isAgg2 rfl)<|zOn 8 rfl<|zt rfl (zn (.l (.rest _))) (with_spec i13 [] (by decide) x.dst (x0 x) (ra rs 1) (ra rs 1).1 1 (by rw [r1]; exact told_end o1 (.inl rfl) (.inl rfl))) ?_
                rintro r218 O218 ⟨j3, rfl, rfl, _⟩
                refine z6<|zOn 16 rfl<|zt rfl (zn (.l (.rest _))) (with_spec j3 _ (by omega) x.dst (x1 x) (ra rs 0) (ra rs 0).1 1 (by rw [r0]; exact told_end o0 (.inl rfl) (.inl rfl))) ?_
                rintro r226 O226 ⟨j4, rfl, rfl, _⟩
                refine zd (GStep.knowE (t := 226) (by rfl) .head (by rfl))<|z6<|zTk 17 rfl (zAf rfl)<|zDn ?_
                exact ⟨(_, _), trivial, zR2, zLe, by rw [ins2 (.inl c2), ins2 (.inl c2), e1, e2]; exact ⟨rfl, rfl⟩⟩
               ·have hT : (fitsX f l x || chkX f x block at_) = false := hcd.trans cF
                refine yf (qa (t := 12) rfl (Imp.nil 3))<|yf (qa (t := 13) rfl (Imp.nil 3))<|zc ?_
                exact ⟨([], []), trivial, zR2, zLe, by rw [ins2 (.inl c2), ins2 (.inl c2), sumN hT, sumN hT]; exact ⟨rfl, rfl⟩⟩
              ·refine zSr<|z2 (y3 rfl rfl)<|z2 (zAb rfl)<|z6<|zp rfl (fun c3=>?_) (fun c3=>?_)
               ·have h2 := htwo (by omega)
                have r0 := hl0 (by omega)
                have r1 := hl1 (by omega)
                have hy0 : Y = x0 x := by rw [hY, if_pos (by omega)]
                have o1 : ok64 (ofR f l (x1 x)) := ofR_ok hok (hasV_rng (hI.args _ (x1_memQ (by omega)))).1
                have hcd : (fitsX f l x || chkX f x block at_) = FB := by rw [fitY_eq, hFB, if_pos (by omega), hC, r0, r1, Bool.or_comm]
                refine zSr<|z2 (zMb rfl)<|z6<|zr rfl (fun cF=>?_) (fun cF=>?_)
                ·have hT : (fitsX f l x || chkX f x block at_) = true := hcd.trans cF
                 have e1 := sum3U (a := at_) (b := block) c3 hT
                 have e2 := sum3D (a := at_) (b := block) c3 hT
                 rw [← r1] at e1 e2
                 rw [hy0]
                 refine adopt_wp (t := 12) (k := 3) (T := 119) rfl<|fun i12 => adopt_wp (t := 13) (k := 3) (T := 119) rfl<|fun i13 => zSr<|z2 (zMo rfl)<|z2 (zMi rfl)<|z2 (zMi rfl)<|z2 (yo (j := 1) underlying175 sizeOf75 rfl rfl rfl (by decide) rfl)<|z2 (Gv.loadAF (l := [_, _]) isAgg75 sizeOf75 rfl rfl rfl)<|z2 (yo (j := 1) underlying175 sizeOf75 rfl rfl rfl (by decide) rfl)<|z2 (zFF underlying75 rfl sizeOf2 rfl rfl)<|z2 (zLi isAgg2 rfl)<|zt rfl (zn (.r (.l (.rest _)))) (with_spec i12 [] (by decide) x.dst (x0 x) (ra rs 1) (ra rs 1).1 (-1) (by rw [r1]; exact told_end o1 (.inl rfl) (.inr rfl))) ?_
                 rintro r238 O238 ⟨j1, rfl, rfl, _⟩
                 refine z2 (zAo rfl)<|z6<|yf (GStep.knowE (t := 12) (by rfl) .head (by rfl))<|zRg<|z2 (zMo rfl)<|z2 (zMi rfl)<|z2 (zMi rfl)<|z2 (yo (j := 1) underlying175 sizeOf75 rfl rfl rfl (by decide) rfl)<|z2 (Gv.loadAF (l := [_, _]) isAgg75 sizeOf75 rfl rfl rfl)<|z2 (yo (j := 1) underlying175 sizeOf75 rfl rfl rfl (by decide) rfl)<|z2 (zFF underlying75 rfl sizeOf2 rfl rfl)<|z2 (zLi isAgg2 rfl)<|zt rfl (zn (.l (.rest _))) (with_spec i13 [] (by decide) x.dst (x0 x) (ra rs 1) (ra rs 1).2 (-1) (by rw [r1]; exact told_end o1 (.inr rfl) (.inr rfl))) ?_
                 rintro r247 O247 ⟨j3, rfl, rfl, _⟩
                 refine z2 (zAo rfl)<|zd (GStep.knowE (t := 13) (by rfl) .head (by rfl))<|z6 ?_
                 exact ⟨(_, _), trivial, zR2, zLe, by rw [ins2 (.inr c3), ins2 (.inr c3), e1, e2]; exact ⟨rfl, rfl⟩⟩
                ·have hT : (fitsX f l x || chkX f x block at_) = false := hcd.trans cF
                 refine yf (qa (t := 12) rfl (Imp.nil 3))<|yf (qa (t := 13) rfl (Imp.nil 3))<|zc ?_
                 exact ⟨([], []), trivial, zR2, zLe, by rw [ins2 (.inr c3), ins2 (.inr c3), sumN hT, sumN hT]; exact ⟨rfl, rfl⟩⟩
               ·refine zSr<|z2 (y3 rfl rfl)<|z2 (zAb rfl)<|z6<|zp rfl (fun c5=>?_) (fun c5=>?_)
                ·have h2 := htwo (by omega)
                 have r0 := hl0 (by omega)
                 have r1 := hl1 (by omega)
                 have hy0 : Y = x0 x := by rw [hY, if_pos (by omega)]
                 have hp0 : posB f l (x0 x) = p := by rw [posR_eq, ← r0]; exact hp.symm
                 have hq0 : posB f l (x1 x) = q := by rw [posR_eq, ← r1]; exact hq.symm
                 have hre : ∀ up, restE f l up x = if (p && q) = true then [if up = true then (x0 x, x.dst, 0) else (n0 f, x.dst, 0)] else [] := fun up => by
                  unfold restE restP1
                  rw [if_pos c5, hp0, hq0, show decide (x.op = 6) = false from qv (by omega), Bool.false_and]
                  exact qt _
                 refine zSr<|z2 (zMb rfl)<|z2 (zMb rfl)<|zl (s := 251) rfl (fun cp=>?_) (fun cp=>?_)
                 ·refine z8 rfl rfl cp<|z2 (zMb rfl)<|z2 (zPt rfl cp rfl)<|z6<|zr rfl (fun cq=>?_) (fun cq=>?_)
                  ·rw [hy0]
                   have hre1 : ∀ up, restE f l up x = [if up = true then (x0 x, x.dst, 0) else (n0 f, x.dst, 0)] := fun up => by rw [hre, if_pos (by rw [show p = true from cp, show q = true from cq]; rfl)]
                   refine zSr<|z2 (zMi rfl)<|z2 (zMi rfl)<|z2 (y5 (cps := [(0, [_]), (1, [_]), (2, [_])]) (rs := [_, _, _]) pl119 rfl rfl rfl)<|zw (rows := [[_, _, _]]) ps44_1 rfl rfl rfl rfl rfl<|z2 (zMi rfl)<|z2 (zMi rfl)<|z2 (y5 (cps := [(0, [_]), (1, [_]), (2, [_])]) (rs := [_, _, _]) pl119 rfl rfl rfl)<|zw (rows := [[_, _, _]]) ps44_1 rfl rfl rfl rfl rfl<|z2 (zAf rfl)<|z2 (zAf rfl)<|z6<|zf<|q7 (x := .fro _ _) (y := .fro _ _) rfl rfl ?_
                   rw [ins5 (.inl c5), ins5 (.inl c5), hre1, hre1]; rfl
                  ·refine yf (qa (t := 12) rfl (Imp.nil 3))<|yf (qa (t := 13) rfl (Imp.nil 3))<|zc ?_
                   exact ⟨([], []), trivial, zR2, zLe, by have hre0 : ∀ up, restE f l up x = [] := (fun up => by rw [hre, if_neg (by rw [show q = false from cq]; simp)]); rw [ins5 (.inl c5), ins5 (.inl c5), hre0, hre0]; exact ⟨rfl, rfl⟩⟩
                 ·refine zd (qa (t := 12) rfl (Imp.nil 3))<|zd (qa (t := 13) rfl (Imp.nil 3))<|z7 rfl rfl cp<|z2 (zPf rfl cp rfl)<|z6<|yh rfl rfl<|zc ?_
                  exact ⟨([], []), trivial, zR2, zLe, by have hre0 : ∀ up, restE f l up x = [] := (fun up => by rw [hre, if_neg (by rw [show p = false from cp]; simp)]); rw [ins5 (.inl c5), ins5 (.inl c5), hre0, hre0]; exact ⟨rfl, rfl⟩⟩
                ·refine zSr<|z2 (y3 rfl rfl)<|z2 (zAb rfl)<|z6<|zp rfl (fun c6=>?_) (fun c6=>?_)
                 ·have h2 := htwo (by omega)
                  have r0 := hl0 (by omega)
                  have r1 := hl1 (by omega)
                  have hy0 : Y = x0 x := by rw [hY, if_pos (by omega)]
                  have hz0 : Z = x1 x := by rw [hZ, if_pos (by omega)]
                  have hp0 : posB f l (x0 x) = p := by rw [posR_eq, ← r0]; exact hp.symm
                  have hq0 : posB f l (x1 x) = q := by rw [posR_eq, ← r1]; exact hq.symm
                  obtain ⟨U1, hU1⟩ : ∃ U1, (if p = true then [(x0 x, x.dst, (0 : Int))] else []) = U1 := ⟨_, rfl⟩
                  obtain ⟨D1, hD1⟩ : ∃ D1, (if p = true then [(n0 f, x.dst, (0 : Int))] else []) = D1 := ⟨_, rfl⟩
                  have hUl : U1.length ≤ 1 := by rw [← hU1]; split <;> simp
                  have hreU : restE f l true x = U1 ++ putIf q (x1 x, x.dst, -1) := by
                   unfold restE restP1
                   rw [if_neg c5, hp0, hq0, show decide (x.op = 6) = true from qu c6, ← hU1, Bool.and_true, Bool.true_and]
                   rfl
                  have hreD : restE f l false x = D1 := by
                   unfold restE restP1
                   rw [if_neg c5, hp0, hq0, ← hD1, Bool.and_false, Bool.and_false]
                   exact qt _
                  rw [hy0, hz0]
                  refine adopt_wp (t := 13) (k := 3) (T := 119) rfl<|fun i13 => adopt_wp (t := 12) (k := 3) (T := 119) rfl<|fun i12 => za<|zSr<|z2 (zMb rfl)<|z6<|yc (γ := Nat × Nat) [14, 20, 22] (fun g => [(12, .own g.1 U1.length), (13, .own g.2 D1.length)]) (fun g => [(g.1, .grow 3 119 (eC U1)), (g.2, .grow 3 119 (eC D1))]) (fun g => True) ?_ (fun _ _ h => h) ?_
                  ·refine zr rfl (fun cp=>?_) (fun cp=>?_)
                   ·rw [if_pos cp] at hU1 hD1
                    refine zRg<|z2 (zMo rfl)<|z2 (zMi rfl)<|z2 (zMi rfl)<|z2 (y5 (cps := [(0, [_]), (1, [_]), (2, [_])]) (rs := [_, _, _]) pl119 rfl rfl rfl)<|zw (rows := [[_, _, _]]) ps44_1 rfl rfl rfl rfl rfl<|yl (k := 3) underlying44 type119 rfl rfl rfl rfl rfl (fun _ => .head) (by simp) (by decide) rfl (by show (_ + _) * 24 ≤ _; simp <;> omega) (by simp <;> omega)<|fun i270 => z2 (zMo rfl)<|z2 (zMi rfl)<|z2 (zMi rfl)<|z2 (y5 (cps := [(0, [_]), (1, [_]), (2, [_])]) (rs := [_, _, _]) pl119 rfl rfl rfl)<|zw (rows := [[_, _, _]]) ps44_1 rfl rfl rfl rfl rfl<|yl (k := 3) underlying44 type119 rfl rfl rfl rfl rfl (fun _ => .t1) (by simp) (by decide) rfl (by show (_ + _) * 24 ≤ _; simp <;> omega) (by simp <;> omega)<|fun i276 => z2 (zAo rfl)<|z2 (zAo rfl)<|z6 ?_
                    exact ⟨(i270, i276), zR3, ⟨by rw [← hU1]; rfl, by rw [← hD1]; rfl, trivial⟩, ⟨_, (.refl _), (by rw [← hU1, ← hD1]; rfl)⟩, trivial⟩
                   ·rw [if_neg (by rw [show p = false from cp]; decide)] at hU1 hD1
                    refine zc ?_
                    exact ⟨(i12, i13), zR3, ⟨by rw [← hU1]; rfl, by rw [← hD1]; rfl, trivial⟩, ⟨_, (.refl _), (by rw [← hU1, ← hD1]; rfl)⟩, trivial⟩
                  ·rintro ⟨j1, j2⟩ _
                   refine zSr<|z2 (zMb rfl)<|z6<|zr rfl (fun cq=>?_) (fun cq=>?_)
                   ·refine zRg<|z2 (zMo rfl)<|z2 (zMi rfl)<|z2 (zMi rfl)<|z2 (y5 (cps := [(0, [_]), (1, [_]), (2, [_])]) (rs := [_, _, _]) pl119 rfl rfl rfl)<|zw (rows := [[_, _, _]]) ps44_1 rfl rfl rfl rfl rfl<|yl (k := 3) underlying44 type119 rfl rfl rfl rfl rfl (fun _ => .head) (by rw [eC_len]) (by decide) rfl (by show (_ + 1) * 24 ≤ _; omega) (by show _ + 1 ≤ _; omega)<|fun i283 => z2 (zAo rfl)<|zd (GStep.eq (show _ = ([(i283, .grow 3 119 (eC (U1 ++ [(x1 x, x.dst, -1)]))), (j2, .grow 3 119 (eC D1))] : OL) from by rw [← eC_push]; rfl))<|zd (GStep.knowE (t := 12) (by rfl) .head (by rw [qp]; rfl))<|zd (GStep.knowE (t := 13) (by rfl) .head (by rfl))<|z6 ?_
                    exact ⟨(_, _), trivial, zR2, zLe, by rw [ins5 (.inr c6), ins5 (.inr c6), hreU, hreD, show q = true from cq]; exact ⟨rfl, rfl⟩⟩
                   ·refine yf (GStep.knowE (t := 12) (by rfl) .head (by rfl))<|yf (GStep.knowE (t := 13) (by rfl) .head (by rfl))<|zc ?_
                    exact ⟨(_, _), trivial, zR2, zLe, by rw [ins5 (.inr c6), ins5 (.inr c6), hreU, hreD, show q = false from cq]; exact ⟨(qt _).symm, rfl⟩⟩
                 ·refine zSr<|z2 (y3 rfl rfl)<|z2 (zAb rfl)<|z6<|zp rfl (fun c25=>?_) (fun c25=>?_)
                  ·have h2 := htwo (by omega)
                   have hy0 : Y = x0 x := by rw [hY, if_pos (by omega)]
                   have hz0 : Z = x1 x := by rw [hZ, if_pos (by omega)]
                   rw [hy0, hz0]
                   refine zSr<|z2 (zMi rfl)<|z2 (zMi rfl)<|z2 (y5 (cps := [(0, [_]), (1, [_]), (2, [_])]) (rs := [_, _, _]) pl119 rfl rfl rfl)<|AOps.buildSliceO (cps := [(0, [_, _, _])]) (rs := [_, _, _]) ps44_1 rfl rfl rfl rfl rfl<|fun i289 => z2 (zMi rfl)<|z2 (zMi rfl)<|z2 (y5 (cps := [(0, [_]), (1, [_]), (2, [_])]) (rs := [_, _, _]) pl119 rfl rfl rfl)<|AOps.buildSliceO (cps := [(0, [_, _, _])]) (rs := [_, _, _]) ps44_1 rfl rfl rfl rfl rfl<|fun i293 => z2 (zAo rfl)<|z2 (zAo rfl)<|z6<|zSr<|z2 (zFF underlying33 rfl sizeOf2 rfl rfl)<|z2 (zLi isAgg2 rfl)<|z6<|zh<|zSr<|z2 (y3 rfl rfl)<|z2 (zAb rfl)<|z6<|zp rfl (fun nm0=>?_) (fun nm0=>?_)
                   ·refine zRg<|z2 (zMo rfl)<|z2 (zMi rfl)<|z2 (zMi rfl)<|z2 (y5 (cps := [(0, [_]), (1, [_]), (2, [_])]) (rs := [_, _, _]) pl119 rfl rfl rfl)<|zw (rows := [[_, _, _]]) ps44_1 rfl rfl rfl rfl rfl<|yl (k := 3) underlying44 type119 rfl rfl rfl rfl rfl (fun _ => .t1) (by simp) (by decide) rfl (by show (_ + _) * 24 ≤ _; simp <;> omega) (by simp <;> omega)<|fun i303 => z2 (zAo rfl)<|zd (GStep.eq (show _ = ([(i293, .grow 3 119 (eC [(x0 x, x.dst, 0)])), (i303, .grow 3 119 (eC [(x0 x, x.dst, 0), (x1 x, x.dst, -1)]))] : OL) from rfl))<|zd (GStep.knowE (t := 13) (by rfl) .head (by rfl))<|zd (GStep.knowE (t := 12) (by rfl) .head (by rfl))<|z6 ?_
                    exact ⟨(_, _), trivial, zR2, zLe, by rw [ins25 c25, ins25 c25]; unfold piE; simp [nm0]⟩
                   ·refine zSr<|z2 (y3 rfl rfl)<|z2 (zAb rfl)<|z6<|zp rfl (fun nm1=>?_) (fun nm1=>?_)
                    ·refine zRg<|z2 (zMo rfl)<|z2 (zMi rfl)<|z2 (zMi rfl)<|z2 (y5 (cps := [(0, [_]), (1, [_]), (2, [_])]) (rs := [_, _, _]) pl119 rfl rfl rfl)<|zw (rows := [[_, _, _]]) ps44_1 rfl rfl rfl rfl rfl<|yl (k := 3) underlying44 type119 rfl rfl rfl rfl rfl (fun _ => .t1) (by simp) (by decide) rfl (by show (_ + _) * 24 ≤ _; simp <;> omega) (by simp <;> omega)<|fun i311 => z2 (zAo rfl)<|zd (GStep.eq (show _ = ([(i293, .grow 3 119 (eC [(x0 x, x.dst, 0)])), (i311, .grow 3 119 (eC [(x0 x, x.dst, 0), (x1 x, x.dst, 0)]))] : OL) from rfl))<|zd (GStep.knowE (t := 13) (by rfl) .head (by rfl))<|zd (GStep.knowE (t := 12) (by rfl) .head (by rfl))<|z6 ?_
                     exact ⟨(_, _), trivial, zR2, zLe, by rw [ins25 c25, ins25 c25]; unfold piE; simp [nm0, nm1]⟩
                    ·refine zSr<|z2 (y3 rfl rfl)<|z2 (zAb rfl)<|z6<|zp rfl (fun nm2=>?_) (fun nm2=>?_)
                     ·refine zRg<|z2 (zMo rfl)<|z2 (zMi rfl)<|z2 (zMi rfl)<|z2 (y5 (cps := [(0, [_]), (1, [_]), (2, [_])]) (rs := [_, _, _]) pl119 rfl rfl rfl)<|zw (rows := [[_, _, _]]) ps44_1 rfl rfl rfl rfl rfl<|yl (k := 3) underlying44 type119 rfl rfl rfl rfl rfl (fun _ => .t1) (by simp) (by decide) rfl (by show (_ + _) * 24 ≤ _; simp <;> omega) (by simp <;> omega)<|fun i319 => z2 (zMo rfl)<|z2 (zMi rfl)<|z2 (zMi rfl)<|z2 (y5 (cps := [(0, [_]), (1, [_]), (2, [_])]) (rs := [_, _, _]) pl119 rfl rfl rfl)<|zw (rows := [[_, _, _]]) ps44_1 rfl rfl rfl rfl rfl<|yl (k := 3) underlying44 type119 rfl rfl rfl rfl rfl (fun _ => .head) (by simp) (by decide) rfl (by show (_ + _) * 24 ≤ _; simp <;> omega) (by simp <;> omega)<|fun i325 => z2 (zAo rfl)<|z2 (zAo rfl)<|zd (GStep.eq (show _ = ([(i325, .grow 3 119 (eC [(x0 x, x.dst, 0), (x1 x, x.dst, 0)])), (i319, .grow 3 119 (eC [(x0 x, x.dst, 0), (x1 x, x.dst, 0)]))] : OL) from rfl))<|zd (GStep.knowE (t := 13) (by rfl) .head (by rfl))<|zd (GStep.knowE (t := 12) (by rfl) .head (by rfl))<|z6 ?_
                      exact ⟨(_, _), trivial, zR2, zLe, by rw [ins25 c25, ins25 c25]; unfold piE; simp [nm0, nm1, nm2]⟩
                     ·refine zSr<|z2 (y3 rfl rfl)<|z2 (zAb rfl)<|z6<|zp rfl (fun nm3=>?_) (fun nm3=>?_)
                      ·refine zRg<|z2 (zMo rfl)<|z2 (zMi rfl)<|z2 (zMi rfl)<|z2 (y5 (cps := [(0, [_]), (1, [_]), (2, [_])]) (rs := [_, _, _]) pl119 rfl rfl rfl)<|zw (rows := [[_, _, _]]) ps44_1 rfl rfl rfl rfl rfl<|yl (k := 3) underlying44 type119 rfl rfl rfl rfl rfl (fun _ => .head) (by simp) (by decide) rfl (by show (_ + _) * 24 ≤ _; simp <;> omega) (by simp <;> omega)<|fun i333 => z2 (zAo rfl)<|zd (GStep.eq (show _ = ([(i333, .grow 3 119 (eC [(x0 x, x.dst, 0), (x1 x, x.dst, 0)])), (i289, .grow 3 119 (eC [(x0 x, x.dst, 0)]))] : OL) from rfl))<|zd (GStep.knowE (t := 13) (by rfl) .head (by rfl))<|zd (GStep.knowE (t := 12) (by rfl) .head (by rfl))<|z6 ?_
                       exact ⟨(_, _), trivial, zR2, zLe, by rw [ins25 c25, ins25 c25]; unfold piE; simp [nm0, nm1, nm2, nm3]⟩
                      ·refine zSr<|z2 (y3 rfl rfl)<|z2 (zAb rfl)<|z6<|zp rfl (fun nm4=>?_) (fun nm4=>?_)
                       ·refine zRg<|z2 (zMo rfl)<|z2 (zMi rfl)<|z2 (zMi rfl)<|z2 (y5 (cps := [(0, [_]), (1, [_]), (2, [_])]) (rs := [_, _, _]) pl119 rfl rfl rfl)<|zw (rows := [[_, _, _]]) ps44_1 rfl rfl rfl rfl rfl<|yl (k := 3) underlying44 type119 rfl rfl rfl rfl rfl (fun _ => .head) (by simp) (by decide) rfl (by show (_ + _) * 24 ≤ _; simp <;> omega) (by simp <;> omega)<|fun i341 => z2 (zAo rfl)<|zd (GStep.eq (show _ = ([(i341, .grow 3 119 (eC [(x0 x, x.dst, 0), (x1 x, x.dst, 1)])), (i289, .grow 3 119 (eC [(x0 x, x.dst, 0)]))] : OL) from rfl))<|zd (GStep.knowE (t := 13) (by rfl) .head (by rfl))<|zd (GStep.knowE (t := 12) (by rfl) .head (by rfl))<|z6 ?_
                        exact ⟨(_, _), trivial, zR2, zLe, by rw [ins25 c25, ins25 c25]; unfold piE; simp [nm0, nm1, nm2, nm3, nm4]⟩
                       ·refine yf (GStep.eq (show _ = ([(i293, .grow 3 119 (eC [(x0 x, x.dst, 0)])), (i289, .grow 3 119 (eC [(x0 x, x.dst, 0)]))] : OL) from rfl))<|yf (GStep.knowE (t := 13) (by rfl) .head (by rfl))<|yf (GStep.knowE (t := 12) (by rfl) .head (by rfl))<|zc ?_
                        exact ⟨(_, _), trivial, zR2, zLe, by rw [ins25 c25, ins25 c25]; unfold piE; simp [nm0, nm1, nm2, nm3, nm4]⟩
                  ·refine zSr<|z2 (y3 rfl rfl)<|z2 (zAb rfl)<|z6<|zp rfl (fun c26=>?_) (fun c26=>?_)
                   ·have h2 := htwo (by omega)
                    have hy0 : Y = x0 x := by rw [hY, if_pos (by omega)]
                    have hz0 : Z = x1 x := by rw [hZ, if_pos (by omega)]
                    rw [hy0, hz0]
                    refine zSr<|z2 (zMi rfl)<|z2 (zMi rfl)<|z2 (y5 (cps := [(0, [_]), (1, [_]), (2, [_])]) (rs := [_, _, _]) pl119 rfl rfl rfl)<|z2 (zMi rfl)<|z2 (zMi rfl)<|z2 (y5 (cps := [(0, [_]), (1, [_]), (2, [_])]) (rs := [_, _, _]) pl119 rfl rfl rfl)<|zw (rows := [[_, _, _], [_, _, _]]) ps44_2 rfl rfl rfl rfl rfl<|z2 (zMi rfl)<|z2 (zMi rfl)<|z2 (y5 (cps := [(0, [_]), (1, [_]), (2, [_])]) (rs := [_, _, _]) pl119 rfl rfl rfl)<|z2 (zMi rfl)<|z2 (zMi rfl)<|z2 (y5 (cps := [(0, [_]), (1, [_]), (2, [_])]) (rs := [_, _, _]) pl119 rfl rfl rfl)<|zw (rows := [[_, _, _], [_, _, _]]) ps44_2 rfl rfl rfl rfl rfl<|z2 (zAf rfl)<|z2 (zAf rfl)<|z6<|zf<|q7 (x := .fro _ _) (y := .fro _ _) rfl rfl ?_
                    rw [ins26 c26, ins26 c26]; rfl
                   ·refine yf (qa (t := 12) rfl (Imp.nil 3))<|yf (qa (t := 13) rfl (Imp.nil 3))<|zc ?_
                    exact ⟨([], []), trivial, zR2, zLe, by rw [insO c0 c1 c2 c3 c5 c6 c16 c25 c26, insO c0 c1 c2 c3 c5 c6 c16 c25 c26]; exact ⟨rfl, rfl⟩⟩
         ·rintro ⟨U, D⟩ ⟨hU, hD⟩
          refine zSr<|z2 (zMf rfl)<|z2 (zMf rfl)<|z2 (zAf rfl)<|z2 (zAf rfl)<|z6<|zf<|q7 (x := .fro _ _) (y := .fro _ _) rfl rfl ?_
          exact bothE hU.symm hD.symm
end Go.Proofs.YtjnpcfpecilejaaGreatDoor
