/- The places of the checks of sums; which sums are checked, told one after the other. Plain law. No conditions. -/
import Derived.Test.YtjnpcfpecilejaaGreatDoorKs
import Derived.Test.YtjnpcfpecilejaaGreatDoorKm
import Derived.Test.YtjnpcfpecilejaaGreatDoorKr
set_option linter.unusedVariables false
set_option linter.unusedSimpArgs false
set_option linter.unusedSectionVars false
namespace Go.Proofs.YtjnpcfpecilejaaGreatDoor
open Go.Proofs.Tryz
open Go.Proofs Go.Lib Go.Shelf Go.RowKit
theorem pl226 : PlacesA prog 226 2 [.int .i64 0, .int .i64 0, .int .i64 0, .int .i64 0, .int .i64 0, .int .i64 0] := ⟨_, _, _, underlying226, zeroValue226, sizeOf74, rfl⟩
variable {E : World}
set_option maxRecDepth 20000
def viewL (f : PFunc) (chk : List Bool) (Lv : AV) : List AV := encF f ++ [.fro 2 ((makersT f).map eP.row), .fro 1 (chk.map encB), Lv]
def viewV (f : PFunc) (chk : List Bool) (Lv : AV) : AV := .pf (viewL f chk Lv)
def sameO (i : Nat) (HL : AObj) (x : AV) : AV → OL → Prop := fun y O => y = x ∧ O = [(i, HL)]
theorem of_fro (f : PFunc) (hS : ShapedP f) (chk : List Bool) (l : List Rng) (hll : l.length = f.vars.length) (i : Nat) (HL : AObj) {a : Int} (ha : hasV f a = true) :
  ACall prog E 176 [viewV f chk (.fro 2 (l.map encZ)), .int .i64 a] [(i, HL)] (sameO i HL (.agg (encZ (ofR f l a)))) := by
 obtain ⟨ha0, ha1⟩ := hasV_rng ha
 obtain ⟨y, hy, hyt, hy0, hy2⟩ := ty_get hS ha
 refine ACall.same<|zn func176 rfl (by decide) rfl<|zSr<|zo (cs := [.int .i64 0, .int .i64 0]) zeroValue74 rfl rfl<|fun i4 => z6<|za<|zt (fun j => Nat.beq j 18) (by kernel_rfl) rfl (zp (.rest _))<|zTk 0 rfl (zMg rfl)<|zTk 1 rfl (yv rfl)<|zTk 2 rfl (zFF underlying125 rfl sizeOf41 rfl rfl)<|zTk 3 rfl (zLf isAgg41 rfl)<|zTk 4 rfl (zMi rfl)<|zTk 5 rfl (zIM a.toNat underlying41 sizeOf74 rfl rfl (by omega) (lv_get (by omega)))<|zTk 6 rfl (zh isAgg74 sizeOf74 rfl rfl)<|zTk 7 rfl (zMg rfl)<|zTk 8 rfl (yv rfl)<|zTk 9 rfl (zFF underlying125 rfl sizeOf26 rfl rfl)<|zTk 10 rfl (zFF underlying26 rfl sizeOf22 rfl rfl)<|zTk 11 rfl (zLf isAgg22 rfl)<|zTk 12 rfl (zMi rfl)<|zTk 13 rfl (zIM a.toNat underlying22 sizeOf56 rfl rfl (by omega) hy)<|zTk 14 rfl (zFF underlying56 rfl sizeOf54 rfl rfl)<|zTk 15 rfl (zLi isAgg54 rfl)<|zOn 16 rfl<|zb (iType _) rfl<|z6<|zOn 17 rfl<|zb (iMeet _ _) rfl<|z6<|yf<|yl (i := 18) rfl (by kernel_rfl) (by kernel_rfl)<|zc sizeOf74 rfl rfl rfl rfl rfl rfl .head rfl<|z6<|yh (by kernel_rfl)<|zd<|y8 rfl ⟨_, .head⟩ isAgg74 sizeOf74 rfl ?_
 exact ⟨by unfold ofR; rw [← hyt]; rfl, .d1⟩
theorem vphi_spec (f : PFunc) (l : List Rng) {w : AV} {i : Nat} {HL : AObj} (hof : ∀ {a : Int}, hasV f a = true → ACall prog E 176 [w, .int .i64 a] [(i, HL)] (sameO i HL (.agg (encZ (ofR f l a)))))
  (p : PPhi) (hpa : p.args.all (hasV f) = true) (hpl : p.args.length ≤ 1000) : ACall prog E 124 [w, .agg (encPhi p)] [(i, HL)] (sameO i HL (.agg (encZ (phiAcc f l noR p.args)))) := by
 refine ACall.same<|zn func124 rfl (by decide) rfl<|zSr<|y1 (cs := _) rfl rfl rfl<|zo (cs := [.int .i64 0, .int .i64 0]) zeroValue74 rfl rfl<|fun i4 => z6<|zSr<|zb (iNone) rfl<|zo (cs := [.int .i64 0, .int .i64 0]) zeroValue74 rfl rfl<|fun i5 => zc sizeOf74 rfl rfl rfl rfl rfl rfl .head rfl<|z6<|za<|zSr<|z2 (zFF underlying95 rfl sizeOf23 rfl rfl)<|z2 (zLf isAgg23 rfl)<|z2 (zz underlying23 rfl)<|z2 (zMi rfl)<|z6<|zi<|y6 (γ := Nat) [0, 4, 5, 10, 11] (fun m => [(12, .int .i64 m)]) (fun m => [(i5, .cells 74 (encZ (phiAcc f l noR (p.args.take m)))), (i4, .cells 74 [.int .i64 0, .int .i64 0]), (i, HL)]) (fun m => m ≤ p.args.length) (fun m => p.args.length - m) 0 zR1 zLe (qk _) ?_
 rintro m hm
 refine zSr<|z2 (y7 rfl rfl)<|z6<|za<|zl rfl (fun cm=>?_) (fun cm=>?_)
 ·have hm2 : m < p.args.length := by simp at cm; omega
  obtain ⟨a, ha⟩ : ∃ a, p.args[m] = a := ⟨_, rfl⟩
  have hav := List.all_eq_true.1 hpa a (ha ▸ ql hm2)
  refine zf<|za<|zi<|zSr<|z2 (zIM m underlying23 sizeOf3 rfl rfl rfl (by rw [qh hm2, ha]))<|z2 (zLi isAgg3 rfl)<|z2 (zAi rfl)<|z6<|zt (fun j => Nat.beq j 5) (by kernel_rfl) rfl (zp (.r (.rest _)))<|zTk 0 rfl (yp isAgg74 sizeOf74 rfl ⟨_, .head⟩ rfl)<|zTk 1 rfl (yt (v := _) rfl)<|zTk 2 rfl (zMi rfl)<|zOn 3 rfl<|y5 rfl (zp (.r (.l (.rest _)))) (hof hav) ?_
  rintro r19 O19 ⟨rfl, rfl⟩
  refine z6<|zOn 4 rfl<|zb (iJoin _ _) rfl<|z6<|yf<|yl (i := 5) rfl (by kernel_rfl) (by kernel_rfl)<|zc sizeOf74 rfl rfl rfl rfl rfl rfl .head rfl<|zg (ze (zj .t1))<|zg (ze (zj .t2))<|zg (ze (zj .t2))<|z6<|yh (by kernel_rfl)<|zRg<|z2 (zAd rfl rfl)<|z2 (zMi rfl)<|z6 ?_
  exact ⟨m + 1, zR5, zR1, ⟨_, (.refl _), by rw [qi hm2, ha, phiAcc_snoc]; rfl⟩, hm2, by omega⟩
 ·have hmn : m = p.args.length := by simp at cm; omega
  rw [hmn, qm]
  refine y3<|zSr<|z2 (yp isAgg74 sizeOf74 rfl ⟨_, .head⟩ rfl)<|zc sizeOf74 rfl rfl rfl rfl rfl rfl .t1 rfl<|z6<|zd<|y8 rfl ⟨_, .t1⟩ isAgg74 sizeOf74 rfl ?_
  exact ⟨rfl, .d2⟩
theorem vsum_spec (f : PFunc) (chk : List Bool) (Lv : AV) (x : PInst) {a b : Rng} (ha : ok64 a) (hb : ok64 b) (h0 : 0 ≤ x.dst) (h1 : x.dst.toNat < chk.length) : AFun prog E 177 [viewV f chk Lv, .agg (encInst x), .agg (encZ a), .agg (encZ b)] (.agg (encZ (if gb chk x.dst = true then clipP x.op a b else applyP x.op a b))) := by
 refine zn func177 rfl (by decide) rfl<|zSr<|y1 (cs := _) rfl rfl rfl<|y1 (cs := _) rfl rfl rfl<|y1 (cs := _) rfl rfl rfl<|zo (cs := [.int .i64 0, .int .i64 0]) zeroValue74 rfl rfl<|fun i8 => z6<|za<|za<|zt (fun j => false) (by kernel_rfl) rfl (zp (.rest _))<|zTk 0 rfl (zMg rfl)<|zTk 1 rfl (yv rfl)<|zTk 2 rfl (zFF underlying125 rfl sizeOf111 rfl rfl)<|zTk 3 rfl (zLf isAgg111 rfl)<|zTk 4 rfl (zFF underlying33 rfl sizeOf3 rfl rfl)<|zTk 5 rfl (zLi isAgg3 rfl)<|zTk 6 rfl (zIM x.dst.toNat underlying111 sizeOf4 rfl rfl (by omega) (show chk[x.dst.toNat]? = some (gb chk x.dst) by unfold gb; rw [qh h1]; rfl))<|zTk 7 rfl (yz (c := .bool _) isAgg4 rfl)<|zDn<|zy rfl (fun c=>?_) (fun c=>?_)
 ·refine zSr<|z2 (zFF underlying33 rfl sizeOf31 rfl rfl)<|z2 (zLi isAgg31 rfl)<|z2 (zh isAgg74 sizeOf74 rfl rfl)<|z2 (zh isAgg74 sizeOf74 rfl rfl)<|zb (iClip x.op ha hb) rfl<|zc sizeOf74 rfl rfl rfl rfl rfl rfl .head rfl<|z6<|zd<|y8 rfl ⟨_, .head⟩ isAgg74 sizeOf74 rfl ?_
  rw [if_pos c]; try rfl
 ·refine zf<|zSr<|z2 (zFF underlying33 rfl sizeOf31 rfl rfl)<|z2 (zLi isAgg31 rfl)<|z2 (zh isAgg74 sizeOf74 rfl rfl)<|z2 (zh isAgg74 sizeOf74 rfl rfl)<|zb (iApply x.op ha hb) rfl<|zc sizeOf74 rfl rfl rfl rfl rfl rfl .head rfl<|z6<|zd<|y8 rfl ⟨_, .head⟩ isAgg74 sizeOf74 rfl ?_
  rw [if_neg (by rw [show gb chk x.dst = false from c]; decide)]; try rfl
theorem agZ {r s : Rng} (h : r = s) : AV.agg (encZ r) = AV.agg (encZ s) := by rw [h]
def c3 (rs : List Rng) : List AV := encZ (ra rs 0) ++ encZ (ra rs 1) ++ encZ (ra rs 2)
theorem cut0_eq {a b : Rng} (ha : ok64 a) (hn : nrm a) (nb : b.1 ≤ b.2) : cutP 0 a b = cutQ 0 a b := by
 by_cases na : a.1 ≤ a.2
 ·exact cutP_eq ha na nb
 ·have := hn (by omega)
  subst this
  unfold cutP cutQ
  rw [if_pos (.inl (by decide)), if_pos rfl]
  by_cases hb : b.2 = m64
  ·rw [if_pos hb]
  ·rw [if_neg hb]
   have h1 : ∀ z : Int, imin 0 z ≤ 0 := fun z => by unfold imin; split <;> omega
   have h2 : (1 : Int) ≤ imax 1 m64 := by decide
   have h3 := h1 (b.2 - 1)
   show noR = rMade (imax 1 m64) (imin 0 (b.2 - 1))
   rw [rMade, if_pos (by omega)]
theorem sum_apply {op : Int} {k : Nat} (hk : k ≤ 2) (h : op = 2 + (k : Int)) {a b : Rng} (na : a.1 ≤ a.2) (nb : b.1 ≤ b.2) (c : Bool) : (if c = true then clipP op a b else applyP op a b) = sumQ k a b c := by
 have h2 := apply_sum hk h (a := a) (b := b) (by omega)
 cases c
 ·rw [if_neg (by decide), h2.1, sumP_eq]
 ·rw [if_pos rfl, h2.2, sumP_eq]
theorem apply5 {a b : Rng} (ha : ok64 a) (hb : ok64 b) (na : a.1 ≤ a.2) (nb : b.1 ≤ b.2) : applyP 5 a b = divQ a b := by unfold applyP; rw [if_neg (by omega), if_neg (by decide), if_neg (by decide), if_neg (by decide), if_pos rfl, quotP_eq ha hb na nb]
theorem apply6 {a b : Rng} (na : a.1 ≤ a.2) (nb : b.1 ≤ b.2) : applyP 6 a b = remQ a b := by unfold applyP; rw [if_neg (by omega), if_neg (by decide), if_neg (by decide), if_neg (by decide), if_neg (by decide), if_pos rfl, restP_eq nb]
set_option maxHeartbeats 8000000 in
theorem vinst_spec (f : PFunc) (l : List Rng) (chk : List Bool) (Lv : AV) {i : Nat} {HL : AObj} (hof : ∀ {a : Int}, hasV f a = true → ACall prog E 176 [viewV f chk Lv, .int .i64 a] [(i, HL)] (sameO i HL (.agg (encZ (ofR f l a)))))
  (ho : ∀ u : Int, 0 ≤ u → ok64 (lv l u)) (x : PInst) (hI : InstF f x) (hb : x.op = 10 ∨ x.op = 11 → ∀ v ∈ x.args, tyV f v = 1) (h1 : 0 ≤ x.dst → x.dst.toNat < chk.length) (hd : x.op = 2 ∨ x.op = 3 ∨ x.op = 4 → 0 ≤ x.dst) :
  ACall prog E 121 [viewV f chk Lv, .agg (encInst x)] [(i, HL)] (sameO i HL (.agg (encZ (if (argsR f l x).any rEmp = true then noR else instQ x.op x.num (argsR f l x) (gb chk x.dst))))) := by
 have hal : (argsR f l x).length = x.args.length := by unfold argsR; rw [qo]
 have hx3 : x.args.length ≤ 3 := by
  rw [hI.len]
  rcases kRow_mem x.op with h | h
  ·unfold takesL; rw [h]; decide
  ·have : ∀ r ∈ kindT, r.2.1.data.toList.length ≤ 3 := by decide
   have := this _ h
   unfold takesL; simpa using this
 refine ACall.same<|zn func121 rfl (by decide) rfl<|zSr<|y1 (cs := _) rfl rfl rfl<|zo (cs := [.int .i64 0, .int .i64 0]) zeroValue74 rfl rfl<|fun i4 => z6<|zSr<|z2 (Gv.buildA (cps := []) (rs := [.int .i64 0, .int .i64 0, .int .i64 0, .int .i64 0, .int .i64 0, .int .i64 0]) pl226 rfl rfl rfl)<|zo (cs := [.int .i64 0, .int .i64 0, .int .i64 0, .int .i64 0, .int .i64 0, .int .i64 0]) zeroValue226 rfl rfl<|fun i5 => zc sizeOf226 rfl rfl rfl rfl rfl rfl .head rfl<|z6<|za<|zSr<|z2 (zFF underlying33 rfl sizeOf23 rfl rfl)<|z2 (zLf isAgg23 rfl)<|z2 (zz underlying23 rfl)<|z2 (zMi rfl)<|z6<|zi<|y6 (γ := Nat) [0, 3, 4, 5, 12, 13] (fun m => [(14, .int .i64 m)]) (fun m => [(i5, .cells 226 (c3 ((argsR f l x).take m))), (i4, .cells 74 [.int .i64 0, .int .i64 0]), (i, HL)]) (fun m => m ≤ x.args.length ∧ ((argsR f l x).take m).any rEmp = false) (fun m => x.args.length - m) 0 zR1 zLe (⟨qk _, rfl⟩) ?_
 rintro m ⟨hm, hne⟩
 refine zSr<|z2 (y7 rfl rfl)<|z6<|za<|zl rfl (fun cm=>?_) (fun cm=>?_)
 ·have hm2 : m < x.args.length := by simp at cm; omega
  obtain ⟨a, ha⟩ : ∃ a, x.args[m] = a := ⟨_, rfl⟩
  have hav := hI.args a (ha ▸ ql hm2)
  have htk := args_take (f := f) (l := l) hm2
  rw [ha] at htk
  have hta : (argsR f l x)[m]? = some (ofR f l a) := by unfold argsR; rw [qp, qh hm2, ha]; rfl
  have hAl : ((argsR f l x).take m).length = m := by rw [List.length_take]; omega
  have hne2 : ¬ (ofR f l a).2 < (ofR f l a).1 → ((argsR f l x).take (m + 1)).any rEmp = false := fun h => by rw [htk, List.any_append, hne]; simp [rEmp]; omega
  have hyes : (ofR f l a).2 < (ofR f l a).1 → (argsR f l x).any rEmp = true := fun h => List.any_eq_true.2 ⟨_, qr hta, by unfold rEmp; exact qu h⟩
  obtain ⟨A, hA⟩ : ∃ A, (argsR f l x).take m = A := ⟨_, rfl⟩
  rw [hA] at hAl htk hne ⊢
  refine zf<|za<|zi<|zSr<|z2 (zMi rfl)<|z2 (zIM m underlying23 sizeOf3 rfl rfl rfl (by rw [qh hm2, ha]))<|z2 (zLi isAgg3 rfl)<|z2 (zAi rfl)<|z2 (zAi rfl)<|z6 ?_
  rcases (by omega : m = 0 ∨ m = 1 ∨ m = 2) with rfl | rfl | rfl
  ·obtain rfl : A = [] := qt hAl
   refine zSr<|z2 (zMi rfl)<|z2 (yt (v := _) rfl)<|z2 (zMi rfl)<|y5 rfl (zp (.r (.r (.l (.rest _))))) (hof hav) ?_
   rintro r22 O22 ⟨rfl, rfl⟩
   refine z2 (Gv.idxAO (j := 0) underlying226 sizeOf74 rfl rfl rfl (by decide) rfl)<|yu (l := [_, _]) (new := [_, _, _, _, _, _]) sizeOf74 rfl rfl rfl rfl rfl rfl .t1 rfl rfl<|z6<|yd (ze (zj .t2))<|yd (ze (zj .t2))<|zSr<|z2 (zMi rfl)<|z2 (Gv.idxAO (j := 0) underlying226 sizeOf74 rfl rfl rfl (by decide) rfl)<|z2 (yi (l := [_, _]) isAgg74 sizeOf74 rfl ⟨_, .head⟩ rfl rfl)<|zb (iEmpty _) rfl<|z6<|zl rfl (fun ce=>?_) (fun ce=>?_)
   ·refine zSr<|zb (iNone) rfl<|zc sizeOf74 rfl rfl rfl rfl rfl rfl .t1 rfl<|z6<|zd<|y8 rfl ⟨_, .t1⟩ isAgg74 sizeOf74 rfl ?_
    exact ⟨by rw [if_pos (hyes ce)]; rfl, .d2⟩
   ·refine zf<|zRg<|z2 (zAd rfl rfl)<|z2 (zMi rfl)<|z6 ?_
    exact ⟨1, zR6, zR1, ⟨_, (.refl _), by rw [htk]; rfl⟩, ⟨hm2, hne2 ce⟩, by omega⟩
  ·obtain ⟨r0, rfl⟩ := List.length_eq_one_iff.1 hAl
   refine zSr<|z2 (zMi rfl)<|z2 (yt (v := _) rfl)<|z2 (zMi rfl)<|y5 rfl (zp (.r (.r (.l (.rest _))))) (hof hav) ?_
   rintro r22 O22 ⟨rfl, rfl⟩
   refine z2 (Gv.idxAO (j := 1) underlying226 sizeOf74 rfl rfl rfl (by decide) rfl)<|yu (l := [_, _]) (new := [_, _, _, _, _, _]) sizeOf74 rfl rfl rfl rfl rfl rfl .t1 rfl rfl<|z6<|yd (ze (zj .t2))<|yd (ze (zj .t2))<|zSr<|z2 (zMi rfl)<|z2 (Gv.idxAO (j := 1) underlying226 sizeOf74 rfl rfl rfl (by decide) rfl)<|z2 (yi (l := [_, _]) isAgg74 sizeOf74 rfl ⟨_, .head⟩ rfl rfl)<|zb (iEmpty _) rfl<|z6<|zl rfl (fun ce=>?_) (fun ce=>?_)
   ·refine zSr<|zb (iNone) rfl<|zc sizeOf74 rfl rfl rfl rfl rfl rfl .t1 rfl<|z6<|zd<|y8 rfl ⟨_, .t1⟩ isAgg74 sizeOf74 rfl ?_
    exact ⟨by rw [if_pos (hyes ce)]; rfl, .d2⟩
   ·refine zf<|zRg<|z2 (zAd rfl rfl)<|z2 (zMi rfl)<|z6 ?_
    exact ⟨2, zR6, zR1, ⟨_, (.refl _), by rw [htk]; rfl⟩, ⟨hm2, hne2 ce⟩, by omega⟩
  ·obtain ⟨r0, r1, rfl⟩ : ∃ r0 r1, A = [r0, r1] := by
    match A, hAl with
    | [r0, r1], _ => exact ⟨r0, r1, rfl⟩
   refine zSr<|z2 (zMi rfl)<|z2 (yt (v := _) rfl)<|z2 (zMi rfl)<|y5 rfl (zp (.r (.r (.l (.rest _))))) (hof hav) ?_
   rintro r22 O22 ⟨rfl, rfl⟩
   refine z2 (Gv.idxAO (j := 2) underlying226 sizeOf74 rfl rfl rfl (by decide) rfl)<|yu (l := [_, _]) (new := [_, _, _, _, _, _]) sizeOf74 rfl rfl rfl rfl rfl rfl .t1 rfl rfl<|z6<|yd (ze (zj .t2))<|yd (ze (zj .t2))<|zSr<|z2 (zMi rfl)<|z2 (Gv.idxAO (j := 2) underlying226 sizeOf74 rfl rfl rfl (by decide) rfl)<|z2 (yi (l := [_, _]) isAgg74 sizeOf74 rfl ⟨_, .head⟩ rfl rfl)<|zb (iEmpty _) rfl<|z6<|zl rfl (fun ce=>?_) (fun ce=>?_)
   ·refine zSr<|zb (iNone) rfl<|zc sizeOf74 rfl rfl rfl rfl rfl rfl .t1 rfl<|z6<|zd<|y8 rfl ⟨_, .t1⟩ isAgg74 sizeOf74 rfl ?_
    exact ⟨by rw [if_pos (hyes ce)]; rfl, .d2⟩
   ·refine zf<|zRg<|z2 (zAd rfl rfl)<|z2 (zMi rfl)<|z6 ?_
    exact ⟨3, zR6, zR1, ⟨_, (.refl _), by rw [htk]; rfl⟩, ⟨hm2, hne2 ce⟩, by omega⟩
 ·have hmn : m = x.args.length := by simp at cm; omega
  subst hmn
  rw [← hal, qm] at hne
  rw [← hal, qm]
  obtain ⟨rs, hrs⟩ : ∃ rs, argsR f l x = rs := ⟨_, rfl⟩
  have hokr : okRs rs := fun r hr => by
   rw [← hrs] at hr
   have hnn := List.any_eq_false.1 hne _ hr
   obtain ⟨a, ha, rfl⟩ := List.mem_map.1 hr
   have hav := hasV_rng (hI.args a ha)
   exact ⟨ofR_ok ho hav.1, by simpa [rEmp] using hnn⟩
  have hbl : x.op = 10 ∨ x.op = 11 → ∀ j, j < rs.length → 0 ≤ (ra rs j).1 ∧ (ra rs j).2 ≤ 1 := fun h j hj => by
   have h3 := hokr.at hj
   have h4 := ra_at hj
   rw [← hrs] at h4
   have h5 := qr h4
   rw [hrs] at h5
   rw [← hrs] at h5
   obtain ⟨a, ha, e⟩ := List.mem_map.1 h5
   rw [hrs] at e
   rw [← e] at h3 ⊢
   exact ofR_ty (hb h a ha) h3.2
  rw [hrs] at hne hal ⊢
  rw [if_neg (by rw [hne]; decide)]
  have hl : rs.length = (takesL x.op).length := by rw [hal]; exact hI.len
  rw [instQ]
  refine y3<|za<|yb (γ := Nat × Nat) [0, 3, 4] (fun z => [(8, .po z.1 0), (9, .po z.2 0)]) (fun z => [(z.1, .cells 74 (encZ (ra rs 0))), (z.2, .cells 74 (encZ (ra rs 1))), (i5, .cells 226 (c3 rs)), (i4, .cells 74 [.int .i64 0, .int .i64 0]), (i, HL)]) (fun z => True) ?_ (fun _ _ h => h) ?_
  ·refine zt (fun j => false) (by kernel_rfl) rfl (zp (.rest _))<|zTk 0 rfl (Gv.idxAO (j := 0) underlying226 sizeOf74 rfl rfl rfl (by decide) rfl)<|zTk 2 rfl (Gv.idxAO (j := 1) underlying226 sizeOf74 rfl rfl rfl (by decide) rfl)<|AAny.four (i := 1) (j := 3) (m := 4) (q := 5) rfl rfl rfl rfl (by kernel_rfl) ?_ ?_ ?_ ?_
   ·refine z2 (yi (l := [_, _]) isAgg74 sizeOf74 rfl ⟨_, .head⟩ rfl rfl)<|z6<|q9 (i := 3) (j := 4) (m := 5) rfl rfl rfl (by kernel_rfl) ?_ ?_ ?_
    ·refine z2 (yi (l := [_, _]) isAgg74 sizeOf74 rfl ⟨_, .head⟩ rfl rfl)<|z6<|yc (i := 4) (j := 5) rfl rfl (by kernel_rfl) ?_ ?_
     ·refine zo (cs := [.int .i64 0, .int .i64 0]) zeroValue74 rfl rfl<|fun i8 => z6<|zOn 5 rfl<|zo (cs := [.int .i64 0, .int .i64 0]) zeroValue74 rfl rfl<|fun i9 => z6<|zOn 6 rfl<|zc sizeOf74 rfl rfl rfl rfl rfl rfl .t1 rfl<|z6<|zOn 7 rfl<|zc sizeOf74 rfl rfl rfl rfl rfl rfl .head rfl<|zg (ze (zj .head))<|zg (ze (zj .t1))<|z6<|zDn ?_
      exact ⟨(i8, i9), zR3, zR2, zLe, trivial⟩
     ·refine zo (cs := [.int .i64 0, .int .i64 0]) zeroValue74 rfl rfl<|fun i9 => z6<|zOn 4 rfl<|zo (cs := [.int .i64 0, .int .i64 0]) zeroValue74 rfl rfl<|fun i8 => z6<|zOn 6 rfl<|zc sizeOf74 rfl rfl rfl rfl rfl rfl .head rfl<|z6<|zOn 7 rfl<|zc sizeOf74 rfl rfl rfl rfl rfl rfl .t1 rfl<|z6<|zDn ?_
      exact ⟨(i8, i9), zR3, zR2, zLe, trivial⟩
    ·refine zo (cs := [.int .i64 0, .int .i64 0]) zeroValue74 rfl rfl<|fun i8 => z6<|yc (i := 3) (j := 5) rfl rfl (by kernel_rfl) ?_ ?_
     ·refine z2 (yi (l := [_, _]) isAgg74 sizeOf74 rfl ⟨_, .t1⟩ rfl rfl)<|z6<|zOn 5 rfl<|zo (cs := [.int .i64 0, .int .i64 0]) zeroValue74 rfl rfl<|fun i9 => z6<|zOn 6 rfl<|zc sizeOf74 rfl rfl rfl rfl rfl rfl .t1 rfl<|z6<|zOn 7 rfl<|zc sizeOf74 rfl rfl rfl rfl rfl rfl .head rfl<|zg (ze (zj .head))<|zg (ze (zj .t1))<|z6<|zDn ?_
      exact ⟨(i8, i9), zR3, zR2, zLe, trivial⟩
     ·refine zo (cs := [.int .i64 0, .int .i64 0]) zeroValue74 rfl rfl<|fun i9 => z6<|yc (i := 3) (j := 6) rfl rfl (by kernel_rfl) ?_ ?_
      ·refine z2 (yi (l := [_, _]) isAgg74 sizeOf74 rfl ⟨_, .t2⟩ rfl rfl)<|z6<|zOn 6 rfl<|zc sizeOf74 rfl rfl rfl rfl rfl rfl .t1 rfl<|z6<|zOn 7 rfl<|zc sizeOf74 rfl rfl rfl rfl rfl rfl .head rfl<|zg (ze (zj .head))<|zg (ze (zj .t1))<|z6<|zDn ?_
       exact ⟨(i8, i9), zR3, zR2, zLe, trivial⟩
      ·refine zc sizeOf74 rfl rfl rfl rfl rfl rfl .t1 rfl<|z6<|zOn 3 rfl<|z2 (yi (l := [_, _]) isAgg74 sizeOf74 rfl ⟨_, .t2⟩ rfl rfl)<|z6<|zOn 7 rfl<|zc sizeOf74 rfl rfl rfl rfl rfl rfl .head rfl<|zg (ze (zj .head))<|zg (ze (zj .t1))<|z6<|zDn ?_
       exact ⟨(i8, i9), zR3, zR2, zLe, trivial⟩
    ·refine zo (cs := [.int .i64 0, .int .i64 0]) zeroValue74 rfl rfl<|fun i9 => z6<|yc (i := 3) (j := 4) rfl rfl (by kernel_rfl) ?_ ?_
     ·refine z2 (yi (l := [_, _]) isAgg74 sizeOf74 rfl ⟨_, .t1⟩ rfl rfl)<|z6<|zOn 4 rfl<|zo (cs := [.int .i64 0, .int .i64 0]) zeroValue74 rfl rfl<|fun i8 => z6<|zOn 6 rfl<|zc sizeOf74 rfl rfl rfl rfl rfl rfl .head rfl<|z6<|zOn 7 rfl<|zc sizeOf74 rfl rfl rfl rfl rfl rfl .t1 rfl<|z6<|zDn ?_
      exact ⟨(i8, i9), zR3, zR2, zLe, trivial⟩
     ·refine zo (cs := [.int .i64 0, .int .i64 0]) zeroValue74 rfl rfl<|fun i8 => z6<|yc (i := 3) (j := 6) rfl rfl (by kernel_rfl) ?_ ?_
      ·refine z2 (yi (l := [_, _]) isAgg74 sizeOf74 rfl ⟨_, .t2⟩ rfl rfl)<|z6<|zOn 6 rfl<|zc sizeOf74 rfl rfl rfl rfl rfl rfl .head rfl<|z6<|zOn 7 rfl<|zc sizeOf74 rfl rfl rfl rfl rfl rfl .t1 rfl<|z6<|zDn ?_
       exact ⟨(i8, i9), zR3, zR2, zLe, trivial⟩
      ·refine zc sizeOf74 rfl rfl rfl rfl rfl rfl .head rfl<|z6<|zOn 3 rfl<|z2 (yi (l := [_, _]) isAgg74 sizeOf74 rfl ⟨_, .t2⟩ rfl rfl)<|z6<|zOn 7 rfl<|zc sizeOf74 rfl rfl rfl rfl rfl rfl .t1 rfl<|z6<|zDn ?_
       exact ⟨(i8, i9), zR3, zR2, zLe, trivial⟩
   ·refine z2 (yi (l := [_, _]) isAgg74 sizeOf74 rfl ⟨_, .head⟩ rfl rfl)<|z6<|q9 (i := 1) (j := 4) (m := 5) rfl rfl rfl (by kernel_rfl) ?_ ?_ ?_
    ·refine z2 (yi (l := [_, _]) isAgg74 sizeOf74 rfl ⟨_, .head⟩ rfl rfl)<|z6<|yc (i := 4) (j := 5) rfl rfl (by kernel_rfl) ?_ ?_
     ·refine zo (cs := [.int .i64 0, .int .i64 0]) zeroValue74 rfl rfl<|fun i8 => z6<|zOn 5 rfl<|zo (cs := [.int .i64 0, .int .i64 0]) zeroValue74 rfl rfl<|fun i9 => z6<|zOn 6 rfl<|zc sizeOf74 rfl rfl rfl rfl rfl rfl .t1 rfl<|z6<|zOn 7 rfl<|zc sizeOf74 rfl rfl rfl rfl rfl rfl .head rfl<|zg (ze (zj .head))<|zg (ze (zj .t1))<|z6<|zDn ?_
      exact ⟨(i8, i9), zR3, zR2, zLe, trivial⟩
     ·refine zo (cs := [.int .i64 0, .int .i64 0]) zeroValue74 rfl rfl<|fun i9 => z6<|zOn 4 rfl<|zo (cs := [.int .i64 0, .int .i64 0]) zeroValue74 rfl rfl<|fun i8 => z6<|zOn 6 rfl<|zc sizeOf74 rfl rfl rfl rfl rfl rfl .head rfl<|z6<|zOn 7 rfl<|zc sizeOf74 rfl rfl rfl rfl rfl rfl .t1 rfl<|z6<|zDn ?_
      exact ⟨(i8, i9), zR3, zR2, zLe, trivial⟩
    ·refine zo (cs := [.int .i64 0, .int .i64 0]) zeroValue74 rfl rfl<|fun i8 => z6<|yc (i := 1) (j := 5) rfl rfl (by kernel_rfl) ?_ ?_
     ·refine z2 (yi (l := [_, _]) isAgg74 sizeOf74 rfl ⟨_, .t1⟩ rfl rfl)<|z6<|zOn 5 rfl<|zo (cs := [.int .i64 0, .int .i64 0]) zeroValue74 rfl rfl<|fun i9 => z6<|zOn 6 rfl<|zc sizeOf74 rfl rfl rfl rfl rfl rfl .t1 rfl<|z6<|zOn 7 rfl<|zc sizeOf74 rfl rfl rfl rfl rfl rfl .head rfl<|zg (ze (zj .head))<|zg (ze (zj .t1))<|z6<|zDn ?_
      exact ⟨(i8, i9), zR3, zR2, zLe, trivial⟩
     ·refine zo (cs := [.int .i64 0, .int .i64 0]) zeroValue74 rfl rfl<|fun i9 => z6<|zOn 1 rfl<|z2 (yi (l := [_, _]) isAgg74 sizeOf74 rfl ⟨_, .t2⟩ rfl rfl)<|z6<|zOn 6 rfl<|zc sizeOf74 rfl rfl rfl rfl rfl rfl .t1 rfl<|z6<|zOn 7 rfl<|zc sizeOf74 rfl rfl rfl rfl rfl rfl .head rfl<|zg (ze (zj .head))<|zg (ze (zj .t1))<|z6<|zDn ?_
      exact ⟨(i8, i9), zR3, zR2, zLe, trivial⟩
    ·refine zo (cs := [.int .i64 0, .int .i64 0]) zeroValue74 rfl rfl<|fun i9 => z6<|yc (i := 1) (j := 4) rfl rfl (by kernel_rfl) ?_ ?_
     ·refine z2 (yi (l := [_, _]) isAgg74 sizeOf74 rfl ⟨_, .t1⟩ rfl rfl)<|z6<|zOn 4 rfl<|zo (cs := [.int .i64 0, .int .i64 0]) zeroValue74 rfl rfl<|fun i8 => z6<|zOn 6 rfl<|zc sizeOf74 rfl rfl rfl rfl rfl rfl .head rfl<|z6<|zOn 7 rfl<|zc sizeOf74 rfl rfl rfl rfl rfl rfl .t1 rfl<|z6<|zDn ?_
      exact ⟨(i8, i9), zR3, zR2, zLe, trivial⟩
     ·refine zo (cs := [.int .i64 0, .int .i64 0]) zeroValue74 rfl rfl<|fun i8 => z6<|zOn 1 rfl<|z2 (yi (l := [_, _]) isAgg74 sizeOf74 rfl ⟨_, .t2⟩ rfl rfl)<|z6<|zOn 6 rfl<|zc sizeOf74 rfl rfl rfl rfl rfl rfl .head rfl<|z6<|zOn 7 rfl<|zc sizeOf74 rfl rfl rfl rfl rfl rfl .t1 rfl<|z6<|zDn ?_
      exact ⟨(i8, i9), zR3, zR2, zLe, trivial⟩
   ·refine zo (cs := [.int .i64 0, .int .i64 0]) zeroValue74 rfl rfl<|fun i8 => z6<|q9 (i := 1) (j := 3) (m := 5) rfl rfl rfl (by kernel_rfl) ?_ ?_ ?_
    ·refine z2 (yi (l := [_, _]) isAgg74 sizeOf74 rfl ⟨_, .t1⟩ rfl rfl)<|z6<|yc (i := 3) (j := 5) rfl rfl (by kernel_rfl) ?_ ?_
     ·refine z2 (yi (l := [_, _]) isAgg74 sizeOf74 rfl ⟨_, .t1⟩ rfl rfl)<|z6<|zOn 5 rfl<|zo (cs := [.int .i64 0, .int .i64 0]) zeroValue74 rfl rfl<|fun i9 => z6<|zOn 6 rfl<|zc sizeOf74 rfl rfl rfl rfl rfl rfl .t1 rfl<|z6<|zOn 7 rfl<|zc sizeOf74 rfl rfl rfl rfl rfl rfl .head rfl<|zg (ze (zj .head))<|zg (ze (zj .t1))<|z6<|zDn ?_
      exact ⟨(i8, i9), zR3, zR2, zLe, trivial⟩
     ·refine zo (cs := [.int .i64 0, .int .i64 0]) zeroValue74 rfl rfl<|fun i9 => z6<|yc (i := 3) (j := 6) rfl rfl (by kernel_rfl) ?_ ?_
      ·refine z2 (yi (l := [_, _]) isAgg74 sizeOf74 rfl ⟨_, .t2⟩ rfl rfl)<|z6<|zOn 6 rfl<|zc sizeOf74 rfl rfl rfl rfl rfl rfl .t1 rfl<|z6<|zOn 7 rfl<|zc sizeOf74 rfl rfl rfl rfl rfl rfl .head rfl<|zg (ze (zj .head))<|zg (ze (zj .t1))<|z6<|zDn ?_
       exact ⟨(i8, i9), zR3, zR2, zLe, trivial⟩
      ·refine zc sizeOf74 rfl rfl rfl rfl rfl rfl .t1 rfl<|z6<|zOn 3 rfl<|z2 (yi (l := [_, _]) isAgg74 sizeOf74 rfl ⟨_, .t2⟩ rfl rfl)<|z6<|zOn 7 rfl<|zc sizeOf74 rfl rfl rfl rfl rfl rfl .head rfl<|zg (ze (zj .head))<|zg (ze (zj .t1))<|z6<|zDn ?_
       exact ⟨(i8, i9), zR3, zR2, zLe, trivial⟩
    ·refine z2 (yi (l := [_, _]) isAgg74 sizeOf74 rfl ⟨_, .t1⟩ rfl rfl)<|z6<|yc (i := 1) (j := 5) rfl rfl (by kernel_rfl) ?_ ?_
     ·refine z2 (yi (l := [_, _]) isAgg74 sizeOf74 rfl ⟨_, .t1⟩ rfl rfl)<|z6<|zOn 5 rfl<|zo (cs := [.int .i64 0, .int .i64 0]) zeroValue74 rfl rfl<|fun i9 => z6<|zOn 6 rfl<|zc sizeOf74 rfl rfl rfl rfl rfl rfl .t1 rfl<|z6<|zOn 7 rfl<|zc sizeOf74 rfl rfl rfl rfl rfl rfl .head rfl<|zg (ze (zj .head))<|zg (ze (zj .t1))<|z6<|zDn ?_
      exact ⟨(i8, i9), zR3, zR2, zLe, trivial⟩
     ·refine zo (cs := [.int .i64 0, .int .i64 0]) zeroValue74 rfl rfl<|fun i9 => z6<|zOn 1 rfl<|z2 (yi (l := [_, _]) isAgg74 sizeOf74 rfl ⟨_, .t2⟩ rfl rfl)<|z6<|zOn 6 rfl<|zc sizeOf74 rfl rfl rfl rfl rfl rfl .t1 rfl<|z6<|zOn 7 rfl<|zc sizeOf74 rfl rfl rfl rfl rfl rfl .head rfl<|zg (ze (zj .head))<|zg (ze (zj .t1))<|z6<|zDn ?_
      exact ⟨(i8, i9), zR3, zR2, zLe, trivial⟩
    ·refine zo (cs := [.int .i64 0, .int .i64 0]) zeroValue74 rfl rfl<|fun i9 => z6<|yc (i := 1) (j := 3) rfl rfl (by kernel_rfl) ?_ ?_
     ·refine z2 (yi (l := [_, _]) isAgg74 sizeOf74 rfl ⟨_, .t2⟩ rfl rfl)<|z6<|yc (i := 3) (j := 6) rfl rfl (by kernel_rfl) ?_ ?_
      ·refine z2 (yi (l := [_, _]) isAgg74 sizeOf74 rfl ⟨_, .t2⟩ rfl rfl)<|z6<|zOn 6 rfl<|zc sizeOf74 rfl rfl rfl rfl rfl rfl .t1 rfl<|z6<|zOn 7 rfl<|zc sizeOf74 rfl rfl rfl rfl rfl rfl .head rfl<|zg (ze (zj .head))<|zg (ze (zj .t1))<|z6<|zDn ?_
       exact ⟨(i8, i9), zR3, zR2, zLe, trivial⟩
      ·refine zc sizeOf74 rfl rfl rfl rfl rfl rfl .t1 rfl<|z6<|zOn 3 rfl<|z2 (yi (l := [_, _]) isAgg74 sizeOf74 rfl ⟨_, .t2⟩ rfl rfl)<|z6<|zOn 7 rfl<|zc sizeOf74 rfl rfl rfl rfl rfl rfl .head rfl<|zg (ze (zj .head))<|zg (ze (zj .t1))<|z6<|zDn ?_
       exact ⟨(i8, i9), zR3, zR2, zLe, trivial⟩
     ·refine z2 (yi (l := [_, _]) isAgg74 sizeOf74 rfl ⟨_, .t2⟩ rfl rfl)<|z6<|zOn 1 rfl<|z2 (yi (l := [_, _]) isAgg74 sizeOf74 rfl ⟨_, .t2⟩ rfl rfl)<|z6<|zOn 6 rfl<|zc sizeOf74 rfl rfl rfl rfl rfl rfl .t1 rfl<|z6<|zOn 7 rfl<|zc sizeOf74 rfl rfl rfl rfl rfl rfl .head rfl<|zg (ze (zj .head))<|zg (ze (zj .t1))<|z6<|zDn ?_
      exact ⟨(i8, i9), zR3, zR2, zLe, trivial⟩
   ·refine zo (cs := [.int .i64 0, .int .i64 0]) zeroValue74 rfl rfl<|fun i9 => z6<|q9 (i := 1) (j := 3) (m := 4) rfl rfl rfl (by kernel_rfl) ?_ ?_ ?_
    ·refine z2 (yi (l := [_, _]) isAgg74 sizeOf74 rfl ⟨_, .t1⟩ rfl rfl)<|z6<|yc (i := 3) (j := 4) rfl rfl (by kernel_rfl) ?_ ?_
     ·refine z2 (yi (l := [_, _]) isAgg74 sizeOf74 rfl ⟨_, .t1⟩ rfl rfl)<|z6<|zOn 4 rfl<|zo (cs := [.int .i64 0, .int .i64 0]) zeroValue74 rfl rfl<|fun i8 => z6<|zOn 6 rfl<|zc sizeOf74 rfl rfl rfl rfl rfl rfl .head rfl<|z6<|zOn 7 rfl<|zc sizeOf74 rfl rfl rfl rfl rfl rfl .t1 rfl<|z6<|zDn ?_
      exact ⟨(i8, i9), zR3, zR2, zLe, trivial⟩
     ·refine zo (cs := [.int .i64 0, .int .i64 0]) zeroValue74 rfl rfl<|fun i8 => z6<|yc (i := 3) (j := 6) rfl rfl (by kernel_rfl) ?_ ?_
      ·refine z2 (yi (l := [_, _]) isAgg74 sizeOf74 rfl ⟨_, .t2⟩ rfl rfl)<|z6<|zOn 6 rfl<|zc sizeOf74 rfl rfl rfl rfl rfl rfl .head rfl<|z6<|zOn 7 rfl<|zc sizeOf74 rfl rfl rfl rfl rfl rfl .t1 rfl<|z6<|zDn ?_
       exact ⟨(i8, i9), zR3, zR2, zLe, trivial⟩
      ·refine zc sizeOf74 rfl rfl rfl rfl rfl rfl .head rfl<|z6<|zOn 3 rfl<|z2 (yi (l := [_, _]) isAgg74 sizeOf74 rfl ⟨_, .t2⟩ rfl rfl)<|z6<|zOn 7 rfl<|zc sizeOf74 rfl rfl rfl rfl rfl rfl .t1 rfl<|z6<|zDn ?_
       exact ⟨(i8, i9), zR3, zR2, zLe, trivial⟩
    ·refine z2 (yi (l := [_, _]) isAgg74 sizeOf74 rfl ⟨_, .t1⟩ rfl rfl)<|z6<|yc (i := 1) (j := 4) rfl rfl (by kernel_rfl) ?_ ?_
     ·refine z2 (yi (l := [_, _]) isAgg74 sizeOf74 rfl ⟨_, .t1⟩ rfl rfl)<|z6<|zOn 4 rfl<|zo (cs := [.int .i64 0, .int .i64 0]) zeroValue74 rfl rfl<|fun i8 => z6<|zOn 6 rfl<|zc sizeOf74 rfl rfl rfl rfl rfl rfl .head rfl<|z6<|zOn 7 rfl<|zc sizeOf74 rfl rfl rfl rfl rfl rfl .t1 rfl<|z6<|zDn ?_
      exact ⟨(i8, i9), zR3, zR2, zLe, trivial⟩
     ·refine zo (cs := [.int .i64 0, .int .i64 0]) zeroValue74 rfl rfl<|fun i8 => z6<|zOn 1 rfl<|z2 (yi (l := [_, _]) isAgg74 sizeOf74 rfl ⟨_, .t2⟩ rfl rfl)<|z6<|zOn 6 rfl<|zc sizeOf74 rfl rfl rfl rfl rfl rfl .head rfl<|z6<|zOn 7 rfl<|zc sizeOf74 rfl rfl rfl rfl rfl rfl .t1 rfl<|z6<|zDn ?_
      exact ⟨(i8, i9), zR3, zR2, zLe, trivial⟩
    ·refine zo (cs := [.int .i64 0, .int .i64 0]) zeroValue74 rfl rfl<|fun i8 => z6<|yc (i := 1) (j := 3) rfl rfl (by kernel_rfl) ?_ ?_
     ·refine z2 (yi (l := [_, _]) isAgg74 sizeOf74 rfl ⟨_, .t2⟩ rfl rfl)<|z6<|yc (i := 3) (j := 6) rfl rfl (by kernel_rfl) ?_ ?_
      ·refine z2 (yi (l := [_, _]) isAgg74 sizeOf74 rfl ⟨_, .t2⟩ rfl rfl)<|z6<|zOn 6 rfl<|zc sizeOf74 rfl rfl rfl rfl rfl rfl .head rfl<|z6<|zOn 7 rfl<|zc sizeOf74 rfl rfl rfl rfl rfl rfl .t1 rfl<|z6<|zDn ?_
       exact ⟨(i8, i9), zR3, zR2, zLe, trivial⟩
      ·refine zc sizeOf74 rfl rfl rfl rfl rfl rfl .head rfl<|z6<|zOn 3 rfl<|z2 (yi (l := [_, _]) isAgg74 sizeOf74 rfl ⟨_, .t2⟩ rfl rfl)<|z6<|zOn 7 rfl<|zc sizeOf74 rfl rfl rfl rfl rfl rfl .t1 rfl<|z6<|zDn ?_
       exact ⟨(i8, i9), zR3, zR2, zLe, trivial⟩
     ·refine z2 (yi (l := [_, _]) isAgg74 sizeOf74 rfl ⟨_, .t2⟩ rfl rfl)<|z6<|zOn 1 rfl<|z2 (yi (l := [_, _]) isAgg74 sizeOf74 rfl ⟨_, .t2⟩ rfl rfl)<|z6<|zOn 6 rfl<|zc sizeOf74 rfl rfl rfl rfl rfl rfl .head rfl<|z6<|zOn 7 rfl<|zc sizeOf74 rfl rfl rfl rfl rfl rfl .t1 rfl<|z6<|zDn ?_
      exact ⟨(i8, i9), zR3, zR2, zLe, trivial⟩
  ·rintro ⟨i8, i9⟩ _
   refine yd (ya (t := 8) rfl .head)<|yd (ya (t := 9) rfl .head)<|yd (GStep.drop .head)<|za<|zSr<|z2 (zFF underlying33 rfl sizeOf31 rfl rfl)<|z2 (zLi isAgg31 rfl)<|z6<|zi<|zSr<|z2 (zw rfl rfl)<|z2 (zAb rfl)<|z6<|zl rfl (fun c0=>?_) (fun c0=>?_)
   ·refine zSr<|z2 (zFF underlying33 rfl sizeOf2 rfl rfl)<|z2 (zLi isAgg2 rfl)<|zb (iOf _) rfl<|zc sizeOf74 rfl rfl rfl rfl rfl rfl .head rfl<|z6<|zd<|y8 rfl ⟨_, .head⟩ isAgg74 sizeOf74 rfl ?_
    exact ⟨by rw [if_pos c0]; rfl, .d1⟩
   ·rw [if_neg c0]
    refine za<|zSr<|z2 (zw rfl rfl)<|z2 (zAb rfl)<|z6<|yb (γ := Bool) [0, 3, 4, 8, 9, 35] (fun u => [(41, .bool u)]) (fun u => [(i4, .cells 74 [.int .i64 0, .int .i64 0]), (i, HL)]) (fun u => u = decide (x.op = 1 ∨ x.op = 12)) ?_ (fun _ _ h => h) ?_
    ·refine zy rfl (fun c1=>?_) (fun c1=>?_)
     ·refine zf ?_
      exact ⟨_, zR6, zR1, zLe, by simp_all⟩
     ·refine zRg<|z2 (zw rfl rfl)<|z2 (zAb rfl)<|z6 ?_
      exact ⟨_, zR6, zR1, zLe, by simp_all⟩
    ·rintro u hu
     subst hu
     refine zl rfl (fun c1=>?_) (fun c1=>?_)
     ·refine zSr<|z2 (zh isAgg74 sizeOf74 rfl rfl)<|zc sizeOf74 rfl rfl rfl rfl rfl rfl .head rfl<|z6<|zd<|y8 rfl ⟨_, .head⟩ isAgg74 sizeOf74 rfl ?_
      exact ⟨by rw [if_pos c1]; rfl, .d1⟩
     ·rw [if_neg c1]
      refine za<|zSr<|z2 (zw rfl rfl)<|z2 (zAb rfl)<|z6<|yb (γ := Bool) [0, 3, 4, 8, 9, 35] (fun u => [(45, .bool u)]) (fun u => [(i4, .cells 74 [.int .i64 0, .int .i64 0]), (i, HL)]) (fun u => u = decide (x.op = 2 ∨ x.op = 3 ∨ x.op = 4)) ?_ (fun _ _ h => h) ?_
      ·refine zy rfl (fun c2=>?_) (fun c2=>?_)
       ·refine zf ?_
        exact ⟨_, zR6, zR1, zLe, by simp_all⟩
       ·refine zSr<|z2 (zw rfl rfl)<|z2 (zAb rfl)<|z6<|zy rfl (fun c3=>?_) (fun c3=>?_)
        ·refine zf ?_
         exact ⟨_, zR6, zR1, zLe, by simp_all⟩
        ·refine zRg<|z2 (zw rfl rfl)<|z2 (zAb rfl)<|z6 ?_
         exact ⟨_, zR6, zR1, zLe, by simp_all⟩
      ·rintro u hu
       subst hu
       refine zl rfl (fun c2=>?_) (fun c2=>?_)
       ·have hl1 : rs.length = 2 := by rw [hl]; rcases c2 with c | c | c <;> rw [c] <;> rfl
        obtain ⟨ha, na⟩ := hokr.at (i := 0) (by omega)
        obtain ⟨hb, nb⟩ := hokr.at (i := 1) (by omega)
        obtain ⟨k, hk, hk2⟩ := sum_op c2
        have hd0 := hd c2
        refine zSr<|z2 (yt (v := _) rfl)<|z2 (zh isAgg33 sizeOf33 rfl rfl)<|z2 (zh isAgg74 sizeOf74 rfl rfl)<|z2 (zh isAgg74 sizeOf74 rfl rfl)<|zb (vsum_spec f chk Lv x ha hb hd0 (h1 hd0)) rfl<|zc sizeOf74 rfl rfl rfl rfl rfl rfl .head rfl<|z6<|zd<|y8 rfl ⟨_, .head⟩ isAgg74 sizeOf74 rfl ?_
        exact ⟨agZ (by rw [sum_apply hk hk2 na nb]; rcases (by omega : k = 0 ∨ k = 1 ∨ k = 2) with rfl | rfl | rfl; rw [if_pos (by omega)]; rw [if_neg (by omega), if_pos (by omega)]; rw [if_neg (by omega), if_neg (by omega), if_pos (by omega)]), .d1⟩
       ·rw [if_neg (by omega), if_neg (by omega), if_neg (by omega)]
        refine za<|zSr<|z2 (zw rfl rfl)<|z2 (zAb rfl)<|z6<|yb (γ := Bool) [3, 4, 8, 9, 35] (fun u => [(54, .bool u)]) (fun u => [(i4, .cells 74 [.int .i64 0, .int .i64 0]), (i, HL)]) (fun u => u = decide (x.op = 5 ∨ x.op = 6)) ?_ (fun _ _ h => h) ?_
        ·refine zy rfl (fun c4=>?_) (fun c4=>?_)
         ·refine zf ?_
          exact ⟨_, zR5, zR1, zLe, by simp_all⟩
         ·refine zRg<|z2 (zw rfl rfl)<|z2 (zAb rfl)<|z6 ?_
          exact ⟨_, zR5, zR1, zLe, by simp_all⟩
        ·rintro u hu
         subst hu
         refine zl rfl (fun c5=>?_) (fun c5=>?_)
         ·have hl1 : rs.length = 2 := by rw [hl]; rcases c5 with c | c <;> rw [c] <;> rfl
          obtain ⟨ha, na⟩ := hokr.at (i := 0) (by omega)
          obtain ⟨hb, nb⟩ := hokr.at (i := 1) (by omega)
          refine zSr<|z2 (zFF underlying33 rfl sizeOf31 rfl rfl)<|z2 (zLi isAgg31 rfl)<|z2 (zh isAgg74 sizeOf74 rfl rfl)<|z2 (zh isAgg74 sizeOf74 rfl rfl)<|zb (iApply x.op ha hb) rfl<|zc sizeOf74 rfl rfl rfl rfl rfl rfl .head rfl<|z6<|zd<|y8 rfl ⟨_, .head⟩ isAgg74 sizeOf74 rfl ?_
          exact ⟨agZ (by rcases c5 with c | c; rw [if_pos c, c, apply5 ha hb na nb]; rw [if_neg (by omega), if_pos c, c, apply6 na nb]), .d1⟩
         ·rw [if_neg (by omega), if_neg (by omega)]
          refine za<|zSr<|z2 (zw rfl rfl)<|z2 (zAb rfl)<|z6<|yb (γ := Bool) [3, 4, 8, 9, 35] (fun u => [(62, .bool u)]) (fun u => [(i4, .cells 74 [.int .i64 0, .int .i64 0]), (i, HL)]) (fun u => u = decide (x.op = 7 ∨ x.op = 8 ∨ x.op = 9)) ?_ (fun _ _ h => h) ?_
          ·refine zy rfl (fun c5=>?_) (fun c5=>?_)
           ·refine zf ?_
            exact ⟨_, zR5, zR1, zLe, by simp_all⟩
           ·refine zSr<|z2 (zw rfl rfl)<|z2 (zAb rfl)<|z6<|zy rfl (fun c6=>?_) (fun c6=>?_)
            ·refine zf ?_
             exact ⟨_, zR5, zR1, zLe, by simp_all⟩
            ·refine zRg<|z2 (zw rfl rfl)<|z2 (zAb rfl)<|z6 ?_
             exact ⟨_, zR5, zR1, zLe, by simp_all⟩
          ·rintro u hu
           subst hu
           refine zl rfl (fun c7=>?_) (fun c7=>?_)
           ·have hl1 : rs.length = 2 := by rw [hl]; rcases c7 with c | c | c <;> rw [c] <;> rfl
            obtain ⟨ha, na⟩ := hokr.at (i := 0) (by omega)
            obtain ⟨hb, nb⟩ := hokr.at (i := 1) (by omega)
            refine zSr<|z2 (zFF underlying33 rfl sizeOf31 rfl rfl)<|z2 (zLi isAgg31 rfl)<|z2 (zh isAgg74 sizeOf74 rfl rfl)<|z2 (zh isAgg74 sizeOf74 rfl rfl)<|zb (iTruth x.op (ra rs 0) (ra rs 1)) rfl<|zc sizeOf74 rfl rfl rfl rfl rfl rfl .head rfl<|z6<|zd<|y8 rfl ⟨_, .head⟩ isAgg74 sizeOf74 rfl ?_
            exact ⟨agZ (by rcases c7 with c | c | c; rw [if_pos c, c, truth7 na nb]; rw [if_neg (by omega), if_pos c, c, truth8 na nb]; rw [if_neg (by omega), if_neg (by omega), if_pos c, c, truth9 na nb]), .d1⟩
           ·rw [if_neg (by omega), if_neg (by omega), if_neg (by omega)]
            refine zSr<|z2 (zw rfl rfl)<|z2 (zAb rfl)<|z6<|zl rfl (fun c10=>?_) (fun c10=>?_)
            ·have hl1 : rs.length = 1 := by rw [hl, c10]; rfl
             obtain ⟨ha, na⟩ := hokr.at (i := 0) (by omega)
             obtain ⟨hb1, hb2⟩ := hbl (.inl c10) 0 (by omega)
             refine zSr<|z2 (zFF underlying74 rfl sizeOf2 rfl rfl)<|z2 (zLi isAgg2 rfl)<|z2 (Gv.sub rfl rfl (by unfold I64; omega))<|z2 (zFF underlying74 rfl sizeOf2 rfl rfl)<|z2 (zLi isAgg2 rfl)<|z2 (Gv.sub rfl rfl (by unfold I64; omega))<|z2 (zx (cps := [(0, [_]), (1, [_])]) (rs := [_, _]) pl74 rfl rfl rfl)<|zc sizeOf74 rfl rfl rfl rfl rfl rfl .head rfl<|z6<|zd<|y8 rfl ⟨_, .head⟩ isAgg74 sizeOf74 rfl ?_
             exact ⟨by rw [if_pos c10, ← notP_eq na hb1 hb2]; rfl, .d1⟩
            ·rw [if_neg c10]
             refine zSr<|z2 (zw rfl rfl)<|z2 (zAb rfl)<|z6<|zl rfl (fun c11=>?_) (fun c11=>?_)
             ·have hl1 : rs.length = 2 := by rw [hl, c11]; rfl
              obtain ⟨ha, na⟩ := hokr.at (i := 0) (by omega)
              obtain ⟨hb, nb⟩ := hokr.at (i := 1) (by omega)
              obtain ⟨hb1, hb2⟩ := hbl (.inr c11) 0 (by omega)
              obtain ⟨hb3, hb4⟩ := hbl (.inr c11) 1 (by omega)
              refine zSr<|z2 (zFF underlying74 rfl sizeOf2 rfl rfl)<|z2 (zLi isAgg2 rfl)<|z2 (zFF underlying74 rfl sizeOf2 rfl rfl)<|z2 (zLi isAgg2 rfl)<|z2 (Gv.minI rfl rfl)<|z2 (zFF underlying74 rfl sizeOf2 rfl rfl)<|z2 (zLi isAgg2 rfl)<|z2 (zFF underlying74 rfl sizeOf2 rfl rfl)<|z2 (zLi isAgg2 rfl)<|z2 (Gv.minI rfl rfl)<|z2 (zx (cps := [(0, [_]), (1, [_])]) (rs := [_, _]) pl74 rfl rfl rfl)<|zc sizeOf74 rfl rfl rfl rfl rfl rfl .head rfl<|z6<|zd<|y8 rfl ⟨_, .head⟩ isAgg74 sizeOf74 rfl ?_
              exact ⟨by rw [if_pos c11, ← andP_eq na nb hb1 hb2 hb3 hb4]; rfl, .d1⟩
             ·rw [if_neg c11]
              refine zSr<|z2 (zw rfl rfl)<|z2 (zAb rfl)<|z6<|zl rfl (fun c15=>?_) (fun c15=>?_)
              ·refine za<|zt (fun j => Nat.beq j 3) (by kernel_rfl) rfl (zp (.rest _))<|zTk 0 rfl (zh isAgg74 sizeOf74 rfl rfl)<|zOn 1 rfl<|zb (iType _) rfl<|z6<|zOn 2 rfl<|zb (iMeet (ra rs 0) (rType 2)) rfl<|z6<|yf<|yl (i := 3) rfl (by kernel_rfl) (by kernel_rfl)<|zc sizeOf74 rfl rfl rfl rfl rfl rfl .head rfl<|z6<|yh (by kernel_rfl)<|zd<|y8 rfl ⟨_, .head⟩ isAgg74 sizeOf74 rfl ?_
               exact ⟨by rw [if_pos c15]; rfl, .d1⟩
              ·rw [if_neg c15]
               refine zSr<|z2 (zw rfl rfl)<|z2 (zAb rfl)<|z6<|zl rfl (fun c16=>?_) (fun c16=>?_)
               ·refine zSr<|zb (iOf _) rfl<|zc sizeOf74 rfl rfl rfl rfl rfl rfl .head rfl<|z6<|zd<|y8 rfl ⟨_, .head⟩ isAgg74 sizeOf74 rfl ?_
                exact ⟨agZ (by rw [if_pos c16]), .d1⟩
               ·rw [if_neg c16]
                refine zSr<|z2 (zw rfl rfl)<|z2 (zAb rfl)<|z6<|zl rfl (fun c25=>?_) (fun c25=>?_)
                ·have hl1 : rs.length = 2 := by rw [hl, c25]; rfl
                 obtain ⟨ha, na⟩ := hokr.at (i := 0) (by omega)
                 obtain ⟨hb, nb⟩ := hokr.at (i := 1) (by omega)
                 refine zSr<|z2 (zFF underlying33 rfl sizeOf2 rfl rfl)<|z2 (zLi isAgg2 rfl)<|z2 (zh isAgg74 sizeOf74 rfl rfl)<|z2 (zh isAgg74 sizeOf74 rfl rfl)<|zb (iCut x.num hb) rfl<|zc sizeOf74 rfl rfl rfl rfl rfl rfl .head rfl<|z6<|zd<|y8 rfl ⟨_, .head⟩ isAgg74 sizeOf74 rfl ?_
                 exact ⟨agZ (by rw [if_pos c25, cutP_eq ha na nb]), .d1⟩
                ·rw [if_neg c25]
                 refine zSr<|z2 (zw rfl rfl)<|z2 (zAb rfl)<|z6<|zl rfl (fun c26=>?_) (fun c26=>?_)
                 ·have hl1 : rs.length = 2 := by rw [hl, c26]; rfl
                  obtain ⟨ha, na⟩ := hokr.at (i := 0) (by omega)
                  obtain ⟨hb, nb⟩ := hokr.at (i := 1) (by omega)
                  refine za<|zt (fun j => Nat.beq j 5) (by kernel_rfl) rfl (zp (.rest _))<|zTk 0 rfl (zh isAgg74 sizeOf74 rfl rfl)<|zTk 1 rfl (zx (cps := [(0, [_]), (1, [_])]) (rs := [_, _]) pl74 rfl rfl rfl)<|zTk 3 rfl (zh isAgg74 sizeOf74 rfl rfl)<|zOn 2 rfl<|zb (iMeet (ra rs 0) (0, M64)) rfl<|z6<|zOn 4 rfl<|zb (iCut 0 hb) rfl<|z6<|yf<|yl (i := 5) rfl (by kernel_rfl) (by kernel_rfl)<|zc sizeOf74 rfl rfl rfl rfl rfl rfl .head rfl<|z6<|yh (by kernel_rfl)<|zd<|y8 rfl ⟨_, .head⟩ isAgg74 sizeOf74 rfl ?_
                  exact ⟨agZ (by rw [if_pos c26, cut0_eq (rMeet_ok ha ⟨by decide, by decide⟩) (rMeet_nrm _ _) nb]), .d1⟩
                 ·refine zf<|zSr<|zb (iAll) rfl<|zc sizeOf74 rfl rfl rfl rfl rfl rfl .head rfl<|z6<|zd<|y8 rfl ⟨_, .head⟩ isAgg74 sizeOf74 rfl ?_
                  exact ⟨agZ (by rw [if_neg c26]), .d1⟩
end Go.Proofs.YtjnpcfpecilejaaGreatDoor
namespace Go.Proofs.YtjnpcfpecilejaaGreatDoor
open Go.Proofs.Tryz
open Go.Proofs Go.Lib Go.Shelf Go.RowKit
variable {E : World}
set_option maxRecDepth 20000
theorem firstI_find {α : Type} {p : α → Bool} {x : α} : ∀ {xs : List α} (j : Nat), xs.find? p = some x → ∃ k : Nat, firstI p xs j = ((j + k : Nat) : Int) ∧ xs[k]? = some x
 | [], j, h => by simp at h
 | y :: xs, j, h => by
  by_cases c : p y = true
  ·rw [List.find?_cons_of_pos c] at h
   exact ⟨0, by rw [firstI, if_pos c]; rfl, by simpa using h⟩
  ·rw [List.find?_cons_of_neg (by simpa using c)] at h
   obtain ⟨k, h1, h2⟩ := firstI_find (j + 1) h
   exact ⟨k + 1, by rw [firstI, if_neg c, h1]; congr 1; omega, by simpa using h2⟩
theorem rule1_spec (v : Int) (p : PPhi) : AFun prog E 123 ([.agg (encPhi p)] ++ [.pf [.int .i64 v]]) (.bool (decide (p.dst = v))) := by
 refine zn func123 rfl (by decide) rfl<|zSr<|y1 (cs := _) rfl rfl rfl<|z2 (zAb rfl)<|z6<|zSr<|z2 (zFF underlying95 rfl sizeOf3 rfl rfl)<|z2 (zLi isAgg3 rfl)<|z2 (zLi isAgg3 rfl)<|z2 (zw rfl rfl)<|z2 (zAb rfl)<|z6<|zd<|zm (x := .bool _) rfl ?_
 rfl
structure RuleF (f : PFunc) : Prop where
 small : small f
 shaped : ShapedP f
 once : OnceP f
 bool : ∀ b ∈ f.blocks, ∀ x ∈ b.insts, x.op = 10 ∨ x.op = 11 → ∀ v ∈ x.args, tyV f v = 1
theorem makesB_sum {op : Int} (h : op = 2 ∨ op = 3 ∨ op = 4) : makesB op = true := by rcases h with rfl | rfl | rfl <;> decide
theorem vrule_spec (f : PFunc) (hF : RuleF f) (l : List Rng) (chk : List Bool) (hck : chk.length = f.vars.length) (Lv : AV) {i : Nat} {HL : AObj} (hof : ∀ {a : Int}, hasV f a = true → ACall prog E 176 [viewV f chk Lv, .int .i64 a] [(i, HL)] (sameO i HL (.agg (encZ (ofR f l a)))))
  (ho : ∀ u : Int, 0 ≤ u → ok64 (lv l u)) (v : Nat) (hv : v < f.vars.length) (hm : 0 ≤ (makerT f v).1) :
  ACall prog E 76 [viewV f chk Lv, .int .i64 v] [(i, HL)] (sameO i HL (.agg (encZ (ruleR f (gb chk) l v)))) := by
 have hS := hF.shaped
 have hf := hF.small
 have hn := hf.2.2.1
 have hone := (hF.once v hv).1
 obtain ⟨bi, b, hget, hcase⟩ := maker_cases hm
 have hbi : bi < f.blocks.length := (List.getElem?_eq_some_iff.1 hget).1
 have hmem := qr hget
 obtain ⟨hb0, hb1, hb2, hb3, hb4⟩ := hf.2.2.2.2 b hmem
 obtain ⟨hPh, hIn, hTm⟩ := hS.2.2.2.2.2 b hmem
 have hmk0 := makersT_get (f := f) hv
 refine ACall.same<|zn func76 rfl (by decide) rfl<|zSr<|y1 (cs := [_]) rfl rfl rfl<|zo (cs := [.int .i64 0, .int .i64 0]) zeroValue74 rfl rfl<|fun i4 => z6 ?_
 rcases hcase with ⟨p0, hp0, hd0, hmk⟩ | ⟨k, x, hxk, hxd, hmk⟩
 ·have hrule := rule_phi (chk := gb chk) (l := l) hone hget hp0 hd0 hmk
  rw [hrule]
  rw [hmk] at hmk0
  obtain ⟨k, hk1, hk2⟩ := firstI_find 0 (phi_find hone hget hp0 hd0)
  rw [Nat.zero_add] at hk1
  obtain ⟨hpd, hpl, hpn, hpa, hpf⟩ := hPh p0 hp0
  have hpb := (hb3 p0 hp0).1
  have hix := indexFuncP_spec (E := E) b.phis (by omega) (fun p _ => rule1_spec (v : Int) p)
  rw [hk1] at hix
  refine za<|zt (fun j => false) (by kernel_rfl) rfl (zp (.rest _))<|zTk 0 rfl (zMg rfl)<|zTk 1 rfl (yv rfl)<|zTk 2 rfl (zFF underlying125 rfl sizeOf102 rfl rfl)<|zTk 3 rfl (zLf isAgg102 rfl)<|zTk 4 rfl (zLi isAgg3 rfl)<|zTk 5 rfl (zIM v underlying102 sizeOf109 rfl rfl rfl hmk0)<|zTk 6 rfl (zh isAgg109 sizeOf109 rfl rfl)<|zOn 7 rfl<|zo (cs := [.int .i64 0, .int .i64 0]) zeroValue109 rfl rfl<|fun i5 => z6<|zOn 8 rfl<|zc sizeOf109 rfl rfl rfl rfl rfl rfl .head rfl<|z6<|zDn<|yd (ya (t := 5) rfl .head)<|za<|zt (fun j => false) (by kernel_rfl) rfl (zp (.rest _))<|zTk 0 rfl (zMg rfl)<|zTk 1 rfl (yv rfl)<|zTk 2 rfl (zFF underlying125 rfl sizeOf26 rfl rfl)<|zTk 3 rfl (zFF underlying26 rfl sizeOf24 rfl rfl)<|zTk 4 rfl (zLf isAgg24 rfl)<|zTk 5 rfl (zFF underlying109 rfl sizeOf3 rfl rfl)<|zTk 6 rfl (zLi isAgg3 rfl)<|zTk 7 rfl (zIM bi underlying24 sizeOf66 rfl rfl rfl hget)<|zTk 8 rfl (zh isAgg66 sizeOf66 rfl rfl)<|zOn 9 rfl<|zo (cs := [.str ⟨#[]⟩, .raw (.slice none 0 0), .raw (.slice none 0 0), .int .i64 0, .int .i64 0, .int .i64 0, .int .i64 0]) zeroValue66 rfl rfl<|fun i6 => z6<|zOn 10 rfl<|zc sizeOf66 rfl rfl rfl rfl rfl rfl .head rfl<|z6<|zDn<|yd (ya (t := 6) rfl .head)<|za<|zSr<|z2 (zFF underlying109 rfl sizeOf3 rfl rfl) ?_
  refine z2 (zLi isAgg3 rfl)<|z2 (q0 rfl rfl)<|z6<|yn rfl rfl<|zf<|zSr<|z2 (zFF underlying66 rfl sizeOf59 rfl rfl)<|z2 (zLf isAgg59 rfl)<|z2 (Gv.func rfl rfl)<|zb (hix) rfl<|z2 (zAi rfl)<|z6<|zSr<|z2 (zMg rfl)<|z2 (zFF underlying66 rfl sizeOf59 rfl rfl)<|z2 (zLf isAgg59 rfl)<|z2 (zMi rfl)<|z2 (zIM k underlying59 sizeOf95 rfl rfl rfl hk2)<|z2 (zh isAgg95 sizeOf95 rfl rfl)<|y5 rfl (zp (.r (.l (.rest _)))) (vphi_spec f l hof p0 hpa hpb) ?_
  rintro r45 O45 ⟨rfl, rfl⟩
  refine zc sizeOf74 rfl rfl rfl rfl rfl rfl .t1 rfl<|z6<|yd (ze (zj .t1))<|zd<|y8 rfl ⟨_, .head⟩ isAgg74 sizeOf74 rfl ?_
  exact ⟨rfl, .d1⟩
 ·have hI := instP_F (hIn x (qr hxk))
  have hrule := rule_inst (chk := gb chk) (l := l) hget hxk hmk
  rw [hrule, instR]
  rw [hmk] at hmk0
  refine za<|zt (fun j => false) (by kernel_rfl) rfl (zp (.rest _))<|zTk 0 rfl (zMg rfl)<|zTk 1 rfl (yv rfl)<|zTk 2 rfl (zFF underlying125 rfl sizeOf102 rfl rfl)<|zTk 3 rfl (zLf isAgg102 rfl)<|zTk 4 rfl (zLi isAgg3 rfl)<|zTk 5 rfl (zIM v underlying102 sizeOf109 rfl rfl rfl hmk0)<|zTk 6 rfl (zh isAgg109 sizeOf109 rfl rfl)<|zOn 7 rfl<|zo (cs := [.int .i64 0, .int .i64 0]) zeroValue109 rfl rfl<|fun i5 => z6<|zOn 8 rfl<|zc sizeOf109 rfl rfl rfl rfl rfl rfl .head rfl<|z6<|zDn<|yd (ya (t := 5) rfl .head)<|za<|zt (fun j => false) (by kernel_rfl) rfl (zp (.rest _))<|zTk 0 rfl (zMg rfl)<|zTk 1 rfl (yv rfl)<|zTk 2 rfl (zFF underlying125 rfl sizeOf26 rfl rfl)<|zTk 3 rfl (zFF underlying26 rfl sizeOf24 rfl rfl)<|zTk 4 rfl (zLf isAgg24 rfl)<|zTk 5 rfl (zFF underlying109 rfl sizeOf3 rfl rfl)<|zTk 6 rfl (zLi isAgg3 rfl)<|zTk 7 rfl (zIM bi underlying24 sizeOf66 rfl rfl rfl hget)<|zTk 8 rfl (zh isAgg66 sizeOf66 rfl rfl)<|zOn 9 rfl<|zo (cs := [.str ⟨#[]⟩, .raw (.slice none 0 0), .raw (.slice none 0 0), .int .i64 0, .int .i64 0, .int .i64 0, .int .i64 0]) zeroValue66 rfl rfl<|fun i6 => z6<|zOn 10 rfl<|zc sizeOf66 rfl rfl rfl rfl rfl rfl .head rfl<|z6<|zDn<|yd (ya (t := 6) rfl .head)<|za<|zSr<|z2 (zFF underlying109 rfl sizeOf3 rfl rfl) ?_
  refine z2 (zLi isAgg3 rfl)<|z2 (q0 rfl rfl)<|z6<|yr rfl (qu (by show (0 : Int) ≤ (k : Int); omega))<|zSr<|z2 (zMg rfl)<|z2 (zFF underlying66 rfl sizeOf60 rfl rfl)<|z2 (zLf isAgg60 rfl)<|z2 (zFF underlying109 rfl sizeOf3 rfl rfl)<|z2 (zLi isAgg3 rfl)<|z2 (zIM k underlying60 sizeOf33 rfl rfl rfl hxk)<|z2 (zh isAgg33 sizeOf33 rfl rfl)<|y5 rfl (zp (.r (.l (.rest _)))) (vinst_spec f l chk Lv hof ho x hI (hF.bool b hmem x (qr hxk)) (fun _ => by rw [hxd, hck]; exact hv) (fun _ => by rw [hxd]; omega)) ?_
  rintro r34 O34 ⟨rfl, rfl⟩
  refine zc sizeOf74 rfl rfl rfl rfl rfl rfl .t1 rfl<|z6<|yd (ze (zj .t1))<|zd<|y8 rfl ⟨_, .head⟩ isAgg74 sizeOf74 rfl ?_
  exact ⟨rfl, .d1⟩
end Go.Proofs.YtjnpcfpecilejaaGreatDoor
namespace Go.Proofs.YtjnpcfpecilejaaGreatDoor
open Go.Proofs.Tryz
def isChk (q : Int) : Prop := 21 ≤ q ∧ q ≤ 23
instance (q : Int) : Decidable (isChk q) := by unfold isChk; infer_instance
def plIn (q : Int) (i : Nat) (xs : List PInst) : List Plc := if isChk q then (xs.zipIdx.filter fun x => decide (x.1.op = q)).map fun x => ((i : Int), (x.2 : Int)) else []
def plTo (f : PFunc) (k : Nat) (q : Int) : List Plc := (f.blocks.take k).zipIdx.flatMap fun b => plIn q b.2 b.1.insts
theorem plIn_succ (q : Int) (i : Nat) {xs : List PInst} {j : Nat} (h : j < xs.length) : plIn q i (xs.take (j + 1)) = plIn q i (xs.take j) ++ if isChk q ∧ xs[j].op = q then [((i : Int), (j : Int))] else [] := by
 unfold plIn
 by_cases hq : isChk q
 ·rw [if_pos hq, if_pos hq, zipTake h, List.filter_append, List.map_append]
  congr 1
  by_cases c : xs[j].op = q
  ·rw [if_pos ⟨hq, c⟩]; simp [c]
  ·rw [if_neg (fun h => c h.2)]; simp [c]
 ·rw [if_neg hq, if_neg hq, if_neg (fun h => hq h.1)]; rfl
theorem plTo_succ {f : PFunc} {k : Nat} (q : Int) (h : k < f.blocks.length) : plTo f (k + 1) q = plTo f k q ++ plIn q k f.blocks[k].insts := by
 unfold plTo; rw [zipTake h, List.flatMap_append]; simp
theorem plIn_len (q : Int) (i : Nat) (xs : List PInst) : (plIn q i xs).length ≤ xs.length := by
 unfold plIn
 split
 ·rw [qo]
  have := List.length_filter_le (fun x : PInst × Nat => decide (x.1.op = q)) xs.zipIdx
  simpa using this
 ·simp
theorem plTo_len {f : PFunc} {q : Int} {m : Nat} (h : ∀ b ∈ f.blocks, b.insts.length ≤ m) : ∀ k, k ≤ f.blocks.length → (plTo f k q).length ≤ k * m
 | 0, _ => by simp [plTo]
 | k + 1, hk => by
  have h1 := plTo_len (q := q) h k (by omega)
  have h2 := plIn_len q k (f.blocks[k]'(by omega)).insts
  have h3 := h _ (ql (show k < f.blocks.length by omega))
  rw [plTo_succ q (by omega), qn, Nat.add_mul]; omega
theorem mem_plTo {f : PFunc} {q : Int} {m : Plc} : m ∈ plTo f f.blocks.length q ↔ isChk q ∧ ∃ (i k : Nat) (b : PBlock) (z : PInst), f.blocks[i]? = some b ∧ b.insts[k]? = some z ∧ z.op = q ∧ m = ((i : Int), (k : Int)) := by
 unfold plTo plIn
 rw [qm, List.mem_flatMap]
 constructor
 ·rintro ⟨⟨b, i⟩, h1, h2⟩
  have hb := List.mem_zipIdx_iff_getElem?.1 h1
  dsimp only at h2 hb
  split at h2
  ·rename_i hq
   obtain ⟨⟨z, k⟩, h3, h4⟩ := List.mem_map.1 h2
   obtain ⟨h5, h6⟩ := List.mem_filter.1 h3
   exact ⟨hq, i, k, b, z, hb, List.mem_zipIdx_iff_getElem?.1 h5, by simpa using h6, h4.symm⟩
  ·cases h2
 ·rintro ⟨hq, i, k, b, z, h1, h2, h3, rfl⟩
  refine ⟨(b, i), List.mem_zipIdx_iff_getElem?.2 h1, ?_⟩
  dsimp only
  rw [if_pos hq]
  exact List.mem_map.2 ⟨(z, k), List.mem_filter.2 ⟨List.mem_zipIdx_iff_getElem?.2 h2, by simpa using h3⟩, rfl⟩
def hitB (f : PFunc) (x : PInst) (i k : Nat) (m : Plc) : Bool := ((instAt f m).map fun c => decide (c.args = x.args)).getD false && aheadB f m i k
theorem chkW_iff {f : PFunc} {x : PInst} {i k : Nat} {q : Int} : chkW f q x.args i k = true ↔ ∃ (i' k' : Nat) (b : PBlock) (z : PInst), f.blocks[i']? = some b ∧ b.insts[k']? = some z ∧ z.op = q ∧ z.args = x.args ∧ aheadB f ((i' : Int), (k' : Int)) i k = true := by
 unfold chkW
 rw [List.any_eq_true]
 constructor
 ·rintro ⟨i', hi, h⟩
  rw [List.mem_range] at hi
  rw [chkI_at (qh hi)] at h
  obtain ⟨⟨z, k'⟩, h1, h2⟩ := List.any_eq_true.1 h
  unfold chkQ at h2
  simp only [qw, qy] at h2
  exact ⟨i', k', _, z, qh hi, List.mem_zipIdx_iff_getElem?.1 h1, h2.1.1, h2.1.2, h2.2⟩
 ·rintro ⟨i', k', b, z, h1, h2, h3, h4, h5⟩
  have hi := (List.getElem?_eq_some_iff.1 h1).1
  refine ⟨i', List.mem_range.2 hi, ?_⟩
  rw [chkI_at h1]
  refine List.any_eq_true.2 ⟨(z, k'), List.mem_zipIdx_iff_getElem?.2 h2, ?_⟩
  unfold chkQ
  simp only [qw, qy]
  exact ⟨⟨h3, h4⟩, h5⟩
theorem instAt_nat {f : PFunc} {i k : Nat} {b : PBlock} {z : PInst} (h1 : f.blocks[i]? = some b) (h2 : b.insts[k]? = some z) : instAt f ((i : Int), (k : Int)) = some z := by
 unfold instAt
 rw [if_pos ⟨by dsimp only; omega, by dsimp only; omega⟩]
 show ((f.blocks[i]?).bind fun b => b.insts[k]?) = _
 rw [h1]; exact h2
def matchQ (op : Int) : Int := if op = 2 ∨ op = 3 ∨ op = 4 then op + 19 else 0
theorem chkX_iff {f : PFunc} {x : PInst} {i k : Nat} : chkX f x i k = true ↔ ∃ m ∈ plTo f f.blocks.length (matchQ x.op), hitB f x i k m = true := by
 unfold chkX isSum matchQ
 by_cases hs : x.op = 2 ∨ x.op = 3 ∨ x.op = 4
 ·rw [qu hs, Bool.true_and, if_pos hs, chkW_iff]
  constructor
  ·rintro ⟨i', k', b, z, h1, h2, h3, h4, h5⟩
   refine ⟨((i' : Int), (k' : Int)), mem_plTo.2 ⟨by unfold isChk; omega, i', k', b, z, h1, h2, h3, rfl⟩, ?_⟩
   unfold hitB
   rw [instAt_nat h1 h2, h5]; simp [h4]
  ·rintro ⟨m, hm, hh⟩
   obtain ⟨hq, i', k', b, z, h1, h2, h3, rfl⟩ := mem_plTo.1 hm
   unfold hitB at hh
   rw [instAt_nat h1 h2] at hh
   simp at hh
   exact ⟨i', k', b, z, h1, h2, h3, hh.1, hh.2⟩
 ·rw [qv hs, Bool.false_and, if_neg hs]
  constructor
  ·intro h; cases h
  ·rintro ⟨m, hm, _⟩
   obtain ⟨hq, _⟩ := mem_plTo.1 hm
   unfold isChk at hq; omega
def Done (f : PFunc) (i k : Nat) (v : Int) : Prop := ∃ (i' k' : Nat) (b : PBlock) (z : PInst), f.blocks[i']? = some b ∧ b.insts[k']? = some z ∧ z.dst = v ∧ chkX f z i' k' = true ∧ (i' < i ∨ i' = i ∧ k' < k)
theorem Done.step {f : PFunc} {i k : Nat} {b : PBlock} {z : PInst} (h1 : f.blocks[i]? = some b) (h2 : b.insts[k]? = some z) (v : Int) : Done f i (k + 1) v ↔ Done f i k v ∨ (v = z.dst ∧ chkX f z i k = true) := by
 constructor
 ·rintro ⟨i', k', b', z', g1, g2, g3, g4, g5⟩
  by_cases e : i' = i ∧ k' = k
  ·obtain ⟨rfl, rfl⟩ := e
   rw [h1] at g1; cases g1
   rw [h2] at g2; cases g2
   exact .inr ⟨g3.symm, g4⟩
  ·exact .inl ⟨i', k', b', z', g1, g2, g3, g4, by omega⟩
 ·rintro (⟨i', k', b', z', g1, g2, g3, g4, g5⟩ | ⟨rfl, h⟩)
  ·exact ⟨i', k', b', z', g1, g2, g3, g4, by omega⟩
  ·exact ⟨i, k, b, z, h1, h2, rfl, h, .inr ⟨rfl, by omega⟩⟩
theorem Done.next {f : PFunc} {i : Nat} {b : PBlock} (h1 : f.blocks[i]? = some b) (v : Int) : Done f (i + 1) 0 v ↔ Done f i b.insts.length v := by
 constructor
 ·rintro ⟨i', k', b', z', g1, g2, g3, g4, g5⟩
  refine ⟨i', k', b', z', g1, g2, g3, g4, ?_⟩
  by_cases e : i' = i
  ·subst e
   rw [h1] at g1; cases g1
   exact .inr ⟨rfl, (List.getElem?_eq_some_iff.1 g2).1⟩
  ·exact .inl (by omega)
 ·rintro ⟨i', k', b', z', g1, g2, g3, g4, g5⟩
  exact ⟨i', k', b', z', g1, g2, g3, g4, .inl (by omega)⟩
theorem Done.zero (f : PFunc) (v : Int) : ¬ Done f 0 0 v := by
 rintro ⟨i', k', b', z', g1, g2, g3, g4, g5⟩; omega
theorem Done.all {f : PFunc} (ho : OnceP f) {v : Nat} (hv : v < f.vars.length) : Done f f.blocks.length 0 v ↔ chkV f v = true := by
 constructor
 ·rintro ⟨i', k', b', z', g1, g2, g3, g4, g5⟩
  have hm : ((i' : Int), (k' : Int)) ∈ makings f v := mem_makings.2 ⟨i', b', g1, mem_mkBlk.2 (.inr ⟨k', z', g2, g3, rfl⟩)⟩
  have := maker_eq (ho v hv).1 hm
  rw [chkV_at g1 g2 this]; exact g4
 ·intro h
  by_cases h0 : 0 ≤ (makerT f v).1
  ·obtain ⟨i, b, h1, ⟨p, h2, h3, h4⟩ | ⟨k, x, h2, h3, h4⟩⟩ := maker_cases h0
   ·unfold chkV instAt at h
    rw [h4, if_neg (by dsimp only; omega)] at h
    cases h
   ·rw [chkV_at h1 h2 h4] at h
    exact ⟨i, k, b, x, h1, h2, h3, h, .inl (List.getElem?_eq_some_iff.1 h1).1⟩
  ·unfold chkV instAt at h
   rw [if_neg (fun hh => h0 hh.1)] at h
   cases h
def chkL (f : PFunc) : List Bool := (List.range f.vars.length).map fun (v : Nat) => chkV f v
theorem chkL_len (f : PFunc) : (chkL f).length = f.vars.length := by simp [chkL]
theorem chkL_gb {f : PFunc} {v : Int} (h0 : 0 ≤ v) (h : v < f.vars.length) : gb (chkL f) v = chkV f v := by
 obtain ⟨k, rfl⟩ : ∃ k : Nat, v = (k : Int) := ⟨v.toNat, by omega⟩
 rw [gb_nat]
 unfold chkL
 rw [qp, List.getElem?_range (by omega)]; rfl
theorem chkL_eq {f : PFunc} (ho : OnceP f) {L : List Bool} (hl : L.length = f.vars.length) (h : ∀ v : Nat, v < f.vars.length → (gb L v = true ↔ Done f f.blocks.length 0 v)) : L = chkL f := by
 apply List.ext_getElem?
 intro v
 by_cases hv : v < f.vars.length
 ·have h1 := h v hv
  rw [Done.all ho hv] at h1
  unfold chkL
  rw [qp, List.getElem?_range hv, gb_some (out := L) (by omega)]
  simp only [Option.map_some]
  rw [Bool.eq_iff_iff.2 h1]
 ·rw [List.getElem?_eq_none (by omega), List.getElem?_eq_none (by rw [chkL_len]; omega)]
theorem gb_set2 {L : List Bool} {d v : Nat} (hd : d < L.length) : gb (L.set d true) v = true ↔ v = d ∨ gb L v = true := by
 rw [gb_nat, gb_nat, List.getElem?_set]
 by_cases e : d = v
 ·subst e; rw [if_pos rfl, if_pos hd]; simp
 ·rw [if_neg e]
  constructor
  ·exact .inr
  ·rintro (h | h)
   ·exact absurd h.symm e
   ·exact h
end Go.Proofs.YtjnpcfpecilejaaGreatDoor
