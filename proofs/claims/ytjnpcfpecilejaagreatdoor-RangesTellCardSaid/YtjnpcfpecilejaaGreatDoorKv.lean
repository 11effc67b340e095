/- The rounds of ranges stop soon. Plain law. No conditions but int64s. -/
import Derived.Test.YtjnpcfpecilejaaGreatDoorKu
set_option linter.unusedVariables false
set_option linter.unusedSimpArgs false
set_option linter.unusedSectionVars false
namespace Go.Proofs.YtjnpcfpecilejaaGreatDoor
open Go.Proofs.Tryz
open Go.Proofs Go.Lib Go.Shelf Go.RowKit
variable {E : World}
set_option maxRecDepth 20000
theorem ACall.now {P : Program} {E : World} {f : FuncId} {ars : List AV} {O O0 : OL} {x : AV} (h : ACall P E f ars O fun y O' => y = x ∧ Left O' O0) : ACall P E f ars O fun y O' => y = x ∧ O' = O0 :=
 (ACall.exact (γ := Unit) (x := fun _ => x) (M := fun _ => O0) (p := fun _ => True) (h.mono fun _ _ h => ⟨(), h.1, h.2, trivial⟩)).mono fun _ _ ⟨_, h1, h2, _⟩ => ⟨h1, h2⟩
theorem made_of {f : PFunc} (hF : RuleF f) : MadeF f := by
 rintro ⟨v, p⟩ hq
 obtain ⟨b, hb, hc⟩ := mem_madeL.1 hq
 obtain ⟨i, hi⟩ := List.mem_iff_getElem?.1 hb
 obtain ⟨hPh, hIn, _⟩ := hF.shaped.2.2.2.2.2 b hb
 dsimp only
 rcases hc with ⟨rfl, q, hqb, rfl⟩ | ⟨rfl, h0, x, hx, rfl⟩
 ·obtain ⟨h0, h1⟩ := hasV_rng (hPh q hqb).1
  have hm : ((i : Int), (-1 : Int)) ∈ makings f q.dst := mem_makings.2 ⟨i, b, hi, mem_mkBlk.2 (.inl ⟨q, hqb, rfl, rfl⟩)⟩
  have ho := (hF.once q.dst.toNat (by omega)).1
  rw [Int.toNat_of_nonneg h0] at ho
  rw [maker_eq ho hm]
  exact ⟨h0, h1, by dsimp only; omega, by simp⟩
 ·have h1 : x.dst < f.vars.length := by
   rcases (instP_F (hIn x hx)).dst with ⟨_, h⟩ | ⟨_, _, h⟩
   ·omega
   ·exact (hasV_rng h).2
  obtain ⟨k, hk⟩ := List.mem_iff_getElem?.1 hx
  have hm : ((i : Int), (k : Int)) ∈ makings f x.dst := mem_makings.2 ⟨i, b, hi, mem_mkBlk.2 (.inr ⟨k, x, hk, rfl, rfl⟩)⟩
  have ho := (hF.once x.dst.toNat (by omega)).1
  rw [Int.toNat_of_nonneg h0] at ho
  rw [maker_eq ho hm]
  exact ⟨h0, h1, by dsimp only; omega, by dsimp only; constructor; (intro h; cases h); (intro h; omega)⟩
theorem ruleF_ok {f : PFunc} (hF : RuleF f) (hN : ∀ b ∈ f.blocks, ∀ x ∈ b.insts, is64 x.num) : RuleOk f where
 args := fun b hb x hx v hv => (hasV_rng ((instP_F ((hF.shaped.2.2.2.2.2 b hb).2.1 x hx)).args v hv)).1
 pargs := fun b hb p hp v hv => by
  obtain ⟨_, _, _, hpa, _⟩ := (hF.shaped.2.2.2.2.2 b hb).1 p hp
  exact (hasV_rng (List.all_eq_true.1 hpa v hv)).1
 bool := hF.bool
 two := fun b hb x hx => by
  have := (instP_F ((hF.shaped.2.2.2.2.2 b hb).2.1 x hx)).len
  constructor
  ·intro h; rw [this, h, takes_10]; decide
  ·intro h; rw [this, h, takes_11]; decide
 num := hN
theorem view_lend {I J : G} {i m : Nat} {X : AV} (hle : I.le J) (hv : ∀ v, RepV I (.own i m) v → RepV J X v) (f : PFunc) (chk : List Bool) {v : Value} (h : RepV I (viewV f chk (.own i m)) v) : RepV J (viewV f chk X) v := by
 obtain ⟨b, off, vs, e, ⟨v1, _, rfl, r1, v2, _, rfl, r2, v3, _, rfl, r3, v4, _, rfl, r4, v5, _, rfl, r5, v6, _, rfl, r6, rfl⟩, h2⟩ := h
 exact ⟨b, off, _, e, ⟨v1, _, rfl, r1.mono hle, v2, _, rfl, r2.mono hle, v3, _, rfl, r3.mono hle, v4, _, rfl, r4.mono hle, v5, _, rfl, r5.mono hle, v6, _, rfl, hv _ r6, rfl⟩, fun j u hj => (h2 j u hj).mono hle.k⟩
theorem vnext_fro (f : PFunc) (hF : RuleF f) (l : List Rng) (hl : okL64 f.vars.length l) (v : Nat) (hv : v < f.vars.length) (hm : 0 ≤ (makerT f v).1) (phi : Bool) (how : Int) :
  AFun prog E 159 [viewV f (chkL f) (.fro 2 (l.map encZ)), .int .i64 v, .bool phi, .int .i64 how] (.agg (encZ (nextR f l v phi how))) := by
 have hS := hF.shaped
 have hvr := ACall.ofEmpty (vrule_spec (E := E) f hF l (chkL f) (chkL_len f) (.fro 2 (l.map encZ)) (i := 0) (HL := emptyO) (fun ha => of_fro f hS (chkL f) l hl.1 0 emptyO ha) hl.2 v hv hm)
 rw [rule_chk hS hv hm hF.once] at hvr
 have hll := hl.1
 have hty : tyV f v = f.vars[v].ty := by unfold tyV; rw [show ((v : Int).toNat) = v from rfl, qh hv]; rfl
 have hlv : l[v]? = some (lv l v) := lv_get (l := l) (a := (v : Int)) (by omega)
 refine zn func159 rfl (by decide) rfl<|zSr<|zo (cs := [.int .i64 0, .int .i64 0]) zeroValue74 rfl rfl<|fun i8 => z6<|za<|yb (γ := Nat × Nat) [0, 1, 2, 3, 8] (fun z => [(9, .po z.1 0), (10, .po z.2 0)]) (fun z => [(z.1, .cells 74 (encZ (lv l v))), (z.2, .cells 74 (encZ (rF f l v))), (i8, .cells 74 [.int .i64 0, .int .i64 0])]) (fun z => True) ?_ (fun _ _ h => h) ?_
 ·refine zt (fun j => false) (by kernel_rfl) rfl (zp (.rest _))<|zTk 0 rfl (zMg rfl)<|zTk 1 rfl (yv rfl)<|zTk 2 rfl (zFF underlying125 rfl sizeOf41 rfl rfl)<|zTk 3 rfl (zLf isAgg41 rfl)<|zTk 4 rfl (zMi rfl)<|zTk 5 rfl (zIM v underlying41 sizeOf74 rfl rfl rfl hlv)<|zTk 6 rfl (zh isAgg74 sizeOf74 rfl rfl)<|zTk 7 rfl (zMg rfl)<|zTk 8 rfl (zMi rfl)<|q9 (i := 9) (j := 10) (m := 11) rfl rfl rfl (by kernel_rfl) ?_ ?_ ?_
  ·refine zb (hvr) rfl<|z6<|yc (i := 10) (j := 11) rfl rfl (by kernel_rfl) ?_ ?_
   ·refine zo (cs := [.int .i64 0, .int .i64 0]) zeroValue74 rfl rfl<|fun i9 => z6<|zOn 11 rfl<|zo (cs := [.int .i64 0, .int .i64 0]) zeroValue74 rfl rfl<|fun i10 => z6<|zOn 12 rfl<|zc sizeOf74 rfl rfl rfl rfl rfl rfl .t1 rfl<|z6<|zOn 13 rfl<|zc sizeOf74 rfl rfl rfl rfl rfl rfl .head rfl<|zg (ze (zj .t2))<|zg (ze (zj .t1))<|zg (ze (zj .t2))<|z6<|zDn ?_
    exact ⟨(i9, i10), zR5, zR2, zLe, trivial⟩
   ·refine zo (cs := [.int .i64 0, .int .i64 0]) zeroValue74 rfl rfl<|fun i10 => z6<|zOn 10 rfl<|zo (cs := [.int .i64 0, .int .i64 0]) zeroValue74 rfl rfl<|fun i9 => z6<|zOn 12 rfl<|zc sizeOf74 rfl rfl rfl rfl rfl rfl .head rfl<|z6<|zOn 13 rfl<|zc sizeOf74 rfl rfl rfl rfl rfl rfl .t1 rfl<|z6<|zDn ?_
    exact ⟨(i9, i10), zR5, zR2, zLe, trivial⟩
  ·refine zo (cs := [.int .i64 0, .int .i64 0]) zeroValue74 rfl rfl<|fun i9 => z6<|yc (i := 9) (j := 11) rfl rfl (by kernel_rfl) ?_ ?_
   ·refine zb (hvr) rfl<|z6<|zOn 11 rfl<|zo (cs := [.int .i64 0, .int .i64 0]) zeroValue74 rfl rfl<|fun i10 => z6<|zOn 12 rfl<|zc sizeOf74 rfl rfl rfl rfl rfl rfl .t1 rfl<|z6<|zOn 13 rfl<|zc sizeOf74 rfl rfl rfl rfl rfl rfl .head rfl<|zg (ze (zj .t2))<|zg (ze (zj .t1))<|zg (ze (zj .t2))<|z6<|zDn ?_
    exact ⟨(i9, i10), zR5, zR2, zLe, trivial⟩
   ·refine zo (cs := [.int .i64 0, .int .i64 0]) zeroValue74 rfl rfl<|fun i10 => z6<|zOn 9 rfl<|zb (hvr) rfl<|z6<|zOn 12 rfl<|zc sizeOf74 rfl rfl rfl rfl rfl rfl .t1 rfl<|z6<|zOn 13 rfl<|zc sizeOf74 rfl rfl rfl rfl rfl rfl .head rfl<|zg (ze (zj .t2))<|zg (ze (zj .t1))<|zg (ze (zj .t2))<|z6<|zDn ?_
    exact ⟨(i9, i10), zR5, zR2, zLe, trivial⟩
  ·refine zo (cs := [.int .i64 0, .int .i64 0]) zeroValue74 rfl rfl<|fun i10 => z6<|yc (i := 9) (j := 10) rfl rfl (by kernel_rfl) ?_ ?_
   ·refine zb (hvr) rfl<|z6<|zOn 10 rfl<|zo (cs := [.int .i64 0, .int .i64 0]) zeroValue74 rfl rfl<|fun i9 => z6<|zOn 12 rfl<|zc sizeOf74 rfl rfl rfl rfl rfl rfl .head rfl<|z6<|zOn 13 rfl<|zc sizeOf74 rfl rfl rfl rfl rfl rfl .t1 rfl<|z6<|zDn ?_
    exact ⟨(i9, i10), zR5, zR2, zLe, trivial⟩
   ·refine zo (cs := [.int .i64 0, .int .i64 0]) zeroValue74 rfl rfl<|fun i9 => z6<|zOn 9 rfl<|zb (hvr) rfl<|z6<|zOn 12 rfl<|zc sizeOf74 rfl rfl rfl rfl rfl rfl .head rfl<|z6<|zOn 13 rfl<|zc sizeOf74 rfl rfl rfl rfl rfl rfl .t1 rfl<|z6<|zDn ?_
    exact ⟨(i9, i10), zR5, zR2, zLe, trivial⟩
 ·rintro ⟨i9, i10⟩ _
  refine za<|zi<|zSr<|z2 (zMi rfl)<|z2 (zw rfl rfl)<|z2 (zAb rfl)<|z6<|zl rfl (fun c2=>?_) (fun c2=>?_)
  ·refine zSr<|z2 (yp isAgg74 sizeOf74 rfl ⟨_, .head⟩ rfl)<|z2 (yp isAgg74 sizeOf74 rfl ⟨_, .t1⟩ rfl)<|zb (iMeet _ _) rfl<|zc sizeOf74 rfl rfl rfl rfl rfl rfl .t2 rfl<|z6<|zd<|y8 rfl ⟨_, .t2⟩ isAgg74 sizeOf74 rfl ?_
   rw [nextR, if_pos c2]; rfl
  ·refine za<|yb (γ := Bool) [0, 1, 8, 9, 10] (fun u => [(27, .bool u)]) (fun u => [(i9, .cells 74 (encZ (lv l v))), (i10, .cells 74 (encZ (rF f l v))), (i8, .cells 74 [.int .i64 0, .int .i64 0])]) (fun u => u = decide (how = 1 ∧ phi = true)) ?_ (fun _ _ h => h) ?_
   ·refine zRg<|z2 (zMi rfl)<|z2 (zw rfl rfl)<|z2 (zMb rfl)<|zr (s := 30) rfl (fun c1=>?_) (fun c1=>?_)
    ·refine z8 rfl rfl c1<|z2 (zMb rfl)<|z2 (zPt rfl c1 rfl)<|z2 (zAb rfl)<|z6 ?_
     exact ⟨_, zR5, zR1, zLe, by simp_all⟩
    ·refine z7 rfl rfl c1<|z2 (zPf rfl c1 rfl)<|z2 (zAb rfl)<|z6 ?_
     exact ⟨_, zR5, zR1, zLe, by simp_all⟩
   ·rintro u hu
    subst hu
    refine zl rfl (fun c1=>?_) (fun c1=>?_)
    ·refine za<|zt (fun j => Nat.beq j 12) (by kernel_rfl) rfl (zp (.r (.r (.rest _))))<|zTk 0 rfl (zMg rfl)<|zTk 1 rfl (yv rfl)<|zTk 2 rfl (zFF underlying125 rfl sizeOf26 rfl rfl)<|zTk 3 rfl (zFF underlying26 rfl sizeOf22 rfl rfl)<|zTk 4 rfl (zLf isAgg22 rfl)<|zTk 5 rfl (zMi rfl)<|zTk 6 rfl (zIM v underlying22 sizeOf56 rfl rfl rfl (qh hv))<|zTk 7 rfl (zFF underlying56 rfl sizeOf54 rfl rfl)<|zTk 8 rfl (zLi isAgg54 rfl)<|zTk 9 rfl (yp isAgg74 sizeOf74 rfl ⟨_, .head⟩ rfl)<|zTk 10 rfl (yp isAgg74 sizeOf74 rfl ⟨_, .t1⟩ rfl)<|zOn 11 rfl<|zb (iWiden f.vars[v].ty (lv l v) (rF f l v)) rfl<|z6<|yf<|yl (i := 12) rfl (by kernel_rfl) (by kernel_rfl)<|zc sizeOf74 rfl rfl rfl rfl rfl rfl .t2 rfl<|z6<|yh (by kernel_rfl)<|zd<|y8 rfl ⟨_, .t2⟩ isAgg74 sizeOf74 rfl ?_
     rw [nextR, if_neg c2, if_pos c1, hty]; rfl
    ·refine zf<|zSr<|z2 (yp isAgg74 sizeOf74 rfl ⟨_, .head⟩ rfl)<|z2 (yp isAgg74 sizeOf74 rfl ⟨_, .t1⟩ rfl)<|zb (iJoin _ _) rfl<|zc sizeOf74 rfl rfl rfl rfl rfl rfl .t2 rfl<|z6<|zd<|y8 rfl ⟨_, .t2⟩ isAgg74 sizeOf74 rfl ?_
     rw [nextR, if_neg c2, if_neg c1]; rfl
theorem vnext_spec (f : PFunc) (hF : RuleF f) (l : List Rng) (hl : okL64 f.vars.length l) (i : Nat) (T : TypeId) (v : Nat) (hv : v < f.vars.length) (hm : 0 ≤ (makerT f v).1) (phi : Bool) (how : Int) :
  ACall prog E 159 [viewV f (chkL f) (.own i f.vars.length), .int .i64 v, .bool phi, .int .i64 how] [(i, .grow 2 T (lC l))] (sameO i (.grow 2 T (lC l)) (.agg (encZ (nextR f l v phi how)))) := by
 rw [← lC_flat]
 refine ACall.lend (m := f.vars.length) (fun r hr => by obtain ⟨z, _, rfl⟩ := List.mem_map.1 hr; rfl) (by decide) (by rw [qo]; exact hl.1) (fun I J hle hv vs h => ?_) (fun I J v h => encZ_any h) (vnext_fro f hF l hl v hv hm phi how)
 obtain ⟨v1, us, rfl, r1, r2⟩ := h
 exact ⟨v1, us, rfl, view_lend hle hv f (chkL f) r1, r2.mono hle⟩
theorem vput_spec (f : PFunc) (hF : RuleF f) (l : List Rng) (hl : okL64 f.vars.length l) (i : Nat) (T : TypeId) (v : Nat) (hv : v < f.vars.length) (hm : 0 ≤ (makerT f v).1) (phi : Bool) (how : Int) :
  ACall prog E 113 [viewV f (chkL f) (.own i f.vars.length), .int .i64 v, .bool phi, .int .i64 how] [(i, .grow 2 T (lC l))]
   (sameO i (.grow 2 T (lC (l.set v (nextR f l v phi how)))) (.bool (!decide (nextR f l v phi how = lv l v)))) := by
 obtain ⟨r, hr⟩ : ∃ r, nextR f l v phi how = r := ⟨_, rfl⟩
 have hnx := vnext_spec (E := E) f hF l hl i T v hv hm phi how
 rw [hr] at hnx ⊢
 have hll := hl.1
 have hlv : l[v]? = some (lv l v) := lv_get (l := l) (a := (v : Int)) (by omega)
 refine ACall.now<|zn func113 rfl (by decide) rfl<|zSr<|z2 (zAb rfl)<|z6<|zSr<|z2 (zMg rfl)<|z2 (zMi rfl)<|z2 (zMb rfl)<|z2 (zMi rfl)<|y5 rfl (zp (.l (.rest _))) (hnx) ?_
 rintro r15 O15 ⟨rfl, rfl⟩
 refine zo (cs := [.int .i64 0, .int .i64 0]) zeroValue74 rfl rfl<|fun i9 => zc sizeOf74 rfl rfl rfl rfl rfl rfl .head rfl<|z6<|za<|zt (fun j => false) (by kernel_rfl) rfl (zp (.r (.r (.rest _))))<|zTk 0 rfl (yp isAgg74 sizeOf74 rfl ⟨_, .head⟩ rfl)<|zTk 1 rfl (zMg rfl)<|zTk 2 rfl (yv rfl)<|zTk 3 rfl (zFF underlying125 rfl sizeOf41 rfl rfl)<|zTk 4 rfl (yz (c := .own _ _) isAgg41 rfl)<|zTk 5 rfl (zMi rfl)<|zTk 6 rfl (qd (j := v) underlying41 sizeOf74 rfl rfl rfl ⟨_, .t1⟩ hll hv)<|zTk 7 rfl (qc (j := v) isAgg74 sizeOf74 rfl ⟨_, .t1⟩ hlv)<|zTk 8 rfl (Gv.eqlP (xs := [.int _ _, .int _ _]) (ys := [.int _ _, .int _ _]) (by kernel_rfl) rfl rfl (fun w => eq_range _ _ _ _ w))<|zTk 9 rfl (zAb rfl)<|zDn<|za<|zt (fun j => Nat.beq j 7) (by kernel_rfl) rfl (zp (.r (.r (.rest _))))<|zTk 0 rfl (zMg rfl)<|zTk 1 rfl (yv rfl)<|zTk 2 rfl (zFF underlying125 rfl sizeOf41 rfl rfl)<|zTk 3 rfl (yz (c := .own _ _) isAgg41 rfl)<|zTk 4 rfl (zMi rfl)<|zTk 5 rfl (yp isAgg74 sizeOf74 rfl ⟨_, .head⟩ rfl)<|zTk 6 rfl (qd (j := v) underlying41 sizeOf74 rfl rfl rfl ⟨_, .t1⟩ hll hv)<|yf<|yl (i := 7) rfl (by kernel_rfl) (by kernel_rfl)<|AOps.storeR (j := v) sizeOf74 rfl rfl .t1 (by rw [hll]; exact hv)<|z6<|yh (by kernel_rfl)<|zSr<|z2 (zMb rfl)<|z2 (yg rfl)<|z2 (zAb rfl)<|z6<|zd<|zm (x := .bool _) rfl ?_
 exact ⟨by rw [rng_eq], .d1⟩
end Go.Proofs.YtjnpcfpecilejaaGreatDoor
namespace Go.Proofs.YtjnpcfpecilejaaGreatDoor
open Go.Proofs.Tryz
open Go.Proofs Go.Lib Go.Shelf Go.RowKit
theorem ps41_1 : PlacesS prog 41 74 1 2 [.int .i64 0, .int .i64 0] := ⟨_, underlying41, sizeOf74, zeroValue74, by decide, by decide, by kernel_rfl⟩
variable {E : World}
set_option maxRecDepth 20000
theorem vputQ_spec (f : PFunc) (hF : RuleF f) (s : List Rng × Bool) (hl : okL64 f.vars.length s.1) (i : Nat) (T : TypeId) (q : Int × Bool) (hq : q ∈ madeL f) (how : Int) :
  ACall prog E 113 [viewV f (chkL f) (.own i f.vars.length), .int .i64 q.1, .bool q.2, .int .i64 how] [(i, .grow 2 T (lC s.1))]
   (sameO i (.grow 2 T (lC (putS f how s q).1)) (.bool (!decide (nextR f s.1 q.1 q.2 how = lv s.1 q.1)))) := by
 obtain ⟨h0, h1, h2, _⟩ := made_of hF q hq
 have hvv : ((q.1.toNat : Nat) : Int) = q.1 := Int.toNat_of_nonneg h0
 have := vput_spec (E := E) f hF s.1 hl i T q.1.toNat (by omega) (by rw [hvv]; exact h2) q.2 how
 rw [hvv] at this
 exact this
theorem made_phi {f : PFunc} {b : PBlock} (hb : b ∈ f.blocks) {p : PPhi} (hp : p ∈ b.phis) : (p.dst, true) ∈ madeL f := mem_madeL.2 ⟨b, hb, .inl ⟨rfl, p, hp, rfl⟩⟩
theorem made_inst {f : PFunc} {b : PBlock} (hb : b ∈ f.blocks) {x : PInst} (hx : x ∈ b.insts) (h0 : 0 ≤ x.dst) : (x.dst, false) ∈ madeL f := mem_madeL.2 ⟨b, hb, .inr ⟨rfl, h0, x, hx, rfl⟩⟩
theorem put_ok {f : PFunc} (hR : Rules f.vars.length (rF f) (madeV f)) (how : Int) {s : List Rng × Bool} (h : okL64 f.vars.length s.1) {q : Int × Bool} (hq : q ∈ madeL f) : okL64 f.vars.length (putS f how s q).1 :=
 rnd_ok hR how [q] s (fun x hx => by rw [List.mem_singleton.1 hx]; exact hq) h
set_option maxHeartbeats 4000000 in
theorem vround_spec (f : PFunc) (hF : RuleF f) (hR : Rules f.vars.length (rF f) (madeV f)) (l0 : List Rng) (hl0 : okL64 f.vars.length l0) (i : Nat) (T : TypeId) (how : Int) :
  ACall prog E 69 [viewV f (chkL f) (.own i f.vars.length), .int .i64 how] [(i, .grow 2 T (lC l0))]
   (sameO i (.grow 2 T (lC (rndS f how (madeL f) (l0, false)).1)) (.bool (rndS f how (madeL f) (l0, false)).2)) := by
 have hf := hF.small
 have hn := hf.2.2.1
 obtain ⟨z, hz⟩ : ∃ z, rndS f how (madeL f) (l0, false) = z := ⟨_, rfl⟩
 rw [hz]
 refine ACall.now<|zn func69 rfl (by decide) rfl<|zSr<|z2 (zAb rfl)<|z6<|zSr<|z2 (zAb rfl)<|z6<|za<|zSr<|z2 (zMg rfl)<|z2 (yv rfl)<|z2 (zFF underlying125 rfl sizeOf26 rfl rfl)<|z2 (zFF underlying26 rfl sizeOf24 rfl rfl)<|z2 (zLf isAgg24 rfl)<|z2 (zz underlying24 rfl)<|z2 (zMi rfl)<|z6<|zi<|y6 (γ := Nat × List Rng × Bool) [0, 1, 16, 17] (fun g => [(18, .int .i64 g.1), (5, .bool g.2.2)]) (fun g => [(i, .grow 2 T (lC g.2.1))]) (fun g => g.1 ≤ f.blocks.length ∧ g.2 = rndS f how (madeTo f g.1) (l0, false) ∧ okL64 f.vars.length g.2.1) (fun g => f.blocks.length - g.1) (0, l0, false) zR2 zLe (⟨qk _, rfl, hl0⟩) ?_
 rintro ⟨k, l, c⟩ ⟨hk, hs, hl⟩
 try dsimp only at *
 refine zSr<|z2 (y7 rfl rfl)<|z6<|za<|zl rfl (fun ck=>?_) (fun ck=>?_)
 ·have hk2 : k < f.blocks.length := by simp at ck; omega
  obtain ⟨b, hbk⟩ : ∃ b, f.blocks[k] = b := ⟨_, rfl⟩
  have hget : f.blocks[k]? = some b := by rw [qh hk2, hbk]
  have hmem : b ∈ f.blocks := hbk ▸ ql hk2
  obtain ⟨hb0, hb1, hb2, hb3, hb4⟩ := hf.2.2.2.2 b hmem
  refine zf<|za<|zi<|zSr<|z2 (zIM k underlying24 sizeOf66 rfl rfl rfl hget)<|z2 (zh isAgg66 sizeOf66 rfl rfl)<|zo (cs := [.str ⟨#[]⟩, .raw (.slice none 0 0), .raw (.slice none 0 0), .int .i64 0, .int .i64 0, .int .i64 0, .int .i64 0]) zeroValue66 rfl rfl<|fun i7 => zc sizeOf66 rfl rfl rfl rfl rfl rfl .head rfl<|zg (ya (t := 7) rfl .head)<|z6<|za<|zSr<|z2 (zFF underlying66 rfl sizeOf59 rfl rfl)<|z2 (zLf isAgg59 rfl)<|z2 (zz underlying59 rfl)<|z2 (zMi rfl)<|z6<|zi<|y6 (γ := Nat × List Rng × Bool) [0, 1, 7, 16, 17, 18, 23, 24] (fun g => [(25, .int .i64 g.1), (5, .bool g.2.2)]) (fun g => [(i, .grow 2 T (lC g.2.1))]) (fun g => g.1 ≤ b.phis.length ∧ g.2 = rndS f how (madeTo f k ++ (b.phis.take g.1).map fun p => ((p.dst, true) : Int × Bool)) (l0, false) ∧ okL64 f.vars.length g.2.1) (fun g => b.phis.length - g.1) (0, l, c) zR2 zLe (⟨qk _, by rw [List.take_zero, List.map_nil, List.append_nil]; exact hs, hl⟩) ?_
  rintro ⟨j, l, c⟩ ⟨hj, hs, hl⟩
  try dsimp only at *
  refine zSr<|z2 (y7 rfl rfl)<|z6<|za<|zl rfl (fun cj=>?_) (fun cj=>?_)
  ·have hj2 : j < b.phis.length := by simp at cj; omega
   obtain ⟨p, hp⟩ : ∃ p, b.phis[j] = p := ⟨_, rfl⟩
   have hq := made_phi hmem (hp ▸ ql hj2)
   refine zf<|za<|zi<|zSr<|z2 (zIM j underlying59 sizeOf95 rfl rfl rfl (by rw [qh hj2, hp]))<|z2 (zh isAgg95 sizeOf95 rfl rfl)<|zo (cs := [.int .i64 0, .raw (.slice none 0 0), .raw (.slice none 0 0)]) zeroValue95 rfl rfl<|fun i9 => zc sizeOf95 rfl rfl rfl rfl rfl rfl .head rfl<|zg (ya (t := 9) rfl .head)<|z6<|yb (γ := Bool) [0, 1, 7, 16, 17, 18, 23, 24, 25] (fun u => [(5, .bool u)]) (fun u => [(i, .grow 2 T (lC (putS f how (l, c) (p.dst, true)).1))]) (fun u => u = (putS f how (l, c) (p.dst, true)).2) ?_ (fun _ _ h => h) ?_
   ·refine zRg<|z2 (zMg rfl)<|z2 (zFF underlying95 rfl sizeOf3 rfl rfl)<|z2 (zLi isAgg3 rfl)<|z2 (zMi rfl)<|y5 rfl (zp (.l (.rest _))) (vputQ_spec f hF (l, c) hl i T (p.dst, true) hq how) ?_
    rintro r33 O33 ⟨rfl, rfl⟩
    refine z2 (zMb rfl)<|zr (s := 34) rfl (fun c1=>?_) (fun c1=>?_)
    ·refine z7 rfl rfl c1<|z2 (zPt rfl c1 rfl)<|z2 (zAb rfl)<|z6 ?_
     exact ⟨_, zR9, zR1, zLe, by unfold putS; simp_all⟩
    ·refine z8 rfl rfl c1<|z2 (zMb rfl)<|z2 (zPf rfl c1 rfl)<|z2 (zAb rfl)<|z6 ?_
     exact ⟨_, zR9, zR1, zLe, by unfold putS; simp_all⟩
   ·rintro u hu
    subst hu
    refine zRg<|z2 (zAd rfl rfl)<|z2 (zMi rfl)<|z6 ?_
    exact ⟨(j + 1, putS f how (l, c) (p.dst, true)), zR8, zR2, zLe, ⟨hj2, by rw [madePh_succ hj2, ← qj, rndS_snoc, ← hs, hp], put_ok hR how hl hq⟩, by dsimp only; omega⟩
  ·have hjn : j = b.phis.length := by simp at cj; omega
   subst hjn
   rw [qm] at hs
   refine y3<|zSr<|z2 (zFF underlying66 rfl sizeOf60 rfl rfl)<|z2 (zLf isAgg60 rfl)<|z2 (zz underlying60 rfl)<|z2 (zMi rfl)<|z6<|zi<|y6 (γ := Nat × List Rng × Bool) [0, 1, 16, 17, 18, 39, 40] (fun g => [(41, .int .i64 g.1), (5, .bool g.2.2)]) (fun g => [(i, .grow 2 T (lC g.2.1))]) (fun g => g.1 ≤ b.insts.length ∧ g.2 = rndS f how (madeTo f k ++ (madePh b ++ madeIn (b.insts.take g.1))) (l0, false) ∧ okL64 f.vars.length g.2.1) (fun g => b.insts.length - g.1) (0, l, c) zR2 zLe (⟨qk _, by rw [List.take_zero, show madeIn [] = [] from rfl, List.append_nil]; exact hs, hl⟩) ?_
   rintro ⟨m, l, c⟩ ⟨hm, hs, hl⟩
   try dsimp only at *
   refine zSr<|z2 (y7 rfl rfl)<|z6<|za<|zl rfl (fun cm=>?_) (fun cm=>?_)
   ·have hm2 : m < b.insts.length := by simp at cm; omega
    obtain ⟨x, hx⟩ : ∃ x, b.insts[m] = x := ⟨_, rfl⟩
    have hsn := madeIn_succ hm2
    rw [hx] at hsn
    refine zf<|za<|zi<|zSr<|z2 (zIM m underlying60 sizeOf33 rfl rfl rfl (by rw [qh hm2, hx]))<|z2 (zh isAgg33 sizeOf33 rfl rfl)<|zo (cs := [.int .i64 0, .int .i64 0, .raw (.slice none 0 0), .int .i64 0]) zeroValue33 rfl rfl<|fun i11 => zc sizeOf33 rfl rfl rfl rfl rfl rfl .head rfl<|zg (ya (t := 11) rfl .head)<|z6<|zSr<|z2 (zFF underlying33 rfl sizeOf3 rfl rfl)<|z2 (zLi isAgg3 rfl)<|z2 (q0 rfl rfl)<|z6<|zl rfl (fun cd=>?_) (fun cd=>?_)
    ·have hq := made_inst hmem (hx ▸ ql hm2) cd
     rw [if_pos cd] at hsn
     refine yb (γ := Bool) [0, 1, 16, 17, 18, 39, 40, 41] (fun u => [(5, .bool u)]) (fun u => [(i, .grow 2 T (lC (putS f how (l, c) (x.dst, false)).1))]) (fun u => u = (putS f how (l, c) (x.dst, false)).2) ?_ (fun _ _ h => h) ?_
     ·refine zRg<|z2 (zMg rfl)<|z2 (zFF underlying33 rfl sizeOf3 rfl rfl)<|z2 (zLi isAgg3 rfl)<|z2 (zMi rfl)<|y5 rfl (zp (.l (.rest _))) (vputQ_spec f hF (l, c) hl i T (x.dst, false) hq how) ?_
      rintro r52 O52 ⟨rfl, rfl⟩
      refine z2 (zMb rfl)<|zr (s := 53) rfl (fun c2=>?_) (fun c2=>?_)
      ·refine z7 rfl rfl c2<|z2 (zPt rfl c2 rfl)<|z2 (zAb rfl)<|z6 ?_
       exact ⟨_, zR8, zR1, zLe, by unfold putS; simp_all⟩
      ·refine z8 rfl rfl c2<|z2 (zMb rfl)<|z2 (zPf rfl c2 rfl)<|z2 (zAb rfl)<|z6 ?_
       exact ⟨_, zR8, zR1, zLe, by unfold putS; simp_all⟩
     ·rintro u hu
      subst hu
      refine zRg<|z2 (zAd rfl rfl)<|z2 (zMi rfl)<|z6 ?_
      exact ⟨(m + 1, putS f how (l, c) (x.dst, false)), zR7, zR2, zLe, ⟨hm2, by rw [hsn, ← qj (madePh b), ← qj, rndS_snoc, ← hs], put_ok hR how hl hq⟩, by dsimp only; omega⟩
    ·rw [if_neg cd, List.append_nil] at hsn
     refine zf<|zRg<|z2 (zAd rfl rfl)<|z2 (zMi rfl)<|z6 ?_
     exact ⟨(m + 1, l, c), zR7, zR2, zLe, ⟨hm2, by rw [hsn]; exact hs, hl⟩, by dsimp only; omega⟩
   ·have hmn : m = b.insts.length := by simp at cm; omega
    subst hmn
    rw [qm] at hs
    refine y3<|zRg<|z2 (zAd rfl rfl)<|z2 (zMi rfl)<|z6 ?_
    exact ⟨(k + 1, l, c), zR4, zR2, zLe, ⟨hk2, by rw [madeTo_succ hk2, hbk]; exact hs, hl⟩, by dsimp only; omega⟩
 ·have hkn : k = f.blocks.length := by simp at ck; omega
  subst hkn
  rw [madeTo_all, hz] at hs
  subst hs
  refine y3<|zSr<|z2 (zMb rfl)<|z2 (zAb rfl)<|z6<|zd<|zm (x := .bool _) rfl ?_
  exact ⟨rfl, _, .refl _, rfl⟩
def narV (f : PFunc) (l : List Rng) : List Rng := (madeV f).foldl (narrow (rF f)) l
def narN (f : PFunc) (l : List Rng) : Nat → List Rng
 | 0 => l
 | m + 1 => narV f (narN f l m)
theorem narN_ok {f : PFunc} (hR : Rules f.vars.length (rF f) (madeV f)) {l : List Rng} (hl : okL64 f.vars.length l) : ∀ m, okL64 f.vars.length (narN f l m)
 | 0 => hl
 | m + 1 => by
  have := rnd_meet hR (madeL f) (narN f l m) false (fun _ h => h) (narN_ok hR hl m)
  rw [this.2] at this
  exact this.1
theorem vround_grow (f : PFunc) (hF : RuleF f) (hR : Rules f.vars.length (rF f) (madeV f)) (k : Nat) (i : Nat) (T : TypeId) :
  ACall prog E 69 [viewV f (chkL f) (.own i f.vars.length), .int .i64 (if 3 ≤ k then 1 else 0)] [(i, .grow 2 T (lC (rndF f k)))] (sameO i (.grow 2 T (lC (rndF f (k + 1)))) (.bool (!decide (rndF f (k + 1) = rndF f k)))) := by
 have hg := rndF_g hR k
 have h := vround_spec (E := E) f hF hR (rndF f k) hg.ok i T (if 3 ≤ k then 1 else 0)
 obtain ⟨_, h2, h3⟩ := rnd_grow hR (made_of hF) (how := if 3 ≤ k then 1 else 0) (n := k + 1) (by unfold hows; by_cases c : 3 ≤ k; rw [if_pos c, if_pos (by omega)]; rw [if_neg c, if_neg (by omega)]) (madeL f) (rndF f k) false (fun _ h => h) hg
 have e : growA (rF f) (widF f (k + 1)) ((madeL f).map (·.1)) (rndF f k) = rndF f (k + 1) := rfl
 rw [e] at h2 h3
 rw [h2] at h
 rw [show (rndS f (if 3 ≤ k then 1 else 0) (madeL f) (rndF f k, false)).2 = !decide (rndF f (k + 1) = rndF f k) by rw [qq, h3]; simp] at h
 exact h
theorem vround_meet (f : PFunc) (hF : RuleF f) (hR : Rules f.vars.length (rF f) (madeV f)) (l : List Rng) (hl : okL64 f.vars.length l) (i : Nat) (T : TypeId) :
  ACall prog E 69 [viewV f (chkL f) (.own i f.vars.length), .int .i64 2] [(i, .grow 2 T (lC l))] (fun y O => ∃ c : Bool, y = .bool c ∧ O = [(i, .grow 2 T (lC (narV f l)))] ∧ True) := by
 have h := vround_spec (E := E) f hF hR l hl i T 2
 have h2 := (rnd_meet hR (madeL f) l false (fun _ h => h) hl).2
 rw [h2] at h
 exact h.mono fun y O ⟨a, b⟩ => ⟨_, a, b, trivial⟩
set_option maxHeartbeats 4000000 in
theorem vOf_ok (f : PFunc) (hf : small f) (hL : Letters E) (hs : (typedB f && singB f) = true) (hR : Rules f.vars.length (rF f) (madeV f)) (K : Nat) (hK : Stops f K) :
  AFun prog E 33 [.agg (encF f)] (.tup [.fro 2 ((endF f K).map encZ), .int .i64 0]) := by
 have hvn := hf.1
 have hF := ruleF_of hf hs
 have hty := (and3 hs).1
 have hlk := look_ok (E := E) f hf hL hs
 have hend : okL64 f.vars.length (endF f K) := (endF_post hR hK).1
 refine zn func33 rfl (by decide) rfl<|zSr<|y1 (cs := _) rfl rfl rfl<|z2 (zAr rfl)<|z2 (zAi rfl)<|z6<|zSr<|z2 (zh isAgg26 sizeOf26 rfl rfl)<|y5 rfl (zp (.rest _)) (hlk) ?_
 rintro r11 O11 ⟨iv, rfl, rfl⟩
 refine z2 (zMu rfl)<|z2 (Gv.extract (v := .po _ _) rfl rfl)<|z2 (zXi rfl rfl)<|z2 (zAp rfl)<|z2 (zAi rfl)<|z6<|za<|zSr<|z2 (zMi rfl)<|z2 (yk rfl rfl)<|z6<|yn rfl rfl<|zf<|za<|zSr<|z2 (zFF underlying26 rfl sizeOf22 rfl rfl)<|z2 (zLf isAgg22 rfl)<|z2 (zz underlying22 rfl)<|z2 (zMi rfl)<|z6<|adoptC_wp (off := 5) (k := 2) (T := 74) (fun _ => .head) rfl<|fun jl => zi<|y6 (γ := Nat × Nat) [1, 4, 19] (fun g => [(20, .int .i64 g.1)]) (fun g => [(g.2, .grow 2 74 (lC ((firstL f).take g.1))), (iv, .cells 125 (viewL f (chkL f) (.own g.2 g.1)))]) (fun g => g.1 ≤ f.vars.length) (fun g => f.vars.length - g.1) (0, jl) zR1 zLe (qk _) ?_
 rintro ⟨k, jl⟩ hk
 try dsimp only at *
 refine zSr<|z2 (y7 rfl rfl)<|z6<|za<|zl rfl (fun ck=>?_) (fun ck=>?_)
 ·have hk2 : k < f.vars.length := by simp at ck; omega
  have hfl : ((firstL f).take k).length = k := by rw [List.length_take, firstL_len]; omega
  have hft := firstL_take hk2
  have hvf := vFirst_spec (E := E) f hf hL (k : Int)
  have hfp : firstP f (k : Int) = firstR f (k : Int) := by unfold firstP; rw [if_pos ⟨hty, by omega, by omega⟩]
  rw [hfp] at hvf
  refine zf<|za<|zi<|zSr<|z2 (zMi rfl)<|z2 (zAi rfl)<|z6<|za<|yb (γ := Nat) [1, 4, 6, 19, 20] (fun z => []) (fun z => [(z, .grow 2 74 (lC ((firstL f).take k ++ [noR]))), (iv, .cells 125 (viewL f (chkL f) (.own z (k + 1))))]) (fun z => True) ?_ (fun _ _ h => h) ?_
  ·refine zt (fun j => Nat.beq j 10) (by kernel_rfl) rfl (zp (.l (.r (.rest _))))<|zTk 0 rfl (zMp rfl)<|zTk 1 rfl (zMp rfl)<|zTk 2 rfl (ym rfl)<|zTk 3 rfl (zq underlying125 rfl sizeOf41 (by decide) rfl rfl)<|zTk 4 rfl (zu (c := .own _ _) isAgg41 rfl ⟨_, .head⟩ rfl)<|zOn 5 rfl<|zb (iNone) rfl<|z6<|zOn 6 rfl<|y4 (rows := [[_, _]]) ps41_1 rfl rfl rfl rfl rfl<|z6<|zOn 7 rfl<|yo (k := 2) underlying41 type74 rfl rfl rfl rfl rfl (fun _ => .head) (by rw [lC_len, hfl]) (by decide) rfl (by show (_ + 1) * 16 ≤ _; omega) (by show _ + 1 ≤ _; omega)<|fun i30 => z6<|AAny.takeK (i := 8) rfl (by kernel_rfl) (by kernel_rfl) (by kernel_rfl) (by kernel_rfl) (ym rfl)<|zTk 9 rfl (zq underlying125 rfl sizeOf41 (by decide) rfl rfl)<|yf<|yl (i := 10) rfl (by kernel_rfl) (by kernel_rfl)<|yu (l := [_]) (new := [_, _, _, _, _, _]) sizeOf41 rfl rfl rfl rfl rfl rfl .head rfl rfl<|zg (ze (zj .head))<|zg (ze (zj .t1))<|z6<|yh (by kernel_rfl) ?_
   exact ⟨i30, zR5, trivial, ⟨_, (.refl _), (by rw [← lC_push]; rfl)⟩, trivial⟩
  ·rintro jz _
   refine zSr<|z2 (zMp rfl)<|z2 (ym rfl)<|z2 (zq underlying125 rfl sizeOf102 (by decide) rfl rfl)<|z2 (zu (c := .fro _ _) isAgg102 rfl ⟨_, .t1⟩ rfl)<|z2 (zMi rfl)<|z2 (zIM k underlying102 sizeOf109 rfl rfl rfl (makersT_get hk2))<|z2 (zFF underlying109 rfl sizeOf3 rfl rfl)<|z2 (zLi isAgg3 rfl)<|z2 (y7 rfl rfl)<|z6<|zl rfl (fun cm=>?_) (fun cm=>?_)
   ·refine zt (fun j => Nat.beq j 9) (by kernel_rfl) rfl (zp (.l (.r (.rest _))))<|zTk 0 rfl (zMp rfl)<|zTk 1 rfl (ym rfl)<|zTk 2 rfl (zq underlying125 rfl sizeOf41 (by decide) rfl rfl)<|zTk 3 rfl (zu (c := .own _ _) isAgg41 rfl ⟨_, .head⟩ rfl)<|zTk 4 rfl (zMi rfl)<|zTk 5 rfl (zh isAgg26 sizeOf26 rfl rfl)<|zTk 6 rfl (zMi rfl)<|zOn 7 rfl<|zb (hvf) rfl<|z6<|zOn 8 rfl<|z2 (qd (j := k) underlying41 sizeOf74 rfl rfl rfl ⟨_, .head⟩ (by rw [qn, hfl]; rfl) (by omega))<|z6<|yf<|yl (i := 9) rfl (by kernel_rfl) (by kernel_rfl)<|AOps.storeR (j := k) sizeOf74 rfl rfl .t1 (by rw [qn, hfl]; show k < k + 1; omega)<|z6<|yh (by kernel_rfl)<|yd (ze (zj .t1))<|zRg<|z2 (zAd rfl rfl)<|z2 (zMi rfl)<|z6 ?_
    exact ⟨(k + 1, jz), zR3, zR1, ⟨_, (.refl _), by rw [hft, show first0R f (k : Int) = firstR f (k : Int) by unfold first0R; rw [if_pos cm], List.set_append_right k (firstR f k) (by omega), hfl, Nat.sub_self]; rfl⟩, hk2, by dsimp only; omega⟩
   ·refine zf<|zRg<|z2 (zAd rfl rfl)<|z2 (zMi rfl)<|z6 ?_
    exact ⟨(k + 1, jz), zR3, zR1, ⟨_, (.refl _), by rw [hft, show first0R f (k : Int) = noR by unfold first0R; rw [if_neg cm]]; try rfl⟩, hk2, by dsimp only; omega⟩
 ·have hkn : k = f.vars.length := by simp at ck; omega
  subst hkn
  rw [show (firstL f).take f.vars.length = firstL f by rw [← firstL_len f, qm]]
  refine y3<|zSr<|z2 (zAi rfl)<|z6<|za<|zSr<|z2 (zAi rfl)<|z6<|yd (ya (t := 4) rfl .t1)<|zi<|y6 (γ := Nat × Int) [4] (fun g => [(7, .int .i64 (if 3 ≤ g.1 then 1 else 0)), (8, .int .i64 g.2)]) (fun g => [(jl, .grow 2 74 (lC (rndF f g.1)))]) (fun g => g.1 ≤ K ∧ (g.1 < 3 → g.2 = (g.1 : Int) + 1)) (fun g => K - g.1) (0, 1) zR2 zLe (⟨qk _, fun _ => rfl⟩) ?_
  rintro ⟨m, z⟩ ⟨hm, hz⟩
  try dsimp only at *
  refine za<|zSr<|z2 (zMg rfl)<|z2 (zMi rfl)<|y5 rfl (zp (.l (.rest _))) (vround_grow f hF hR m jl _) ?_
  rintro r54 O54 ⟨rfl, rfl⟩
  refine z6<|zy rfl (fun cr=>?_) (fun cr=>?_)
  ·have hne : ¬ rndF f (m + 1) = rndF f m := notdecT cr
   have hm2 : m < K := by
    rcases (by omega : m < K ∨ m = K) with h | h
    ·exact h
    ·rw [h] at hne; exact absurd hK.still hne
   refine zf<|za<|yb (γ := Int) [4, 8] (fun w => [(7, .int .i64 w)]) (fun w => [(jl, .grow 2 74 (lC (rndF f (m + 1))))]) (fun w => w = if 3 ≤ m + 1 then 1 else 0) ?_ (fun _ _ h => h) ?_
   ·refine zi<|zSr<|z2 (zMi rfl)<|z2 (q0 rfl rfl)<|z6<|zl rfl (fun c3=>?_) (fun c3=>?_)
    ·refine zRg<|z2 (zAi rfl)<|z6 ?_
     exact ⟨_, zR2, zR1, zLe, by split; rfl; (have := hz (by omega); omega)⟩
    ·refine zf ?_
     exact ⟨_, zR2, zR1, zLe, by by_cases h : 3 ≤ m; rw [if_pos h, if_pos (by omega)]; (have := hz (by omega); rw [if_neg h, if_neg (by omega)])⟩
   ·rintro w hw
    subst hw
    refine zRg<|z2 (zMi rfl)<|z2 (Gv.addW rfl rfl)<|z2 (zAi rfl)<|z6 ?_
    exact ⟨(m + 1, IntKind.i64.wrap (z + 1)), zR1, zR2, zLe, ⟨hm2, fun h => by rw [hz (by omega)]; exact wrap_fit (by unfold is64; omega)⟩, by dsimp only; omega⟩
  ·have hst : rndF f (m + 1) = rndF f m := notdecF cr
   have hmK : m = K := by
    rcases (by omega : m < K ∨ m = K) with h | h
    ·exact absurd hst (hK.moves m h)
    ·exact h
   subst hmK
   rw [hst]
   refine y3<|za<|zSr<|z2 (zMi rfl)<|z6<|zi<|y6 (γ := Nat) [4] (fun q => [(59, .int .i64 q)]) (fun q => [(jl, .grow 2 74 (lC (narN f (rndF f m) q)))]) (fun q => q ≤ 2) (fun q => 2 - q) 0 zR1 zLe (qk _) ?_
   rintro q hq
   refine zSr<|z2 (y7 rfl rfl)<|z6<|za<|zl rfl (fun cq=>?_) (fun cq=>?_)
   ·refine zf<|za<|zi<|zRg<|z2 (zMg rfl)<|y5 rfl (zp (.l (.rest _))) (vround_meet f hF hR (narN f (rndF f m) q) (narN_ok hR (rndF_g hR m).ok q) jl _) ?_
    rintro r62 O62 ⟨c62, rfl, rfl, _⟩
    refine z6<|zRg<|z2 (zAd rfl rfl)<|z2 (zMi rfl)<|z6 ?_
    exact ⟨q + 1, zR1, zR1, zLe, by omega, by omega⟩
   ·obtain rfl : q = 2 := by omega
    refine y3<|zSr<|z2 (zMg rfl)<|z2 (yv rfl)<|z2 (zFF underlying125 rfl sizeOf41 rfl rfl)<|z2 (yz (c := .own _ _) isAgg41 rfl)<|z2 (zAo rfl)<|z2 (zAi rfl)<|z6<|yd (GStep.knowR (t := 2) rfl .head hend.1)<|zd<|qa (x := .fro _ _) (y := .int _ _) rfl rfl ?_
    rfl
end Go.Proofs.YtjnpcfpecilejaaGreatDoor
namespace Go.Proofs.YtjnpcfpecilejaaGreatDoor
open Go.Proofs.Tryz
open Go.Proofs Go.Lib Go.Shelf Go.RowKit
variable {E : World}
set_option maxRecDepth 20000
theorem lv_nat {l : List Rng} {k : Nat} (h : k < l.length) : l[k]? = some (lv l (k : Int)) := by unfold lv; rw [show (k : Int).toNat = k from rfl, qh h]; rfl
end Go.Proofs.YtjnpcfpecilejaaGreatDoor
namespace Go.Proofs.YtjnpcfpecilejaaGreatDoor
open Go.Proofs.Tryz
theorem sub_antisymm {a b : Rng} (ha : nrm a) (hb : nrm b) (h1 : rSub a b) (h2 : rSub b a) : a = b := by
 by_cases c : a.2 < a.1
 ·by_cases d : b.2 < b.1
  ·rw [ha c, hb d]
  ·rcases h2 with h2 | h2
   ·exact absurd h2 d
   ·omega
 ·by_cases d : b.2 < b.1
  ·rcases h1 with h1 | h1
   ·exact absurd h1 c
   ·omega
  ·rcases h1 with h1 | h1
   ·exact absurd h1 c
   ·rcases h2 with h2 | h2
    ·exact absurd h2 d
    ·exact Prod.ext (by omega) (by omega)
theorem join_absorb {a b : Rng} (ha : nrm a) (h : rSub b a) : rJoin a b = a := by
 by_cases c : a.2 < a.1
 ·rcases h with h | h
  ·unfold rJoin rMade; rw [if_pos c, if_pos h, ha c]
  ·unfold rJoin rMade; rw [if_pos c, if_pos (by omega), ha c]
 ·unfold rJoin
  rw [if_neg c]
  split
  ·rfl
  ·rename_i d
   rcases h with h | h
   ·exact absurd h d
   ·unfold imin imax
    rw [if_neg (by omega), if_neg (by omega)]
theorem sub_join {t a b : Rng} (ha : rSub a t) (hb : rSub b t) : rSub (rJoin a b) t := by
 unfold rJoin
 split
 ·unfold rMade
  split
  ·exact .inl (by decide)
  ·exact hb
 ·rename_i c
  split
  ·exact ha
  ·rename_i d
   rcases ha with ha | ha
   ·exact absurd ha c
   ·rcases hb with hb | hb
    ·exact absurd hb d
    ·right; dsimp only; unfold imin imax; constructor <;> split <;> omega
theorem growR_set {n : Nat} {rule : List Rng → Int → Rng} {wid : Int → Option Rng} {vs : List Int} (hR : Rules n rule vs) {l : List Rng} (hl : GOkR n l) {v : Int} (hv : v ∈ vs) {u : Int} (hu : 0 ≤ u) : lv (growS rule wid l v) u = if u = v then growR rule wid l v else lv l u := by
 have hr := hR.rng v hv
 unfold growS
 exact lv_set hr.1 (by rw [hl.ok.1]; omega) _ hu
theorem growA_le {n : Nat} {rule : List Rng → Int → Rng} {wid : Int → Option Rng} {vs : List Int} (hR : Rules n rule vs) (hw : ∀ v t, wid v = some t → ok64 t) : ∀ (us : List Int) (l : List Rng), (∀ u ∈ us, u ∈ vs) → GOkR n l → ∀ u : Int, 0 ≤ u → rSub (lv l u) (lv (growA rule wid us l) u)
 | [], _, _, _, _, _ => rSub.refl _
 | x :: us, l, hs, hl, u, hu => by
  have hx := hs x (.head _)
  have h1 := (growS_ok hR hw hl hx).1
  have h2 := growA_le hR hw us _ (fun y hy => hs y (.tail _ hy)) h1 u hu
  refine rSub.trans ?_ h2
  rw [growR_set hR hl hx hu]
  split
  ·rename_i e; rw [e]; exact growR_l.1
  ·exact rSub.refl _
section
variable {n : Nat} {rule : List Rng → Int → Rng} {vs : List Int} {phi : Int → Prop} {rank : Int → Nat}
def SameR (vs : List Int) (phi : Int → Prop) (rank : Int → Nat) (m : Nat) (l l' : List Rng) : Prop := ∀ u : Int, 0 ≤ u → (u ∉ vs ∨ phi u ∨ rank u < m) → lv l u = lv l' u
def Deps (rule : List Rng → Int → Rng) (vs : List Int) (phi : Int → Prop) (rank : Int → Nat) : Prop := ∀ v ∈ vs, ¬ phi v → ∀ l l', SameR vs phi rank (rank v) l l' → rule l v = rule l' v
def Settled (rule : List Rng → Int → Rng) (vs : List Int) (phi : Int → Prop) (rank : Int → Nat) (m : Nat) (l : List Rng) : Prop := ∀ v ∈ vs, ¬ phi v → rank v < m → rJoin (lv l v) (rule l v) = lv l v
theorem SameR.le {m k : Nat} {l l' : List Rng} (h : SameR vs phi rank m l l') (hk : k ≤ m) : SameR vs phi rank k l l' := fun u hu hc => h u hu (by
 rcases hc with hc | hc | hc
 ·exact .inl hc
 ·exact .inr (.inl hc)
 ·exact .inr (.inr (by omega)))
theorem settle {wid : Int → Option Rng} (hR : Rules n rule vs) (hw : ∀ v t, wid v = some t → ok64 t) (hD : Deps rule vs phi rank) (hnw : ∀ v ∈ vs, ¬ phi v → wid v = none) {l0 : List Rng} {m : Nat} (hg0 : GOkR n l0) (hs0 : Settled rule vs phi rank m l0) :
  ∀ (us : List Int) (l : List Rng), (∀ u ∈ us, u ∈ vs) → GOkR n l → SameR vs phi rank m l l0 → (∀ u : Int, 0 ≤ u → u ∈ vs → phi u → lv (growA rule wid us l) u = lv l0 u) →
   SameR vs phi rank m (growA rule wid us l) l0 ∧ ∀ v ∈ us, ¬ phi v → rank v = m → rSub (rule l0 v) (lv (growA rule wid us l) v)
 | [], _, _, _, hsm, _ => ⟨hsm, fun v hv => by cases hv⟩
 | x :: us, l, hs, hl, hsm, hph => by
  have hx := hs x (.head _)
  have hx0 := (hR.rng x hx).1
  have h1 := (growS_ok hR hw hl hx).1
  have hle := growA_le hR hw us _ (fun y hy => hs y (.tail _ hy)) h1
  have e : growA rule wid (x :: us) l = growA rule wid us (growS rule wid l x) := rfl
  rw [e] at hph ⊢
  have hsm1 : SameR vs phi rank m (growS rule wid l x) l0 := fun u hu hc => by
   rw [growR_set hR hl hx hu]
   by_cases eu : u = x
   ·subst eu
    rw [if_pos rfl]
    by_cases hp : phi u
    ·have h2 := hle u hu
     rw [hph u hu hx hp, growR_set hR hl hx hu, if_pos rfl] at h2
     have h3 := hsm u hu (.inr (.inl hp))
     have h4 := (growR_l (rule := rule) (wid := wid) (l := l) (v := u)).1
     rw [h3] at h4
     have hn := h1.nrm u hu
     rw [growR_set hR hl hx hu, if_pos rfl] at hn
     exact sub_antisymm hn (hg0.nrm u hu) h2 h4
    ·have hrk : rank u < m := by
      rcases hc with hc | hc | hc
      ·exact absurd hx hc
      ·exact absurd hc hp
      ·exact hc
     have h3 := hsm u hu (.inr (.inr hrk))
     unfold growR
     rw [hnw u hx hp]
     dsimp only
     rw [hD u hx hp l l0 (hsm.le (by omega)), h3]
     exact hs0 u hx hp hrk
   ·rw [if_neg eu]; exact hsm u hu hc
  obtain ⟨g1, g2⟩ := settle hR hw hD hnw hg0 hs0 us _ (fun y hy => hs y (.tail _ hy)) h1 hsm1 hph
  refine ⟨g1, fun v hv hp hr => ?_⟩
  rcases List.mem_cons.1 hv with rfl | hv
  ·refine rSub.trans ?_ (hle v hx0)
   rw [growR_set hR hl hx hx0, if_pos rfl]
   have := (growR_l (rule := rule) (wid := wid) (l := l) (v := v)).2
   rwa [hD v hx hp l l0 (hsm.le (by omega))] at this
  ·exact g2 v hv hp hr
theorem settle_next {wid : Int → Option Rng} (hR : Rules n rule vs) (hw : ∀ v t, wid v = some t → ok64 t) (hD : Deps rule vs phi rank) (hnw : ∀ v ∈ vs, ¬ phi v → wid v = none) {l : List Rng} {m : Nat} (hg : GOkR n l) (hs : Settled rule vs phi rank m l)
  (hph : ∀ u : Int, 0 ≤ u → u ∈ vs → phi u → lv (growA rule wid vs l) u = lv l u) : Settled rule vs phi rank (m + 1) (growA rule wid vs l) := fun v hv hp hr => by
 obtain ⟨h1, h2⟩ := settle hR hw hD hnw hg hs vs l (fun _ h => h) hg (fun _ _ _ => rfl) hph
 have h0 := (hR.rng v hv).1
 rw [hD v hv hp _ l (h1.le (by omega))]
 rcases (by omega : rank v < m ∨ rank v = m) with hr | hr
 ·rw [h1 v h0 (.inr (.inr hr))]; exact hs v hv hp hr
 ·exact join_absorb ((growA_ok hR hw vs l (fun _ h => h) hg).1.nrm v h0) (h2 v hv hp hr)
theorem settled_all {wid : Int → Option Rng} (hR : Rules n rule vs) (hw : ∀ v t, wid v = some t → ok64 t) (hD : Deps rule vs phi rank) (hnw : ∀ v ∈ vs, ¬ phi v → wid v = none) {l : List Rng} {m : Nat} (hg : GOkR n l) (hs : Settled rule vs phi rank m l) (hm : ∀ v ∈ vs, rank v < m)
  (hph : ∀ u : Int, 0 ≤ u → u ∈ vs → phi u → lv (growA rule wid vs l) u = lv l u) : growA rule wid vs l = l := by
 obtain ⟨h1, _⟩ := settle hR hw hD hnw hg hs vs l (fun _ h => h) hg (fun _ _ _ => rfl) hph
 have hl := (growA_ok hR hw vs l (fun _ h => h) hg).1.ok.1
 refine List.ext_getElem (by rw [hl, hg.ok.1]) fun k hk hk2 => ?_
 have := h1 (k : Int) (by omega) (by
  by_cases c : (k : Int) ∈ vs
  ·exact .inr (.inr (hm _ c))
  ·exact .inl c)
 unfold lv at this
 rw [show ((k : Int).toNat) = k from rfl, qh hk, qh hk2] at this
 exact this
end
def pot (t r : Rng) : Nat := if r.2 < r.1 then 3 else (if r.1 = t.1 then 0 else 1) + (if r.2 = t.2 then 0 else 1)
theorem pot_le (t r : Rng) : pot t r ≤ 3 := by unfold pot; (repeat' split) <;> omega
theorem pot_wid {t a b : Rng} (ht : t.1 ≤ t.2) (na : nrm a) (ha : rSub a t) (hb : rSub b t) : rSub (widQ t a b) t ∧ (widQ t a b = a ∨ pot t (widQ t a b) < pot t a) := by
 have hj := sub_join ha hb
 have hl := rJoin_l (a := a) (b := b)
 have hn := rJoin_nrm (b := b) na
 unfold widQ
 obtain ⟨j, hje⟩ : ∃ j, rJoin a b = j := ⟨_, rfl⟩
 rw [hje] at hj hl hn ⊢
 dsimp only
 by_cases c : a.2 < a.1
 ·rw [if_pos c]
  refine ⟨hj, ?_⟩
  by_cases d : j.2 < j.1
  ·left; rw [hn d, na c]
  ·right
   unfold pot
   rw [if_pos c, if_neg d]
   (repeat' split) <;> omega
 ·rw [if_neg c]
  have ha2 : t.1 ≤ a.1 ∧ a.2 ≤ t.2 := by rcases ha with h | h; exact absurd h c; exact h
  have hl2 : j.1 ≤ a.1 ∧ a.2 ≤ j.2 := by rcases hl with h | h; exact absurd h c; exact h
  have hj2 : t.1 ≤ j.1 ∧ j.2 ≤ t.2 := by
   rcases hj with h | h
   ·omega
   ·exact h
  by_cases c1 : j.1 < a.1 ∧ t.1 ≤ t.2
  ·rw [if_pos c1]
   have e1 : imin j.1 t.1 = t.1 := by unfold imin; split <;> omega
   rw [e1]
   by_cases c2 : a.2 < j.2 ∧ t.1 ≤ t.2
   ·rw [if_pos c2]
    have e2 : imax j.2 t.2 = t.2 := by unfold imax; split <;> omega
    rw [e2]
    refine ⟨.inr ⟨Int.le_refl _, Int.le_refl _⟩, .inr ?_⟩
    unfold pot; dsimp only
    rw [if_neg (by omega), if_neg c, if_pos rfl, if_pos rfl, if_neg (by omega)]; omega
   ·rw [if_neg c2]
    have e2 : j.2 = a.2 := by omega
    rw [e2]
    refine ⟨.inr ⟨Int.le_refl _, ha2.2⟩, .inr ?_⟩
    unfold pot; dsimp only
    rw [if_neg (by omega), if_neg c, if_pos rfl, if_neg (show ¬ a.1 = t.1 by omega)]; omega
  ·rw [if_neg c1]
   have e1 : j.1 = a.1 := by omega
   rw [e1]
   by_cases c2 : a.2 < j.2 ∧ t.1 ≤ t.2
   ·rw [if_pos c2]
    have e2 : imax j.2 t.2 = t.2 := by unfold imax; split <;> omega
    rw [e2]
    refine ⟨.inr ⟨ha2.1, Int.le_refl _⟩, .inr ?_⟩
    unfold pot; dsimp only
    rw [if_neg (by omega), if_neg c, if_pos (show t.2 = t.2 from rfl), if_neg (show ¬ a.2 = t.2 by omega)]; omega
   ·rw [if_neg c2]
    have e2 : j.2 = a.2 := by omega
    rw [e2]
    exact ⟨.inr ha2, .inl rfl⟩
section
variable {n : Nat} {rule : List Rng → Int → Rng} {vs : List Int} {phi : Int → Prop} {t : Int → Rng}
def PhiIn (n : Nat) (rule : List Rng → Int → Rng) (vs : List Int) (phi : Int → Prop) (t : Int → Rng) : Prop := ∀ l, okL64 n l → ∀ v ∈ vs, phi v → (t v).1 ≤ (t v).2 ∧ rSub (rule l v) (t v)
def InT (vs : List Int) (phi : Int → Prop) (t : Int → Rng) (l : List Rng) : Prop := ∀ u : Int, 0 ≤ u → u ∈ vs → phi u → rSub (lv l u) (t u)
theorem phi_fold {wid : Int → Option Rng} (hR : Rules n rule vs) (hw : ∀ v t, wid v = some t → ok64 t) (hI : PhiIn n rule vs phi t) (hwd : ∀ v ∈ vs, phi v → wid v = some (t v)) : ∀ (us : List Int) (l : List Rng), (∀ u ∈ us, u ∈ vs) → GOkR n l → InT vs phi t l →
  ∀ u : Int, 0 ≤ u → u ∈ vs → phi u → rSub (lv (growA rule wid us l) u) (t u) ∧ (lv (growA rule wid us l) u = lv l u ∨ pot (t u) (lv (growA rule wid us l) u) < pot (t u) (lv l u))
 | [], l, _, _, hi, u, hu, hv, hp => ⟨hi u hu hv hp, .inl rfl⟩
 | x :: us, l, hs, hl, hi, u, hu, hv, hp => by
  have hx := hs x (.head _)
  have h1 := (growS_ok hR hw hl hx).1
  have key : ∀ u : Int, 0 ≤ u → u ∈ vs → phi u → rSub (lv (growS rule wid l x) u) (t u) ∧ (lv (growS rule wid l x) u = lv l u ∨ pot (t u) (lv (growS rule wid l x) u) < pot (t u) (lv l u)) := fun u hu hv hp => by
   rw [growR_set hR hl hx hu]
   by_cases e : u = x
   ·subst e
    rw [if_pos rfl]
    unfold growR
    rw [hwd u hx hp]
    dsimp only
    obtain ⟨h2, h3⟩ := hI l hl.ok u hx hp
    exact pot_wid h2 (hl.nrm u hu) (hi u hu hx hp) h3
   ·rw [if_neg e]; exact ⟨hi u hu hv hp, .inl rfl⟩
  obtain ⟨k1, k2⟩ := key u hu hv hp
  obtain ⟨g1, g2⟩ := phi_fold hR hw hI hwd us _ (fun y hy => hs y (.tail _ hy)) h1 (fun u hu hv hp => (key u hu hv hp).1) u hu hv hp
  refine ⟨g1, ?_⟩
  show lv (growA rule wid us (growS rule wid l x)) u = _ ∨ pot _ (lv (growA rule wid us (growS rule wid l x)) u) < _
  rcases g2 with g2 | g2
  ·rw [g2]; exact k2
  ·rcases k2 with k2 | k2
   ·rw [k2] at g2; exact .inr g2
   ·exact .inr (by omega)
theorem phi_in {wid : Int → Option Rng} (hR : Rules n rule vs) (hw : ∀ v t, wid v = some t → ok64 t) (hI : PhiIn n rule vs phi t) (hwd : ∀ v ∈ vs, phi v → wid v = some (t v) ∨ wid v = none) : ∀ (us : List Int) (l : List Rng), (∀ u ∈ us, u ∈ vs) → GOkR n l → InT vs phi t l → InT vs phi t (growA rule wid us l)
 | [], l, _, _, hi => hi
 | x :: us, l, hs, hl, hi => by
  have hx := hs x (.head _)
  have h1 := (growS_ok hR hw hl hx).1
  refine phi_in hR hw hI hwd us _ (fun y hy => hs y (.tail _ hy)) h1 fun u hu hv hp => ?_
  rw [growR_set hR hl hx hu]
  by_cases e : u = x
  ·subst e
   rw [if_pos rfl]
   obtain ⟨h2, h3⟩ := hI l hl.ok u hx hp
   unfold growR
   rcases hwd u hx hp with h | h
   ·rw [h]; exact (pot_wid h2 (hl.nrm u hu) (hi u hu hx hp) h3).1
   ·rw [h]; exact sub_join (hi u hu hx hp) h3
  ·rw [if_neg e]; exact hi u hu hv hp
end
def potSum (g : Nat → Nat) : Nat → Nat
 | 0 => 0
 | n + 1 => potSum g n + g n
theorem potSum_le {g g' : Nat → Nat} : ∀ {n : Nat}, (∀ k, k < n → g k ≤ g' k) → potSum g n ≤ potSum g' n
 | 0, _ => Nat.le_refl _
 | n + 1, h => by
  have := potSum_le (n := n) fun k hk => h k (by omega)
  have := h n (by omega)
  unfold potSum; omega
theorem potSum_lt {g g' : Nat → Nat} {j : Nat} : ∀ {n : Nat}, (∀ k, k < n → g k ≤ g' k) → j < n → g j < g' j → potSum g n < potSum g' n
 | 0, _, h, _ => by omega
 | n + 1, h, hj, hlt => by
  have h1 := h n (by omega)
  rcases (by omega : j < n ∨ j = n) with c | c
  ·have := potSum_lt (n := n) (fun k hk => h k (by omega)) c hlt
   unfold potSum; omega
  ·have := potSum_le (n := n) fun k hk => h k (by omega)
   subst c
   unfold potSum; omega
theorem potSum_3 {g : Nat → Nat} (h : ∀ k, g k ≤ 3) : ∀ n, potSum g n ≤ 3 * n
 | 0 => Nat.le_refl _
 | n + 1 => by have := potSum_3 h n; have := h n; unfold potSum; omega
def phiP (f : PFunc) (v : Int) : Prop := (makerT f v).2 = -1
def typR (f : PFunc) (v : Int) : Rng := rType (tyV f v)
open Classical in
noncomputable def potF (f : PFunc) (l : List Rng) (k : Nat) : Nat := if (k : Int) ∈ madeV f ∧ phiP f k then pot (typR f k) (lv l k) else 0
theorem potF_le (f : PFunc) (l : List Rng) (k : Nat) : potF f l k ≤ 3 := by unfold potF; split; exact pot_le _ _; omega
theorem widF_non {f : PFunc} (i : Nat) : ∀ v ∈ madeV f, ¬ phiP f v → widF f i v = none := fun v _ hp => by unfold widF; exact if_neg fun h => hp h.2
theorem widF_phi {f : PFunc} {i : Nat} (hi : 4 ≤ i) : ∀ v ∈ madeV f, phiP f v → widF f i v = some (typR f v) := fun v _ hp => by unfold widF; exact if_pos ⟨hi, hp⟩
theorem widF_any {f : PFunc} (i : Nat) : ∀ v ∈ madeV f, phiP f v → widF f i v = some (typR f v) ∨ widF f i v = none := fun v _ hp => by
 unfold widF
 by_cases h : 4 ≤ i
 ·exact .inl (if_pos ⟨h, hp⟩)
 ·exact .inr (if_neg fun c => h c.1)
theorem firstL_made {f : PFunc} (hm : MadeF f) {u : Int} (h : u ∈ madeV f) : lv (firstL f) u = noR := by
 obtain ⟨q, hq, rfl⟩ := List.mem_map.1 h
 obtain ⟨h0, h1, h2, _⟩ := hm q hq
 rw [firstL_lv h0, if_pos h1]
 unfold first0R
 rw [if_neg (by omega)]
theorem rounds_few {f : PFunc} (hR : Rules f.vars.length (rF f) (madeV f)) (hm : MadeF f) {rank : Int → Nat} {R : Nat} (hrk : ∀ v ∈ madeV f, rank v ≤ R) (hD : Deps (rF f) (madeV f) (phiP f) rank) (hI : PhiIn f.vars.length (rF f) (madeV f) (phiP f) (typR f)) {K : Nat} (hK : Stops f K) :
  K ≤ 3 + 3 * f.vars.length * (R + 2) + (R + 1) := by
 have hin : ∀ i, InT (madeV f) (phiP f) (typR f) (rndF f i) := fun i => by
  induction i with
  | zero => exact fun u _ hv _ => by show rSub (lv (firstL f) u) _; rw [firstL_made hm hv]; exact .inl (by decide)
  | succ i ih => exact phi_in hR (wid_ok f (i + 1)) hI (widF_any (i + 1)) (madeV f) _ (fun _ h => h) (rndF_g hR i) ih
 have key : ∀ i, 3 ≤ i → i ≤ K → ∃ s, s ≤ R + 1 ∧ Settled (rF f) (madeV f) (phiP f) rank s (rndF f i) ∧ i + potSum (potF f (rndF f i)) f.vars.length * (R + 2) ≤ 3 + 3 * f.vars.length * (R + 2) + s := fun i hi => by
  induction i with
  | zero => omega
  | succ i ih =>
   intro hiK
   rcases (by omega : i = 2 ∨ 3 ≤ i) with rfl | hi3
   ·refine ⟨0, by omega, fun _ _ _ h => by omega, ?_⟩
    have := Nat.mul_le_mul_right (R + 2) (potSum_3 (potF_le f (rndF f (2 + 1))) f.vars.length)
    omega
   ·obtain ⟨s, hs, hst, hle⟩ := ih hi3 (by omega)
    have hg := rndF_g hR i
    have hfold := phi_fold hR (wid_ok f (i + 1)) hI (widF_phi (by omega)) (madeV f) _ (fun _ h => h) hg (hin i)
    have e : rndF f (i + 1) = growA (rF f) (widF f (i + 1)) (madeV f) (rndF f i) := rfl
    rw [← e] at hfold
    have hpt : ∀ k, k < f.vars.length → potF f (rndF f (i + 1)) k ≤ potF f (rndF f i) k := fun k _ => by
     unfold potF
     split
     ·rename_i c
      rcases (hfold k (by omega) c.1 c.2).2 with h | h
      ·rw [h]; exact Nat.le_refl _
      ·omega
     ·exact Nat.le_refl _
    by_cases call : ∀ u : Int, 0 ≤ u → u ∈ madeV f → phiP f u → lv (rndF f (i + 1)) u = lv (rndF f i) u
    ·have h1 := Nat.mul_le_mul_right (R + 2) (potSum_le hpt)
     rcases (by omega : s = R + 1 ∨ s < R + 1) with hsr | hsr
     ·have := settled_all hR (wid_ok f (i + 1)) hD (widF_non (i + 1)) hg hst (fun v hv => by have := hrk v hv; omega) (by rw [← e]; exact call)
      rw [← e] at this
      exact absurd this (hK.moves i (by omega))
     ·have := settle_next hR (wid_ok f (i + 1)) hD (widF_non (i + 1)) hg hst (by rw [← e]; exact call)
      rw [← e] at this
      exact ⟨s + 1, by omega, this, by omega⟩
    ·obtain ⟨u, hu0, hum, hup, hne⟩ : ∃ u : Int, 0 ≤ u ∧ u ∈ madeV f ∧ phiP f u ∧ lv (rndF f (i + 1)) u ≠ lv (rndF f i) u :=
      Classical.byContradiction fun hn => call fun u h0 h1 h2 => Classical.byContradiction fun h3 => hn ⟨u, h0, h1, h2, h3⟩
     have hlt := ((hfold u hu0 hum hup).2).resolve_left hne
     have hr := hR.rng u hum
     have hue : ((u.toNat : Nat) : Int) = u := Int.toNat_of_nonneg hu0
     have h2 := potSum_lt hpt (j := u.toNat) (by omega) (by unfold potF; rw [hue, if_pos ⟨hum, hup⟩, if_pos ⟨hum, hup⟩]; exact hlt)
     have h3 := Nat.mul_le_mul_right (R + 2) (Nat.succ_le_of_lt h2)
     rw [Nat.succ_mul] at h3
     exact ⟨0, by omega, fun _ _ _ h => by omega, by omega⟩
 rcases (by omega : K < 3 ∨ 3 ≤ K) with h | h
 ·omega
 ·obtain ⟨s, hs, _, hle⟩ := key K h (Nat.le_refl _)
  omega
def rankF (f : PFunc) (M : Nat) (v : Int) : Nat := (gi (levG (EndsOf f) f.blocks.length) (makerT f v).1).toNat * M + (makerT f v).2.toNat
theorem rank_dom {f : PFunc} (hE : EndsOk f) {a b : Int} (hne : a ≠ b) (h : Dom (EndsOf f) a b) : gi (levG (EndsOf f) f.blocks.length) a < gi (levG (EndsOf f) f.blocks.length) b ∧ 0 ≤ gi (levG (EndsOf f) f.blocks.length) a := by
 have hG := hE.grph
 have hb := (order_mem hG.toEOk b).2 h.1
 have h1 := hG.lev_anc hb ((hG.dom_iff hb).1 h)
 exact ⟨by
  rcases (by omega : gi (levG (EndsOf f) f.blocks.length) b ≤ gi (levG (EndsOf f) f.blocks.length) a ∨ gi (levG (EndsOf f) f.blocks.length) a < gi (levG (EndsOf f) f.blocks.length) b) with c | c
  ·exact absurd (h1.2.2 c) hne
  ·exact c, hG.lev_nn h1.1⟩
theorem made_get {f : PFunc} (hm : MadeF f) {v : Int} (h : v ∈ madeV f) (hp : ¬ phiP f v) : ∃ (i k : Nat) (b : PBlock) (x : PInst), f.blocks[i]? = some b ∧ b.insts[k]? = some x ∧ x.dst = v ∧ makerT f v = ((i : Int), (k : Int)) := by
 obtain ⟨q, hq, rfl⟩ := List.mem_map.1 h
 obtain ⟨_, _, h2, _⟩ := hm q hq
 obtain ⟨i, b, h3, ⟨p, h4, h5, h6⟩ | ⟨k, x, h4, h5, h6⟩⟩ := maker_cases h2
 ·exact absurd (show phiP f q.1 by unfold phiP; rw [h6]) hp
 ·exact ⟨i, k, b, x, h3, h4, h5, h6⟩
theorem rank_deps {f : PFunc} (hE : EndsOk f) (hB : BehP f) (hm : MadeF f) (hr : RuleOk f) {M : Nat} (hM : ∀ b ∈ f.blocks, b.insts.length ≤ M) : Deps (rF f) (madeV f) (phiP f) (rankF f M) := fun v hv hp l l' hsm => by
 obtain ⟨i, k, b, x, h1, h2, h3, h4⟩ := made_get hm hv hp
 have hbm := qr h1
 have hxm := qr h2
 obtain ⟨hi, hbi⟩ := List.getElem?_eq_some_iff.1 h1
 obtain ⟨hk, hxk⟩ := List.getElem?_eq_some_iff.1 h2
 have hah := (hB i hi).2.1
 rw [hbi] at hah
 have hah := hah k hk
 rw [hxk] at hah
 have hargs : ∀ u ∈ x.args, lv l u = lv l' u := fun u hu => by
  refine hsm u (hr.args b hbm x hxm u hu) ?_
  by_cases c : u ∈ madeV f
  ·by_cases cp : phiP f u
   ·exact .inr (.inl cp)
   ·obtain ⟨i', k', b', x', g1, g2, g3, g4⟩ := made_get hm c cp
    have ha := hah u hu
    refine .inr (.inr ?_)
    unfold rankF
    rw [h4]
    rw [g4] at ha ⊢
    unfold AheadP at ha
    dsimp only at ha ⊢
    rw [show ((k : Int).toNat) = k from rfl, show ((k' : Int).toNat) = k' from rfl]
    rcases ha with ha | ⟨ha, ha2⟩ | ⟨_, ha, ha2⟩
    ·omega
    ·rw [ha]; omega
    ·have hl := rank_dom hE ha ha2
     have hk' : k' < M := by
      have := hM b' (qr g1)
      have := (List.getElem?_eq_some_iff.1 g2).1
      omega
     have : ((gi (levG (EndsOf f) f.blocks.length) (i' : Int)).toNat + 1) * M ≤ (gi (levG (EndsOf f) f.blocks.length) (i : Int)).toNat * M := Nat.mul_le_mul_right _ (by omega)
     rw [Nat.add_mul, Nat.one_mul] at this
     omega
  ·exact .inl c
 have hrule : ∀ l : List Rng, rF f l v = instR f (chkV f) l x := fun l => rule_inst h1 h2 h4
 rw [hrule l, hrule l']
 have : argsR f l x = argsR f l' x := by
  unfold argsR
  refine List.map_congr_left fun u hu => ?_
  unfold ofR; rw [hargs u hu]
 unfold instR
 rw [this]
theorem rank_le {f : PFunc} (hE : EndsOk f) (hm : MadeF f) {M : Nat} (hM : ∀ b ∈ f.blocks, b.insts.length ≤ M) (hA : ∀ i : Nat, i < f.blocks.length → Rch (EndsOf f) i) {v : Int} (hv : v ∈ madeV f) : rankF f M v ≤ f.blocks.length * M + M := by
 have hG := hE.grph
 unfold rankF
 have hlev : ∀ i : Nat, i < f.blocks.length → (gi (levG (EndsOf f) f.blocks.length) (i : Int)).toNat ≤ f.blocks.length := fun i hi => by
  have ho := (order_mem hG.toEOk (i : Int)).2 (hA i hi)
  have h1 := lev_lt hG ho
  have h2 := hG.at_lt ho
  have h3 := order_len hG
  omega
 by_cases hp : phiP f v
 ·unfold phiP at hp
  obtain ⟨q, hq, rfl⟩ := List.mem_map.1 hv
  obtain ⟨_, _, h2, _⟩ := hm q hq
  obtain ⟨i, b, h3, ⟨p, h4, h5, h6⟩ | ⟨k, x, h4, h5, h6⟩⟩ := maker_cases h2
  ·rw [h6]
   have := Nat.mul_le_mul_right M (hlev i (List.getElem?_eq_some_iff.1 h3).1)
   dsimp only
   have e : ((-1 : Int)).toNat = 0 := rfl
   omega
  ·rw [h6] at hp; dsimp only at hp; omega
 ·obtain ⟨i, k, b, x, h1, h2, h3, h4⟩ := made_get hm hv hp
  rw [h4]
  have hk := hM b (qr h1)
  have hk2 := (List.getElem?_eq_some_iff.1 h2).1
  have := Nat.mul_le_mul_right M (hlev i (List.getElem?_eq_some_iff.1 h1).1)
  dsimp only
  have e : ((k : Int)).toNat = k := rfl
  omega
theorem phi_within {f : PFunc} (hm : MadeF f) (ho : OnceP f) (hty : ∀ b ∈ f.blocks, ∀ p ∈ b.phis, ∀ a ∈ p.args, tyV f a = tyV f p.dst) (hT : ∀ v : Int, 0 ≤ v → v < f.vars.length → 0 ≤ tyV f v ∧ tyV f v ≤ 2) : PhiIn f.vars.length (rF f) (madeV f) (phiP f) (typR f) := fun l _ v hv hp => by
 obtain ⟨q, hq, rfl⟩ := List.mem_map.1 hv
 obtain ⟨h0, h1, h2, _⟩ := hm q hq
 refine ⟨?_, ?_⟩
 ·obtain ⟨a, b⟩ := hT q.1 h0 h1
  unfold typR rType m64 M64
  (repeat' split) <;> first | omega | (dsimp only; omega) | decide
 ·obtain ⟨i, b, h3, ⟨p, h4, h5, h6⟩ | ⟨k, x, h4, h5, h6⟩⟩ := maker_cases h2
  ·have hone := (ho q.1.toNat (by omega)).1
   rw [Int.toNat_of_nonneg h0] at hone
   have e : rF f l q.1 = phiR f l p := rule_phi hone h3 h4 h5 h6
   rw [e]
   unfold phiR
   have key : ∀ (ys : List Int) (r : Rng), (∀ a ∈ ys, tyV f a = tyV f q.1) → rSub r (typR f q.1) → rSub (ys.foldl (fun acc v => rJoin acc (ofR f l v)) r) (typR f q.1) := fun ys => by
    induction ys with
    | nil => intro r _ h; exact h
    | cons a ys ih =>
     intro r ha h
     refine ih _ (fun x hx => ha x (.tail _ hx)) (sub_join h ?_)
     unfold ofR
     rw [ha a (.head _)]
     exact meet_sub.2
   exact key p.args noR (fun a ha => by rw [hty b (qr h3) p h4 a ha, h5]) (.inl (by decide))
  ·unfold phiP at hp; rw [h6] at hp; dsimp only at hp; omega
end Go.Proofs.YtjnpcfpecilejaaGreatDoor
