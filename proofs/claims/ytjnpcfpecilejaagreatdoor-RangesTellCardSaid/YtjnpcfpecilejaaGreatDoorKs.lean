/- The document's rules; what each has first; the order of a round. Of programs that are little. -/
import Derived.Test.YtjnpcfpecilejaaGreatDoorKr
set_option linter.unusedVariables false
set_option linter.unusedSimpArgs false
set_option linter.unusedSectionVars false
namespace Go.Proofs.YtjnpcfpecilejaaGreatDoor
open Go.Proofs.Tryz
open Go.Proofs Go.Lib Go.Shelf Go.RowKit
theorem ps111_1 : PlacesS prog 111 4 1 1 [.bool false] := ⟨_, underlying111, sizeOf4, zeroValue4, by decide, by decide, by kernel_rfl⟩
theorem ps47_1 : PlacesS prog 47 75 1 2 [.int .i64 0, .int .i64 0] := ⟨_, underlying47, sizeOf75, zeroValue75, by decide, by decide, by kernel_rfl⟩
variable {E : World}
set_option maxRecDepth 20000
theorem ShapedP.ty {f : PFunc} (h : ShapedP f) {v : Nat} (hv : v < f.vars.length) : 0 ≤ tyV f v ∧ tyV f v ≤ 2 := by
 have h1 := h.2.2.1 v hv
 unfold tyV
 rw [show (v : Int).toNat = v from rfl, qh hv]
 exact ⟨h1.2.1, h1.2.2.1⟩
theorem tyV_at {f : PFunc} {v : Nat} (hv : v < f.vars.length) : f.vars[v].ty = tyV f v := by unfold tyV; rw [show (v : Int).toNat = v from rfl, qh hv]; rfl
theorem refFirst_spec (f : PFunc) (hS : ShapedP f) (hf : small f) (v : Nat) (hv : v < f.vars.length) : AFun prog E 39 [.agg (encF f), .int .i64 v] (.agg (encZ (firstR f v))) := by
 have hp := hf.2.1
 have hr := rType_s (E := E) (hS.ty hv)
 rw [← tyV_at hv] at hr
 refine zn func39 rfl (by decide) rfl<|zSr<|y1 (cs := _) rfl rfl rfl<|zo (cs := [.int .i64 0, .int .i64 0]) zeroValue75 rfl rfl<|fun i4 => z6<|za<|zSr<|z2 (zMi rfl)<|z2 (zFF underlying26 rfl sizeOf23 rfl rfl)<|z2 (zLf isAgg23 rfl)<|z2 (zz underlying23 rfl)<|z2 (y7 rfl rfl)<|z6<|zl rfl (fun c=>?_) (fun c=>?_)
 ·refine zSr<|z2 (zFF underlying26 rfl sizeOf22 rfl rfl)<|z2 (zLf isAgg22 rfl)<|z2 (zMi rfl)<|z2 (zIM v underlying22 sizeOf56 rfl rfl rfl (qh hv))<|z2 (zFF underlying56 rfl sizeOf54 rfl rfl)<|z2 (zLi isAgg54 rfl)<|zb (hr) rfl<|zc sizeOf75 rfl rfl rfl rfl rfl rfl .head rfl<|z6<|zd<|y8 rfl ⟨_, .head⟩ isAgg75 sizeOf75 rfl ?_
  rw [firstR, if_pos c, tyV_at hv]; try rfl
 ·refine zf<|zSr<|z2 (zx (cps := []) (rs := [.int .i64 0, .int .i64 0]) pl75 rfl rfl rfl)<|zc sizeOf75 rfl rfl rfl rfl rfl rfl .head rfl<|z6<|zd<|y8 rfl ⟨_, .head⟩ isAgg75 sizeOf75 rfl ?_
  rw [firstR, if_neg c]; try rfl
theorem small.made {f : PFunc} (hf : small f) : ∀ {k : Nat}, k ≤ f.blocks.length → (madeTo f k).length ≤ k * 2000
 | 0, _ => by simp [madeTo]
 | k + 1, hk => by
  have h1 := small.made hf (k := k) (by omega)
  obtain ⟨hb0, hb1, hb2, hb3, hb4⟩ := hf.2.2.2.2 _ (ql (show k < f.blocks.length by omega))
  rw [madeTo_succ (by omega), qn, qn]
  unfold madePh madeIn
  rw [qo, qo]
  have := List.length_filter_le (fun x : PInst => decide (0 ≤ x.dst)) (f.blocks[k]'(by omega)).insts
  omega
theorem madeIn_len (xs : List PInst) : (madeIn xs).length ≤ xs.length := by unfold madeIn; rw [qo]; exact List.length_filter_le _ _
def mI (l : List (Int × Bool)) : List AV := cI (l.map (·.1))
def mB (l : List (Int × Bool)) : List AV := cB (l.map (·.2))
theorem mI_len (l : List (Int × Bool)) : (mI l).length = l.length := by unfold mI; rw [cI_len, qo]
theorem mB_len (l : List (Int × Bool)) : (mB l).length = l.length := by unfold mB; rw [cB_len, qo]
theorem mI_push (l : List (Int × Bool)) (v : Int) (p : Bool) : mI l ++ [.int .i64 v] = mI (l ++ [(v, p)]) := by simp [mI, cI]
theorem mB_push (l : List (Int × Bool)) (v : Int) (p : Bool) : mB l ++ [.bool p] = mB (l ++ [(v, p)]) := by simp [mB, cB]
set_option maxHeartbeats 4000000 in
theorem refMade_spec (f : PFunc) (hf : small f) : AFun prog E 70 [.agg (encF f)] (.tup [.fro 1 (((madeL f).map (·.1)).map encI), .fro 1 (((madeL f).map (·.2)).map encB)]) := by
 have hn := hf.2.2.1
 refine zn func70 rfl (by decide) rfl<|zSr<|y1 (cs := _) rfl rfl rfl<|z2 (zAr rfl)<|z2 (zAr rfl)<|z6<|zSr<|z2 (zAr rfl)<|z6<|zSr<|z2 (zAr rfl)<|z6<|za<|zSr<|z2 (zFF underlying26 rfl sizeOf24 rfl rfl)<|z2 (zLf isAgg24 rfl)<|z2 (zz underlying24 rfl)<|z2 (zMi rfl)<|z6<|adopt_wp (t := 4) (k := 1) (T := 3) rfl<|fun i4 => adopt_wp (t := 5) (k := 1) (T := 4) rfl<|fun i5 => zi<|y6 (γ := Nat × Nat × Nat) [13, 14] (fun g => [(15, .int .i64 g.1), (4, .own g.2.1 (madeTo f g.1).length), (5, .own g.2.2 (madeTo f g.1).length)]) (fun g => [(g.2.2, .grow 1 4 (mB (madeTo f g.1))), (g.2.1, .grow 1 3 (mI (madeTo f g.1)))]) (fun g => g.1 ≤ f.blocks.length) (fun g => f.blocks.length - g.1) (0, i4, i5) zR3 zLe (qk _) ?_
 rintro ⟨k, io, ib⟩ hk
 try dsimp only at *
 refine zSr<|z2 (y7 rfl rfl)<|z6<|za<|zl rfl (fun ck=>?_) (fun ck=>?_)
 ·have hk2 : k < f.blocks.length := by simp at ck; omega
  obtain ⟨b, hbk⟩ : ∃ b, f.blocks[k] = b := ⟨_, rfl⟩
  have hget : f.blocks[k]? = some b := by rw [qh hk2, hbk]
  obtain ⟨hb0, hb1, hb2, hb3, hb4⟩ := hf.2.2.2.2 b (hbk ▸ ql hk2)
  have hml := hf.made hk
  obtain ⟨M, hM⟩ : ∃ M, madeTo f k = M := ⟨_, rfl⟩
  rw [hM] at hml ⊢
  refine zf<|za<|zi<|zSr<|z2 (zIM k underlying24 sizeOf66 rfl rfl rfl hget)<|z2 (zh isAgg66 sizeOf66 rfl rfl)<|zo (cs := [.str ⟨#[]⟩, .raw (.slice none 0 0), .raw (.slice none 0 0), .int .i64 0, .int .i64 0, .int .i64 0, .int .i64 0]) zeroValue66 rfl rfl<|fun i7 => zc sizeOf66 rfl rfl rfl rfl rfl rfl .head rfl<|zg (ya (t := 7) rfl .head)<|z6<|za<|zSr<|z2 (zFF underlying66 rfl sizeOf59 rfl rfl)<|z2 (zLf isAgg59 rfl)<|z2 (zz underlying59 rfl)<|z2 (zMi rfl)<|z6<|zi<|y6 (γ := Nat × Nat × Nat) [7, 13, 14, 15, 20, 21] (fun g => [(22, .int .i64 g.1), (4, .own g.2.1 (M.length + g.1)), (5, .own g.2.2 (M.length + g.1))]) (fun g => [(g.2.2, .grow 1 4 (mB (M ++ (b.phis.take g.1).map fun p => (p.dst, true)))), (g.2.1, .grow 1 3 (mI (M ++ (b.phis.take g.1).map fun p => (p.dst, true))))]) (fun g => g.1 ≤ b.phis.length) (fun g => b.phis.length - g.1) (0, io, ib) zR3 ⟨_, (.refl _), by simp⟩ (qk _) ?_
  rintro ⟨j, io, ib⟩ hj
  try dsimp only at *
  refine zSr<|z2 (y7 rfl rfl)<|z6<|za<|zl rfl (fun cj=>?_) (fun cj=>?_)
  ·have hj2 : j < b.phis.length := by simp at cj; omega
   have hs := madePh_succ hj2
   have hpl : ((b.phis.take j).map fun p => ((p.dst, true) : Int × Bool)).length = j := by rw [qo, List.length_take]; omega
   refine zf<|za<|zi<|zSr<|z2 (zIM j underlying59 sizeOf95 rfl rfl rfl (qh hj2))<|z2 (zh isAgg95 sizeOf95 rfl rfl)<|zo (cs := [.int .i64 0, .raw (.slice none 0 0), .raw (.slice none 0 0)]) zeroValue95 rfl rfl<|fun i9 => zc sizeOf95 rfl rfl rfl rfl rfl rfl .head rfl<|zg (ya (t := 9) rfl .head)<|z6<|zSr<|z2 (zMo rfl)<|z2 (zFF underlying95 rfl sizeOf3 rfl rfl)<|z2 (zLi isAgg3 rfl)<|y4 (rows := [[_]]) ps23_1 rfl rfl rfl rfl rfl<|yo (k := 1) underlying23 type3 rfl rfl rfl rfl rfl (fun _ => .t1) (by rw [mI_len, qn, hpl]; omega) (by decide) rfl (by show (_ + 1) * 8 ≤ _; omega) (by show _ + 1 ≤ _; omega)<|fun i30 => z2 (zAo rfl)<|z6<|zRg<|z2 (zMo rfl)<|y4 (rows := [[_]]) ps111_1 rfl rfl rfl rfl rfl<|yo (k := 1) underlying111 type4 rfl rfl rfl rfl rfl (fun _ => .head) (by rw [mB_len, qn, hpl]; omega) (by decide) rfl (by show (_ + 1) * 1 ≤ _; omega) (by show _ + 1 ≤ _; omega)<|fun i33 => z2 (zAo rfl)<|z6<|zRg<|z2 (zAd rfl rfl)<|z2 (zMi rfl)<|z6 ?_
   exact ⟨(j + 1, i30, i33), zR6, zR3, ⟨_, (.refl _), by rw [hs, ← qj, ← mI_push, ← mB_push]; rfl⟩, hj2, by dsimp only; omega⟩
  ·have hjn : j = b.phis.length := by simp at cj; omega
   subst hjn
   rw [qm]
   have hpl : (madePh b).length = b.phis.length := by unfold madePh; rw [qo]
   rw [show M.length + b.phis.length = (M ++ madePh b).length by rw [qn, hpl]]
   obtain ⟨M2, hM2⟩ : ∃ M2, M ++ madePh b = M2 := ⟨_, rfl⟩
   have hml2 : M2.length ≤ k * 2000 + 1000 := by rw [← hM2, qn, hpl]; omega
   rw [show M ++ b.phis.map (fun p => ((p.dst, true) : Int × Bool)) = M2 from hM2, hM2]
   have he0 : M2 ++ madeIn (b.insts.take 0) = M2 := by simp [madeIn]
   refine y3<|zSr<|z2 (zFF underlying66 rfl sizeOf60 rfl rfl)<|z2 (zLf isAgg60 rfl)<|z2 (zz underlying60 rfl)<|z2 (zMi rfl)<|z6<|zi<|y6 (γ := Nat × Nat × Nat) [13, 14, 15, 36, 37] (fun g => [(38, .int .i64 g.1), (4, .own g.2.1 (M2 ++ madeIn (b.insts.take g.1)).length), (5, .own g.2.2 (M2 ++ madeIn (b.insts.take g.1)).length)]) (fun g => [(g.2.2, .grow 1 4 (mB (M2 ++ madeIn (b.insts.take g.1)))), (g.2.1, .grow 1 3 (mI (M2 ++ madeIn (b.insts.take g.1))))]) (fun g => g.1 ≤ b.insts.length) (fun g => b.insts.length - g.1) (0, io, ib) ⟨rfl, (show AV.own io M2.length = AV.own io (M2 ++ madeIn (b.insts.take 0)).length by rw [he0]), (show AV.own ib M2.length = AV.own ib (M2 ++ madeIn (b.insts.take 0)).length by rw [he0]), trivial⟩ ⟨_, (.refl _), by simp [madeIn]⟩ (qk _) ?_
   rintro ⟨j, io, ib⟩ hj
   try dsimp only at *
   refine zSr<|z2 (y7 rfl rfl)<|z6<|za<|zl rfl (fun cj2=>?_) (fun cj2=>?_)
   ·have hj2 : j < b.insts.length := by simp at cj2; omega
    have hs := madeIn_succ hj2
    have hil := madeIn_len (b.insts.take j)
    rw [List.length_take] at hil
    obtain ⟨M3, hM3⟩ : ∃ M3, M2 ++ madeIn (b.insts.take j) = M3 := ⟨_, rfl⟩
    have hml3 : M3.length ≤ k * 2000 + 2000 := by rw [← hM3, qn]; omega
    have hs3 : M2 ++ madeIn (b.insts.take (j + 1)) = M3 ++ if 0 ≤ b.insts[j].dst then [(b.insts[j].dst, false)] else [] := by rw [hs, ← qj, hM3]
    rw [hM3]
    refine zf<|za<|zi<|zSr<|z2 (zIM j underlying60 sizeOf33 rfl rfl rfl (qh hj2))<|z2 (zh isAgg33 sizeOf33 rfl rfl)<|zo (cs := [.int .i64 0, .int .i64 0, .raw (.slice none 0 0), .int .i64 0]) zeroValue33 rfl rfl<|fun i11 => zc sizeOf33 rfl rfl rfl rfl rfl rfl .head rfl<|zg (ya (t := 11) rfl .head)<|z6<|zSr<|z2 (zFF underlying33 rfl sizeOf3 rfl rfl)<|z2 (zLi isAgg3 rfl)<|z2 (q0 rfl rfl)<|z6<|zl rfl (fun cd=>?_) (fun cd=>?_)
    ·rw [if_pos cd] at hs3
     refine zSr<|z2 (zMo rfl)<|z2 (zFF underlying33 rfl sizeOf3 rfl rfl)<|z2 (zLi isAgg3 rfl)<|y4 (rows := [[_]]) ps23_1 rfl rfl rfl rfl rfl<|yo (k := 1) underlying23 type3 rfl rfl rfl rfl rfl (fun _ => .t1) (by rw [mI_len]; omega) (by decide) rfl (by show (_ + 1) * 8 ≤ _; omega) (by show _ + 1 ≤ _; omega)<|fun i49 => z2 (zAo rfl)<|z6<|zRg<|z2 (zMo rfl)<|y4 (rows := [[_]]) ps111_1 rfl rfl rfl rfl rfl<|yo (k := 1) underlying111 type4 rfl rfl rfl rfl rfl (fun _ => .head) (by rw [mB_len]; omega) (by decide) rfl (by show (_ + 1) * 1 ≤ _; omega) (by show _ + 1 ≤ _; omega)<|fun i52 => z2 (zAo rfl)<|z6<|zRg<|z2 (zAd rfl rfl)<|z2 (zMi rfl)<|z6 ?_
     exact ⟨(j + 1, i49, i52), zR5, ⟨rfl, (show AV.own i49 (M3.length + 1) = AV.own i49 (M2 ++ madeIn (b.insts.take (j + 1))).length by rw [hs3, qn]; rfl), (show AV.own i52 (M3.length + 1) = AV.own i52 (M2 ++ madeIn (b.insts.take (j + 1))).length by rw [hs3, qn]; rfl), trivial⟩, ⟨_, (.refl _), by rw [hs3, ← mI_push, ← mB_push]; rfl⟩, hj2, by dsimp only; omega⟩
    ·rw [if_neg cd, List.append_nil] at hs3
     refine zf<|zRg<|z2 (zAd rfl rfl)<|z2 (zMi rfl)<|z6 ?_
     exact ⟨(j + 1, io, ib), zR5, ⟨rfl, (show AV.own io M3.length = AV.own io (M2 ++ madeIn (b.insts.take (j + 1))).length by rw [hs3]), (show AV.own ib M3.length = AV.own ib (M2 ++ madeIn (b.insts.take (j + 1))).length by rw [hs3]), trivial⟩, ⟨_, (.refl _), by rw [hs3]⟩, hj2, by dsimp only; omega⟩
   ·have hjn : j = b.insts.length := by simp at cj2; omega
    subst hjn
    rw [qm]
    have hfin : M2 ++ madeIn b.insts = madeTo f (k + 1) := by rw [madeTo_succ hk2, hbk, hM, ← hM2, qj]
    rw [hfin]
    refine y3<|zRg<|z2 (zAd rfl rfl)<|z2 (zMi rfl)<|z6 ?_
    exact ⟨(k + 1, io, ib), zR2, zR3, zLe, hk2, by dsimp only; omega⟩
 ·have hkn : k = f.blocks.length := by simp at ck; omega
  subst hkn
  rw [madeTo_all]
  refine y3<|yd (GStep.knowI (t := 4) rfl .t1 (by simp))<|yd (GStep.knowB (t := 5) rfl .head (by simp))<|zSr<|z2 (zMf rfl)<|z2 (zMf rfl)<|z2 (zAf rfl)<|z2 (zAf rfl)<|z6<|zd<|qa (x := .fro _ _) (y := .fro _ _) rfl rfl ?_
  rfl
theorem lv_get {l : List Rng} {a : Int} (h : a.toNat < l.length) : l[a.toNat]? = some (lv l a) := by unfold lv; rw [qh h]; rfl
theorem hasV_rng {f : PFunc} {v : Int} (h : hasV f v = true) : 0 ≤ v ∧ v < f.vars.length := by simpa [hasV] using h
theorem ty_get {f : PFunc} (hS : ShapedP f) {a : Int} (h : hasV f a = true) : ∃ x, f.vars[a.toNat]? = some x ∧ x.ty = tyV f a ∧ 0 ≤ x.ty ∧ x.ty ≤ 2 := by
 obtain ⟨h0, h1⟩ := hasV_rng h
 have hl : a.toNat < f.vars.length := by omega
 have h2 := hS.2.2.1 _ hl
 refine ⟨f.vars[a.toNat], qh hl, ?_, h2.2.1, h2.2.2.1⟩
 unfold tyV; rw [qh hl]; rfl
theorem args_take {f : PFunc} {l : List Rng} {x : PInst} {m : Nat} (h : m < x.args.length) : (argsR f l x).take (m + 1) = (argsR f l x).take m ++ [ofR f l x.args[m]] := by
 unfold argsR
 rw [qi (by rw [qo]; exact h), List.getElem_map]
theorem Left.d1 {x : Nat × AObj} {O : OL} : Left (x :: O) O := ⟨_, .drop (.refl _), rfl⟩
theorem Left.d2 {x y : Nat × AObj} {O : OL} : Left (x :: y :: O) O := ⟨_, .drop (.drop (.refl _)), rfl⟩
theorem ACall.same {P : Program} {E : World} {f : FuncId} {ars : List AV} {O : OL} {x : AV} (h : ACall P E f ars O fun y O' => y = x ∧ Left O' O) : ACall P E f ars O fun y O' => y = x ∧ O' = O :=
 (ACall.exact (γ := Unit) (x := fun _ => x) (M := fun _ => O) (p := fun _ => True) (h.mono fun _ _ h => ⟨(), h.1, h.2, trivial⟩)).mono fun _ _ ⟨_, h1, h2, _⟩ => ⟨h1, h2⟩
set_option maxHeartbeats 8000000 in
theorem refRule_spec (f : PFunc) (hE : EndsOk f) (hf : small f) (hS : ShapedP f) (l : List Rng) {Lv HL : AV × AObj} {ptr : Nat → AV} {i : Nat} (R : RdL prog 47 75 Lv.1 ptr i HL.2 l) (hll : l.length = f.vars.length) (ho : ∀ u : Int, 0 ≤ u → ok64 (lv l u))
  (v : Nat) (hv : v < f.vars.length) (hm : 0 ≤ (makerT f v).1) (hone : (makings f v).length ≤ 1) :
  ACall prog E 41 [.agg (encF f), froB (tabR f), Lv.1, .int .i64 v] [(i, HL.2)] fun r O => r = .agg (encZ (ruleR f (chkV f) l v)) ∧ O = [(i, HL.2)] := by
 refine ACall.same ?_
 obtain ⟨Lv, _⟩ := Lv
 obtain ⟨_, HL⟩ := HL
 dsimp only at R ⊢
 obtain ⟨bi, b, hget, hcase⟩ := maker_cases hm
 have hbi : bi < f.blocks.length := (List.getElem?_eq_some_iff.1 hget).1
 have hmem := qr hget
 obtain ⟨hb0, hb1, hb2, hb3, hb4⟩ := hf.2.2.2.2 b hmem
 obtain ⟨hPh, hIn, hTm⟩ := hS.2.2.2.2.2 b hmem
 have hMk := Maker_spec (E := E) f hf v
 refine zn func41 rfl (by decide) rfl<|zSr<|y1 (cs := _) rfl rfl rfl<|zo (cs := [.int .i64 0, .int .i64 0]) zeroValue75 rfl rfl<|fun i8 => z6 ?_
 rcases hcase with ⟨p0, hp0, hd0, hmk⟩ | ⟨k, x, hxk, hxd, hmk⟩
 ·have hrule := rule_phi (chk := chkV f) (l := l) hone hget hp0 hd0 hmk
  rw [hrule, ← phis_one hone hget hp0 hd0]
  rw [hmk] at hMk
  dsimp only at hMk
  refine zSr<|z2 (zh isAgg26 sizeOf26 rfl rfl)<|z2 (zMi rfl)<|zb (hMk) rfl<|z2 (zMu rfl)<|z2 (zXi rfl rfl)<|z2 (zXi rfl rfl)<|z2 (zAi rfl)<|z2 (zAi rfl)<|z6<|za<|zSr<|z2 (zMi rfl)<|z2 (y7 rfl rfl)<|z6<|yr rfl rfl<|zSr<|zb (rNone) rfl<|zo (cs := [.int .i64 0, .int .i64 0]) zeroValue75 rfl rfl<|fun i11 => zc sizeOf75 rfl rfl rfl rfl rfl rfl .head rfl<|z6<|za<|zSr<|z2 (zFF underlying26 rfl sizeOf24 rfl rfl)<|z2 (zLf isAgg24 rfl)<|z2 (zMi rfl)<|z2 (zIM bi underlying24 sizeOf66 rfl rfl rfl hget)<|z2 (zFF underlying66 rfl sizeOf59 rfl rfl)<|z2 (zLf isAgg59 rfl)<|z2 (zz underlying59 rfl)<|z2 (zMi rfl)<|z6<|zi<|y6 (γ := Nat) [2, 3, 4, 8, 11, 35, 36] (fun q => [(37, .int .i64 q)]) (fun q => [(i11, .cells 75 (encZ (phisAcc f l v (b.phis.take q)))), (i8, .cells 75 [.int .i64 0, .int .i64 0]), (i, HL)]) (fun q => q ≤ b.phis.length) (fun q => b.phis.length - q) 0 zR1 zLe (qk _) ?_
  rintro q hq
  refine zSr<|z2 (y7 rfl rfl)<|z6<|za<|zl rfl (fun cq=>?_) (fun cq=>?_)
  ·have hq2 : q < b.phis.length := by simp at cq; omega
   obtain ⟨p, hp⟩ : ∃ p, b.phis[q] = p := ⟨_, rfl⟩
   have hpm : p ∈ b.phis := hp ▸ ql hq2
   obtain ⟨hpd, hpl, hpn, hpa, hpf⟩ := hPh p hpm
   have hpb := (hb3 p hpm).1
   have hsn := phisAcc_snoc f l v (b.phis.take q) p
   rw [← hp, ← qi hq2, hp] at hsn
   refine zf<|za<|zi<|zSr<|z2 (zIM q underlying59 sizeOf95 rfl rfl rfl (by rw [qh hq2, hp]))<|z2 (zh isAgg95 sizeOf95 rfl rfl)<|zo (cs := [.int .i64 0, .raw (.slice none 0 0), .raw (.slice none 0 0)]) zeroValue95 rfl rfl<|fun i13 => zc sizeOf95 rfl rfl rfl rfl rfl rfl .head rfl<|zg (ya (t := 13) rfl .head)<|z6<|za<|zSr<|z2 (zFF underlying95 rfl sizeOf3 rfl rfl)<|z2 (zLi isAgg3 rfl)<|z2 (zMi rfl)<|z2 (yk rfl rfl)<|z6<|zy rfl (fun cd=>?_) (fun cd=>?_)
   ·have hd : ¬ p.dst = (v : Int) := by simpa using cd
    rw [if_neg hd] at hsn
    refine y3<|zRg<|z2 (zAd rfl rfl)<|z2 (zMi rfl)<|z6 ?_
    exact ⟨q + 1, zR7, zR1, ⟨_, (.refl _), by rw [hsn]⟩, hq2, by omega⟩
   ·have hd : p.dst = (v : Int) := by simpa using cd
    rw [if_pos hd] at hsn
    obtain ⟨A, hA⟩ : ∃ A, phisAcc f l v (b.phis.take q) = A := ⟨_, rfl⟩
    rw [hA] at hsn ⊢
    refine zf<|zSr<|z2 (zFF underlying95 rfl sizeOf23 rfl rfl)<|z2 (zLf isAgg23 rfl)<|z2 (zz underlying23 rfl)<|z2 (zMi rfl)<|z6<|zi<|y6 (γ := Nat) [2, 3, 4, 8, 11, 35, 36, 37, 46, 47] (fun m => [(48, .int .i64 m)]) (fun m => [(i11, .cells 75 (encZ (phiAcc f l A (p.args.take m)))), (i8, .cells 75 [.int .i64 0, .int .i64 0]), (i, HL)]) (fun m => m ≤ p.args.length) (fun m => p.args.length - m) 0 zR1 zLe (qk _) ?_
    rintro m hm
    refine zSr<|z2 (y7 rfl rfl)<|z6<|za<|zl rfl (fun cm=>?_) (fun cm=>?_)
    ·have hm2 : m < p.args.length := by simp at cm; omega
     obtain ⟨a, ha⟩ : ∃ a, p.args[m] = a := ⟨_, rfl⟩
     have hav := List.all_eq_true.1 hpa a (ha ▸ ql hm2)
     obtain ⟨ha0, ha1⟩ := hasV_rng hav
     obtain ⟨y, hy, hyt, hy0, hy2⟩ := ty_get hS hav
     refine zf<|za<|zi<|zSr<|z2 (zIM m underlying23 sizeOf3 rfl rfl rfl (by rw [qh hm2, ha]))<|z2 (zLi isAgg3 rfl)<|z2 (zAi rfl)<|z6<|zt (fun j => Nat.beq j 14) (by kernel_rfl) rfl (zp (.r (.l (.r (.rest _)))))<|zTk 0 rfl (yp isAgg75 sizeOf75 rfl ⟨_, .head⟩ rfl)<|zTk 1 rfl (yt (v := _) rfl)<|zTk 2 rfl (zMi rfl)<|zTk 3 rfl (R.idx (j := a.toNat) rfl rfl (by omega) (by omega) ⟨_, .t1⟩)<|zTk 4 rfl (R.load (j := a.toNat) (r := lv l a) rfl (lv_get (by omega)) ⟨_, .t1⟩)<|zTk 5 rfl (zFF underlying26 rfl sizeOf22 rfl rfl)<|zTk 6 rfl (zLf isAgg22 rfl)<|zTk 7 rfl (zMi rfl)<|zTk 8 rfl (zIM a.toNat underlying22 sizeOf56 rfl rfl (by omega) hy)<|zTk 9 rfl (zFF underlying56 rfl sizeOf54 rfl rfl)<|zTk 10 rfl (zLi isAgg54 rfl)<|zOn 11 rfl<|zb (rType_s ⟨hy0, hy2⟩) rfl<|z6<|zOn 12 rfl<|zb (rMeet_s _ _) rfl<|z6<|zOn 13 rfl<|zb (rJoin_s _ _) rfl<|z6<|yf<|yl (i := 14) rfl (by kernel_rfl) (by kernel_rfl)<|zc sizeOf75 rfl rfl rfl rfl rfl rfl .head rfl<|zg (ze (zj .t1))<|zg (ze (zj .t2))<|zg (ze (zj .t2))<|z6<|yh (by kernel_rfl)<|zRg<|z2 (zAd rfl rfl)<|z2 (zMi rfl)<|z6 ?_
     exact ⟨m + 1, zR10, zR1, ⟨_, (.refl _), by rw [qi hm2, ha, phiAcc_snoc]; unfold ofR; rw [← hyt]; rfl⟩, hm2, by omega⟩
    ·have hmn : m = p.args.length := by simp at cm; omega
     refine y3<|zRg<|z2 (zAd rfl rfl)<|z2 (zMi rfl)<|z6 ?_
     exact ⟨q + 1, zR7, zR1, ⟨_, (.refl _), by rw [hsn, hmn, qm]⟩, hq2, by omega⟩
  ·have hqn : q = b.phis.length := by simp at cq; omega
   rw [hqn, qm]
   refine y3<|zSr<|z2 (yp isAgg75 sizeOf75 rfl ⟨_, .head⟩ rfl)<|zc sizeOf75 rfl rfl rfl rfl rfl rfl .t1 rfl<|z6<|zd<|y8 rfl ⟨_, .t1⟩ isAgg75 sizeOf75 rfl ?_
   exact ⟨rfl, .d2⟩
 ·have hI := instP_F (hIn x (qr hxk))
  have hxl := hb4 x (qr hxk)
  have hchk := chkV_at hget hxk hmk
  have hrule : ruleR f (chkV f) l v = if (argsR f l x).any rEmp = true then noR else instQ x.op x.num (argsR f l x) (chkX f x bi k) := by rw [rule_inst hget hxk hmk, instR, hxd, hchk]
  rw [hrule]
  rw [hmk] at hMk
  dsimp only at hMk
  have hal : (argsR f l x).length = x.args.length := by unfold argsR; rw [qo]
  refine zSr<|z2 (zh isAgg26 sizeOf26 rfl rfl)<|z2 (zMi rfl)<|zb (hMk) rfl<|z2 (zMu rfl)<|z2 (zXi rfl rfl)<|z2 (zXi rfl rfl)<|z2 (zAi rfl)<|z2 (zAi rfl)<|z6<|za<|zSr<|z2 (zMi rfl)<|z2 (y7 rfl rfl)<|z6<|yn rfl (qv (by omega))<|zf<|zSr<|z2 (zFF underlying26 rfl sizeOf24 rfl rfl)<|z2 (zLf isAgg24 rfl)<|z2 (zMi rfl)<|z2 (zIM bi underlying24 sizeOf66 rfl rfl rfl hget)<|z2 (zFF underlying66 rfl sizeOf60 rfl rfl)<|z2 (zLf isAgg60 rfl)<|z2 (zMi rfl)<|z2 (zIM k underlying60 sizeOf33 rfl rfl rfl hxk)<|z2 (zh isAgg33 sizeOf33 rfl rfl)<|zo (cs := [.int .i64 0, .int .i64 0, .raw (.slice none 0 0), .int .i64 0]) zeroValue33 rfl rfl<|fun i16 => zc sizeOf33 rfl rfl rfl rfl rfl rfl .head rfl<|zg (ya (t := 16) rfl .head)<|z6<|zSr<|z2 (zAr rfl)<|z6<|za<|zSr<|z2 (zFF underlying33 rfl sizeOf23 rfl rfl)<|z2 (zLf isAgg23 rfl)<|z2 (zz underlying23 rfl)<|z2 (zMi rfl) ?_
  refine z6<|adopt_wp (t := 17) (k := 2) (T := 75) rfl<|fun i17 => zi<|y6 (γ := Nat × Nat) [1, 2, 4, 8, 9, 10, 16, 79, 80] (fun g => [(81, .int .i64 g.1), (17, .own g.2 g.1)]) (fun g => [(g.2, .grow 2 75 (lC ((argsR f l x).take g.1))), (i8, .cells 75 [.int .i64 0, .int .i64 0]), (i, HL)]) (fun g => g.1 ≤ x.args.length ∧ ((argsR f l x).take g.1).any rEmp = false) (fun g => x.args.length - g.1) (0, i17) zR2 zLe (⟨qk _, rfl⟩) ?_
  rintro ⟨m, iq⟩ ⟨hm, hne⟩
  try dsimp only at *
  refine zSr<|z2 (y7 rfl rfl)<|z6<|za<|zl rfl (fun cm=>?_) (fun cm=>?_)
  ·have hm2 : m < x.args.length := by simp at cm; omega
   obtain ⟨a, ha⟩ : ∃ a, x.args[m] = a := ⟨_, rfl⟩
   have hav := hI.args a (ha ▸ ql hm2)
   obtain ⟨ha0, ha1⟩ := hasV_rng hav
   obtain ⟨y, hy, hyt, hy0, hy2⟩ := ty_get hS hav
   have hof : ofR f l a = rMeet (lv l a) (rType y.ty) := by unfold ofR; rw [hyt]
   have htk := args_take (f := f) (l := l) hm2
   rw [ha, hof] at htk
   have hta : (argsR f l x)[m]? = some (rMeet (lv l a) (rType y.ty)) := by unfold argsR; rw [qp, qh hm2, ha]; simp [hof]
   refine zf<|za<|zi<|zSr<|z2 (zIM m underlying23 sizeOf3 rfl rfl rfl (by rw [qh hm2, ha]))<|z2 (zLi isAgg3 rfl)<|z2 (zAi rfl)<|z6<|za<|yb (γ := Nat) [1, 2, 4, 8, 9, 10, 16, 17, 79, 80, 81] (fun z => [(20, .po z 0)]) (fun z => [(i, HL), (z, .cells 75 (encZ (rMeet (lv l a) (rType y.ty)))), (iq, .grow 2 75 (lC ((argsR f l x).take m))), (i8, .cells 75 [.int .i64 0, .int .i64 0])]) (fun z => True) ?_ (fun _ _ h => h) ?_
   ·refine zt (fun j => false) (by kernel_rfl) rfl (zp (.l (.l (.r (.rest _)))))<|zTk 0 rfl (yt (v := _) rfl)<|zTk 1 rfl (zMi rfl)<|zTk 2 rfl (R.idx (j := a.toNat) rfl rfl (by omega) (by omega) ⟨_, .head⟩)<|zTk 3 rfl (R.load (j := a.toNat) (r := lv l a) rfl (lv_get (by omega)) ⟨_, .head⟩)<|zTk 4 rfl (zFF underlying26 rfl sizeOf22 rfl rfl)<|zTk 5 rfl (zLf isAgg22 rfl)<|zTk 6 rfl (zMi rfl)<|zTk 7 rfl (zIM a.toNat underlying22 sizeOf56 rfl rfl (by omega) hy)<|zTk 8 rfl (zFF underlying56 rfl sizeOf54 rfl rfl)<|zTk 9 rfl (zLi isAgg54 rfl)<|yc (i := 10) (j := 12) rfl rfl (by kernel_rfl) ?_ ?_
    ·refine zb (rType_s ⟨hy0, hy2⟩) rfl<|z6<|yc (i := 11) (j := 12) rfl rfl (by kernel_rfl) ?_ ?_
     ·refine zb (rMeet_s _ _) rfl<|z6<|zOn 12 rfl<|zo (cs := [.int .i64 0, .int .i64 0]) zeroValue75 rfl rfl<|fun i20 => z6<|zOn 13 rfl<|zc sizeOf75 rfl rfl rfl rfl rfl rfl .head rfl<|z6<|zDn ?_
      exact ⟨i20, zR11, zR1, zLe, trivial⟩
     ·refine zo (cs := [.int .i64 0, .int .i64 0]) zeroValue75 rfl rfl<|fun i20 => z6<|zOn 11 rfl<|zb (rMeet_s _ _) rfl<|z6<|zOn 13 rfl<|zc sizeOf75 rfl rfl rfl rfl rfl rfl .head rfl<|z6<|zDn ?_
      exact ⟨i20, zR11, zR1, zLe, trivial⟩
    ·refine zo (cs := [.int .i64 0, .int .i64 0]) zeroValue75 rfl rfl<|fun i20 => z6<|zOn 10 rfl<|zb (rType_s ⟨hy0, hy2⟩) rfl<|z6<|zOn 11 rfl<|zb (rMeet_s _ _) rfl<|z6<|zOn 13 rfl<|zc sizeOf75 rfl rfl rfl rfl rfl rfl .head rfl<|z6<|zDn ?_
     exact ⟨i20, zR11, zR1, zLe, trivial⟩
   ·rintro z _
    refine yd (ya (t := 20) rfl .t1)<|yd (ze (zj .t2))<|yd (ze (zj .t2))<|za<|zSr<|z2 (zFF underlying75 rfl sizeOf2 rfl rfl)<|z2 (zLi isAgg2 rfl)<|z2 (zFF underlying75 rfl sizeOf2 rfl rfl)<|z2 (zLi isAgg2 rfl)<|z2 (yq rfl rfl)<|z6<|zl rfl (fun ce=>?_) (fun ce=>?_)
    ·refine zSr<|zb (rNone) rfl<|zc sizeOf75 rfl rfl rfl rfl rfl rfl .t1 rfl<|z6<|zd<|y8 rfl ⟨_, .t1⟩ isAgg75 sizeOf75 rfl ?_
     exact ⟨by rw [if_pos (List.any_eq_true.2 ⟨_, qr hta, by unfold rEmp; exact qu ce⟩)]; rfl, .d2⟩
    ·refine zf<|zRg<|z2 (zMo rfl)<|z2 (zh isAgg75 sizeOf75 rfl rfl)<|y4 (rows := [[_, _]]) ps47_1 rfl rfl rfl rfl rfl<|yo (k := 2) underlying47 type75 rfl rfl rfl rfl rfl (fun _ => .head) (by rw [lC_len, List.length_take, hal]; omega) (by decide) rfl (by show (_ + 1) * 16 ≤ _; omega) (by show _ + 1 ≤ _; omega)<|fun i106 => z2 (zAo rfl)<|z6<|zRg<|z2 (zAd rfl rfl)<|z2 (zMi rfl)<|z6 ?_
     exact ⟨(m + 1, i106), zR9, zR2, ⟨_, (.refl _), by rw [htk, ← lC_push]; rfl⟩, ⟨hm2, by rw [htk, List.any_append, hne]; simp [rEmp]; omega⟩, by dsimp only; omega⟩
  ·have hmn : m = x.args.length := by simp at cm; omega
   subst hmn
   rw [← hal, qm] at hne
   rw [← hal, qm]
   have hokr : okRs (argsR f l x) := fun r hr => by
    obtain ⟨a, ha, rfl⟩ := List.mem_map.1 hr
    have hav := hasV_rng (hI.args a ha)
    have hnn := List.any_eq_false.1 hne _ hr
    exact ⟨ofR_ok ho hav.1, by simpa [rEmp] using hnn⟩
   refine y3<|yd (GStep.knowR (t := 17) rfl .head rfl)<|za<|zt (fun j => Nat.beq j 9) (by kernel_rfl) rfl (zp (.l (.r (.rest _))))<|zTk 0 rfl (zh isAgg33 sizeOf33 rfl rfl)<|zTk 1 rfl (zMf rfl)<|zTk 2 rfl (zh isAgg26 sizeOf26 rfl rfl)<|zTk 3 rfl (zMf rfl)<|zTk 4 rfl (zh isAgg33 sizeOf33 rfl rfl)<|zTk 5 rfl (zMi rfl)<|zTk 6 rfl (zMi rfl)<|zOn 7 rfl<|zb (refChecked_spec f hf x hxl bi k hbi) rfl<|z6<|zOn 8 rfl<|zb (refInst22_spec x (argsR f l x) (chkX f x bi k) (by rw [hal]; exact hI.len) hokr hI.op) rfl<|z6<|yf<|yl (i := 9) rfl (by kernel_rfl) (by kernel_rfl)<|zc sizeOf75 rfl rfl rfl rfl rfl rfl .t1 rfl<|zg (ze (zj .head))<|zg (ze (zj .t1))<|z6<|yh (by kernel_rfl)<|zd<|y8 rfl ⟨_, .head⟩ isAgg75 sizeOf75 rfl ?_
   exact ⟨by rw [if_neg (by rw [hne]; decide)]; rfl, .d1⟩
end Go.Proofs.YtjnpcfpecilejaaGreatDoor
