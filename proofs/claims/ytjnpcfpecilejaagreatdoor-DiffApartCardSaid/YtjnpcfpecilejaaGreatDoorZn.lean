/- The places of the checks of sums; which sums are checked, told one after the other. Plain law. No conditions. -/
import Derived.Test.YtjnpcfpecilejaaGreatDoorZm
import Derived.Test.YtjnpcfpecilejaaGreatDoorZe
import Derived.Test.YtjnpcfpecilejaaGreatDoorZd
import Derived.Test.YtjnpcfpecilejaaGreatDoorZl
set_option linter.unusedVariables false
set_option linter.unusedSimpArgs false
set_option linter.unusedSectionVars false
namespace Go.Proofs.YtjnpcfpecilejaaGreatDoor
open Go.Proofs.Tryz
open Go.Proofs Go.Lib Go.Shelf Go.RowKit
variable {E : World}
set_option maxRecDepth 20000
theorem want_1 {f : PFunc} {x : PInst} {m : Nat} (e : x.op = 1) (h : m < (wantL f x).length) : (wantL f x)[m] = kindV f x.dst := by
 have h2 : (wantL f x)[m]? = some (kindV f x.dst) := by
  unfold wantL at h ⊢
  rw [if_pos e] at h ⊢
  simp at h
  subst h; rfl
 rw [qd h] at h2
 exact Option.some.inj h2
theorem want_2 {f : PFunc} {x : PInst} {m : Nat} (e : ¬ x.op = 1) (h : m < (wantL f x).length) (h' : m < (takesL x.op).length) : (wantL f x)[m] = (takesL x.op)[m] := by
 have h2 : (wantL f x)[m]? = some ((takesL x.op)[m]) := by
  unfold wantL
  rw [if_neg e, qd h']
 rw [qd h] at h2
 exact Option.some.inj h2
theorem term_kind {f : PFunc} {t : PTerm} (h : termOK f t = true) : t.kind = 0 ∨ t.kind = 1 ∨ t.kind = 2 := by
 unfold termOK at h
 by_cases h0 : t.kind = 0
 ·exact .inl h0
 ·rw [if_neg h0] at h
  by_cases h1 : t.kind = 1
  ·exact .inr (.inl h1)
  ·rw [if_neg h1] at h
   by_cases h2 : t.kind = 2
   ·exact .inr (.inr h2)
   ·rw [if_neg h2] at h; cases h
set_option maxHeartbeats 8000000 in
theorem refTyped_spec (f : PFunc) (hf : small f) (hS : ShapedP f) : AFun Tryz.prog E 120 [.agg (encF f)] (.bool (f.blocks.all (blkT f))) := by
 have hn := hf.2.2.1
 refine zp func120 rfl (by decide) rfl<|zb<|z7 rfl<|yd (cs := _) rfl rfl rfl<|z2 (zAb rfl)<|z6<|zb<|zb<|z7 rfl<|z2 (zc underlying26 rfl sizeOf24 (by decide) rfl rfl)<|z2 (zLf isAgg24 rfl)<|z2 (y1 underlying24 rfl)<|z2 (zMi rfl)<|z6<|zh<|y8 (γ := Nat) [1, 16, 17] (fun i => [(18, .int .i64 i)]) (fun i => []) (fun i => i ≤ f.blocks.length ∧ (f.blocks.take i).all (blkT f) = true) (fun i => f.blocks.length - i) 0 zR1 zLe (⟨qg _, rfl⟩) ?_
 rintro i ⟨hi, hall⟩
 refine zb<|z7 rfl<|z2 (yf rfl rfl)<|z6<|zb<|zx rfl (fun ci => ?_) (fun ci => ?_)
 ·have hi2 : i < f.blocks.length := by simp at ci; omega
  obtain ⟨b, hbi⟩ : ∃ b, f.blocks[i] = b := ⟨_, rfl⟩
  have hget : f.blocks[i]? = some b := by rw [qd hi2, hbi]
  have hmem : b ∈ f.blocks := hbi ▸ qh hi2
  obtain ⟨hb0, hb1, hb2, hb3, hb4⟩ := hf.2.2.2.2 b hmem
  obtain ⟨hPh, hIn, hTm⟩ := hS.2.2.2.2.2 b hmem
  have hbad : blkT f b = false → f.blocks.all (blkT f) = false := fun h => Bool.eq_false_iff.2 (all_bad hi2 (by rw [hbi]; exact h))
  refine ze<|zb<|zh<|zb<|z7 rfl<|z2 (y6 (j := i) underlying24 sizeOf66 rfl rfl rfl hget)<|z2 (zm isAgg66 sizeOf66 rfl rfl)<|yb (cs := [.str ⟨#[]⟩, .raw (.slice none 0 0), .raw (.slice none 0 0), .int .i64 0, .int .i64 0, .int .i64 0, .int .i64 0]) zeroValue66 rfl rfl<|fun i4 => y4 sizeOf66 rfl rfl rfl rfl rfl rfl .head rfl<|zf (yi (t := 4) rfl .head)<|z6<|zb<|zb<|z7 rfl<|z2 (zc underlying66 rfl sizeOf59 (by decide) rfl rfl)<|z2 (zLf isAgg59 rfl)<|z2 (y1 underlying59 rfl)<|z2 (zMi rfl)<|z6<|zh<|y8 (γ := Nat) [1, 4, 16, 17, 18, 23, 24] (fun j => [(25, .int .i64 j)]) (fun j => []) (fun j => j ≤ b.phis.length ∧ (b.phis.take j).all (phiT f) = true) (fun j => b.phis.length - j) 0 zR1 zLe (⟨qg _, rfl⟩) ?_
  rintro j ⟨hj, hjall⟩
  refine zb<|z7 rfl<|z2 (yf rfl rfl)<|z6<|zb<|zx rfl (fun cj => ?_) (fun cj => ?_)
  ·have hj2 : j < b.phis.length := by simp at cj; omega
   obtain ⟨p, hp⟩ : ∃ p, b.phis[j] = p := ⟨_, rfl⟩
   have hpm : p ∈ b.phis := hp ▸ qh hj2
   obtain ⟨hpd, hpl, hpn, hpa, hpf⟩ := hPh p hpm
   have hpb := (hb3 p hpm).1
   refine ze<|zb<|zh<|zb<|z7 rfl<|z2 (y6 (j := j) underlying59 sizeOf95 rfl rfl rfl (by rw [qd hj2, hp]))<|z2 (zm isAgg95 sizeOf95 rfl rfl)<|yb (cs := [.int .i64 0, .raw (.slice none 0 0), .raw (.slice none 0 0)]) zeroValue95 rfl rfl<|fun i6 => y4 sizeOf95 rfl rfl rfl rfl rfl rfl .head rfl<|zf (yi (t := 6) rfl .head)<|z6<|zb<|z7 rfl<|z2 (zc underlying95 rfl sizeOf23 (by decide) rfl rfl)<|z2 (zLf isAgg23 rfl)<|z2 (y1 underlying23 rfl)<|z2 (zMi rfl)<|z6<|zh<|y8 (γ := Nat) [1, 4, 6, 16, 17, 18, 23, 24, 25, 30, 31] (fun k => [(32, .int .i64 k)]) (fun k => []) (fun k => k ≤ p.args.length ∧ (p.args.take k).all (fun v => decide (kindV f v = kindV f p.dst)) = true) (fun k => p.args.length - k) 0 zR1 zLe (⟨qg _, rfl⟩) ?_
   rintro k ⟨hk, hkall⟩
   refine zb<|z7 rfl<|z2 (yf rfl rfl)<|z6<|zb<|zx rfl (fun ck => ?_) (fun ck => ?_)
   ·have hk2 : k < p.args.length := by simp at ck; omega
    obtain ⟨v, hv⟩ : ∃ v, p.args[k] = v := ⟨_, rfl⟩
    have hvv := List.all_eq_true.1 hpa v (hv ▸ qh hk2)
    refine ze<|zb<|zh<|zb<|z7 rfl<|z2 (y6 (j := k) underlying23 sizeOf3 rfl rfl rfl (by rw [qd hk2, hv]))<|z2 (zLi isAgg3 rfl)<|z2 (zAi rfl)<|z6<|zb<|yc (fun j => false) (by kernel_rfl) rfl (zo (.rest _))<|zTk (i := 0) rfl (zm isAgg26 sizeOf26 rfl rfl)<|zTk (i := 1) rfl (zMi rfl)<|zTk (i := 3) rfl (zm isAgg26 sizeOf26 rfl rfl)<|zTk (i := 4) rfl (zc underlying95 rfl sizeOf3 (by decide) rfl rfl)<|zTk (i := 5) rfl (zLi isAgg3 rfl)<|zOn (i := 2) rfl<|zi (rof_spec f v hvv) rfl<|z6<|zOn (i := 6) rfl<|zi (rof_spec f p.dst hpd) rfl<|z6<|zTk (i := 7) rfl (yl rfl rfl)<|zDn<|zu rfl (fun cq => ?_) (fun cq => ?_)
    ·have hq : ¬ kindV f v = kindV f p.dst := by simpa using cq
     have hph : phiT f p = false := by
      unfold phiT
      rw [show (p.args.any fun v => !decide (kindV f v = kindV f p.dst)) = true from List.any_eq_true.2 ⟨v, hv ▸ qh hk2, by simp [hq]⟩]; rfl
     refine zb<|z7 rfl<|z2 (zAb rfl)<|z6<|zj<|zl (x := .bool _) rfl ?_
     rw [hbad (by unfold blkT; rw [show b.phis.all (phiT f) = false from Bool.eq_false_iff.2 (all_bad hj2 (by rw [hp]; exact hph))]; rfl)]
    ·have hq : kindV f v = kindV f p.dst := by simpa using cq
     refine ze<|z7 rfl<|z2 (y9 rfl rfl (by unfold I64; omega))<|z2 (zMi rfl)<|z6 ?_
     exact ⟨k + 1, zR11, zR1, zLe, ⟨hk2, all_take hk2 hkall (by rw [hv]; simp [hq])⟩, by omega⟩
   ·have hkn : k = p.args.length := by simp at ck; omega
    rw [hkn, qi] at hkall
    have hph : phiT f p = true := by
     unfold phiT
     rw [show (p.args.any fun v => !decide (kindV f v = kindV f p.dst)) = false from List.any_eq_false.2 fun v hv => by have := List.all_eq_true.1 hkall v hv; simpa using this]; rfl
    refine y7<|z7 rfl<|z2 (y9 rfl rfl (by unfold I64; omega))<|z2 (zMi rfl)<|z6 ?_
    exact ⟨j + 1, zR7, zR1, zLe, ⟨hj2, all_take hj2 hjall (by rw [hp]; exact hph)⟩, by omega⟩
  ·have hjn : j = b.phis.length := by simp at cj; omega
   subst hjn
   rw [qi] at hjall
   refine y7<|zb<|zb<|z7 rfl<|z2 (zc underlying66 rfl sizeOf60 (by decide) rfl rfl)<|z2 (zLf isAgg60 rfl)<|z2 (y1 underlying60 rfl)<|z2 (zMi rfl)<|z6<|zh<|y8 (γ := Nat) [1, 4, 16, 17, 18, 47, 48] (fun k => [(49, .int .i64 k)]) (fun k => []) (fun k => k ≤ b.insts.length ∧ (b.insts.take k).all (instT f) = true) (fun k => b.insts.length - k) 0 zR1 zLe (⟨qg _, rfl⟩) ?_
   rintro k ⟨hk, hkall⟩
   refine zb<|z7 rfl<|z2 (yf rfl rfl)<|z6<|zb<|zx rfl (fun ck => ?_) (fun ck => ?_)
   ·have hk2 : k < b.insts.length := by simp at ck; omega
    obtain ⟨z, hz⟩ : ∃ z, b.insts[k] = z := ⟨_, rfl⟩
    have hzm : z ∈ b.insts := hz ▸ qh hk2
    have hI := instP_F (hIn z hzm)
    have hzl := hb4 z hzm
    have hwl := wantL_len hI
    have hdst : makesB z.op = true → hasV f z.dst = true := fun h => by
     rcases hI.dst with ⟨d1, _⟩ | ⟨_, _, d3⟩
     ·rw [h] at d1; cases d1
     ·exact d3
    have hcopy : z.op = 1 → makesB z.op = true := fun h => by rw [h]; rfl
    have hib : instT f z = false → f.blocks.all (blkT f) = false := fun h => hbad (by unfold blkT; rw [hjall, show b.insts.all (instT f) = false from Bool.eq_false_iff.2 (all_bad hk2 (by rw [hz]; exact h))]; rfl)
    refine ze<|zb<|zh<|zb<|z7 rfl<|z2 (y6 (j := k) underlying60 sizeOf33 rfl rfl rfl (by rw [qd hk2, hz]))<|z2 (zm isAgg33 sizeOf33 rfl rfl)<|yb (cs := [.int .i64 0, .int .i64 0, .raw (.slice none 0 0), .int .i64 0]) zeroValue33 rfl rfl<|fun i10 => y4 sizeOf33 rfl rfl rfl rfl rfl rfl .head rfl<|zf (yi (t := 10) rfl .head)<|z6<|zb<|yp (γ := Nat) [1, 4, 10, 16, 17, 18, 47, 48, 49] (fun g => [(11, .po g 0)]) (fun g => [(g, .cells 222 (encK (kRow z.op)))]) (fun g => True) ?_ (fun _ _ h => h) ?_
    ·refine yc (fun j => false) (by kernel_rfl) rfl (zo (.rest _))<|zTk (i := 1) rfl (zc underlying33 rfl sizeOf31 (by decide) rfl rfl)<|zTk (i := 2) rfl (zLi isAgg31 rfl)<|yq (i := 0) (j := 5) rfl rfl (by kernel_rfl) ?_ ?_
     ·refine zi (rows_spec) rfl<|z6<|zTk (i := 3) rfl (y6 (j := z.op.toNat) underlying223 sizeOf222 rfl rfl (by have := hI.op; omega) (kRow_get hI.op))<|zTk (i := 4) rfl (zm isAgg222 sizeOf222 rfl rfl)<|zOn (i := 5) rfl<|yb (cs := [.str ⟨#[]⟩, .str ⟨#[]⟩, .str ⟨#[]⟩]) zeroValue222 rfl rfl<|fun i11 => z6<|zOn (i := 6) rfl<|y4 sizeOf222 rfl rfl rfl rfl rfl rfl .head rfl<|z6<|zDn ?_
      exact ⟨i11, zR9, zR1, zLe, trivial⟩
     ·refine yb (cs := [.str ⟨#[]⟩, .str ⟨#[]⟩, .str ⟨#[]⟩]) zeroValue222 rfl rfl<|fun i11 => z6<|zOn (i := 0) rfl<|zi (rows_spec) rfl<|z6<|zTk (i := 3) rfl (y6 (j := z.op.toNat) underlying223 sizeOf222 rfl rfl (by have := hI.op; omega) (kRow_get hI.op))<|zTk (i := 4) rfl (zm isAgg222 sizeOf222 rfl rfl)<|zOn (i := 6) rfl<|y4 sizeOf222 rfl rfl rfl rfl rfl rfl .head rfl<|z6<|zDn ?_
      exact ⟨i11, zR9, zR1, zLe, trivial⟩
    ·rintro i11 _
     refine zb<|zb<|z7 rfl<|z2 (zc underlying33 rfl sizeOf23 (by decide) rfl rfl)<|z2 (zLf isAgg23 rfl)<|z2 (y1 underlying23 rfl)<|z2 (zMi rfl)<|z6<|zh<|y8 (γ := Nat) [1, 4, 10, 11, 16, 17, 18, 47, 48, 49, 60] (fun m => [(61, .int .i64 m)]) (fun m => [(i11, .cells 222 (encK (kRow z.op)))]) (fun m => m ≤ z.args.length ∧ (z.args.take m).map (kindV f) = (wantL f z).take m) (fun m => z.args.length - m) 0 zR1 zLe (⟨qg _, by simp⟩) ?_
     rintro m ⟨hm, hmall⟩
     refine zb<|z7 rfl<|z2 (yf rfl rfl)<|z6<|zb<|zx rfl (fun cm => ?_) (fun cm => ?_)
     ·have hm2 : m < z.args.length := by simp at cm; omega
      have hmw : m < (wantL f z).length := by omega
      have hmt : m < (takesL z.op).length := by have := hI.len; omega
      obtain ⟨v, hv⟩ : ∃ v, z.args[m] = v := ⟨_, rfl⟩
      have hvv := hI.args v (hv ▸ qh hm2)
      obtain ⟨c, hc, hct⟩ := takes_byte hmt
      have hbadm : ¬ kindV f v = (wantL f z)[m] → f.blocks.all (blkT f) = false := fun h => hib (by rw [instT_want hI, qn (map_ne hm2 hmw (by rw [hv]; exact h))]; rfl)
      refine ze<|zb<|zh<|zb<|z7 rfl<|z2 (zMi rfl)<|z2 (zAi rfl)<|z6<|zb<|z7 rfl<|z2 (zr underlying222 rfl sizeOf9 (by decide) rfl rfl)<|z2 (zw (c := .str _) isAgg9 rfl ⟨_, .head⟩ rfl)<|z2 (zMi rfl)<|z2 (Gv.indexT (j := m) underlying9 rfl rfl rfl hc)<|zi (rtype_spec (c.toNat : Int)) rfl<|z2 (zAi rfl)<|z6<|zb<|zb<|z7 rfl<|z2 (zr underlying222 rfl sizeOf9 (by decide) rfl rfl)<|z2 (zw (c := .str _) isAgg9 rfl ⟨_, .head⟩ rfl)<|z2 (Gv.eqlT rfl rfl)<|z6<|zu rfl (fun cw => ?_) (fun cw => ?_)
      ·have ew : z.op = 1 := (copy_op hI.op).1 (by simpa using cw)
       refine z7 rfl<|z2 (zm isAgg26 sizeOf26 rfl rfl)<|z2 (zc underlying33 rfl sizeOf3 (by decide) rfl rfl)<|z2 (zLi isAgg3 rfl)<|zi (rof_spec f z.dst (hdst (hcopy ew))) rfl<|z2 (zAi rfl)<|z6<|zb<|yc (fun j => false) (by kernel_rfl) rfl (zo (.rest _))<|zTk (i := 0) rfl (zm isAgg26 sizeOf26 rfl rfl)<|zTk (i := 1) rfl (zc underlying33 rfl sizeOf23 (by decide) rfl rfl)<|zTk (i := 2) rfl (zLf isAgg23 rfl)<|zTk (i := 3) rfl (zMi rfl)<|zTk (i := 4) rfl (y6 (j := m) underlying23 sizeOf3 rfl rfl rfl (by rw [qd hm2, hv]))<|zTk (i := 5) rfl (zLi isAgg3 rfl)<|zTk (i := 7) rfl (zMi rfl)<|zOn (i := 6) rfl<|zi (rof_spec f v hvv) rfl<|z6<|zTk (i := 8) rfl (yl rfl rfl)<|zDn<|zu rfl (fun cq => ?_) (fun cq => ?_)
       ·have hq : ¬ kindV f v = kindV f z.dst := by simpa using cq
        refine zb<|z7 rfl<|z2 (zAb rfl)<|z6<|zj<|zl (x := .bool _) rfl ?_
        rw [hbadm (by rw [want_1 ew hmw]; exact hq)]
       ·have hq : kindV f v = kindV f z.dst := by simpa using cq
        refine ze<|z7 rfl<|z2 (y9 rfl rfl (by unfold I64; omega))<|z2 (zMi rfl)<|z6 ?_
        exact ⟨m + 1, zR11, zR1, zLe, ⟨hm2, map_take_succ hm2 hmw hmall (by rw [hv, want_1 ew hmw]; exact hq)⟩, by omega⟩
      ·have ew : ¬ z.op = 1 := fun e => by have := (copy_op hI.op).2 e; simp [this] at cw
       refine ze<|zb<|yc (fun j => false) (by kernel_rfl) rfl (zo (.rest _))<|zTk (i := 0) rfl (zm isAgg26 sizeOf26 rfl rfl)<|zTk (i := 1) rfl (zc underlying33 rfl sizeOf23 (by decide) rfl rfl)<|zTk (i := 2) rfl (zLf isAgg23 rfl)<|zTk (i := 3) rfl (zMi rfl)<|zTk (i := 4) rfl (y6 (j := m) underlying23 sizeOf3 rfl rfl rfl (by rw [qd hm2, hv]))<|zTk (i := 5) rfl (zLi isAgg3 rfl)<|zTk (i := 7) rfl (zMi rfl)<|zOn (i := 6) rfl<|zi (rof_spec f v hvv) rfl<|z6<|zTk (i := 8) rfl (yl rfl rfl)<|zDn<|zu rfl (fun cq => ?_) (fun cq => ?_)
       ·have hq : ¬ kindV f v = typeOf (c.toNat : Int) := by simpa using cq
        refine zb<|z7 rfl<|z2 (zAb rfl)<|z6<|zj<|zl (x := .bool _) rfl ?_
        rw [hbadm (by rw [want_2 ew hmw hmt, hct]; exact hq)]
       ·have hq : kindV f v = typeOf (c.toNat : Int) := by simpa using cq
        refine ze<|z7 rfl<|z2 (y9 rfl rfl (by unfold I64; omega))<|z2 (zMi rfl)<|z6 ?_
        exact ⟨m + 1, zR11, zR1, zLe, ⟨hm2, map_take_succ hm2 hmw hmall (by rw [hv, want_2 ew hmw hmt, hct]; exact hq)⟩, by omega⟩
     ·have hmn : m = z.args.length := by simp at cm; omega
      have hall2 : z.args.map (kindV f) = wantL f z := by rw [hmn, qi, hwl, qi] at hmall; exact hmall
      have hiw := instT_want hI
      rw [qm hall2, Bool.true_and] at hiw
      refine y7<|zb<|yc (fun j => false) (by kernel_rfl) rfl (zo (.r (.rest _)))<|zTk (i := 0) rfl (zr underlying222 rfl sizeOf9 (by decide) rfl rfl)<|zTk (i := 1) rfl (zw (c := .str _) isAgg9 rfl ⟨_, .head⟩ rfl)<|zTk (i := 2) rfl (Gv.neqT rfl rfl)<|zTk (i := 3) rfl (zMb rfl)<|qc (s := 89) rfl (fun c1 => ?_) (fun c1 => ?_)
      ·have d1 : ¬ (kRow z.op).2.2 = ⟨#[]⟩ := by simpa using c1
       have dm : makesB z.op = true := by rw [makesB_eq, qn d1]; rfl
       obtain ⟨c, hc, hct⟩ := makes_byte d1
       refine zTt (i := 4) rfl rfl rfl c1 (zr underlying222 rfl sizeOf9 (by decide) rfl rfl)<|zTt (i := 5) rfl rfl rfl c1 (zw (c := .str _) isAgg9 rfl ⟨_, .head⟩ rfl)<|zTt (i := 6) rfl rfl rfl c1 (Gv.neqT rfl rfl)<|zTk (i := 7) rfl (zPt rfl c1 rfl)<|zTk (i := 8) rfl (zMb rfl)<|qc (s := 94) rfl (fun c2 => ?_) (fun c2 => ?_)
       ·have ew : ¬ z.op = 1 := fun e => by have := (copy_op hI.op).2 e; simp [this] at c2
        refine zTt (i := 9) rfl rfl rfl c2 (zm isAgg26 sizeOf26 rfl rfl)<|zTt (i := 10) rfl rfl rfl c2 (zc underlying33 rfl sizeOf3 (by decide) rfl rfl)<|zTt (i := 11) rfl rfl rfl c2 (zLi isAgg3 rfl)<|zTt (i := 13) rfl rfl rfl c2 (zr underlying222 rfl sizeOf9 (by decide) rfl rfl)<|zTt (i := 14) rfl rfl rfl c2 (zw (c := .str _) isAgg9 rfl ⟨_, .head⟩ rfl)<|zTt (i := 15) rfl rfl rfl c2 (Gv.indexT (j := 0) underlying9 rfl rfl rfl hc)<|zOn (i := 12) rfl<|za rfl rfl c2<|zi (rof_spec f z.dst (hdst dm)) rfl<|z6<|zOn (i := 16) rfl<|za rfl rfl c2<|zi (rtype_spec (c.toNat : Int)) rfl<|z6<|zTt (i := 17) rfl rfl rfl c2 (yl rfl rfl)<|zTk (i := 18) rfl (zPt rfl c2 rfl)<|zDn<|zu rfl (fun cq => ?_) (fun cq => ?_)
        ·have hq : ¬ kindV f z.dst = typeOf (c.toNat : Int) := by simpa using cq
         refine zb<|z7 rfl<|z2 (zAb rfl)<|z6<|zj<|zl (x := .bool _) rfl ?_
         rw [hib (by rw [hiw, dm, qn ew, hct, qn hq]; rfl)]
        ·have hq : kindV f z.dst = typeOf (c.toNat : Int) := by simpa using cq
         refine ze<|z7 rfl<|z2 (y9 rfl rfl (by unfold I64; omega))<|z2 (zMi rfl)<|z6 ?_
         exact ⟨k + 1, zR7, zR1, ⟨_, (.drop (.refl _)), rfl⟩, ⟨hk2, all_take hk2 hkall (by rw [hz, hiw, hct, qm hq]; simp)⟩, by omega⟩
       ·have ew : z.op = 1 := (copy_op hI.op).1 (by simpa using c2)
        refine zTf (i := 9) rfl rfl rfl c2<|zTf (i := 10) rfl rfl rfl c2<|zTf (i := 11) rfl rfl rfl c2<|zTf (i := 12) rfl rfl rfl c2<|zTf (i := 13) rfl rfl rfl c2<|zTf (i := 14) rfl rfl rfl c2<|zTf (i := 15) rfl rfl rfl c2<|zTf (i := 16) rfl rfl rfl c2<|zTf (i := 17) rfl rfl rfl c2<|zTk (i := 18) rfl (zPf rfl c2 rfl)<|zDn<|yg rfl rfl<|ze<|z7 rfl<|z2 (y9 rfl rfl (by unfold I64; omega))<|z2 (zMi rfl)<|z6 ?_
        exact ⟨k + 1, zR7, zR1, ⟨_, (.drop (.refl _)), rfl⟩, ⟨hk2, all_take hk2 hkall (by rw [hz, hiw, qm ew]; simp)⟩, by omega⟩
      ·have d1 : (kRow z.op).2.2 = ⟨#[]⟩ := by simpa using c1
       have dm : makesB z.op = false := by rw [makesB_eq, qm d1]; rfl
       refine zTf (i := 4) rfl rfl rfl c1<|zTf (i := 5) rfl rfl rfl c1<|zTf (i := 6) rfl rfl rfl c1<|zTk (i := 7) rfl (zPf rfl c1 rfl)<|zTk (i := 8) rfl (zMb rfl)<|zTf (i := 9) rfl rfl rfl rfl<|zTf (i := 10) rfl rfl rfl rfl<|zTf (i := 11) rfl rfl rfl rfl<|zTf (i := 12) rfl rfl rfl rfl<|zTf (i := 13) rfl rfl rfl rfl<|zTf (i := 14) rfl rfl rfl rfl<|zTf (i := 15) rfl rfl rfl rfl<|zTf (i := 16) rfl rfl rfl rfl<|zTf (i := 17) rfl rfl rfl rfl<|zTk (i := 18) rfl (zPf rfl rfl rfl)<|zDn<|yg rfl rfl<|ze<|z7 rfl<|z2 (y9 rfl rfl (by unfold I64; omega))<|z2 (zMi rfl)<|z6 ?_
       exact ⟨k + 1, zR7, zR1, ⟨_, (.drop (.refl _)), rfl⟩, ⟨hk2, all_take hk2 hkall (by rw [hz, hiw, dm]; rfl)⟩, by omega⟩
   ·have hkn : k = b.insts.length := by simp at ck; omega
    rw [hkn, qi] at hkall
    refine y7<|zb<|z7 rfl<|z2 (zc underlying66 rfl sizeOf64 (by decide) rfl rfl)<|z2 (zm isAgg64 sizeOf64 rfl rfl)<|yb (cs := [.int .i64 0, .int .i64 0, .int .i64 0, .int .i64 0]) zeroValue64 rfl rfl<|fun i14 => y4 sizeOf64 rfl rfl rfl rfl rfl rfl .head rfl<|zf (yi (t := 14) rfl .head)<|z6<|zb<|yp (γ := Bool) [1, 16, 17, 18] (fun u => [(152, .bool u)]) (fun u => []) (fun u => u = !termT f b.term) ?_ (fun _ _ h => h) ?_
    ·have hk3 := term_kind hTm
     refine z7 rfl<|z2 (zc underlying64 rfl sizeOf61 (by decide) rfl rfl)<|z2 (zLi isAgg61 rfl)<|z2 (y3 rfl rfl)<|z2 (zMb rfl)<|zn (s := 111) rfl (fun c1 => ?_) (fun c1 => ?_)
     ·refine za rfl rfl c1<|z2 (zm isAgg26 sizeOf26 rfl rfl)<|za rfl rfl c1<|z2 (zc underlying64 rfl sizeOf3 (by decide) rfl rfl)<|za rfl rfl c1<|z2 (zLi isAgg3 rfl)<|za rfl rfl c1<|zi (rof_spec f b.term.var (term_var hTm (by simp_all))) rfl<|za rfl rfl c1<|z2 (yl rfl rfl)<|z2 (zPt rfl c1 rfl)<|z2 (zMb rfl)<|zn (s := 118) rfl (fun c2 => ?_) (fun c2 => ?_)
      ·refine z8 rfl rfl c2<|z8 rfl rfl c2<|z8 rfl rfl c2<|z8 rfl rfl c2<|zd rfl rfl<|zd rfl rfl<|zd rfl rfl<|zd rfl rfl<|zd rfl rfl<|zd rfl rfl<|zd rfl rfl<|zd rfl rfl<|zd rfl rfl<|zd rfl rfl<|zd rfl rfl<|zd rfl rfl<|zd rfl rfl<|zd rfl rfl<|zd rfl rfl<|zd rfl rfl<|zd rfl rfl<|z8 rfl rfl c2<|z2 (zPt rfl c2 rfl)<|z2 (zMb rfl)<|z8 rfl rfl rfl<|z8 rfl rfl rfl<|z8 rfl rfl rfl<|z8 rfl rfl rfl<|zd rfl rfl<|zd rfl rfl<|zd rfl rfl<|zd rfl rfl<|z8 rfl rfl rfl<|z2 (zPt rfl rfl rfl)<|z6 ?_
       exact ⟨_, zR4, zR1, zLe, by simp_all [termT] <;> omega⟩
      ·refine za rfl rfl c2<|z2 (zc underlying64 rfl sizeOf61 (by decide) rfl rfl)<|za rfl rfl c2<|z2 (zLi isAgg61 rfl)<|za rfl rfl c2<|z2 (y3 rfl rfl)<|za rfl rfl c2<|z2 (zMb rfl)<|zn (s := 122) rfl (fun c3 => ?_) (fun c3 => ?_)
       ·refine za rfl rfl c3<|z2 (zm isAgg26 sizeOf26 rfl rfl)<|za rfl rfl c3<|z2 (zc underlying64 rfl sizeOf3 (by decide) rfl rfl)<|za rfl rfl c3<|z2 (zLi isAgg3 rfl)<|za rfl rfl c3<|zi (rof_spec f b.term.var (term_var hTm (by simp_all))) rfl<|za rfl rfl c3<|z2 (yl rfl rfl)<|za rfl rfl c3<|z2 (zMb rfl)<|zn (s := 128) rfl (fun c4 => ?_) (fun c4 => ?_)
        ·refine z8 rfl rfl c4<|z8 rfl rfl c4<|z8 rfl rfl c4<|z8 rfl rfl c4<|za rfl rfl c3<|z2 (zPt rfl c4 rfl)<|za rfl rfl c3<|z2 (zMb rfl)<|z8 rfl rfl rfl<|z8 rfl rfl rfl<|z8 rfl rfl rfl<|z8 rfl rfl rfl<|za rfl rfl c3<|z2 (zPt rfl rfl rfl)<|za rfl rfl c2<|z2 (zPt rfl c3 rfl)<|z2 (zPf rfl c2 rfl)<|z2 (zMb rfl)<|z8 rfl rfl rfl<|z8 rfl rfl rfl<|z8 rfl rfl rfl<|z8 rfl rfl rfl<|zd rfl rfl<|zd rfl rfl<|zd rfl rfl<|zd rfl rfl<|z8 rfl rfl rfl<|z2 (zPt rfl rfl rfl)<|z6 ?_
         exact ⟨_, zR4, zR1, zLe, by simp_all [termT] <;> omega⟩
        ·refine za rfl rfl c4<|z2 (zc underlying64 rfl sizeOf62 (by decide) rfl rfl)<|za rfl rfl c4<|z2 (yv (j := 0) underlying62 sizeOf3 rfl rfl rfl (by decide) rfl)<|za rfl rfl c4<|z2 (zLi isAgg3 rfl)<|za rfl rfl c4<|z2 (y3 rfl rfl)<|za rfl rfl c3<|z2 (zPf rfl c4 rfl)<|za rfl rfl c3<|z2 (zMb rfl)<|zn (s := 134) rfl (fun c5 => ?_) (fun c5 => ?_)
         ·refine z8 rfl rfl c5<|z8 rfl rfl c5<|z8 rfl rfl c5<|z8 rfl rfl c5<|za rfl rfl c3<|z2 (zPt rfl c5 rfl)<|za rfl rfl c2<|z2 (zPt rfl c3 rfl)<|z2 (zPf rfl c2 rfl)<|z2 (zMb rfl)<|z8 rfl rfl rfl<|z8 rfl rfl rfl<|z8 rfl rfl rfl<|z8 rfl rfl rfl<|zd rfl rfl<|zd rfl rfl<|zd rfl rfl<|zd rfl rfl<|z8 rfl rfl rfl<|z2 (zPt rfl rfl rfl)<|z6 ?_
          exact ⟨_, zR4, zR1, zLe, by simp_all [termT] <;> omega⟩
         ·refine za rfl rfl c5<|z2 (zc underlying64 rfl sizeOf62 (by decide) rfl rfl)<|za rfl rfl c5<|z2 (yv (j := 1) underlying62 sizeOf3 rfl rfl rfl (by decide) rfl)<|za rfl rfl c5<|z2 (zLi isAgg3 rfl)<|za rfl rfl c5<|z2 (y3 rfl rfl)<|za rfl rfl c3<|z2 (zPf rfl c5 rfl)<|za rfl rfl c2<|z2 (zPt rfl c3 rfl)<|z2 (zPf rfl c2 rfl)<|z2 (zMb rfl)<|zn (s := 142) rfl (fun c6 => ?_) (fun c6 => ?_)
          ·refine z8 rfl rfl c6<|z8 rfl rfl c6<|z8 rfl rfl c6<|z8 rfl rfl c6<|zd rfl rfl<|zd rfl rfl<|zd rfl rfl<|zd rfl rfl<|z8 rfl rfl c6<|z2 (zPt rfl c6 rfl)<|z6 ?_
           exact ⟨_, zR4, zR1, zLe, by simp_all [termT] <;> omega⟩
          ·refine za rfl rfl c6<|z2 (zc underlying64 rfl sizeOf61 (by decide) rfl rfl)<|za rfl rfl c6<|z2 (zLi isAgg61 rfl)<|za rfl rfl c6<|z2 (y3 rfl rfl)<|za rfl rfl c6<|z2 (zMb rfl)<|zn (s := 146) rfl (fun c7 => ?_) (fun c7 => ?_)
           ·refine za rfl rfl c7<|z2 (zc underlying64 rfl sizeOf62 (by decide) rfl rfl)<|za rfl rfl c7<|z2 (yv (j := 0) underlying62 sizeOf3 rfl rfl rfl (by decide) rfl)<|za rfl rfl c7<|z2 (zLi isAgg3 rfl)<|za rfl rfl c7<|z2 (y3 rfl rfl)<|za rfl rfl c6<|z2 (zPt rfl c7 rfl)<|z2 (zPf rfl c6 rfl)<|z6 ?_
            exact ⟨_, zR4, zR1, zLe, by simp_all [termT] <;> omega⟩
           ·refine z8 rfl rfl c7<|z8 rfl rfl c7<|z8 rfl rfl c7<|z8 rfl rfl c7<|za rfl rfl c6<|z2 (zPf rfl c7 rfl)<|z2 (zPf rfl c6 rfl)<|z6 ?_
            exact ⟨_, zR4, zR1, zLe, by simp_all [termT] <;> omega⟩
       ·refine z8 rfl rfl c3<|z8 rfl rfl c3<|z8 rfl rfl c3<|z8 rfl rfl c3<|z8 rfl rfl c3<|z8 rfl rfl c3<|zd rfl rfl<|zd rfl rfl<|zd rfl rfl<|zd rfl rfl<|z8 rfl rfl c3<|z8 rfl rfl c3<|zd rfl rfl<|zd rfl rfl<|zd rfl rfl<|zd rfl rfl<|z8 rfl rfl c3<|za rfl rfl c2<|z2 (zPf rfl c3 rfl)<|z2 (zPf rfl c2 rfl)<|z2 (zMb rfl)<|za rfl rfl rfl<|z2 (zc underlying64 rfl sizeOf61 (by decide) rfl rfl)<|za rfl rfl rfl<|z2 (zLi isAgg61 rfl)<|za rfl rfl rfl<|z2 (y3 rfl rfl)<|za rfl rfl rfl<|z2 (zMb rfl)<|zn (s := 146) rfl (fun c8 => ?_) (fun c8 => ?_)
        ·refine za rfl rfl c8<|z2 (zc underlying64 rfl sizeOf62 (by decide) rfl rfl)<|za rfl rfl c8<|z2 (yv (j := 0) underlying62 sizeOf3 rfl rfl rfl (by decide) rfl)<|za rfl rfl c8<|z2 (zLi isAgg3 rfl)<|za rfl rfl c8<|z2 (y3 rfl rfl)<|za rfl rfl rfl<|z2 (zPt rfl c8 rfl)<|z2 (zPf rfl rfl rfl)<|z6 ?_
         exact ⟨_, zR4, zR1, zLe, by simp_all [termT] <;> omega⟩
        ·refine z8 rfl rfl c8<|z8 rfl rfl c8<|z8 rfl rfl c8<|z8 rfl rfl c8<|za rfl rfl rfl<|z2 (zPf rfl c8 rfl)<|z2 (zPf rfl rfl rfl)<|z6 ?_
         exact ⟨_, zR4, zR1, zLe, by simp_all [termT] <;> omega⟩
     ·refine z8 rfl rfl c1<|z8 rfl rfl c1<|z8 rfl rfl c1<|z8 rfl rfl c1<|z8 rfl rfl c1<|z2 (zPf rfl c1 rfl)<|z2 (zMb rfl)<|za rfl rfl rfl<|z2 (zc underlying64 rfl sizeOf61 (by decide) rfl rfl)<|za rfl rfl rfl<|z2 (zLi isAgg61 rfl)<|za rfl rfl rfl<|z2 (y3 rfl rfl)<|za rfl rfl rfl<|z2 (zMb rfl)<|zn (s := 122) rfl (fun c9 => ?_) (fun c9 => ?_)
      ·refine za rfl rfl c9<|z2 (zm isAgg26 sizeOf26 rfl rfl)<|za rfl rfl c9<|z2 (zc underlying64 rfl sizeOf3 (by decide) rfl rfl)<|za rfl rfl c9<|z2 (zLi isAgg3 rfl)<|za rfl rfl c9<|zi (rof_spec f b.term.var (term_var hTm (by simp_all))) rfl<|za rfl rfl c9<|z2 (yl rfl rfl)<|za rfl rfl c9<|z2 (zMb rfl)<|zn (s := 128) rfl (fun c10 => ?_) (fun c10 => ?_)
       ·refine z8 rfl rfl c10<|z8 rfl rfl c10<|z8 rfl rfl c10<|z8 rfl rfl c10<|za rfl rfl c9<|z2 (zPt rfl c10 rfl)<|za rfl rfl c9<|z2 (zMb rfl)<|z8 rfl rfl rfl<|z8 rfl rfl rfl<|z8 rfl rfl rfl<|z8 rfl rfl rfl<|za rfl rfl c9<|z2 (zPt rfl rfl rfl)<|za rfl rfl rfl<|z2 (zPt rfl c9 rfl)<|z2 (zPf rfl rfl rfl)<|z2 (zMb rfl)<|z8 rfl rfl rfl<|z8 rfl rfl rfl<|z8 rfl rfl rfl<|z8 rfl rfl rfl<|zd rfl rfl<|zd rfl rfl<|zd rfl rfl<|zd rfl rfl<|z8 rfl rfl rfl<|z2 (zPt rfl rfl rfl)<|z6 ?_
        exact ⟨_, zR4, zR1, zLe, by simp_all [termT] <;> omega⟩
       ·refine za rfl rfl c10<|z2 (zc underlying64 rfl sizeOf62 (by decide) rfl rfl)<|za rfl rfl c10<|z2 (yv (j := 0) underlying62 sizeOf3 rfl rfl rfl (by decide) rfl)<|za rfl rfl c10<|z2 (zLi isAgg3 rfl)<|za rfl rfl c10<|z2 (y3 rfl rfl)<|za rfl rfl c9<|z2 (zPf rfl c10 rfl)<|za rfl rfl c9<|z2 (zMb rfl)<|zn (s := 134) rfl (fun c11 => ?_) (fun c11 => ?_)
        ·refine z8 rfl rfl c11<|z8 rfl rfl c11<|z8 rfl rfl c11<|z8 rfl rfl c11<|za rfl rfl c9<|z2 (zPt rfl c11 rfl)<|za rfl rfl rfl<|z2 (zPt rfl c9 rfl)<|z2 (zPf rfl rfl rfl)<|z2 (zMb rfl)<|z8 rfl rfl rfl<|z8 rfl rfl rfl<|z8 rfl rfl rfl<|z8 rfl rfl rfl<|zd rfl rfl<|zd rfl rfl<|zd rfl rfl<|zd rfl rfl<|z8 rfl rfl rfl<|z2 (zPt rfl rfl rfl)<|z6 ?_
         exact ⟨_, zR4, zR1, zLe, by simp_all [termT] <;> omega⟩
        ·refine za rfl rfl c11<|z2 (zc underlying64 rfl sizeOf62 (by decide) rfl rfl)<|za rfl rfl c11<|z2 (yv (j := 1) underlying62 sizeOf3 rfl rfl rfl (by decide) rfl)<|za rfl rfl c11<|z2 (zLi isAgg3 rfl)<|za rfl rfl c11<|z2 (y3 rfl rfl)<|za rfl rfl c9<|z2 (zPf rfl c11 rfl)<|za rfl rfl rfl<|z2 (zPt rfl c9 rfl)<|z2 (zPf rfl rfl rfl)<|z2 (zMb rfl)<|zn (s := 142) rfl (fun c12 => ?_) (fun c12 => ?_)
         ·refine z8 rfl rfl c12<|z8 rfl rfl c12<|z8 rfl rfl c12<|z8 rfl rfl c12<|zd rfl rfl<|zd rfl rfl<|zd rfl rfl<|zd rfl rfl<|z8 rfl rfl c12<|z2 (zPt rfl c12 rfl)<|z6 ?_
          exact ⟨_, zR4, zR1, zLe, by simp_all [termT] <;> omega⟩
         ·refine za rfl rfl c12<|z2 (zc underlying64 rfl sizeOf61 (by decide) rfl rfl)<|za rfl rfl c12<|z2 (zLi isAgg61 rfl)<|za rfl rfl c12<|z2 (y3 rfl rfl)<|za rfl rfl c12<|z2 (zMb rfl)<|zn (s := 146) rfl (fun c13 => ?_) (fun c13 => ?_)
          ·refine za rfl rfl c13<|z2 (zc underlying64 rfl sizeOf62 (by decide) rfl rfl)<|za rfl rfl c13<|z2 (yv (j := 0) underlying62 sizeOf3 rfl rfl rfl (by decide) rfl)<|za rfl rfl c13<|z2 (zLi isAgg3 rfl)<|za rfl rfl c13<|z2 (y3 rfl rfl)<|za rfl rfl c12<|z2 (zPt rfl c13 rfl)<|z2 (zPf rfl c12 rfl)<|z6 ?_
           exact ⟨_, zR4, zR1, zLe, by simp_all [termT] <;> omega⟩
          ·refine z8 rfl rfl c13<|z8 rfl rfl c13<|z8 rfl rfl c13<|z8 rfl rfl c13<|za rfl rfl c12<|z2 (zPf rfl c13 rfl)<|z2 (zPf rfl c12 rfl)<|z6 ?_
           exact ⟨_, zR4, zR1, zLe, by simp_all [termT] <;> omega⟩
      ·refine z8 rfl rfl c9<|z8 rfl rfl c9<|z8 rfl rfl c9<|z8 rfl rfl c9<|z8 rfl rfl c9<|z8 rfl rfl c9<|zd rfl rfl<|zd rfl rfl<|zd rfl rfl<|zd rfl rfl<|z8 rfl rfl c9<|z8 rfl rfl c9<|zd rfl rfl<|zd rfl rfl<|zd rfl rfl<|zd rfl rfl<|z8 rfl rfl c9<|za rfl rfl rfl<|z2 (zPf rfl c9 rfl)<|z2 (zPf rfl rfl rfl)<|z2 (zMb rfl)<|za rfl rfl rfl<|z2 (zc underlying64 rfl sizeOf61 (by decide) rfl rfl)<|za rfl rfl rfl<|z2 (zLi isAgg61 rfl)<|za rfl rfl rfl<|z2 (y3 rfl rfl)<|za rfl rfl rfl<|z2 (zMb rfl)<|zn (s := 146) rfl (fun c14 => ?_) (fun c14 => ?_)
       ·refine za rfl rfl c14<|z2 (zc underlying64 rfl sizeOf62 (by decide) rfl rfl)<|za rfl rfl c14<|z2 (yv (j := 0) underlying62 sizeOf3 rfl rfl rfl (by decide) rfl)<|za rfl rfl c14<|z2 (zLi isAgg3 rfl)<|za rfl rfl c14<|z2 (y3 rfl rfl)<|za rfl rfl rfl<|z2 (zPt rfl c14 rfl)<|z2 (zPf rfl rfl rfl)<|z6 ?_
        exact ⟨_, zR4, zR1, zLe, by simp_all [termT] <;> omega⟩
       ·refine z8 rfl rfl c14<|z8 rfl rfl c14<|z8 rfl rfl c14<|z8 rfl rfl c14<|za rfl rfl rfl<|z2 (zPf rfl c14 rfl)<|z2 (zPf rfl rfl rfl)<|z6 ?_
        exact ⟨_, zR4, zR1, zLe, by simp_all [termT] <;> omega⟩
    ·rintro u hu
     subst hu
     refine zu rfl (fun ct => ?_) (fun ct => ?_)
     ·have dt : termT f b.term = false := by simpa using ct
      refine zb<|z7 rfl<|z2 (zAb rfl)<|z6<|zj<|zl (x := .bool _) rfl ?_
      rw [hbad (by unfold blkT; rw [hjall, hkall, dt]; rfl)]
     ·have dt : termT f b.term = true := by simpa using ct
      refine ze<|z7 rfl<|z2 (y9 rfl rfl (by unfold I64; omega))<|z2 (zMi rfl)<|z6 ?_
      exact ⟨i + 1, zR3, zR1, zLe, ⟨hi2, all_take hi2 hall (by rw [hbi]; unfold blkT; rw [hjall, hkall, dt]; rfl)⟩, by omega⟩
 ·have hin : i = f.blocks.length := by simp at ci; omega
  rw [hin, qi] at hall
  refine y7<|zb<|z7 rfl<|z2 (zAb rfl)<|z6<|zj<|zl (x := .bool _) rfl ?_
  rw [hall]
end Go.Proofs.YtjnpcfpecilejaaGreatDoor
namespace Go.Proofs.YtjnpcfpecilejaaGreatDoor
open Go.Proofs.Tryz
variable {α : Type}
def mg (k : Int) : List (Int × List α) → List α
 | [] => []
 | (k', r) :: es => if k = k' then r else mg k es
def ms (k : Int) (r : List α) : List (Int × List α) → List (Int × List α)
 | [] => [(k, r)]
 | (k', r') :: es => if k = k' then (k, r) :: es else (k', r') :: ms k r es
def kv (k : Int) : Value := .int .i64 k
theorem kv_now (k k' : Int) : Instr.sameNow (.int .i64) (kv k) (kv k') = some (decide (k = k')) := by
 simp [Instr.sameNow, kv]; by_cases h : k = k' <;> simp [h]
inductive MapR (c : Enc α) (e : TypeId) : List (Int × List α) → List (Value × Value) → List (Nat × Obj) → Prop
 | nil : MapR c e [] [] []
 | cons {k r es a n cap hs A B} : OwnS c.k e a n cap (c.vs r) A → MapR c e es hs B → MapR c e ((k, r) :: es) ((kv k, .slice a n cap) :: hs) (A ++ B)
theorem MapR.get {c : Enc α} {e : TypeId} {k : Int} : ∀ {l : List MapEntry} {es : List (Int × List α)} {L : List (Nat × Obj)} (i : Nat), MapR c e es (l.map fun e => (e.key, e.val)) L →
  (Instr.findNow (.int .i64) (kv k) l i = some none ∧ mg k es = [] ∧ ∀ r' a' n' c' A', OwnS c.k e a' n' c' (c.vs r') A' → ∃ L', MapR c e (ms k r' es) (l.map (fun e => (e.key, e.val)) ++ [(kv k, .slice a' n' c')]) L' ∧ L'.Perm (A' ++ L)) ∨
  (∃ j e0 a n cap A B, Instr.findNow (.int .i64) (kv k) l i = some (some (i + j, .slice a n cap)) ∧ l[j]? = some e0 ∧ e0.key = kv k ∧ OwnS c.k e a n cap (c.vs (mg k es)) A ∧ L.Perm (A ++ B) ∧
   ∀ r' a' n' c' A', OwnS c.k e a' n' c' (c.vs r') A' → ∃ L', MapR c e (ms k r' es) ((l.map fun e => (e.key, e.val)).set j (kv k, .slice a' n' c')) L' ∧ L'.Perm (A' ++ B))
 | [], es, L, i, h => by
  cases h
  exact .inl ⟨rfl, rfl, fun r' a' n' c' A' h => ⟨_, by simpa [ms] using MapR.cons (k := k) h .nil, by simp⟩⟩
 | x :: l, es, L, i, h => by
  generalize hl : ((x :: l).map fun e => (e.key, e.val)) = hs0 at h
  cases h with
  | nil => simp at hl
  | @cons k1 r es a n cap hs A B h1 h2 =>
   simp only [List.map_cons, List.cons.injEq, Prod.mk.injEq] at hl
   obtain ⟨⟨hk, hv⟩, rfl⟩ := hl
   by_cases e1 : k = k1
   ·subst e1
    right
    refine ⟨0, x, a, n, cap, A, B, ?_, rfl, hk, by simpa [mg] using h1, .refl _, fun r' a' n' c' A' h => ⟨A' ++ B, ?_, .refl _⟩⟩
    ·unfold Instr.findNow; rw [hk, kv_now, qm rfl]; simp [hv]
    ·simp only [ms, if_pos, List.map_cons, List.set_cons_zero]
     exact .cons h h2
   ·have hf : Instr.findNow (.int .i64) (kv k) (x :: l) i = Instr.findNow (.int .i64) (kv k) l (i + 1) := by
     rw [Instr.findNow, hk, kv_now, qn e1]
    have hg : mg k ((k1, r) :: es) = mg k es := by simp [mg, e1]
    have hms : ∀ r', ms k r' ((k1, r) :: es) = (k1, r) :: ms k r' es := fun r' => by simp [ms, e1]
    rw [hf, hg]
    rcases MapR.get (k := k) (i + 1) h2 with ⟨g1, g2, g3⟩ | ⟨j, e0, a1, n1, c1, A1, B1, g1, g2, g3, g4, g5, g6⟩
    ·left
     refine ⟨g1, g2, fun r' a' n' c' A' h => ?_⟩
     obtain ⟨L', q1, q2⟩ := g3 r' a' n' c' A' h
     refine ⟨A ++ L', ?_, ?_⟩
     ·rw [hms, List.cons_append]; exact .cons h1 q1
     ·refine (q2.append_left A).trans ?_
      rw [← qf, ← qf]
      exact List.perm_append_comm.append_right B
    ·right
     refine ⟨j + 1, e0, a1, n1, c1, A1, A ++ B1, by rw [g1]; congr 3; omega, by simpa using g2, g3, g4, ?_, fun r' a' n' c' A' h => ?_⟩
     ·refine (g5.append_left A).trans ?_
      rw [← qf, ← qf]
      exact List.perm_append_comm.append_right B1
     ·obtain ⟨L', q1, q2⟩ := g6 r' a' n' c' A' h
      refine ⟨A ++ L', ?_, ?_⟩
      ·rw [hms, List.set_cons_succ]; exact .cons h1 q1
      ·refine (q2.append_left A).trans ?_
       rw [← qf, ← qf]
       exact List.perm_append_comm.append_right B1
section
variable {E : World} {P : Program} {ops : Array Oper} {K : AEnv → OL → Prop} {env : AEnv} {O O' O'' : OL} {rest : List Oper} {n : Nat}
variable {d ty : Nat} {pos : String} {af : Array Edge} {x y z : Operand} {t u e T kt : TypeId} {b : Nat}
def FroM (c : Enc α) (I : G) : List (Int × List α) → List (Value × Value) → Prop
 | [], hs => hs = []
 | (k, r) :: es, hs => ∃ v hs', hs = (kv k, v) :: hs' ∧ RepV I (.fro c.k (r.map c.row)) v ∧ FroM c I es hs'
theorem FroM.mono {c : Enc α} {I J : G} (h : I.le J) : ∀ {es : List (Int × List α)} {hs : List (Value × Value)}, FroM c I es hs → FroM c J es hs
 | [], _, e => e
 | (_, _) :: _, _, ⟨v, hs', e, h1, h2⟩ => ⟨v, hs', e, RepV.mono h _ _ h1, FroM.mono h h2⟩
theorem MapR.fro {c : Enc α} {I : G} {e : TypeId} {es : List (Int × List α)} {hs : List (Value × Value)} {B : List (Nat × Obj)} (h : MapR c e es hs B) (hI : ∀ x ∈ B, I.k x.1 = some x.2) : FroM c I es hs := by
 induction h with
 | nil => rfl
 | cons h1 _ ih => exact ⟨_, _, rfl, h1.fro fun x hx => hI x (List.mem_append_left _ hx), ih fun x hx => hI x (List.mem_append_right _ hx)⟩
theorem FroM.get {c : Enc α} {I : G} {k : Int} : ∀ {l : List MapEntry} {es : List (Int × List α)} (i : Nat), FroM c I es (l.map fun e => (e.key, e.val)) →
  (Instr.findNow (.int .i64) (kv k) l i = some none ∧ mg k es = []) ∨ (∃ j v, Instr.findNow (.int .i64) (kv k) l i = some (some (j, v)) ∧ RepV I (.fro c.k ((mg k es).map c.row)) v)
 | [], [], i, _ => .inl ⟨rfl, rfl⟩
 | _ :: _, [], _, h => by cases h
 | [], (_, _) :: _, _, ⟨_, _, e, _⟩ => by cases e
 | x :: l, (k1, r) :: es, i, ⟨v, hs', e, h1, h2⟩ => by
  simp only [List.map_cons, List.cons.injEq, Prod.mk.injEq] at e
  obtain ⟨⟨hk, hv⟩, rfl⟩ := e
  by_cases e1 : k = k1
  ·subst e1
   right
   refine ⟨i, v, ?_, by simpa [mg] using h1⟩
   unfold Instr.findNow; rw [hk, kv_now, qm rfl]; simp [hv]
  ·have hf : Instr.findNow (.int .i64) (kv k) (x :: l) i = Instr.findNow (.int .i64) (kv k) l (i + 1) := by
    rw [Instr.findNow, hk, kv_now, qn e1]
   rw [hf, show mg k ((k1, r) :: es) = mg k es by simp [mg, e1]]
   exact FroM.get (i + 1) h2
end
end Go.Proofs.YtjnpcfpecilejaaGreatDoor
namespace Go.Proofs.YtjnpcfpecilejaaGreatDoor
open Go.Proofs.Tryz
open Go.Proofs
def lC (l : List Rng) : List AV := eP.av l
theorem lC_len (l : List Rng) : (lC l).length = l.length * 2 := eP.av_len l
theorem lC_cons (r : Rng) (l : List Rng) : lC (r :: l) = .int .i64 r.1 :: .int .i64 r.2 :: lC l := rfl
theorem lC_drop : ∀ (l : List Rng) (j : Nat), (lC l).drop (j * 2) = lC (l.drop j)
 | l, 0 => by simp
 | [], j + 1 => by simp [lC, Enc.av]
 | r :: l, j + 1 => by
  rw [show (j + 1) * 2 = j * 2 + 1 + 1 by omega, lC_cons, List.drop_succ_cons, List.drop_succ_cons, lC_drop l j, List.drop_succ_cons]
theorem lC_get {l : List Rng} {j : Nat} {r : Rng} (h : l[j]? = some r) : (lC l).drop (j * 2) = .int .i64 r.1 :: .int .i64 r.2 :: lC (l.drop (j + 1)) := by
 obtain ⟨hj, e⟩ := List.getElem?_eq_some_iff.1 h
 rw [lC_drop, List.drop_eq_getElem_cons hj, e, lC_cons]
theorem lC_ne {l : List Rng} {j : Nat} (h : j < l.length) : lC l ≠ [] := fun e => by have := lC_len l; rw [e] at this; simp at this; omega
section
variable {E : World} {P : Program} {ops : Array Oper} {K : AEnv → OL → Prop} {env : AEnv} {O O' O'' : OL} {rest : List Oper} {n : Nat}
variable {d ty : Nat} {pos : String} {af : Array Edge} {x y z : Operand} {t u e T : TypeId}
theorem Gv.idxR {i n j : Nat} {a : Int} {T : TypeId} {l : List Rng} (ht : P.underlying t = some (.slice e)) (hs : ∀ w, (sizeOf e).run P w = .ok 2 w) (hx : aev env x = .own i n) (hy : aev env y = .int .i64 a) (hi : a = (j : Int)) (hO : Has O i (.grow 2 T (lC l))) (hn : l.length = n) (hj : j < n) :
  Gv P env O (Oper.mk (some d) (.indexAddr t x y) ty pos af none) (.po i (j * 2)) := Gv.idxO ht hs hx hy hi hO (lC_ne (j := j) (by omega)) hj
theorem Gv.loadR {i j : Nat} {T : TypeId} {l : List Rng} {r : Rng} (ha : ∀ w, (isAgg t).run P w = .ok true w) (hs : ∀ w, (sizeOf t).run P w = .ok 2 w) (hx : aev env x = .po i (j * 2)) (hO : Has O i (.grow 2 T (lC l))) (hv : l[j]? = some r) :
  Gv P env O (Oper.mk (some d) (.load t x) ty pos af none) (.agg (encZ r)) := by
 have hj := (List.getElem?_eq_some_iff.1 hv).1
 exact Gv.loadAG ha hs hx hO (lC_ne hj) (by rw [lC_len]; omega) (by rw [lC_get hv]; rfl)
end
structure RdL (P : Program) (te ee : TypeId) (Lv : AV) (ptr : Nat → AV) (i : Nat) (HL : AObj) (l : List Rng) : Prop where
 idx : ∀ {env : AEnv} {O : OL} {d ty : Nat} {pos : String} {af : Array Edge} {x y : Operand} {a : Int} {j : Nat}, aev env x = Lv → aev env y = .int .i64 a → a = (j : Int) → j < l.length → Has O i HL → Gv P env O (Oper.mk (some d) (.indexAddr te x y) ty pos af none) (ptr j)
 load : ∀ {env : AEnv} {O : OL} {d ty : Nat} {pos : String} {af : Array Edge} {x : Operand} {j : Nat} {r : Rng}, aev env x = ptr j → l[j]? = some r → Has O i HL → Gv P env O (Oper.mk (some d) (.load ee x) ty pos af none) (.agg (encZ r))
def ptrF (l : List Rng) (j : Nat) : AV := .pf (encZ ((l[j]?).getD noR))
def ptrO (i : Nat) (j : Nat) : AV := .po i (j * 2)
theorem RdL.fro {P : Program} {te ee : TypeId} (ht : P.underlying te = some (.slice ee)) (hs : ∀ w, (sizeOf ee).run P w = .ok 2 w) (ha : ∀ w, (isAgg ee).run P w = .ok true w) (i : Nat) (HL : AObj) (l : List Rng) : RdL P te ee (.fro 2 (l.map encZ)) (ptrF l) i HL l where
 idx hx hy hi hj _ := y6 ht hs hx hy hi (by rw [qd hj]; rfl)
 load hx hv _ := zm ha hs (cs := encZ _) (by rw [hx]; unfold ptrF; rw [hv]; rfl) rfl
theorem RdL.own {P : Program} {te ee : TypeId} (ht : P.underlying te = some (.slice ee)) (hs : ∀ w, (sizeOf ee).run P w = .ok 2 w) (ha : ∀ w, (isAgg ee).run P w = .ok true w) (i : Nat) (T : TypeId) (l : List Rng) (n : Nat) (hn : l.length = n) : RdL P te ee (.own i n) (ptrO i) i (.grow 2 T (lC l)) l where
 idx hx hy hi hj hO := Gv.idxR ht hs hx hy hi hO hn (by omega)
 load hx hv hO := Gv.loadR ha hs hx hO hv
end Go.Proofs.YtjnpcfpecilejaaGreatDoor
namespace Go.Proofs.YtjnpcfpecilejaaGreatDoor
open Go.Proofs.Tryz
def lv (l : List Rng) (v : Int) : Rng := (l[v.toNat]?).getD noR
structure Rules (n : Nat) (rule : List Rng → Int → Rng) (vs : List Int) : Prop where
 mono : ∀ l l' v, l.length = n → l'.length = n → (∀ u : Int, 0 ≤ u → rSub (lv l u) (lv l' u)) → (∀ u : Int, 0 ≤ u → ok64 (lv l u)) → (∀ u : Int, 0 ≤ u → ok64 (lv l' u)) → v ∈ vs → rSub (rule l v) (rule l' v)
 ok : ∀ l v, l.length = n → (∀ u : Int, 0 ≤ u → ok64 (lv l u)) → v ∈ vs → ok64 (rule l v)
 rng : ∀ v ∈ vs, 0 ≤ v ∧ v < n
end Go.Proofs.YtjnpcfpecilejaaGreatDoor
namespace Go.Proofs.YtjnpcfpecilejaaGreatDoor
open Go.Proofs.Tryz
section
variable {n : Nat} {rule : List Rng → Int → Rng} {widn : Nat → Int → Option Rng} {vs : List Int} (hR : Rules n rule vs) (hw : ∀ i v t, widn i v = some t → ok64 t)
include hR hw
end
end Go.Proofs.YtjnpcfpecilejaaGreatDoor
namespace Go.Proofs.YtjnpcfpecilejaaGreatDoor
open Go.Proofs.Tryz
theorem noR_ok : ok64 noR := ⟨by decide, by decide⟩
def tyV (f : PFunc) (v : Int) : Int := ((f.vars[v.toNat]?).map (·.ty)).getD 0
def ofR (f : PFunc) (l : List Rng) (v : Int) : Rng := rMeet (lv l v) (rType (tyV f v))
theorem ofR_ok {f : PFunc} {l : List Rng} (h : ∀ u : Int, 0 ≤ u → ok64 (lv l u)) {v : Int} (hv : 0 ≤ v) : ok64 (ofR f l v) := rMeet_ok (h v hv) (rType_ok _)
end Go.Proofs.YtjnpcfpecilejaaGreatDoor
namespace Go.Proofs.YtjnpcfpecilejaaGreatDoor
open Go.Proofs.Tryz
def chkQ (f : PFunc) (op : Int) (args : List Int) (i : Nat) (block at_ : Int) (q : PInst × Nat) : Bool := decide (q.1.op = op) && decide (q.1.args = args) && aheadB f ((i : Int), (q.2 : Int)) block at_
def chkI (f : PFunc) (op : Int) (args : List Int) (block at_ : Int) (i : Nat) : Bool := ((f.blocks[i]?).map fun b => b.insts.zipIdx.any (chkQ f op args i block at_)).getD false
def chkW (f : PFunc) (op : Int) (args : List Int) (block at_ : Int) : Bool := (List.range f.blocks.length).any (chkI f op args block at_)
def isSum (op : Int) : Bool := decide (op = 2 ∨ op = 3 ∨ op = 4)
def chkX (f : PFunc) (x : PInst) (block at_ : Int) : Bool := isSum x.op && chkW f (x.op + 19) x.args block at_
def instAt (f : PFunc) (m : Plc) : Option PInst := if 0 ≤ m.1 ∧ 0 ≤ m.2 then (f.blocks[m.1.toNat]?).bind fun b => b.insts[m.2.toNat]? else none
def chkV (f : PFunc) (v : Int) : Bool := ((instAt f (makerT f v)).map fun x => chkX f x (makerT f v).1 (makerT f v).2).getD false
theorem chkI_at {f : PFunc} {op : Int} {args : List Int} {block at_ : Int} {i : Nat} {b : PBlock} (h : f.blocks[i]? = some b) : chkI f op args block at_ i = b.insts.zipIdx.any (chkQ f op args i block at_) := by unfold chkI; rw [h]; rfl
theorem range_any_succ {p : Nat → Bool} {k : Nat} (h : (List.range k).any p = false) (hk : p k = false) : (List.range (k + 1)).any p = false := by rw [List.range_succ, List.any_append, h]; simp [hk]
theorem range_any_hit {p : Nat → Bool} {k n : Nat} (hk : k < n) (h : p k = true) : (List.range n).any p = true := List.any_eq_true.2 ⟨k, List.mem_range.2 hk, h⟩
theorem any_take {α : Type} {p : α → Bool} {l : List α} {k : Nat} (h : k < l.length) (h1 : (l.take k).any p = false) (h2 : p l[k] = false) : (l.take (k + 1)).any p = false := by
 rw [qe h, List.any_append, h1]; simp [h2]
theorem any_hit {α : Type} {p : α → Bool} {l : List α} {k : Nat} (h : k < l.length) (h2 : p l[k] = true) : l.any p = true := List.any_eq_true.2 ⟨_, qh h, h2⟩
theorem mem_mkBlk {v i : Int} {b : PBlock} {m : Plc} : m ∈ mkBlk v i b ↔ (∃ p ∈ b.phis, p.dst = v ∧ m = (i, -1)) ∨ ∃ (k : Nat) (x : PInst), b.insts[k]? = some x ∧ x.dst = v ∧ m = (i, (k : Int)) := by
 unfold mkBlk
 rw [List.mem_append]
 constructor
 ·rintro (h | h)
  ·obtain ⟨p, hp, e⟩ := List.mem_map.1 h
   obtain ⟨h1, h2⟩ := List.mem_filter.1 hp
   exact .inl ⟨p, h1, by simpa using h2, e.symm⟩
  ·obtain ⟨q, hq, e⟩ := List.mem_map.1 h
   obtain ⟨h1, h2⟩ := List.mem_filter.1 hq
   obtain ⟨x, k⟩ := q
   have := List.mem_zipIdx_iff_getElem?.1 h1
   exact .inr ⟨k, x, this, by simpa using h2, e.symm⟩
 ·rintro (⟨p, h1, h2, rfl⟩ | ⟨k, x, h1, h2, rfl⟩)
  ·exact .inl (List.mem_map.2 ⟨p, List.mem_filter.2 ⟨h1, by simpa using h2⟩, rfl⟩)
  ·exact .inr (List.mem_map.2 ⟨(x, k), List.mem_filter.2 ⟨List.mem_zipIdx_iff_getElem?.2 h1, by simpa using h2⟩, rfl⟩)
theorem mem_makings {f : PFunc} {v : Int} {m : Plc} : m ∈ makings f v ↔ ∃ (i : Nat) (b : PBlock), f.blocks[i]? = some b ∧ m ∈ mkBlk v i b := by
 unfold makings
 rw [List.mem_flatMap]
 constructor
 ·rintro ⟨⟨b, i⟩, h1, h2⟩; exact ⟨i, b, List.mem_zipIdx_iff_getElem?.1 h1, h2⟩
 ·rintro ⟨i, b, h1, h2⟩; exact ⟨(b, i), List.mem_zipIdx_iff_getElem?.2 h1, h2⟩
theorem maker_mem {f : PFunc} {v : Int} (h : 0 ≤ (makerT f v).1) : makerT f v ∈ makings f v := by
 unfold makerT at h ⊢
 cases hm : makings f v with
 | nil => rw [hm] at h; simp at h
 | cons x l => simp
theorem maker_eq {f : PFunc} {v : Int} {m : Plc} (hl : (makings f v).length ≤ 1) (h : m ∈ makings f v) : makerT f v = m := by
 unfold makerT
 cases hm : makings f v with
 | nil => rw [hm] at h; cases h
 | cons x l =>
  rw [hm] at h hl
  cases l with
  | nil => simp at h; simp [h]
  | cons y l => simp at hl
theorem maker_cases {f : PFunc} {v : Int} (h : 0 ≤ (makerT f v).1) : ∃ (i : Nat) (b : PBlock), f.blocks[i]? = some b ∧ ((∃ p ∈ b.phis, p.dst = v ∧ makerT f v = ((i : Int), -1)) ∨ ∃ (k : Nat) (x : PInst), b.insts[k]? = some x ∧ x.dst = v ∧ makerT f v = ((i : Int), (k : Int))) := by
 obtain ⟨i, b, h1, h2⟩ := mem_makings.1 (maker_mem h)
 exact ⟨i, b, h1, mem_mkBlk.1 h2⟩
theorem chkV_at {f : PFunc} {v : Int} {i k : Nat} {b : PBlock} {x : PInst} (hb : f.blocks[i]? = some b) (hx : b.insts[k]? = some x) (hm : makerT f v = ((i : Int), (k : Int))) : chkV f v = chkX f x i k := by
 unfold chkV instAt
 rw [hm, if_pos ⟨by dsimp only; omega, by dsimp only; omega⟩]
 show (((f.blocks[i]?).bind fun b => b.insts[k]?).map fun x => chkX f x i k).getD false = _
 rw [hb]; show ((b.insts[k]?).map _).getD false = _
 rw [hx]; rfl
end Go.Proofs.YtjnpcfpecilejaaGreatDoor
namespace Go.Proofs.YtjnpcfpecilejaaGreatDoor
open Go.Proofs.Tryz
open Go.Proofs Go.Lib Go.Shelf Go.RowKit
variable {E : World}
set_option maxRecDepth 20000
end Go.Proofs.YtjnpcfpecilejaaGreatDoor
namespace Go.Proofs.YtjnpcfpecilejaaGreatDoor
open Go.Proofs.Tryz
open Go.Proofs
theorem pl261 : Places Tryz.prog 261 #[(0, 2), (2, 1)] [.int .i64 0, .int .i64 0, .bool false] := ⟨_, _, underlying261, zeroValue261, fun w => by kernel_rfl, rfl⟩
theorem pl280 : PlacesA Tryz.prog 280 1 [.int .i64 0, .int .i64 0] := ⟨_, _, _, underlying280, zeroValue280, sizeOf2, rfl⟩
variable {E : World}
set_option maxRecDepth 20000
theorem aMul {x y : Int} (hx : is64 x) (hy : is64 y) : AFun Tryz.prog E 237 [.int .i64 x, .int .i64 y] (.tup [.int .i64 (IntKind.i64.wrap (x * y)), .bool (decide (fit3 2 x y))]) := by
 rw [← mulB]
 refine zp func237 rfl (by decide) rfl<|zb<|z7 rfl<|z2 (zAi rfl)<|z2 (zAb rfl)<|z6<|zb<|z7 rfl<|z2 (zMi rfl)<|zi (aAbs hx) rfl<|z2 (zMi rfl)<|zi (aAbs hy) rfl<|zi (mul64_spec _ _ (abs_lt hx) (abs_lt hy)) rfl<|z2 (zq (v := .tup _) rfl)<|z2 (yh (v := .int _ _) rfl rfl)<|z2 (yh (v := .int _ _) rfl rfl)<|z2 (zAi rfl)<|z2 (zAi rfl)<|z6<|zb<|z7 rfl<|z2 (zAi rfl)<|z6<|zb<|zb<|z7 rfl<|z2 (zMi rfl)<|z2 (yf rfl rfl)<|z2 (zMi rfl)<|z2 (yf rfl rfl)<|z2 (Gv.neqB underlying4 rfl rfl)<|z6<|yp (γ := Int) [0, 1, 6, 7] (fun m => [(8, .int .u64 m)]) (fun m => []) (fun m => m = if (!(decide (x < 0) == decide (y < 0))) = true then 9223372036854775808 else 9223372036854775807) ?_ (fun _ _ h => h) ?_
 ·refine zu rfl (fun c1 => ?_) (fun c1 => ?_)
  ·refine z7 rfl<|z2 (zMi rfl)<|z2 (Gv.addW rfl rfl)<|z2 (zAi rfl)<|z6 ?_
   exact ⟨_, zR4, zR1, zLe, by simp_all <;> first | rfl | decide⟩
  ·refine ze ?_
   exact ⟨_, zR4, zR1, zLe, by simp_all <;> first | rfl | decide⟩
 ·rintro m hm
  subst hm
  refine zb<|z7 rfl<|z2 (zMi rfl)<|z2 (zMi rfl)<|z2 (Gv.mulW rfl rfl)<|z2 (zMi rfl)<|z2 (y3 rfl rfl)<|z2 (zMb rfl)<|zn (s := 29) rfl (fun c2 => ?_) (fun c2 => ?_)
  ·refine za rfl rfl c2<|z2 (zMi rfl)<|za rfl rfl c2<|z2 (zMi rfl)<|za rfl rfl c2<|z2 (Gv.leq rfl rfl)<|z2 (zPt rfl c2 rfl)<|z2 (zAi rfl)<|z2 (zAb rfl)<|z6<|zj<|afin.t2 (x := .int _ _) (y := .bool _) rfl rfl ?_
   simp_all
  ·refine z8 rfl rfl c2<|z8 rfl rfl c2<|z8 rfl rfl c2<|z2 (zPf rfl c2 rfl)<|z2 (zAi rfl)<|z2 (zAb rfl)<|z6<|zj<|afin.t2 (x := .int _ _) (y := .bool _) rfl rfl ?_
   simp_all
theorem hull_add (i : Nat) (h : Rng × Bool) (n : Int) (fits : Bool) (e : Int) : ACall Tryz.prog E 234 [.po i 0, .int .i64 n, .bool fits, .int .i64 e] [(i, .cells 261 (encH h))] fun r O => r = .tup [] ∧ O = [(i, .cells 261 (encH (hAdd h n fits e)))] := by
 refine zp func234 rfl (by decide) rfl<|zb<|zb<|z7 rfl<|z2 (zMb rfl)<|z2 (yj rfl)<|z6<|yp (γ := Int × Bool) [0] (fun g => [(1, .int .i64 g.1)]) (fun g => [(i, .cells 261 (encH (h.1, g.2)))]) (fun g => g.1 = (if fits then n else e) ∧ g.2 = (h.2 || !fits)) ?_ (fun _ _ h => h) ?_
 ·refine zu rfl (fun c => ?_) (fun c => ?_)
  ·refine z7 rfl<|z2 (zq (v := .po _ _) rfl)<|z2 (zMi rfl)<|z2 (ye rfl)<|z2 (zr underlying261 rfl sizeOf4 (by decide) rfl rfl)<|AOps.storeC (l := [_]) (new := [_, _, _]) sizeOf4 rfl rfl rfl rfl rfl rfl .head rfl rfl<|z2 (zAi rfl)<|z6 ?_
   exact ⟨(e, true), zR1, zR1, zLe, by simp_all⟩
  ·refine ze ?_
   exact ⟨(n, h.2), zR1, zR1, zLe, by simp_all⟩
 ·rintro ⟨m, w⟩ ⟨h1, h2⟩
  dsimp only at h1 h2
  subst h1 h2
  refine yc (fun j => Nat.beq j 10) (by kernel_rfl) rfl (zo (.r (.rest _)))<|zTk (i := 0) rfl (zq (v := .po _ _) rfl)<|zTk (i := 1) rfl (zq (v := .po _ _) rfl)<|zTk (i := 2) rfl (ye rfl)<|zTk (i := 3) rfl (zr underlying261 rfl sizeOf74 (by decide) rfl rfl)<|zTk (i := 4) rfl (Gv.loadAC (l := [_, _]) isAgg74 sizeOf74 rfl ⟨_, .head⟩ rfl rfl)<|zTk (i := 5) rfl (zMi rfl)<|zOn (i := 6) rfl<|zi (iOf _) rfl<|z6<|zOn (i := 7) rfl<|zi (iJoin _ _) rfl<|z6<|AAny.takeK (i := 8) rfl (by kernel_rfl) (by kernel_rfl) (by kernel_rfl) (by kernel_rfl) (ye rfl)<|zTk (i := 9) rfl (zr underlying261 rfl sizeOf74 (by decide) rfl rfl)<|q0<|q8 (i := 10) rfl (by kernel_rfl) (by kernel_rfl)<|AOps.storeC (l := [_, _]) (new := [_, _, _]) sizeOf74 rfl rfl rfl rfl rfl rfl .head rfl rfl<|z6<|q4 (by kernel_rfl)<|yk ?_
  exact ⟨rfl, rfl⟩
set_option maxHeartbeats 4000000 in
theorem iCorners (op : Int) (k : Nat) (hk : k ≤ 2) (hop : op = 2 + (k : Int)) {a b : Rng} (ha : ok64 a) (hb : ok64 b) : AFun Tryz.prog E 218 [.int .i64 op, .agg (encZ a), .agg (encZ b)] (.agg (encH (cornP k a b))) := by
 obtain ⟨st, hst⟩ : ∃ st, hSt (op3 k) (fun x y => decide (fit3 k x y)) (near3 k) (noR, false) a b = st := ⟨_, rfl⟩
 have hstep : ∀ (i j : Nat), j < 2 → st (2 * i + (j + 1)) = hAdd (st (2 * i + j)) (op3 k (selR a i) (selR b j)) (decide (fit3 k (selR a i) (selR b j))) (near3 k (selR a i) (selR b j)) := fun i j hj => by rw [← hst]; exact hSt_step i hj
 have h4 : st 4 = cornP k a b := by rw [← hst]; rfl
 have h0 : st 0 = (noR, false) := by rw [← hst]; rfl
 refine zp func218 rfl (by decide) rfl<|zb<|z7 rfl<|yd (cs := _) rfl rfl rfl<|yd (cs := _) rfl rfl rfl<|yb (cs := [.int .i64 0, .int .i64 0, .bool false]) zeroValue261 rfl rfl<|fun i6 => z6<|zb<|z7 rfl<|zi (iNone) rfl<|z2 (zz (cps := [(0, [_, _])]) (rs := [_, _, .bool false]) pl261 rfl rfl rfl)<|yb (cs := [.int .i64 0, .int .i64 0, .bool false]) zeroValue261 rfl rfl<|fun i7 => y4 sizeOf261 rfl rfl rfl rfl rfl rfl .head rfl<|z6<|zb<|zb<|z7 rfl<|z2 (zc underlying74 rfl sizeOf2 (by decide) rfl rfl)<|z2 (zLi isAgg2 rfl)<|z2 (zc underlying74 rfl sizeOf2 (by decide) rfl rfl)<|z2 (zLi isAgg2 rfl)<|z2 (Gv.buildA (cps := [(0, [_]), (1, [_])]) (rs := [_, _]) pl280 rfl rfl rfl)<|z2 (zMi rfl)<|z6<|zh<|y8 (γ := Nat) [0, 5, 6, 7, 24] (fun i => [(25, .int .i64 i)]) (fun i => [(i7, .cells 261 (encH (st (2 * i)))), (i6, .cells 261 [.int .i64 0, .int .i64 0, .bool false])]) (fun i => i ≤ 2) (fun i => 2 - i) 0 zR1 ⟨_, (.refl _), by rw [h0]; rfl⟩ ((by omega)) ?_
 rintro i hi
 refine zb<|z7 rfl<|z2 (yf rfl rfl)<|z6<|zb<|zx rfl (fun ci => ?_) (fun ci => ?_)
 ·have hi2 : i < 2 := by omega
  have hx := sel_ok ha i
  refine ze<|zb<|zh<|zb<|z7 rfl<|z2 (Gv.index1 (n := 2) (j := i) (cs := [.int .i64 a.1, .int .i64 a.2]) (v := .int .i64 (selR a i)) underlying280 isAgg2 sizeOf2 rfl rfl rfl hi2 (sel_get hi2))<|z2 (zAi rfl)<|z6<|zb<|z7 rfl<|z2 (zc underlying74 rfl sizeOf2 (by decide) rfl rfl)<|z2 (zLi isAgg2 rfl)<|z2 (zc underlying74 rfl sizeOf2 (by decide) rfl rfl)<|z2 (zLi isAgg2 rfl)<|z2 (Gv.buildA (cps := [(0, [_]), (1, [_])]) (rs := [_, _]) pl280 rfl rfl rfl)<|z2 (zMi rfl)<|z6<|zh<|y8 (γ := Nat) [0, 5, 6, 7, 9, 24, 25, 32] (fun j => [(33, .int .i64 j)]) (fun j => [(i7, .cells 261 (encH (st (2 * i + j)))), (i6, .cells 261 [.int .i64 0, .int .i64 0, .bool false])]) (fun j => j ≤ 2) (fun j => 2 - j) 0 zR1 zLe ((by omega)) ?_
  rintro j hj
  refine zb<|z7 rfl<|z2 (yf rfl rfl)<|z6<|zb<|zx rfl (fun cj => ?_) (fun cj => ?_)
  ·have hj2 : j < 2 := by omega
   have hy := sel_ok hb j
   have hs := hstep i j hj2
   refine ze<|zb<|zh<|zb<|z7 rfl<|z2 (Gv.index1 (n := 2) (j := j) (cs := [.int .i64 b.1, .int .i64 b.2]) (v := .int .i64 (selR b j)) underlying280 isAgg2 sizeOf2 rfl rfl rfl hj2 (sel_get hj2))<|z2 (zAi rfl)<|z6<|zb<|z7 rfl<|z2 (zMi rfl)<|z6<|zh<|zb<|z7 rfl<|z2 (y3 rfl rfl)<|z2 (zAb rfl)<|z6<|zx rfl (fun c2 => ?_) (fun c2 => ?_)
   ·have hk0 : k = 0 := by omega
    subst hk0
    refine zb<|z7 rfl<|z2 (zMi rfl)<|z2 (zMi rfl)<|zi (aAdd hx hy) rfl<|z2 (zq (v := .tup _) rfl)<|z2 (yh (v := .int _ _) rfl rfl)<|z2 (yh (v := .bool _) rfl rfl)<|z2 (zAi rfl)<|z2 (zAb rfl)<|z6<|z7 rfl<|z2 (zMi rfl)<|z2 (zMb rfl)<|z2 (zMi rfl)<|z2 (yf rfl rfl)<|zi (iNear _) rfl<|zt rfl (zo (.l (.r (.rest _)))) (hull_add i7 _ _ _ _) ?_
    rintro r50 O50 ⟨rfl, rfl⟩
    refine z6<|z7 rfl<|z2 (y9 rfl rfl (by unfold I64; omega))<|z2 (zMi rfl)<|z6 ?_
    exact ⟨j + 1, zR8, zR1, ⟨_, (.refl _), by rw [hs, hAdd_fit add_fit (near_0 _ (selR b j))]; rfl⟩, hj2, by omega⟩
   ·refine zb<|z7 rfl<|z2 (y3 rfl rfl)<|z2 (zAb rfl)<|z6<|zx rfl (fun c3 => ?_) (fun c3 => ?_)
    ·have hk0 : k = 1 := by omega
     subst hk0
     refine zb<|z7 rfl<|z2 (zMi rfl)<|z2 (zMi rfl)<|zi (aSub hx hy) rfl<|z2 (zq (v := .tup _) rfl)<|z2 (yh (v := .int _ _) rfl rfl)<|z2 (yh (v := .bool _) rfl rfl)<|z2 (zAi rfl)<|z2 (zAb rfl)<|z6<|z7 rfl<|z2 (zMi rfl)<|z2 (zMb rfl)<|z2 (zMi rfl)<|z2 (yf rfl rfl)<|zi (iNear _) rfl<|zt rfl (zo (.l (.r (.rest _)))) (hull_add i7 _ _ _ _) ?_
     rintro r64 O64 ⟨rfl, rfl⟩
     refine z6<|z7 rfl<|z2 (y9 rfl rfl (by unfold I64; omega))<|z2 (zMi rfl)<|z6 ?_
     exact ⟨j + 1, zR8, zR1, ⟨_, (.refl _), by rw [hs, hAdd_fit sub_fit (near_1 _ (selR b j))]; rfl⟩, hj2, by omega⟩
    ·refine zb<|z7 rfl<|z2 (y3 rfl rfl)<|z2 (zAb rfl)<|z6<|zx rfl (fun c4 => ?_) (fun c4 => ?_)
     ·have hk0 : k = 2 := by omega
      subst hk0
      refine zb<|z7 rfl<|z2 (zMi rfl)<|z2 (zMi rfl)<|zi (aMul hx hy) rfl<|z2 (zq (v := .tup _) rfl)<|z2 (yh (v := .int _ _) rfl rfl)<|z2 (yh (v := .bool _) rfl rfl)<|z2 (zAi rfl)<|z2 (zAb rfl)<|z6<|z7 rfl<|z2 (zMi rfl)<|z2 (zMb rfl)<|z2 (zMi rfl)<|z2 (yf rfl rfl)<|z2 (zMi rfl)<|z2 (yf rfl rfl)<|z2 (Gv.neqB underlying4 rfl rfl)<|zi (iNear _) rfl<|zt rfl (zo (.l (.r (.rest _)))) (hull_add i7 _ _ _ _) ?_
      rintro r81 O81 ⟨rfl, rfl⟩
      refine z6<|z7 rfl<|z2 (y9 rfl rfl (by unfold I64; omega))<|z2 (zMi rfl)<|z6 ?_
      exact ⟨j + 1, zR8, zR1, ⟨_, (.refl _), by rw [hs, hAdd_fit mul_fit3 (near_2 _ (selR b j))]; rfl⟩, hj2, by omega⟩
     ·exfalso; omega
  ·have hj2 : j = 2 := by omega
   subst hj2
   refine y7<|z7 rfl<|z2 (y9 rfl rfl (by unfold I64; omega))<|z2 (zMi rfl)<|z6 ?_
   exact ⟨i + 1, zR5, zR1, ⟨_, (.refl _), by rw [show 2 * (i + 1) = 2 * i + 2 by omega]⟩, hi2, by omega⟩
 ·have hi2 : i = 2 := by omega
  subst hi2
  refine y7<|zb<|z7 rfl<|z2 (Gv.loadWC isAgg261 sizeOf261 rfl ⟨_, .head⟩ rfl)<|y4 sizeOf261 rfl rfl rfl rfl rfl rfl (.tail .head) rfl<|z6<|zj<|q7 rfl ⟨_, (.tail .head)⟩ isAgg261 sizeOf261 rfl ?_
  rw [← h4]; try rfl
end Go.Proofs.YtjnpcfpecilejaaGreatDoor
namespace Go.Proofs.YtjnpcfpecilejaaGreatDoor
open Go.Proofs.Tryz
open Go.Proofs
variable {E : World}
set_option maxRecDepth 20000
theorem iFits (op : Int) (k : Nat) (hk : k ≤ 2) (hop : op = 2 + (k : Int)) {a b : Rng} (ha : ok64 a) (hb : ok64 b) : AFun Tryz.prog E 200 [.int .i64 op, .agg (encZ a), .agg (encZ b)] (.bool (decide (a.2 < a.1 ∨ b.2 < b.1 ∨ cornF k a b))) := by
 have hcp := cornP_eq k a b
 refine zp func200 rfl (by decide) rfl<|zb<|z7 rfl<|yd (cs := _) rfl rfl rfl<|yd (cs := _) rfl rfl rfl<|z2 (zAb rfl)<|z6<|zb<|zb<|yp (γ := Bool) [0, 4, 5] (fun u => [(12, .bool u)]) (fun u => []) (fun u => u = false) ?_ (fun _ _ h => h) ?_
 ·refine z7 rfl<|z2 (zMi rfl)<|z2 (q6 rfl rfl)<|z2 (zMb rfl)<|zn (s := 9) rfl (fun c => ?_) (fun c => ?_)
  ·exfalso; simp at c; omega
  ·refine z8 rfl rfl c<|z8 rfl rfl c<|z2 (zPf rfl c rfl)<|z6 ?_
   exact ⟨_, zR3, zR1, zLe, rfl⟩
 ·rintro u hu
  subst hu
  refine yg rfl rfl<|ze<|zb<|z7 rfl<|z2 (zMi rfl)<|zi (iSums _) rfl<|z2 (zMb rfl)<|zn (s := 18) rfl (fun c1 => ?_) (fun c1 => ?_)
  ·refine za rfl rfl c1<|z2 (zm isAgg74 sizeOf74 rfl rfl)<|za rfl rfl c1<|zi (iEmpty _) rfl<|za rfl rfl c1<|z2 (zMb rfl)<|zn (s := 21) rfl (fun c2 => ?_) (fun c2 => ?_)
   ·refine z8 rfl rfl c2<|z8 rfl rfl c2<|za rfl rfl c1<|z2 (zPt rfl c2 rfl)<|za rfl rfl c1<|z2 (zMb rfl)<|z8 rfl rfl rfl<|z8 rfl rfl rfl<|z8 rfl rfl rfl<|z8 rfl rfl rfl<|z8 rfl rfl rfl<|z8 rfl rfl rfl<|za rfl rfl c1<|z2 (zPt rfl rfl rfl)<|z2 (zPt rfl c1 rfl)<|z2 (zAb rfl)<|z6<|zj<|zl (x := .bool _) rfl ?_
    exact jb (by simp_all)
   ·refine za rfl rfl c2<|z2 (zm isAgg74 sizeOf74 rfl rfl)<|za rfl rfl c2<|zi (iEmpty _) rfl<|za rfl rfl c1<|z2 (zPf rfl c2 rfl)<|za rfl rfl c1<|z2 (zMb rfl)<|zn (s := 25) rfl (fun c3 => ?_) (fun c3 => ?_)
    ·refine z8 rfl rfl c3<|z8 rfl rfl c3<|z8 rfl rfl c3<|z8 rfl rfl c3<|z8 rfl rfl c3<|z8 rfl rfl c3<|za rfl rfl c1<|z2 (zPt rfl c3 rfl)<|z2 (zPt rfl c1 rfl)<|z2 (zAb rfl)<|z6<|zj<|zl (x := .bool _) rfl ?_
     exact jb (by simp_all)
    ·refine za rfl rfl c3<|z2 (zMi rfl)<|za rfl rfl c3<|z2 (zm isAgg74 sizeOf74 rfl rfl)<|za rfl rfl c3<|z2 (zm isAgg74 sizeOf74 rfl rfl)<|za rfl rfl c3<|zi (iCorners op k hk hop ha hb) rfl<|za rfl rfl c3<|z2 (Gv.field1 (v := .bool _) underlying261 rfl isAgg4 rfl rfl)<|za rfl rfl c3<|z2 (yj rfl)<|za rfl rfl c1<|z2 (zPf rfl c3 rfl)<|z2 (zPt rfl c1 rfl)<|z2 (zAb rfl)<|z6<|zj<|zl (x := .bool _) rfl ?_
     exact jb (by have h2 : ¬ a.2 < a.1 := (by simpa using c2); have h3 : ¬ b.2 < b.1 := (by simpa using c3); simp [h2, h3, hcp])
  ·exfalso; simp at c1; omega
end Go.Proofs.YtjnpcfpecilejaaGreatDoor
namespace Go.Proofs.YtjnpcfpecilejaaGreatDoor
open Go.Proofs.Tryz
open Go.Proofs Go.Lib Go.Shelf Go.RowKit
variable {E : World}
set_option maxRecDepth 20000
theorem ra_at {rs : List Rng} {i : Nat} (h : i < rs.length) : rs[i]? = some (ra rs i) := by unfold ra; rw [qd h]; rfl
def okRs (rs : List Rng) : Prop := ∀ r ∈ rs, ok64 r ∧ r.1 ≤ r.2
theorem okRs.at {rs : List Rng} (h : okRs rs) {i : Nat} (hi : i < rs.length) : ok64 (ra rs i) ∧ (ra rs i).1 ≤ (ra rs i).2 := by
 have := ra_at hi
 exact h _ (List.mem_of_getElem? this)
end Go.Proofs.YtjnpcfpecilejaaGreatDoor
namespace Go.Proofs.YtjnpcfpecilejaaGreatDoor
open Go.Proofs.Tryz
def madePh (b : PBlock) : List (Int × Bool) := b.phis.map fun p => (p.dst, true)
def madeIn (xs : List PInst) : List (Int × Bool) := (xs.filter fun x => decide (0 ≤ x.dst)).map fun x => (x.dst, false)
def madeTo (f : PFunc) (k : Nat) : List (Int × Bool) := (f.blocks.take k).flatMap fun b => madePh b ++ madeIn b.insts
theorem madeTo_succ {f : PFunc} {k : Nat} (h : k < f.blocks.length) : madeTo f (k + 1) = madeTo f k ++ (madePh f.blocks[k] ++ madeIn f.blocks[k].insts) := by
 unfold madeTo; rw [qe h, List.flatMap_append]; simp
end Go.Proofs.YtjnpcfpecilejaaGreatDoor
namespace Go.Proofs.YtjnpcfpecilejaaGreatDoor
open Go.Proofs.Tryz
open Go.Proofs Go.Lib Go.Shelf Go.RowKit
variable {E : World}
set_option maxRecDepth 20000
theorem ShapedP.ty {f : PFunc} (h : ShapedP f) {v : Nat} (hv : v < f.vars.length) : 0 ≤ tyV f v ∧ tyV f v ≤ 2 := by
 have h1 := h.2.2.1 v hv
 unfold tyV
 rw [show (v : Int).toNat = v from rfl, qd hv]
 exact ⟨h1.2.1, h1.2.2.1⟩
theorem small.made {f : PFunc} (hf : small f) : ∀ {k : Nat}, k ≤ f.blocks.length → (madeTo f k).length ≤ k * 2000
 | 0, _ => by simp [madeTo]
 | k + 1, hk => by
  have h1 := small.made hf (k := k) (by omega)
  obtain ⟨hb0, hb1, hb2, hb3, hb4⟩ := hf.2.2.2.2 _ (qh (show k < f.blocks.length by omega))
  rw [madeTo_succ (by omega), qj, qj]
  unfold madePh madeIn
  rw [qk, qk]
  have := List.length_filter_le (fun x : PInst => decide (0 ≤ x.dst)) (f.blocks[k]'(by omega)).insts
  omega
theorem lv_get {l : List Rng} {a : Int} (h : a.toNat < l.length) : l[a.toNat]? = some (lv l a) := by unfold lv; rw [qd h]; rfl
theorem hasV_rng {f : PFunc} {v : Int} (h : hasV f v = true) : 0 ≤ v ∧ v < f.vars.length := by simpa [hasV] using h
theorem ty_get {f : PFunc} (hS : ShapedP f) {a : Int} (h : hasV f a = true) : ∃ x, f.vars[a.toNat]? = some x ∧ x.ty = tyV f a ∧ 0 ≤ x.ty ∧ x.ty ≤ 2 := by
 obtain ⟨h0, h1⟩ := hasV_rng h
 have hl : a.toNat < f.vars.length := by omega
 have h2 := hS.2.2.1 _ hl
 refine ⟨f.vars[a.toNat], qd hl, ?_, h2.2.1, h2.2.2.1⟩
 unfold tyV; rw [qd hl]; rfl
theorem Left.d1 {x : Nat × AObj} {O : OL} : Left (x :: O) O := ⟨_, .drop (.refl _), rfl⟩
theorem Left.d2 {x y : Nat × AObj} {O : OL} : Left (x :: y :: O) O := ⟨_, .drop (.drop (.refl _)), rfl⟩
theorem ACall.same {P : Program} {E : World} {f : FuncId} {ars : List AV} {O : OL} {x : AV} (h : ACall P E f ars O fun y O' => y = x ∧ Left O' O) : ACall P E f ars O fun y O' => y = x ∧ O' = O :=
 (ACall.exact (γ := Unit) (x := fun _ => x) (M := fun _ => O) (p := fun _ => True) (h.mono fun _ _ h => ⟨(), h.1, h.2, trivial⟩)).mono fun _ _ ⟨_, h1, h2, _⟩ => ⟨h1, h2⟩
end Go.Proofs.YtjnpcfpecilejaaGreatDoor
namespace Go.Proofs.YtjnpcfpecilejaaGreatDoor
open Go.Proofs.Tryz
open Go.Proofs Go.Lib Go.Shelf Go.RowKit
variable {E : World}
set_option maxRecDepth 20000
def c3 (rs : List Rng) : List AV := encZ (ra rs 0) ++ encZ (ra rs 1) ++ encZ (ra rs 2)
end Go.Proofs.YtjnpcfpecilejaaGreatDoor
namespace Go.Proofs.YtjnpcfpecilejaaGreatDoor
open Go.Proofs.Tryz
open Go.Proofs Go.Lib Go.Shelf Go.RowKit
variable {E : World}
set_option maxRecDepth 20000
structure RuleF (f : PFunc) : Prop where
 small : small f
 shaped : ShapedP f
 once : OnceP f
 bool : ∀ b ∈ f.blocks, ∀ x ∈ b.insts, x.op = 10 ∨ x.op = 11 → ∀ v ∈ x.args, tyV f v = 1
end Go.Proofs.YtjnpcfpecilejaaGreatDoor
namespace Go.Proofs.YtjnpcfpecilejaaGreatDoor
open Go.Proofs.Tryz
def isChk (q : Int) : Prop := 21 ≤ q ∧ q ≤ 23
instance (q : Int) : Decidable (isChk q) := by unfold isChk; infer_instance
def Done (f : PFunc) (i k : Nat) (v : Int) : Prop := ∃ (i' k' : Nat) (b : PBlock) (z : PInst), f.blocks[i']? = some b ∧ b.insts[k']? = some z ∧ z.dst = v ∧ chkX f z i' k' = true ∧ (i' < i ∨ i' = i ∧ k' < k)
theorem Done.step {f : PFunc} {i k : Nat} {b : PBlock} {z : PInst} (h1 : f.blocks[i]? = some b) (h2 : b.insts[k]? = some z) (v : Int) : Done f i (k + 1) v ↔ Done f i k v ∨ (v = z.dst ∧ chkX f z i k = true) := by
 constructor
 ·rintro ⟨i', k', b', z', g1, g2, g3, g4, g5⟩
  by_cases e : i' = i ∧ k' = k
  ·obtain ⟨rfl, rfl⟩ := e
   rw [h1] at g1; cases g1
   rw [h2] at g2; cases g2
   exact .inr ⟨g3.symm, g4⟩
  ·exact .inl ⟨i', k', b', z', g1, g2, g3, g4, by omega⟩
 ·rintro (⟨i', k', b', z', g1, g2, g3, g4, g5⟩ | ⟨rfl, h⟩)
  ·exact ⟨i', k', b', z', g1, g2, g3, g4, by omega⟩
  ·exact ⟨i, k, b, z, h1, h2, rfl, h, .inr ⟨rfl, by omega⟩⟩
theorem Done.next {f : PFunc} {i : Nat} {b : PBlock} (h1 : f.blocks[i]? = some b) (v : Int) : Done f (i + 1) 0 v ↔ Done f i b.insts.length v := by
 constructor
 ·rintro ⟨i', k', b', z', g1, g2, g3, g4, g5⟩
  refine ⟨i', k', b', z', g1, g2, g3, g4, ?_⟩
  by_cases e : i' = i
  ·subst e
   rw [h1] at g1; cases g1
   exact .inr ⟨rfl, (List.getElem?_eq_some_iff.1 g2).1⟩
  ·exact .inl (by omega)
 ·rintro ⟨i', k', b', z', g1, g2, g3, g4, g5⟩
  exact ⟨i', k', b', z', g1, g2, g3, g4, .inl (by omega)⟩
theorem Done.zero (f : PFunc) (v : Int) : ¬ Done f 0 0 v := by
 rintro ⟨i', k', b', z', g1, g2, g3, g4, g5⟩; omega
theorem Done.all {f : PFunc} (ho : OnceP f) {v : Nat} (hv : v < f.vars.length) : Done f f.blocks.length 0 v ↔ chkV f v = true := by
 constructor
 ·rintro ⟨i', k', b', z', g1, g2, g3, g4, g5⟩
  have hm : ((i' : Int), (k' : Int)) ∈ makings f v := mem_makings.2 ⟨i', b', g1, mem_mkBlk.2 (.inr ⟨k', z', g2, g3, rfl⟩)⟩
  have := maker_eq (ho v hv).1 hm
  rw [chkV_at g1 g2 this]; exact g4
 ·intro h
  by_cases h0 : 0 ≤ (makerT f v).1
  ·obtain ⟨i, b, h1, ⟨p, h2, h3, h4⟩ | ⟨k, x, h2, h3, h4⟩⟩ := maker_cases h0
   ·unfold chkV instAt at h
    rw [h4, if_neg (by dsimp only; omega)] at h
    cases h
   ·rw [chkV_at h1 h2 h4] at h
    exact ⟨i, k, b, x, h1, h2, h3, h, .inl (List.getElem?_eq_some_iff.1 h1).1⟩
  ·unfold chkV instAt at h
   rw [if_neg (fun hh => h0 hh.1)] at h
   cases h
end Go.Proofs.YtjnpcfpecilejaaGreatDoor
