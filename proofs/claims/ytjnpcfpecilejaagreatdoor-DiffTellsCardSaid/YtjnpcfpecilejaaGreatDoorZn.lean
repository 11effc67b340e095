/- Who is above whom as a table; which sums are checked; where a variable is made. Plain law. No conditions. -/
import Derived.Test.YtjnpcfpecilejaaGreatDoorZm
import Derived.Test.YtjnpcfpecilejaaGreatDoorZe
import Derived.Test.YtjnpcfpecilejaaGreatDoorZd
import Derived.Test.YtjnpcfpecilejaaGreatDoorZl
set_option linter.unusedVariables false
set_option linter.unusedSimpArgs false
set_option linter.unusedSectionVars false
namespace Go.Proofs.YtjnpcfpecilejaaGreatDoor
open Go.Proofs.Tryz
open Go.Proofs Go.Lib Go.Shelf Go.RowKit
variable {E : World}
set_option maxRecDepth 20000
theorem want_1 {f : PFunc} {x : PInst} {m : Nat} (e : x.op = 1) (h : m < (wantL f x).length) : (wantL f x)[m] = kindV f x.dst := by
 have h2 : (wantL f x)[m]? = some (kindV f x.dst) := by
  unfold wantL at h ⊢
  rw [if_pos e] at h ⊢
  simp at h
  subst h; rfl
 rw [qf h] at h2
 exact Option.some.inj h2
theorem want_2 {f : PFunc} {x : PInst} {m : Nat} (e : ¬ x.op = 1) (h : m < (wantL f x).length) (h' : m < (takesL x.op).length) : (wantL f x)[m] = (takesL x.op)[m] := by
 have h2 : (wantL f x)[m]? = some ((takesL x.op)[m]) := by
  unfold wantL
  rw [if_neg e, qf h']
 rw [qf h] at h2
 exact Option.some.inj h2
theorem term_kind {f : PFunc} {t : PTerm} (h : termOK f t = true) : t.kind = 0 ∨ t.kind = 1 ∨ t.kind = 2 := by
 unfold termOK at h
 by_cases h0 : t.kind = 0
 ·exact .inl h0
 ·rw [if_neg h0] at h
  by_cases h1 : t.kind = 1
  ·exact .inr (.inl h1)
  ·rw [if_neg h1] at h
   by_cases h2 : t.kind = 2
   ·exact .inr (.inr h2)
   ·rw [if_neg h2] at h; cases h
set_option maxHeartbeats 8000000 in
theorem refTyped_spec (f : PFunc) (hf : small f) (hS : ShapedP f) : AFun Tryz.prog E 120 [.agg (encF f)] (.bool (f.blocks.all (blkT f))) := by
 have hn := hf.2.2.1
 refine zp func120 rfl (by decide) rfl<|zb<|z8 rfl<|yc (cs := _) rfl rfl rfl<|z2 (zAb rfl)<|z6<|zb<|zb<|z8 rfl<|z2 (zc underlying26 rfl sizeOf24 (by decide) rfl rfl)<|z2 (zLf isAgg24 rfl)<|z2 (y5 underlying24 rfl)<|z2 (zMi rfl)<|z6<|zi<|ya (γ := Nat) [1, 16, 17] (fun i => [(18, .int .i64 i)]) (fun i => []) (fun i => i ≤ f.blocks.length ∧ (f.blocks.take i).all (blkT f) = true) (fun i => f.blocks.length - i) 0 zR1 zLe (⟨qi _, rfl⟩) ?_
 rintro i ⟨hi, hall⟩
 refine zb<|z8 rfl<|z2 (ye rfl rfl)<|z6<|zb<|zr rfl (fun ci => ?_) (fun ci => ?_)
 ·have hi2 : i < f.blocks.length := by simp at ci; omega
  obtain ⟨b, hbi⟩ : ∃ b, f.blocks[i] = b := ⟨_, rfl⟩
  have hget : f.blocks[i]? = some b := by rw [qf hi2, hbi]
  have hmem : b ∈ f.blocks := hbi ▸ qj hi2
  obtain ⟨hb0, hb1, hb2, hb3, hb4⟩ := hf.2.2.2.2 b hmem
  obtain ⟨hPh, hIn, hTm⟩ := hS.2.2.2.2.2 b hmem
  have hbad : blkT f b = false → f.blocks.all (blkT f) = false := fun h => Bool.eq_false_iff.2 (all_bad hi2 (by rw [hbi]; exact h))
  refine ze<|zb<|zi<|zb<|z8 rfl<|z2 (y6 (j := i) underlying24 sizeOf66 rfl rfl rfl hget)<|z2 (zn isAgg66 sizeOf66 rfl rfl)<|y9 (cs := [.str ⟨#[]⟩, .raw (.slice none 0 0), .raw (.slice none 0 0), .int .i64 0, .int .i64 0, .int .i64 0, .int .i64 0]) zeroValue66 rfl rfl<|fun i4 => y4 sizeOf66 rfl rfl rfl rfl rfl rfl .head rfl<|zf (yh (t := 4) rfl .head)<|z6<|zb<|zb<|z8 rfl<|z2 (zc underlying66 rfl sizeOf59 (by decide) rfl rfl)<|z2 (zLf isAgg59 rfl)<|z2 (y5 underlying59 rfl)<|z2 (zMi rfl)<|z6<|zi<|ya (γ := Nat) [1, 4, 16, 17, 18, 23, 24] (fun j => [(25, .int .i64 j)]) (fun j => []) (fun j => j ≤ b.phis.length ∧ (b.phis.take j).all (phiT f) = true) (fun j => b.phis.length - j) 0 zR1 zLe (⟨qi _, rfl⟩) ?_
  rintro j ⟨hj, hjall⟩
  refine zb<|z8 rfl<|z2 (ye rfl rfl)<|z6<|zb<|zr rfl (fun cj => ?_) (fun cj => ?_)
  ·have hj2 : j < b.phis.length := by simp at cj; omega
   obtain ⟨p, hp⟩ : ∃ p, b.phis[j] = p := ⟨_, rfl⟩
   have hpm : p ∈ b.phis := hp ▸ qj hj2
   obtain ⟨hpd, hpl, hpn, hpa, hpf⟩ := hPh p hpm
   have hpb := (hb3 p hpm).1
   refine ze<|zb<|zi<|zb<|z8 rfl<|z2 (y6 (j := j) underlying59 sizeOf95 rfl rfl rfl (by rw [qf hj2, hp]))<|z2 (zn isAgg95 sizeOf95 rfl rfl)<|y9 (cs := [.int .i64 0, .raw (.slice none 0 0), .raw (.slice none 0 0)]) zeroValue95 rfl rfl<|fun i6 => y4 sizeOf95 rfl rfl rfl rfl rfl rfl .head rfl<|zf (yh (t := 6) rfl .head)<|z6<|zb<|z8 rfl<|z2 (zc underlying95 rfl sizeOf23 (by decide) rfl rfl)<|z2 (zLf isAgg23 rfl)<|z2 (y5 underlying23 rfl)<|z2 (zMi rfl)<|z6<|zi<|ya (γ := Nat) [1, 4, 6, 16, 17, 18, 23, 24, 25, 30, 31] (fun k => [(32, .int .i64 k)]) (fun k => []) (fun k => k ≤ p.args.length ∧ (p.args.take k).all (fun v => decide (kindV f v = kindV f p.dst)) = true) (fun k => p.args.length - k) 0 zR1 zLe (⟨qi _, rfl⟩) ?_
   rintro k ⟨hk, hkall⟩
   refine zb<|z8 rfl<|z2 (ye rfl rfl)<|z6<|zb<|zr rfl (fun ck => ?_) (fun ck => ?_)
   ·have hk2 : k < p.args.length := by simp at ck; omega
    obtain ⟨v, hv⟩ : ∃ v, p.args[k] = v := ⟨_, rfl⟩
    have hvv := List.all_eq_true.1 hpa v (hv ▸ qj hk2)
    refine ze<|zb<|zi<|zb<|z8 rfl<|z2 (y6 (j := k) underlying23 sizeOf3 rfl rfl rfl (by rw [qf hk2, hv]))<|z2 (zLi isAgg3 rfl)<|z2 (zAi rfl)<|z6<|zb<|y7 (fun j => false) (by kernel_rfl) rfl (zo (.rest _))<|zTk (i := 0) rfl (zn isAgg26 sizeOf26 rfl rfl)<|zTk (i := 1) rfl (zMi rfl)<|zTk (i := 3) rfl (zn isAgg26 sizeOf26 rfl rfl)<|zTk (i := 4) rfl (zc underlying95 rfl sizeOf3 (by decide) rfl rfl)<|zTk (i := 5) rfl (zLi isAgg3 rfl)<|zOn (i := 2) rfl<|zg (rof_spec f v hvv) rfl<|z6<|zOn (i := 6) rfl<|zg (rof_spec f p.dst hpd) rfl<|z6<|zTk (i := 7) rfl (yl rfl rfl)<|zDn<|zy rfl (fun cq => ?_) (fun cq => ?_)
    ·have hq : ¬ kindV f v = kindV f p.dst := by simpa using cq
     have hph : phiT f p = false := by
      unfold phiT
      rw [show (p.args.any fun v => !decide (kindV f v = kindV f p.dst)) = true from List.any_eq_true.2 ⟨v, hv ▸ qj hk2, by simp [hq]⟩]; rfl
     refine zb<|z8 rfl<|z2 (zAb rfl)<|z6<|zh<|zk (x := .bool _) rfl ?_
     rw [hbad (by unfold blkT; rw [show b.phis.all (phiT f) = false from Bool.eq_false_iff.2 (all_bad hj2 (by rw [hp]; exact hph))]; rfl)]
    ·have hq : kindV f v = kindV f p.dst := by simpa using cq
     refine ze<|z8 rfl<|z2 (yb rfl rfl (by unfold I64; omega))<|z2 (zMi rfl)<|z6 ?_
     exact ⟨k + 1, zR11, zR1, zLe, ⟨hk2, all_take hk2 hkall (by rw [hv]; simp [hq])⟩, by omega⟩
   ·have hkn : k = p.args.length := by simp at ck; omega
    rw [hkn, qk] at hkall
    have hph : phiT f p = true := by
     unfold phiT
     rw [show (p.args.any fun v => !decide (kindV f v = kindV f p.dst)) = false from List.any_eq_false.2 fun v hv => by have := List.all_eq_true.1 hkall v hv; simpa using this]; rfl
    refine y8<|z8 rfl<|z2 (yb rfl rfl (by unfold I64; omega))<|z2 (zMi rfl)<|z6 ?_
    exact ⟨j + 1, zR7, zR1, zLe, ⟨hj2, all_take hj2 hjall (by rw [hp]; exact hph)⟩, by omega⟩
  ·have hjn : j = b.phis.length := by simp at cj; omega
   subst hjn
   rw [qk] at hjall
   refine y8<|zb<|zb<|z8 rfl<|z2 (zc underlying66 rfl sizeOf60 (by decide) rfl rfl)<|z2 (zLf isAgg60 rfl)<|z2 (y5 underlying60 rfl)<|z2 (zMi rfl)<|z6<|zi<|ya (γ := Nat) [1, 4, 16, 17, 18, 47, 48] (fun k => [(49, .int .i64 k)]) (fun k => []) (fun k => k ≤ b.insts.length ∧ (b.insts.take k).all (instT f) = true) (fun k => b.insts.length - k) 0 zR1 zLe (⟨qi _, rfl⟩) ?_
   rintro k ⟨hk, hkall⟩
   refine zb<|z8 rfl<|z2 (ye rfl rfl)<|z6<|zb<|zr rfl (fun ck => ?_) (fun ck => ?_)
   ·have hk2 : k < b.insts.length := by simp at ck; omega
    obtain ⟨z, hz⟩ : ∃ z, b.insts[k] = z := ⟨_, rfl⟩
    have hzm : z ∈ b.insts := hz ▸ qj hk2
    have hI := instP_F (hIn z hzm)
    have hzl := hb4 z hzm
    have hwl := wantL_len hI
    have hdst : makesB z.op = true → hasV f z.dst = true := fun h => by
     rcases hI.dst with ⟨d1, _⟩ | ⟨_, _, d3⟩
     ·rw [h] at d1; cases d1
     ·exact d3
    have hcopy : z.op = 1 → makesB z.op = true := fun h => by rw [h]; rfl
    have hib : instT f z = false → f.blocks.all (blkT f) = false := fun h => hbad (by unfold blkT; rw [hjall, show b.insts.all (instT f) = false from Bool.eq_false_iff.2 (all_bad hk2 (by rw [hz]; exact h))]; rfl)
    refine ze<|zb<|zi<|zb<|z8 rfl<|z2 (y6 (j := k) underlying60 sizeOf33 rfl rfl rfl (by rw [qf hk2, hz]))<|z2 (zn isAgg33 sizeOf33 rfl rfl)<|y9 (cs := [.int .i64 0, .int .i64 0, .raw (.slice none 0 0), .int .i64 0]) zeroValue33 rfl rfl<|fun i10 => y4 sizeOf33 rfl rfl rfl rfl rfl rfl .head rfl<|zf (yh (t := 10) rfl .head)<|z6<|zb<|yk (γ := Nat) [1, 4, 10, 16, 17, 18, 47, 48, 49] (fun g => [(11, .po g 0)]) (fun g => [(g, .cells 222 (encK (kRow z.op)))]) (fun g => True) ?_ (fun _ _ h => h) ?_
    ·refine y7 (fun j => false) (by kernel_rfl) rfl (zo (.rest _))<|zTk (i := 1) rfl (zc underlying33 rfl sizeOf31 (by decide) rfl rfl)<|zTk (i := 2) rfl (zLi isAgg31 rfl)<|yu (i := 0) (j := 5) rfl rfl (by kernel_rfl) ?_ ?_
     ·refine zg (rows_spec) rfl<|z6<|zTk (i := 3) rfl (y6 (j := z.op.toNat) underlying223 sizeOf222 rfl rfl (by have := hI.op; omega) (kRow_get hI.op))<|zTk (i := 4) rfl (zn isAgg222 sizeOf222 rfl rfl)<|zOn (i := 5) rfl<|y9 (cs := [.str ⟨#[]⟩, .str ⟨#[]⟩, .str ⟨#[]⟩]) zeroValue222 rfl rfl<|fun i11 => z6<|zOn (i := 6) rfl<|y4 sizeOf222 rfl rfl rfl rfl rfl rfl .head rfl<|z6<|zDn ?_
      exact ⟨i11, zR9, zR1, zLe, trivial⟩
     ·refine y9 (cs := [.str ⟨#[]⟩, .str ⟨#[]⟩, .str ⟨#[]⟩]) zeroValue222 rfl rfl<|fun i11 => z6<|zOn (i := 0) rfl<|zg (rows_spec) rfl<|z6<|zTk (i := 3) rfl (y6 (j := z.op.toNat) underlying223 sizeOf222 rfl rfl (by have := hI.op; omega) (kRow_get hI.op))<|zTk (i := 4) rfl (zn isAgg222 sizeOf222 rfl rfl)<|zOn (i := 6) rfl<|y4 sizeOf222 rfl rfl rfl rfl rfl rfl .head rfl<|z6<|zDn ?_
      exact ⟨i11, zR9, zR1, zLe, trivial⟩
    ·rintro i11 _
     refine zb<|zb<|z8 rfl<|z2 (zc underlying33 rfl sizeOf23 (by decide) rfl rfl)<|z2 (zLf isAgg23 rfl)<|z2 (y5 underlying23 rfl)<|z2 (zMi rfl)<|z6<|zi<|ya (γ := Nat) [1, 4, 10, 11, 16, 17, 18, 47, 48, 49, 60] (fun m => [(61, .int .i64 m)]) (fun m => [(i11, .cells 222 (encK (kRow z.op)))]) (fun m => m ≤ z.args.length ∧ (z.args.take m).map (kindV f) = (wantL f z).take m) (fun m => z.args.length - m) 0 zR1 zLe (⟨qi _, by simp⟩) ?_
     rintro m ⟨hm, hmall⟩
     refine zb<|z8 rfl<|z2 (ye rfl rfl)<|z6<|zb<|zr rfl (fun cm => ?_) (fun cm => ?_)
     ·have hm2 : m < z.args.length := by simp at cm; omega
      have hmw : m < (wantL f z).length := by omega
      have hmt : m < (takesL z.op).length := by have := hI.len; omega
      obtain ⟨v, hv⟩ : ∃ v, z.args[m] = v := ⟨_, rfl⟩
      have hvv := hI.args v (hv ▸ qj hm2)
      obtain ⟨c, hc, hct⟩ := takes_byte hmt
      have hbadm : ¬ kindV f v = (wantL f z)[m] → f.blocks.all (blkT f) = false := fun h => hib (by rw [instT_want hI, qr (map_ne hm2 hmw (by rw [hv]; exact h))]; rfl)
      refine ze<|zb<|zi<|zb<|z8 rfl<|z2 (zMi rfl)<|z2 (zAi rfl)<|z6<|zb<|z8 rfl<|z2 (zu underlying222 rfl sizeOf9 (by decide) rfl rfl)<|z2 (zz (c := .str _) isAgg9 rfl ⟨_, .head⟩ rfl)<|z2 (zMi rfl)<|z2 (Gv.indexT (j := m) underlying9 rfl rfl rfl hc)<|zg (rtype_spec (c.toNat : Int)) rfl<|z2 (zAi rfl)<|z6<|zb<|zb<|z8 rfl<|z2 (zu underlying222 rfl sizeOf9 (by decide) rfl rfl)<|z2 (zz (c := .str _) isAgg9 rfl ⟨_, .head⟩ rfl)<|z2 (Gv.eqlT rfl rfl)<|z6<|zy rfl (fun cw => ?_) (fun cw => ?_)
      ·have ew : z.op = 1 := (copy_op hI.op).1 (by simpa using cw)
       refine z8 rfl<|z2 (zn isAgg26 sizeOf26 rfl rfl)<|z2 (zc underlying33 rfl sizeOf3 (by decide) rfl rfl)<|z2 (zLi isAgg3 rfl)<|zg (rof_spec f z.dst (hdst (hcopy ew))) rfl<|z2 (zAi rfl)<|z6<|zb<|y7 (fun j => false) (by kernel_rfl) rfl (zo (.rest _))<|zTk (i := 0) rfl (zn isAgg26 sizeOf26 rfl rfl)<|zTk (i := 1) rfl (zc underlying33 rfl sizeOf23 (by decide) rfl rfl)<|zTk (i := 2) rfl (zLf isAgg23 rfl)<|zTk (i := 3) rfl (zMi rfl)<|zTk (i := 4) rfl (y6 (j := m) underlying23 sizeOf3 rfl rfl rfl (by rw [qf hm2, hv]))<|zTk (i := 5) rfl (zLi isAgg3 rfl)<|zTk (i := 7) rfl (zMi rfl)<|zOn (i := 6) rfl<|zg (rof_spec f v hvv) rfl<|z6<|zTk (i := 8) rfl (yl rfl rfl)<|zDn<|zy rfl (fun cq => ?_) (fun cq => ?_)
       ·have hq : ¬ kindV f v = kindV f z.dst := by simpa using cq
        refine zb<|z8 rfl<|z2 (zAb rfl)<|z6<|zh<|zk (x := .bool _) rfl ?_
        rw [hbadm (by rw [want_1 ew hmw]; exact hq)]
       ·have hq : kindV f v = kindV f z.dst := by simpa using cq
        refine ze<|z8 rfl<|z2 (yb rfl rfl (by unfold I64; omega))<|z2 (zMi rfl)<|z6 ?_
        exact ⟨m + 1, zR11, zR1, zLe, ⟨hm2, map_take_succ hm2 hmw hmall (by rw [hv, want_1 ew hmw]; exact hq)⟩, by omega⟩
      ·have ew : ¬ z.op = 1 := fun e => by have := (copy_op hI.op).2 e; simp [this] at cw
       refine ze<|zb<|y7 (fun j => false) (by kernel_rfl) rfl (zo (.rest _))<|zTk (i := 0) rfl (zn isAgg26 sizeOf26 rfl rfl)<|zTk (i := 1) rfl (zc underlying33 rfl sizeOf23 (by decide) rfl rfl)<|zTk (i := 2) rfl (zLf isAgg23 rfl)<|zTk (i := 3) rfl (zMi rfl)<|zTk (i := 4) rfl (y6 (j := m) underlying23 sizeOf3 rfl rfl rfl (by rw [qf hm2, hv]))<|zTk (i := 5) rfl (zLi isAgg3 rfl)<|zTk (i := 7) rfl (zMi rfl)<|zOn (i := 6) rfl<|zg (rof_spec f v hvv) rfl<|z6<|zTk (i := 8) rfl (yl rfl rfl)<|zDn<|zy rfl (fun cq => ?_) (fun cq => ?_)
       ·have hq : ¬ kindV f v = typeOf (c.toNat : Int) := by simpa using cq
        refine zb<|z8 rfl<|z2 (zAb rfl)<|z6<|zh<|zk (x := .bool _) rfl ?_
        rw [hbadm (by rw [want_2 ew hmw hmt, hct]; exact hq)]
       ·have hq : kindV f v = typeOf (c.toNat : Int) := by simpa using cq
        refine ze<|z8 rfl<|z2 (yb rfl rfl (by unfold I64; omega))<|z2 (zMi rfl)<|z6 ?_
        exact ⟨m + 1, zR11, zR1, zLe, ⟨hm2, map_take_succ hm2 hmw hmall (by rw [hv, want_2 ew hmw hmt, hct]; exact hq)⟩, by omega⟩
     ·have hmn : m = z.args.length := by simp at cm; omega
      have hall2 : z.args.map (kindV f) = wantL f z := by rw [hmn, qk, hwl, qk] at hmall; exact hmall
      have hiw := instT_want hI
      rw [qq hall2, Bool.true_and] at hiw
      refine y8<|zb<|y7 (fun j => false) (by kernel_rfl) rfl (zo (.r (.rest _)))<|zTk (i := 0) rfl (zu underlying222 rfl sizeOf9 (by decide) rfl rfl)<|zTk (i := 1) rfl (zz (c := .str _) isAgg9 rfl ⟨_, .head⟩ rfl)<|zTk (i := 2) rfl (Gv.neqT rfl rfl)<|zTk (i := 3) rfl (zMb rfl)<|AAny.case (s := 89) rfl (fun c1 => ?_) (fun c1 => ?_)
      ·have d1 : ¬ (kRow z.op).2.2 = ⟨#[]⟩ := by simpa using c1
       have dm : makesB z.op = true := by rw [makesB_eq, qr d1]; rfl
       obtain ⟨c, hc, hct⟩ := makes_byte d1
       refine zTt (i := 4) rfl rfl rfl c1 (zu underlying222 rfl sizeOf9 (by decide) rfl rfl)<|zTt (i := 5) rfl rfl rfl c1 (zz (c := .str _) isAgg9 rfl ⟨_, .head⟩ rfl)<|zTt (i := 6) rfl rfl rfl c1 (Gv.neqT rfl rfl)<|zTk (i := 7) rfl (zPt rfl c1 rfl)<|zTk (i := 8) rfl (zMb rfl)<|AAny.case (s := 94) rfl (fun c2 => ?_) (fun c2 => ?_)
       ·have ew : ¬ z.op = 1 := fun e => by have := (copy_op hI.op).2 e; simp [this] at c2
        refine zTt (i := 9) rfl rfl rfl c2 (zn isAgg26 sizeOf26 rfl rfl)<|zTt (i := 10) rfl rfl rfl c2 (zc underlying33 rfl sizeOf3 (by decide) rfl rfl)<|zTt (i := 11) rfl rfl rfl c2 (zLi isAgg3 rfl)<|zTt (i := 13) rfl rfl rfl c2 (zu underlying222 rfl sizeOf9 (by decide) rfl rfl)<|zTt (i := 14) rfl rfl rfl c2 (zz (c := .str _) isAgg9 rfl ⟨_, .head⟩ rfl)<|zTt (i := 15) rfl rfl rfl c2 (Gv.indexT (j := 0) underlying9 rfl rfl rfl hc)<|zOn (i := 12) rfl<|za rfl rfl c2<|zg (rof_spec f z.dst (hdst dm)) rfl<|z6<|zOn (i := 16) rfl<|za rfl rfl c2<|zg (rtype_spec (c.toNat : Int)) rfl<|z6<|zTt (i := 17) rfl rfl rfl c2 (yl rfl rfl)<|zTk (i := 18) rfl (zPt rfl c2 rfl)<|zDn<|zy rfl (fun cq => ?_) (fun cq => ?_)
        ·have hq : ¬ kindV f z.dst = typeOf (c.toNat : Int) := by simpa using cq
         refine zb<|z8 rfl<|z2 (zAb rfl)<|z6<|zh<|zk (x := .bool _) rfl ?_
         rw [hib (by rw [hiw, dm, qr ew, hct, qr hq]; rfl)]
        ·have hq : kindV f z.dst = typeOf (c.toNat : Int) := by simpa using cq
         refine ze<|z8 rfl<|z2 (yb rfl rfl (by unfold I64; omega))<|z2 (zMi rfl)<|z6 ?_
         exact ⟨k + 1, zR7, zR1, ⟨_, (.drop (.refl _)), rfl⟩, ⟨hk2, all_take hk2 hkall (by rw [hz, hiw, hct, qq hq]; simp)⟩, by omega⟩
       ·have ew : z.op = 1 := (copy_op hI.op).1 (by simpa using c2)
        refine zTf (i := 9) rfl rfl rfl c2<|zTf (i := 10) rfl rfl rfl c2<|zTf (i := 11) rfl rfl rfl c2<|zTf (i := 12) rfl rfl rfl c2<|zTf (i := 13) rfl rfl rfl c2<|zTf (i := 14) rfl rfl rfl c2<|zTf (i := 15) rfl rfl rfl c2<|zTf (i := 16) rfl rfl rfl c2<|zTf (i := 17) rfl rfl rfl c2<|zTk (i := 18) rfl (zPf rfl c2 rfl)<|zDn<|yi rfl rfl<|ze<|z8 rfl<|z2 (yb rfl rfl (by unfold I64; omega))<|z2 (zMi rfl)<|z6 ?_
        exact ⟨k + 1, zR7, zR1, ⟨_, (.drop (.refl _)), rfl⟩, ⟨hk2, all_take hk2 hkall (by rw [hz, hiw, qq ew]; simp)⟩, by omega⟩
      ·have d1 : (kRow z.op).2.2 = ⟨#[]⟩ := by simpa using c1
       have dm : makesB z.op = false := by rw [makesB_eq, qq d1]; rfl
       refine zTf (i := 4) rfl rfl rfl c1<|zTf (i := 5) rfl rfl rfl c1<|zTf (i := 6) rfl rfl rfl c1<|zTk (i := 7) rfl (zPf rfl c1 rfl)<|zTk (i := 8) rfl (zMb rfl)<|zTf (i := 9) rfl rfl rfl rfl<|zTf (i := 10) rfl rfl rfl rfl<|zTf (i := 11) rfl rfl rfl rfl<|zTf (i := 12) rfl rfl rfl rfl<|zTf (i := 13) rfl rfl rfl rfl<|zTf (i := 14) rfl rfl rfl rfl<|zTf (i := 15) rfl rfl rfl rfl<|zTf (i := 16) rfl rfl rfl rfl<|zTf (i := 17) rfl rfl rfl rfl<|zTk (i := 18) rfl (zPf rfl rfl rfl)<|zDn<|yi rfl rfl<|ze<|z8 rfl<|z2 (yb rfl rfl (by unfold I64; omega))<|z2 (zMi rfl)<|z6 ?_
       exact ⟨k + 1, zR7, zR1, ⟨_, (.drop (.refl _)), rfl⟩, ⟨hk2, all_take hk2 hkall (by rw [hz, hiw, dm]; rfl)⟩, by omega⟩
   ·have hkn : k = b.insts.length := by simp at ck; omega
    rw [hkn, qk] at hkall
    refine y8<|zb<|z8 rfl<|z2 (zc underlying66 rfl sizeOf64 (by decide) rfl rfl)<|z2 (zn isAgg64 sizeOf64 rfl rfl)<|y9 (cs := [.int .i64 0, .int .i64 0, .int .i64 0, .int .i64 0]) zeroValue64 rfl rfl<|fun i14 => y4 sizeOf64 rfl rfl rfl rfl rfl rfl .head rfl<|zf (yh (t := 14) rfl .head)<|z6<|zb<|yk (γ := Bool) [1, 16, 17, 18] (fun u => [(152, .bool u)]) (fun u => []) (fun u => u = !termT f b.term) ?_ (fun _ _ h => h) ?_
    ·have hk3 := term_kind hTm
     refine z8 rfl<|z2 (zc underlying64 rfl sizeOf61 (by decide) rfl rfl)<|z2 (zLi isAgg61 rfl)<|z2 (y3 rfl rfl)<|z2 (zMb rfl)<|zm (s := 111) rfl (fun c1 => ?_) (fun c1 => ?_)
     ·refine za rfl rfl c1<|z2 (zn isAgg26 sizeOf26 rfl rfl)<|za rfl rfl c1<|z2 (zc underlying64 rfl sizeOf3 (by decide) rfl rfl)<|za rfl rfl c1<|z2 (zLi isAgg3 rfl)<|za rfl rfl c1<|zg (rof_spec f b.term.var (term_var hTm (by simp_all))) rfl<|za rfl rfl c1<|z2 (yl rfl rfl)<|z2 (zPt rfl c1 rfl)<|z2 (zMb rfl)<|zm (s := 118) rfl (fun c2 => ?_) (fun c2 => ?_)
      ·refine z7 rfl rfl c2<|z7 rfl rfl c2<|z7 rfl rfl c2<|z7 rfl rfl c2<|zd rfl rfl<|zd rfl rfl<|zd rfl rfl<|zd rfl rfl<|zd rfl rfl<|zd rfl rfl<|zd rfl rfl<|zd rfl rfl<|zd rfl rfl<|zd rfl rfl<|zd rfl rfl<|zd rfl rfl<|zd rfl rfl<|zd rfl rfl<|zd rfl rfl<|zd rfl rfl<|zd rfl rfl<|z7 rfl rfl c2<|z2 (zPt rfl c2 rfl)<|z2 (zMb rfl)<|z7 rfl rfl rfl<|z7 rfl rfl rfl<|z7 rfl rfl rfl<|z7 rfl rfl rfl<|zd rfl rfl<|zd rfl rfl<|zd rfl rfl<|zd rfl rfl<|z7 rfl rfl rfl<|z2 (zPt rfl rfl rfl)<|z6 ?_
       exact ⟨_, zR4, zR1, zLe, by simp_all [termT] <;> omega⟩
      ·refine za rfl rfl c2<|z2 (zc underlying64 rfl sizeOf61 (by decide) rfl rfl)<|za rfl rfl c2<|z2 (zLi isAgg61 rfl)<|za rfl rfl c2<|z2 (y3 rfl rfl)<|za rfl rfl c2<|z2 (zMb rfl)<|zm (s := 122) rfl (fun c3 => ?_) (fun c3 => ?_)
       ·refine za rfl rfl c3<|z2 (zn isAgg26 sizeOf26 rfl rfl)<|za rfl rfl c3<|z2 (zc underlying64 rfl sizeOf3 (by decide) rfl rfl)<|za rfl rfl c3<|z2 (zLi isAgg3 rfl)<|za rfl rfl c3<|zg (rof_spec f b.term.var (term_var hTm (by simp_all))) rfl<|za rfl rfl c3<|z2 (yl rfl rfl)<|za rfl rfl c3<|z2 (zMb rfl)<|zm (s := 128) rfl (fun c4 => ?_) (fun c4 => ?_)
        ·refine z7 rfl rfl c4<|z7 rfl rfl c4<|z7 rfl rfl c4<|z7 rfl rfl c4<|za rfl rfl c3<|z2 (zPt rfl c4 rfl)<|za rfl rfl c3<|z2 (zMb rfl)<|z7 rfl rfl rfl<|z7 rfl rfl rfl<|z7 rfl rfl rfl<|z7 rfl rfl rfl<|za rfl rfl c3<|z2 (zPt rfl rfl rfl)<|za rfl rfl c2<|z2 (zPt rfl c3 rfl)<|z2 (zPf rfl c2 rfl)<|z2 (zMb rfl)<|z7 rfl rfl rfl<|z7 rfl rfl rfl<|z7 rfl rfl rfl<|z7 rfl rfl rfl<|zd rfl rfl<|zd rfl rfl<|zd rfl rfl<|zd rfl rfl<|z7 rfl rfl rfl<|z2 (zPt rfl rfl rfl)<|z6 ?_
         exact ⟨_, zR4, zR1, zLe, by simp_all [termT] <;> omega⟩
        ·refine za rfl rfl c4<|z2 (zc underlying64 rfl sizeOf62 (by decide) rfl rfl)<|za rfl rfl c4<|z2 (yo (j := 0) underlying62 sizeOf3 rfl rfl rfl (by decide) rfl)<|za rfl rfl c4<|z2 (zLi isAgg3 rfl)<|za rfl rfl c4<|z2 (y3 rfl rfl)<|za rfl rfl c3<|z2 (zPf rfl c4 rfl)<|za rfl rfl c3<|z2 (zMb rfl)<|zm (s := 134) rfl (fun c5 => ?_) (fun c5 => ?_)
         ·refine z7 rfl rfl c5<|z7 rfl rfl c5<|z7 rfl rfl c5<|z7 rfl rfl c5<|za rfl rfl c3<|z2 (zPt rfl c5 rfl)<|za rfl rfl c2<|z2 (zPt rfl c3 rfl)<|z2 (zPf rfl c2 rfl)<|z2 (zMb rfl)<|z7 rfl rfl rfl<|z7 rfl rfl rfl<|z7 rfl rfl rfl<|z7 rfl rfl rfl<|zd rfl rfl<|zd rfl rfl<|zd rfl rfl<|zd rfl rfl<|z7 rfl rfl rfl<|z2 (zPt rfl rfl rfl)<|z6 ?_
          exact ⟨_, zR4, zR1, zLe, by simp_all [termT] <;> omega⟩
         ·refine za rfl rfl c5<|z2 (zc underlying64 rfl sizeOf62 (by decide) rfl rfl)<|za rfl rfl c5<|z2 (yo (j := 1) underlying62 sizeOf3 rfl rfl rfl (by decide) rfl)<|za rfl rfl c5<|z2 (zLi isAgg3 rfl)<|za rfl rfl c5<|z2 (y3 rfl rfl)<|za rfl rfl c3<|z2 (zPf rfl c5 rfl)<|za rfl rfl c2<|z2 (zPt rfl c3 rfl)<|z2 (zPf rfl c2 rfl)<|z2 (zMb rfl)<|zm (s := 142) rfl (fun c6 => ?_) (fun c6 => ?_)
          ·refine z7 rfl rfl c6<|z7 rfl rfl c6<|z7 rfl rfl c6<|z7 rfl rfl c6<|zd rfl rfl<|zd rfl rfl<|zd rfl rfl<|zd rfl rfl<|z7 rfl rfl c6<|z2 (zPt rfl c6 rfl)<|z6 ?_
           exact ⟨_, zR4, zR1, zLe, by simp_all [termT] <;> omega⟩
          ·refine za rfl rfl c6<|z2 (zc underlying64 rfl sizeOf61 (by decide) rfl rfl)<|za rfl rfl c6<|z2 (zLi isAgg61 rfl)<|za rfl rfl c6<|z2 (y3 rfl rfl)<|za rfl rfl c6<|z2 (zMb rfl)<|zm (s := 146) rfl (fun c7 => ?_) (fun c7 => ?_)
           ·refine za rfl rfl c7<|z2 (zc underlying64 rfl sizeOf62 (by decide) rfl rfl)<|za rfl rfl c7<|z2 (yo (j := 0) underlying62 sizeOf3 rfl rfl rfl (by decide) rfl)<|za rfl rfl c7<|z2 (zLi isAgg3 rfl)<|za rfl rfl c7<|z2 (y3 rfl rfl)<|za rfl rfl c6<|z2 (zPt rfl c7 rfl)<|z2 (zPf rfl c6 rfl)<|z6 ?_
            exact ⟨_, zR4, zR1, zLe, by simp_all [termT] <;> omega⟩
           ·refine z7 rfl rfl c7<|z7 rfl rfl c7<|z7 rfl rfl c7<|z7 rfl rfl c7<|za rfl rfl c6<|z2 (zPf rfl c7 rfl)<|z2 (zPf rfl c6 rfl)<|z6 ?_
            exact ⟨_, zR4, zR1, zLe, by simp_all [termT] <;> omega⟩
       ·refine z7 rfl rfl c3<|z7 rfl rfl c3<|z7 rfl rfl c3<|z7 rfl rfl c3<|z7 rfl rfl c3<|z7 rfl rfl c3<|zd rfl rfl<|zd rfl rfl<|zd rfl rfl<|zd rfl rfl<|z7 rfl rfl c3<|z7 rfl rfl c3<|zd rfl rfl<|zd rfl rfl<|zd rfl rfl<|zd rfl rfl<|z7 rfl rfl c3<|za rfl rfl c2<|z2 (zPf rfl c3 rfl)<|z2 (zPf rfl c2 rfl)<|z2 (zMb rfl)<|za rfl rfl rfl<|z2 (zc underlying64 rfl sizeOf61 (by decide) rfl rfl)<|za rfl rfl rfl<|z2 (zLi isAgg61 rfl)<|za rfl rfl rfl<|z2 (y3 rfl rfl)<|za rfl rfl rfl<|z2 (zMb rfl)<|zm (s := 146) rfl (fun c8 => ?_) (fun c8 => ?_)
        ·refine za rfl rfl c8<|z2 (zc underlying64 rfl sizeOf62 (by decide) rfl rfl)<|za rfl rfl c8<|z2 (yo (j := 0) underlying62 sizeOf3 rfl rfl rfl (by decide) rfl)<|za rfl rfl c8<|z2 (zLi isAgg3 rfl)<|za rfl rfl c8<|z2 (y3 rfl rfl)<|za rfl rfl rfl<|z2 (zPt rfl c8 rfl)<|z2 (zPf rfl rfl rfl)<|z6 ?_
         exact ⟨_, zR4, zR1, zLe, by simp_all [termT] <;> omega⟩
        ·refine z7 rfl rfl c8<|z7 rfl rfl c8<|z7 rfl rfl c8<|z7 rfl rfl c8<|za rfl rfl rfl<|z2 (zPf rfl c8 rfl)<|z2 (zPf rfl rfl rfl)<|z6 ?_
         exact ⟨_, zR4, zR1, zLe, by simp_all [termT] <;> omega⟩
     ·refine z7 rfl rfl c1<|z7 rfl rfl c1<|z7 rfl rfl c1<|z7 rfl rfl c1<|z7 rfl rfl c1<|z2 (zPf rfl c1 rfl)<|z2 (zMb rfl)<|za rfl rfl rfl<|z2 (zc underlying64 rfl sizeOf61 (by decide) rfl rfl)<|za rfl rfl rfl<|z2 (zLi isAgg61 rfl)<|za rfl rfl rfl<|z2 (y3 rfl rfl)<|za rfl rfl rfl<|z2 (zMb rfl)<|zm (s := 122) rfl (fun c9 => ?_) (fun c9 => ?_)
      ·refine za rfl rfl c9<|z2 (zn isAgg26 sizeOf26 rfl rfl)<|za rfl rfl c9<|z2 (zc underlying64 rfl sizeOf3 (by decide) rfl rfl)<|za rfl rfl c9<|z2 (zLi isAgg3 rfl)<|za rfl rfl c9<|zg (rof_spec f b.term.var (term_var hTm (by simp_all))) rfl<|za rfl rfl c9<|z2 (yl rfl rfl)<|za rfl rfl c9<|z2 (zMb rfl)<|zm (s := 128) rfl (fun c10 => ?_) (fun c10 => ?_)
       ·refine z7 rfl rfl c10<|z7 rfl rfl c10<|z7 rfl rfl c10<|z7 rfl rfl c10<|za rfl rfl c9<|z2 (zPt rfl c10 rfl)<|za rfl rfl c9<|z2 (zMb rfl)<|z7 rfl rfl rfl<|z7 rfl rfl rfl<|z7 rfl rfl rfl<|z7 rfl rfl rfl<|za rfl rfl c9<|z2 (zPt rfl rfl rfl)<|za rfl rfl rfl<|z2 (zPt rfl c9 rfl)<|z2 (zPf rfl rfl rfl)<|z2 (zMb rfl)<|z7 rfl rfl rfl<|z7 rfl rfl rfl<|z7 rfl rfl rfl<|z7 rfl rfl rfl<|zd rfl rfl<|zd rfl rfl<|zd rfl rfl<|zd rfl rfl<|z7 rfl rfl rfl<|z2 (zPt rfl rfl rfl)<|z6 ?_
        exact ⟨_, zR4, zR1, zLe, by simp_all [termT] <;> omega⟩
       ·refine za rfl rfl c10<|z2 (zc underlying64 rfl sizeOf62 (by decide) rfl rfl)<|za rfl rfl c10<|z2 (yo (j := 0) underlying62 sizeOf3 rfl rfl rfl (by decide) rfl)<|za rfl rfl c10<|z2 (zLi isAgg3 rfl)<|za rfl rfl c10<|z2 (y3 rfl rfl)<|za rfl rfl c9<|z2 (zPf rfl c10 rfl)<|za rfl rfl c9<|z2 (zMb rfl)<|zm (s := 134) rfl (fun c11 => ?_) (fun c11 => ?_)
        ·refine z7 rfl rfl c11<|z7 rfl rfl c11<|z7 rfl rfl c11<|z7 rfl rfl c11<|za rfl rfl c9<|z2 (zPt rfl c11 rfl)<|za rfl rfl rfl<|z2 (zPt rfl c9 rfl)<|z2 (zPf rfl rfl rfl)<|z2 (zMb rfl)<|z7 rfl rfl rfl<|z7 rfl rfl rfl<|z7 rfl rfl rfl<|z7 rfl rfl rfl<|zd rfl rfl<|zd rfl rfl<|zd rfl rfl<|zd rfl rfl<|z7 rfl rfl rfl<|z2 (zPt rfl rfl rfl)<|z6 ?_
         exact ⟨_, zR4, zR1, zLe, by simp_all [termT] <;> omega⟩
        ·refine za rfl rfl c11<|z2 (zc underlying64 rfl sizeOf62 (by decide) rfl rfl)<|za rfl rfl c11<|z2 (yo (j := 1) underlying62 sizeOf3 rfl rfl rfl (by decide) rfl)<|za rfl rfl c11<|z2 (zLi isAgg3 rfl)<|za rfl rfl c11<|z2 (y3 rfl rfl)<|za rfl rfl c9<|z2 (zPf rfl c11 rfl)<|za rfl rfl rfl<|z2 (zPt rfl c9 rfl)<|z2 (zPf rfl rfl rfl)<|z2 (zMb rfl)<|zm (s := 142) rfl (fun c12 => ?_) (fun c12 => ?_)
         ·refine z7 rfl rfl c12<|z7 rfl rfl c12<|z7 rfl rfl c12<|z7 rfl rfl c12<|zd rfl rfl<|zd rfl rfl<|zd rfl rfl<|zd rfl rfl<|z7 rfl rfl c12<|z2 (zPt rfl c12 rfl)<|z6 ?_
          exact ⟨_, zR4, zR1, zLe, by simp_all [termT] <;> omega⟩
         ·refine za rfl rfl c12<|z2 (zc underlying64 rfl sizeOf61 (by decide) rfl rfl)<|za rfl rfl c12<|z2 (zLi isAgg61 rfl)<|za rfl rfl c12<|z2 (y3 rfl rfl)<|za rfl rfl c12<|z2 (zMb rfl)<|zm (s := 146) rfl (fun c13 => ?_) (fun c13 => ?_)
          ·refine za rfl rfl c13<|z2 (zc underlying64 rfl sizeOf62 (by decide) rfl rfl)<|za rfl rfl c13<|z2 (yo (j := 0) underlying62 sizeOf3 rfl rfl rfl (by decide) rfl)<|za rfl rfl c13<|z2 (zLi isAgg3 rfl)<|za rfl rfl c13<|z2 (y3 rfl rfl)<|za rfl rfl c12<|z2 (zPt rfl c13 rfl)<|z2 (zPf rfl c12 rfl)<|z6 ?_
           exact ⟨_, zR4, zR1, zLe, by simp_all [termT] <;> omega⟩
          ·refine z7 rfl rfl c13<|z7 rfl rfl c13<|z7 rfl rfl c13<|z7 rfl rfl c13<|za rfl rfl c12<|z2 (zPf rfl c13 rfl)<|z2 (zPf rfl c12 rfl)<|z6 ?_
           exact ⟨_, zR4, zR1, zLe, by simp_all [termT] <;> omega⟩
      ·refine z7 rfl rfl c9<|z7 rfl rfl c9<|z7 rfl rfl c9<|z7 rfl rfl c9<|z7 rfl rfl c9<|z7 rfl rfl c9<|zd rfl rfl<|zd rfl rfl<|zd rfl rfl<|zd rfl rfl<|z7 rfl rfl c9<|z7 rfl rfl c9<|zd rfl rfl<|zd rfl rfl<|zd rfl rfl<|zd rfl rfl<|z7 rfl rfl c9<|za rfl rfl rfl<|z2 (zPf rfl c9 rfl)<|z2 (zPf rfl rfl rfl)<|z2 (zMb rfl)<|za rfl rfl rfl<|z2 (zc underlying64 rfl sizeOf61 (by decide) rfl rfl)<|za rfl rfl rfl<|z2 (zLi isAgg61 rfl)<|za rfl rfl rfl<|z2 (y3 rfl rfl)<|za rfl rfl rfl<|z2 (zMb rfl)<|zm (s := 146) rfl (fun c14 => ?_) (fun c14 => ?_)
       ·refine za rfl rfl c14<|z2 (zc underlying64 rfl sizeOf62 (by decide) rfl rfl)<|za rfl rfl c14<|z2 (yo (j := 0) underlying62 sizeOf3 rfl rfl rfl (by decide) rfl)<|za rfl rfl c14<|z2 (zLi isAgg3 rfl)<|za rfl rfl c14<|z2 (y3 rfl rfl)<|za rfl rfl rfl<|z2 (zPt rfl c14 rfl)<|z2 (zPf rfl rfl rfl)<|z6 ?_
        exact ⟨_, zR4, zR1, zLe, by simp_all [termT] <;> omega⟩
       ·refine z7 rfl rfl c14<|z7 rfl rfl c14<|z7 rfl rfl c14<|z7 rfl rfl c14<|za rfl rfl rfl<|z2 (zPf rfl c14 rfl)<|z2 (zPf rfl rfl rfl)<|z6 ?_
        exact ⟨_, zR4, zR1, zLe, by simp_all [termT] <;> omega⟩
    ·rintro u hu
     subst hu
     refine zy rfl (fun ct => ?_) (fun ct => ?_)
     ·have dt : termT f b.term = false := by simpa using ct
      refine zb<|z8 rfl<|z2 (zAb rfl)<|z6<|zh<|zk (x := .bool _) rfl ?_
      rw [hbad (by unfold blkT; rw [hjall, hkall, dt]; rfl)]
     ·have dt : termT f b.term = true := by simpa using ct
      refine ze<|z8 rfl<|z2 (yb rfl rfl (by unfold I64; omega))<|z2 (zMi rfl)<|z6 ?_
      exact ⟨i + 1, zR3, zR1, zLe, ⟨hi2, all_take hi2 hall (by rw [hbi]; unfold blkT; rw [hjall, hkall, dt]; rfl)⟩, by omega⟩
 ·have hin : i = f.blocks.length := by simp at ci; omega
  rw [hin, qk] at hall
  refine y8<|zb<|z8 rfl<|z2 (zAb rfl)<|z6<|zh<|zk (x := .bool _) rfl ?_
  rw [hall]
end Go.Proofs.YtjnpcfpecilejaaGreatDoor
namespace Go.Proofs.YtjnpcfpecilejaaGreatDoor
open Go.Proofs.Tryz
variable {α : Type}
def mg (k : Int) : List (Int × List α) → List α
 | [] => []
 | (k', r) :: es => if k = k' then r else mg k es
def ms (k : Int) (r : List α) : List (Int × List α) → List (Int × List α)
 | [] => [(k, r)]
 | (k', r') :: es => if k = k' then (k, r) :: es else (k', r') :: ms k r es
def kv (k : Int) : Value := .int .i64 k
theorem kv_now (k k' : Int) : Instr.sameNow (.int .i64) (kv k) (kv k') = some (decide (k = k')) := by
 simp [Instr.sameNow, kv]; by_cases h : k = k' <;> simp [h]
inductive MapR (c : Enc α) (e : TypeId) : List (Int × List α) → List (Value × Value) → List (Nat × Obj) → Prop
 | nil : MapR c e [] [] []
 | cons {k r es a n cap hs A B} : OwnS c.k e a n cap (c.vs r) A → MapR c e es hs B → MapR c e ((k, r) :: es) ((kv k, .slice a n cap) :: hs) (A ++ B)
theorem MapR.get {c : Enc α} {e : TypeId} {k : Int} : ∀ {l : List MapEntry} {es : List (Int × List α)} {L : List (Nat × Obj)} (i : Nat), MapR c e es (l.map fun e => (e.key, e.val)) L →
  (Instr.findNow (.int .i64) (kv k) l i = some none ∧ mg k es = [] ∧ ∀ r' a' n' c' A', OwnS c.k e a' n' c' (c.vs r') A' → ∃ L', MapR c e (ms k r' es) (l.map (fun e => (e.key, e.val)) ++ [(kv k, .slice a' n' c')]) L' ∧ L'.Perm (A' ++ L)) ∨
  (∃ j e0 a n cap A B, Instr.findNow (.int .i64) (kv k) l i = some (some (i + j, .slice a n cap)) ∧ l[j]? = some e0 ∧ e0.key = kv k ∧ OwnS c.k e a n cap (c.vs (mg k es)) A ∧ L.Perm (A ++ B) ∧
   ∀ r' a' n' c' A', OwnS c.k e a' n' c' (c.vs r') A' → ∃ L', MapR c e (ms k r' es) ((l.map fun e => (e.key, e.val)).set j (kv k, .slice a' n' c')) L' ∧ L'.Perm (A' ++ B))
 | [], es, L, i, h => by
  cases h
  exact .inl ⟨rfl, rfl, fun r' a' n' c' A' h => ⟨_, by simpa [ms] using MapR.cons (k := k) h .nil, by simp⟩⟩
 | x :: l, es, L, i, h => by
  generalize hl : ((x :: l).map fun e => (e.key, e.val)) = hs0 at h
  cases h with
  | nil => simp at hl
  | @cons k1 r es a n cap hs A B h1 h2 =>
   simp only [List.map_cons, List.cons.injEq, Prod.mk.injEq] at hl
   obtain ⟨⟨hk, hv⟩, rfl⟩ := hl
   by_cases e1 : k = k1
   ·subst e1
    right
    refine ⟨0, x, a, n, cap, A, B, ?_, rfl, hk, by simpa [mg] using h1, .refl _, fun r' a' n' c' A' h => ⟨A' ++ B, ?_, .refl _⟩⟩
    ·unfold Instr.findNow; rw [hk, kv_now, qq rfl]; simp [hv]
    ·simp only [ms, if_pos, List.map_cons, List.set_cons_zero]
     exact .cons h h2
   ·have hf : Instr.findNow (.int .i64) (kv k) (x :: l) i = Instr.findNow (.int .i64) (kv k) l (i + 1) := by
     rw [Instr.findNow, hk, kv_now, qr e1]
    have hg : mg k ((k1, r) :: es) = mg k es := by simp [mg, e1]
    have hms : ∀ r', ms k r' ((k1, r) :: es) = (k1, r) :: ms k r' es := fun r' => by simp [ms, e1]
    rw [hf, hg]
    rcases MapR.get (k := k) (i + 1) h2 with ⟨g1, g2, g3⟩ | ⟨j, e0, a1, n1, c1, A1, B1, g1, g2, g3, g4, g5, g6⟩
    ·left
     refine ⟨g1, g2, fun r' a' n' c' A' h => ?_⟩
     obtain ⟨L', q1, q2⟩ := g3 r' a' n' c' A' h
     refine ⟨A ++ L', ?_, ?_⟩
     ·rw [hms, List.cons_append]; exact .cons h1 q1
     ·refine (q2.append_left A).trans ?_
      rw [← qh, ← qh]
      exact List.perm_append_comm.append_right B
    ·right
     refine ⟨j + 1, e0, a1, n1, c1, A1, A ++ B1, by rw [g1]; congr 3; omega, by simpa using g2, g3, g4, ?_, fun r' a' n' c' A' h => ?_⟩
     ·refine (g5.append_left A).trans ?_
      rw [← qh, ← qh]
      exact List.perm_append_comm.append_right B1
     ·obtain ⟨L', q1, q2⟩ := g6 r' a' n' c' A' h
      refine ⟨A ++ L', ?_, ?_⟩
      ·rw [hms, List.set_cons_succ]; exact .cons h1 q1
      ·refine (q2.append_left A).trans ?_
       rw [← qh, ← qh]
       exact List.perm_append_comm.append_right B1
section
variable {E : World} {P : Program} {ops : Array Oper} {K : AEnv → OL → Prop} {env : AEnv} {O O' O'' : OL} {rest : List Oper} {n : Nat}
variable {d ty : Nat} {pos : String} {af : Array Edge} {x y z : Operand} {t u e T kt : TypeId} {b : Nat}
def FroM (c : Enc α) (I : G) : List (Int × List α) → List (Value × Value) → Prop
 | [], hs => hs = []
 | (k, r) :: es, hs => ∃ v hs', hs = (kv k, v) :: hs' ∧ RepV I (.fro c.k (r.map c.row)) v ∧ FroM c I es hs'
theorem FroM.mono {c : Enc α} {I J : G} (h : I.le J) : ∀ {es : List (Int × List α)} {hs : List (Value × Value)}, FroM c I es hs → FroM c J es hs
 | [], _, e => e
 | (_, _) :: _, _, ⟨v, hs', e, h1, h2⟩ => ⟨v, hs', e, RepV.mono h _ _ h1, FroM.mono h h2⟩
theorem MapR.fro {c : Enc α} {I : G} {e : TypeId} {es : List (Int × List α)} {hs : List (Value × Value)} {B : List (Nat × Obj)} (h : MapR c e es hs B) (hI : ∀ x ∈ B, I.k x.1 = some x.2) : FroM c I es hs := by
 induction h with
 | nil => rfl
 | cons h1 _ ih => exact ⟨_, _, rfl, h1.fro fun x hx => hI x (List.mem_append_left _ hx), ih fun x hx => hI x (List.mem_append_right _ hx)⟩
theorem FroM.get {c : Enc α} {I : G} {k : Int} : ∀ {l : List MapEntry} {es : List (Int × List α)} (i : Nat), FroM c I es (l.map fun e => (e.key, e.val)) →
  (Instr.findNow (.int .i64) (kv k) l i = some none ∧ mg k es = []) ∨ (∃ j v, Instr.findNow (.int .i64) (kv k) l i = some (some (j, v)) ∧ RepV I (.fro c.k ((mg k es).map c.row)) v)
 | [], [], i, _ => .inl ⟨rfl, rfl⟩
 | _ :: _, [], _, h => by cases h
 | [], (_, _) :: _, _, ⟨_, _, e, _⟩ => by cases e
 | x :: l, (k1, r) :: es, i, ⟨v, hs', e, h1, h2⟩ => by
  simp only [List.map_cons, List.cons.injEq, Prod.mk.injEq] at e
  obtain ⟨⟨hk, hv⟩, rfl⟩ := e
  by_cases e1 : k = k1
  ·subst e1
   right
   refine ⟨i, v, ?_, by simpa [mg] using h1⟩
   unfold Instr.findNow; rw [hk, kv_now, qq rfl]; simp [hv]
  ·have hf : Instr.findNow (.int .i64) (kv k) (x :: l) i = Instr.findNow (.int .i64) (kv k) l (i + 1) := by
    rw [Instr.findNow, hk, kv_now, qr e1]
   rw [hf, show mg k ((k1, r) :: es) = mg k es by simp [mg, e1]]
   exact FroM.get (i + 1) h2
end
end Go.Proofs.YtjnpcfpecilejaaGreatDoor
namespace Go.Proofs.YtjnpcfpecilejaaGreatDoor
open Go.Proofs.Tryz
open Go.Proofs
def lC (l : List Rng) : List AV := eP.av l
theorem lC_len (l : List Rng) : (lC l).length = l.length * 2 := eP.av_len l
theorem lC_push (l : List Rng) (r : Rng) : lC l ++ encZ r = lC (l ++ [r]) := eP.av_push l r
theorem lC_cons (r : Rng) (l : List Rng) : lC (r :: l) = .int .i64 r.1 :: .int .i64 r.2 :: lC l := rfl
theorem lC_drop : ∀ (l : List Rng) (j : Nat), (lC l).drop (j * 2) = lC (l.drop j)
 | l, 0 => by simp
 | [], j + 1 => by simp [lC, Enc.av]
 | r :: l, j + 1 => by
  rw [show (j + 1) * 2 = j * 2 + 1 + 1 by omega, lC_cons, List.drop_succ_cons, List.drop_succ_cons, lC_drop l j, List.drop_succ_cons]
theorem lC_get {l : List Rng} {j : Nat} {r : Rng} (h : l[j]? = some r) : (lC l).drop (j * 2) = .int .i64 r.1 :: .int .i64 r.2 :: lC (l.drop (j + 1)) := by
 obtain ⟨hj, e⟩ := List.getElem?_eq_some_iff.1 h
 rw [lC_drop, List.drop_eq_getElem_cons hj, e, lC_cons]
theorem lC_ne {l : List Rng} {j : Nat} (h : j < l.length) : lC l ≠ [] := fun e => by have := lC_len l; rw [e] at this; simp at this; omega
section
variable {E : World} {P : Program} {ops : Array Oper} {K : AEnv → OL → Prop} {env : AEnv} {O O' O'' : OL} {rest : List Oper} {n : Nat}
variable {d ty : Nat} {pos : String} {af : Array Edge} {x y z : Operand} {t u e T : TypeId}
theorem Gv.idxR {i n j : Nat} {a : Int} {T : TypeId} {l : List Rng} (ht : P.underlying t = some (.slice e)) (hs : ∀ w, (sizeOf e).run P w = .ok 2 w) (hx : aev env x = .own i n) (hy : aev env y = .int .i64 a) (hi : a = (j : Int)) (hO : Has O i (.grow 2 T (lC l))) (hn : l.length = n) (hj : j < n) :
  Gv P env O (Oper.mk (some d) (.indexAddr t x y) ty pos af none) (.po i (j * 2)) := Gv.idxO ht hs hx hy hi hO (lC_ne (j := j) (by omega)) hj
theorem Gv.loadR {i j : Nat} {T : TypeId} {l : List Rng} {r : Rng} (ha : ∀ w, (isAgg t).run P w = .ok true w) (hs : ∀ w, (sizeOf t).run P w = .ok 2 w) (hx : aev env x = .po i (j * 2)) (hO : Has O i (.grow 2 T (lC l))) (hv : l[j]? = some r) :
  Gv P env O (Oper.mk (some d) (.load t x) ty pos af none) (.agg (encZ r)) := by
 have hj := (List.getElem?_eq_some_iff.1 hv).1
 exact Gv.loadAG ha hs hx hO (lC_ne hj) (by rw [lC_len]; omega) (by rw [lC_get hv]; rfl)
theorem GStep.knowR {t i m : Nat} {T : TypeId} {l : List Rng} (hv : env t = .own i m) (hO : Pick O i (.grow 2 T (lC l)) O') (hm : l.length = m) : GStep E env O (aupd env t (.fro 2 (l.map encZ))) O' :=
 GStep.know hv (rows := l.map encZ) (by
  have : (l.map encZ).flatten = lC l := by unfold lC Enc.av; rw [List.flatMap]; rfl
  rw [this]; exact hO) (fun r hr => by obtain ⟨_, _, rfl⟩ := List.mem_map.1 hr; rfl) (by decide) (by rw [qm]; exact hm)
end
structure RdL (P : Program) (te ee : TypeId) (Lv : AV) (ptr : Nat → AV) (i : Nat) (HL : AObj) (l : List Rng) : Prop where
 idx : ∀ {env : AEnv} {O : OL} {d ty : Nat} {pos : String} {af : Array Edge} {x y : Operand} {a : Int} {j : Nat}, aev env x = Lv → aev env y = .int .i64 a → a = (j : Int) → j < l.length → Has O i HL → Gv P env O (Oper.mk (some d) (.indexAddr te x y) ty pos af none) (ptr j)
 load : ∀ {env : AEnv} {O : OL} {d ty : Nat} {pos : String} {af : Array Edge} {x : Operand} {j : Nat} {r : Rng}, aev env x = ptr j → l[j]? = some r → Has O i HL → Gv P env O (Oper.mk (some d) (.load ee x) ty pos af none) (.agg (encZ r))
def ptrF (l : List Rng) (j : Nat) : AV := .pf (encZ ((l[j]?).getD noR))
def ptrO (i : Nat) (j : Nat) : AV := .po i (j * 2)
theorem RdL.fro {P : Program} {te ee : TypeId} (ht : P.underlying te = some (.slice ee)) (hs : ∀ w, (sizeOf ee).run P w = .ok 2 w) (ha : ∀ w, (isAgg ee).run P w = .ok true w) (i : Nat) (HL : AObj) (l : List Rng) : RdL P te ee (.fro 2 (l.map encZ)) (ptrF l) i HL l where
 idx hx hy hi hj _ := y6 ht hs hx hy hi (by rw [qf hj]; rfl)
 load hx hv _ := zn ha hs (cs := encZ _) (by rw [hx]; unfold ptrF; rw [hv]; rfl) rfl
theorem RdL.own {P : Program} {te ee : TypeId} (ht : P.underlying te = some (.slice ee)) (hs : ∀ w, (sizeOf ee).run P w = .ok 2 w) (ha : ∀ w, (isAgg ee).run P w = .ok true w) (i : Nat) (T : TypeId) (l : List Rng) (n : Nat) (hn : l.length = n) : RdL P te ee (.own i n) (ptrO i) i (.grow 2 T (lC l)) l where
 idx hx hy hi hj hO := Gv.idxR ht hs hx hy hi hO hn (by omega)
 load hx hv hO := Gv.loadR ha hs hx hO hv
end Go.Proofs.YtjnpcfpecilejaaGreatDoor
namespace Go.Proofs.YtjnpcfpecilejaaGreatDoor
open Go.Proofs.Tryz
def lv (l : List Rng) (v : Int) : Rng := (l[v.toNat]?).getD noR
structure Rules (n : Nat) (rule : List Rng → Int → Rng) (vs : List Int) : Prop where
 mono : ∀ l l' v, l.length = n → l'.length = n → (∀ u : Int, 0 ≤ u → rSub (lv l u) (lv l' u)) → (∀ u : Int, 0 ≤ u → ok64 (lv l u)) → (∀ u : Int, 0 ≤ u → ok64 (lv l' u)) → v ∈ vs → rSub (rule l v) (rule l' v)
 ok : ∀ l v, l.length = n → (∀ u : Int, 0 ≤ u → ok64 (lv l u)) → v ∈ vs → ok64 (rule l v)
 rng : ∀ v ∈ vs, 0 ≤ v ∧ v < n
end Go.Proofs.YtjnpcfpecilejaaGreatDoor
namespace Go.Proofs.YtjnpcfpecilejaaGreatDoor
open Go.Proofs.Tryz
section
variable {n : Nat} {rule : List Rng → Int → Rng} {widn : Nat → Int → Option Rng} {vs : List Int} (hR : Rules n rule vs) (hw : ∀ i v t, widn i v = some t → ok64 t)
include hR hw
end
end Go.Proofs.YtjnpcfpecilejaaGreatDoor
namespace Go.Proofs.YtjnpcfpecilejaaGreatDoor
open Go.Proofs.Tryz
theorem noR_ok : ok64 noR := ⟨by decide, by decide⟩
def tyV (f : PFunc) (v : Int) : Int := ((f.vars[v.toNat]?).map (·.ty)).getD 0
def ofR (f : PFunc) (l : List Rng) (v : Int) : Rng := rMeet (lv l v) (rType (tyV f v))
def argsR (f : PFunc) (l : List Rng) (x : PInst) : List Rng := x.args.map (ofR f l)
theorem ofR_ok {f : PFunc} {l : List Rng} (h : ∀ u : Int, 0 ≤ u → ok64 (lv l u)) {v : Int} (hv : 0 ≤ v) : ok64 (ofR f l v) := rMeet_ok (h v hv) (rType_ok _)
theorem ra_map {f : PFunc} {l : List Rng} {x : PInst} (i : Nat) : ra (argsR f l x) i = match x.args[i]? with | some v => ofR f l v | none => (0, 0) := by
 unfold ra argsR
 rw [qn]
 cases x.args[i]? <;> rfl
end Go.Proofs.YtjnpcfpecilejaaGreatDoor
namespace Go.Proofs.YtjnpcfpecilejaaGreatDoor
open Go.Proofs.Tryz
theorem reach_gb (E : Int → List Int) {n b : Nat} (hb : b < n) (s : Int) : (reachT E n s)[b]? = some (gb (reachT E n s) b) := gb_some (by rw [reachT_len]; exact hb)
theorem gb_reach {E : Int → List Int} {n b : Nat} (hb : b < n) (s : Int) : gb (reachT E n s) b = true ↔ Way E (fun x => x ≠ s) 0 b := by
 rw [gb_nat, reachT_get hb]; simp
theorem way_all2 {E : Int → List Int} {n : Nat} (hE : Grph E n) {b : Int} : Way E (fun x => x ≠ -1) 0 b ↔ Rch E b := by
 constructor
 ·exact fun h => h.mono fun _ _ => trivial
 ·intro h
  have h2 : ∀ c, Rch E c → (0 : Int) ≤ c := fun c hc => (order_rng hE.toEOk ((order_mem hE.toEOk c).2 hc)).1
  have := Way.self h
  exact this.mono fun x hx => by have := h2 x hx.2; omega
theorem dom_cell {E : Int → List Int} {n a b : Nat} (hE : Grph E n) (ha : a < n) (hb : b < n) (hra : gb (reachT E n (-1)) a = true) :
  (gb (reachT E n (-1)) b && (decide ((a : Int) = (b : Int)) || !gb (reachT E n a) b)) = domB E n a b := by
 rw [qo, hE.domB_iff]
 simp only [qs, Bool.or_eq_true, Bool.not_eq_true', qt]
 rw [gb_reach hb, way_all2 hE, ← Bool.not_eq_true, gb_reach hb]
 unfold Dom
 constructor
 ·rintro ⟨h1, h2⟩
  refine ⟨h1, ?_⟩
  rcases h2 with h2 | h2
  ·rw [h2]; exact fun hw => hw.end_ rfl
  ·exact h2
 ·rintro ⟨h1, h2⟩
  exact ⟨h1, .inr h2⟩
theorem dom_none {E : Int → List Int} {n a b : Nat} (hE : Grph E n) (ha : a < n) (hra : gb (reachT E n (-1)) a = false) : domB E n a b = false := by
 rw [← Bool.not_eq_true, hE.domB_iff]
 intro h
 have := h.rch
 rw [← way_all2 hE, ← gb_reach ha, hra] at this
 cases this
def rowTo (f : PFunc) (a k : Nat) : List Bool := (List.range f.blocks.length).map fun b => decide (b < k) && domB (EndsOf f) f.blocks.length a b
def rowR (f : PFunc) (a : Nat) : List Bool := (List.range f.blocks.length).map fun (b : Nat) => domB (EndsOf f) f.blocks.length a b
def tabR (f : PFunc) : List (List Bool) := (List.range f.blocks.length).map (rowR f)
theorem rowTo_len (f : PFunc) (a k : Nat) : (rowTo f a k).length = f.blocks.length := by simp [rowTo]
theorem rowTo_zero (f : PFunc) (a : Nat) : List.replicate f.blocks.length false = rowTo f a 0 := by
 unfold rowTo
 apply List.ext_getElem
 ·simp
 ·intro i h1 h2; simp
theorem rowTo_succ {f : PFunc} {a k : Nat} : (rowTo f a k).set k (domB (EndsOf f) f.blocks.length a k) = rowTo f a (k + 1) := by
 apply List.ext_getElem?
 intro i
 rw [List.getElem?_set]
 unfold rowTo
 by_cases hi : i < f.blocks.length
 ·by_cases e : k = i
  ·subst e
   rw [if_pos rfl, if_pos (by simpa using hi), qn, List.getElem?_range hi]; simp
  ·rw [if_neg e, qn, qn, List.getElem?_range hi]
   simp only [Option.map_some]
   congr 2
   exact decide_eq_decide.2 (by omega)
 ·by_cases e : k = i
  ·subst e
   rw [if_pos rfl, if_neg (by simpa using hi), qn, List.getElem?_eq_none (by simpa using hi)]; rfl
  ·rw [if_neg e, qn, qn, List.getElem?_eq_none (by simpa using hi)]; rfl
theorem rowTo_all (f : PFunc) (a : Nat) : rowTo f a f.blocks.length = rowR f a := by
 unfold rowTo rowR
 apply List.map_congr_left
 intro b hb
 rw [qq (List.mem_range.1 hb), Bool.true_and]
theorem row_none {f : PFunc} {a : Nat} (hE : Grph (EndsOf f) f.blocks.length) (ha : a < f.blocks.length) (hra : gb (reachT (EndsOf f) f.blocks.length (-1)) a = false) : rowTo f a 0 = rowR f a := by
 unfold rowTo rowR
 apply List.map_congr_left
 intro b hb
 rw [dom_none hE ha hra]; rfl
theorem rowR_len (f : PFunc) (a : Nat) : (rowR f a).length = f.blocks.length := by simp [rowR]
theorem tabR_len (f : PFunc) : (tabR f).length = f.blocks.length := by simp [tabR]
theorem tabR_get {f : PFunc} {a : Nat} (h : a < f.blocks.length) : (tabR f)[a]? = some (rowR f a) := by unfold tabR; rw [qn, List.getElem?_range h]; rfl
theorem rowR_get {f : PFunc} {a b : Nat} (h : b < f.blocks.length) : (rowR f a)[b]? = some (domB (EndsOf f) f.blocks.length a b) := by unfold rowR; rw [qn, List.getElem?_range h]; rfl
theorem tabR_take {f : PFunc} {k : Nat} (h : k < f.blocks.length) : (tabR f).take (k + 1) = (tabR f).take k ++ [rowR f k] := by
 rw [qg (by rw [tabR_len]; exact h)]
 have := tabR_get h
 rw [qf (by rw [tabR_len]; exact h)] at this
 rw [Option.some.inj this]
def chkQ (f : PFunc) (op : Int) (args : List Int) (i : Nat) (block at_ : Int) (q : PInst × Nat) : Bool := decide (q.1.op = op) && decide (q.1.args = args) && aheadB f ((i : Int), (q.2 : Int)) block at_
def chkI (f : PFunc) (op : Int) (args : List Int) (block at_ : Int) (i : Nat) : Bool := ((f.blocks[i]?).map fun b => b.insts.zipIdx.any (chkQ f op args i block at_)).getD false
def chkW (f : PFunc) (op : Int) (args : List Int) (block at_ : Int) : Bool := (List.range f.blocks.length).any (chkI f op args block at_)
def isSum (op : Int) : Bool := decide (op = 2 ∨ op = 3 ∨ op = 4)
def chkX (f : PFunc) (x : PInst) (block at_ : Int) : Bool := isSum x.op && chkW f (x.op + 19) x.args block at_
def instAt (f : PFunc) (m : Plc) : Option PInst := if 0 ≤ m.1 ∧ 0 ≤ m.2 then (f.blocks[m.1.toNat]?).bind fun b => b.insts[m.2.toNat]? else none
def chkV (f : PFunc) (v : Int) : Bool := ((instAt f (makerT f v)).map fun x => chkX f x (makerT f v).1 (makerT f v).2).getD false
theorem chkI_at {f : PFunc} {op : Int} {args : List Int} {block at_ : Int} {i : Nat} {b : PBlock} (h : f.blocks[i]? = some b) : chkI f op args block at_ i = b.insts.zipIdx.any (chkQ f op args i block at_) := by unfold chkI; rw [h]; rfl
theorem range_any_succ {p : Nat → Bool} {k : Nat} (h : (List.range k).any p = false) (hk : p k = false) : (List.range (k + 1)).any p = false := by rw [List.range_succ, List.any_append, h]; simp [hk]
theorem range_any_hit {p : Nat → Bool} {k n : Nat} (hk : k < n) (h : p k = true) : (List.range n).any p = true := List.any_eq_true.2 ⟨k, List.mem_range.2 hk, h⟩
theorem any_take {α : Type} {p : α → Bool} {l : List α} {k : Nat} (h : k < l.length) (h1 : (l.take k).any p = false) (h2 : p l[k] = false) : (l.take (k + 1)).any p = false := by
 rw [qg h, List.any_append, h1]; simp [h2]
theorem any_hit {α : Type} {p : α → Bool} {l : List α} {k : Nat} (h : k < l.length) (h2 : p l[k] = true) : l.any p = true := List.any_eq_true.2 ⟨_, qj h, h2⟩
theorem mem_mkBlk {v i : Int} {b : PBlock} {m : Plc} : m ∈ mkBlk v i b ↔ (∃ p ∈ b.phis, p.dst = v ∧ m = (i, -1)) ∨ ∃ (k : Nat) (x : PInst), b.insts[k]? = some x ∧ x.dst = v ∧ m = (i, (k : Int)) := by
 unfold mkBlk
 rw [List.mem_append]
 constructor
 ·rintro (h | h)
  ·obtain ⟨p, hp, e⟩ := List.mem_map.1 h
   obtain ⟨h1, h2⟩ := List.mem_filter.1 hp
   exact .inl ⟨p, h1, by simpa using h2, e.symm⟩
  ·obtain ⟨q, hq, e⟩ := List.mem_map.1 h
   obtain ⟨h1, h2⟩ := List.mem_filter.1 hq
   obtain ⟨x, k⟩ := q
   have := List.mem_zipIdx_iff_getElem?.1 h1
   exact .inr ⟨k, x, this, by simpa using h2, e.symm⟩
 ·rintro (⟨p, h1, h2, rfl⟩ | ⟨k, x, h1, h2, rfl⟩)
  ·exact .inl (List.mem_map.2 ⟨p, List.mem_filter.2 ⟨h1, by simpa using h2⟩, rfl⟩)
  ·exact .inr (List.mem_map.2 ⟨(x, k), List.mem_filter.2 ⟨List.mem_zipIdx_iff_getElem?.2 h1, by simpa using h2⟩, rfl⟩)
theorem mem_makings {f : PFunc} {v : Int} {m : Plc} : m ∈ makings f v ↔ ∃ (i : Nat) (b : PBlock), f.blocks[i]? = some b ∧ m ∈ mkBlk v i b := by
 unfold makings
 rw [List.mem_flatMap]
 constructor
 ·rintro ⟨⟨b, i⟩, h1, h2⟩; exact ⟨i, b, List.mem_zipIdx_iff_getElem?.1 h1, h2⟩
 ·rintro ⟨i, b, h1, h2⟩; exact ⟨(b, i), List.mem_zipIdx_iff_getElem?.2 h1, h2⟩
theorem maker_mem {f : PFunc} {v : Int} (h : 0 ≤ (makerT f v).1) : makerT f v ∈ makings f v := by
 unfold makerT at h ⊢
 cases hm : makings f v with
 | nil => rw [hm] at h; simp at h
 | cons x l => simp
theorem maker_eq {f : PFunc} {v : Int} {m : Plc} (hl : (makings f v).length ≤ 1) (h : m ∈ makings f v) : makerT f v = m := by
 unfold makerT
 cases hm : makings f v with
 | nil => rw [hm] at h; cases h
 | cons x l =>
  rw [hm] at h hl
  cases l with
  | nil => simp at h; simp [h]
  | cons y l => simp at hl
theorem maker_cases {f : PFunc} {v : Int} (h : 0 ≤ (makerT f v).1) : ∃ (i : Nat) (b : PBlock), f.blocks[i]? = some b ∧ ((∃ p ∈ b.phis, p.dst = v ∧ makerT f v = ((i : Int), -1)) ∨ ∃ (k : Nat) (x : PInst), b.insts[k]? = some x ∧ x.dst = v ∧ makerT f v = ((i : Int), (k : Int))) := by
 obtain ⟨i, b, h1, h2⟩ := mem_makings.1 (maker_mem h)
 exact ⟨i, b, h1, mem_mkBlk.1 h2⟩
theorem chkV_at {f : PFunc} {v : Int} {i k : Nat} {b : PBlock} {x : PInst} (hb : f.blocks[i]? = some b) (hx : b.insts[k]? = some x) (hm : makerT f v = ((i : Int), (k : Int))) : chkV f v = chkX f x i k := by
 unfold chkV instAt
 rw [hm, if_pos ⟨by dsimp only; omega, by dsimp only; omega⟩]
 show (((f.blocks[i]?).bind fun b => b.insts[k]?).map fun x => chkX f x i k).getD false = _
 rw [hb]; show ((b.insts[k]?).map _).getD false = _
 rw [hx]; rfl
end Go.Proofs.YtjnpcfpecilejaaGreatDoor
