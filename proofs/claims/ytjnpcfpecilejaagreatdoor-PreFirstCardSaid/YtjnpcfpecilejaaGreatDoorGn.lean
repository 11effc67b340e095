/- The document's typed; the laws' typed, single and plain. Of programs that are little. -/
import Derived.Test.YtjnpcfpecilejaaGreatDoorGm
set_option linter.unusedVariables false
set_option linter.unusedSimpArgs false
set_option linter.unusedSectionVars false
namespace Go.Proofs.YtjnpcfpecilejaaGreatDoor
open Go.Proofs.Tryz
open Go.Proofs Go.Lib Go.Shelf Go.RowKit
variable {E : World}
set_option maxRecDepth 20000
theorem hasV_nat {f : PFunc} {v : Int} (h : hasV f v = true) : ∃ k : Nat, v = (k : Int) ∧ k < f.vars.length := by
 have h1 : 0 ≤ v ∧ v < f.vars.length := by simpa [hasV] using h
 exact ⟨v.toNat, by omega, by omega⟩
theorem refAheadV_spec (f : PFunc) (hE : EndsOk f) (hf : small f) {v : Int} (hv : hasV f v = true) (b a : Int) (h0 : 0 ≤ b) (hb : b < f.blocks.length) : AFun prog E 108 [.agg (encF f), .int .i64 v, .int .i64 b, .int .i64 a] (.bool (aheadR f (makerT f v) b a)) := by
 obtain ⟨k, rfl, hk⟩ := hasV_nat hv
 exact refAhead_spec f hE hf k b a h0 hb
theorem atR_bad {f : PFunc} {i : Nat} {b : PBlock} (hi : i < f.blocks.length) (hg : f.blocks[i]? = some b) (h : blkR f i b = false) : singR f = false := by
 unfold singR; rw [range_all_bad hi (by rw [atR_at hg]; exact h)]; simp
set_option maxHeartbeats 8000000 in
theorem refSingle_spec (f : PFunc) (hE : EndsOk f) (hf : small f) (hS : ShapedP f) : AFun prog E 59 [.agg (encF f)] (.bool (singR f)) := by
 have hn := hf.2.2.1
 have hv := hf.1
 have hG := hE.grph
 refine zl func59 rfl (by decide) rfl<|zSr<|y4 (cs := _) rfl rfl rfl<|z2 (zAb rfl)<|z6<|za<|zSr<|z2 (zk isAgg26 sizeOf26 rfl rfl)<|zc (refJoined_spec f hE hf hS) rfl<|z2 (yc rfl)<|z6<|zr rfl (fun cj=>?_) (fun cj=>?_)
 ·have dj : joinedB f = false := by simpa using cj
  refine zSr<|z2 (zAb rfl)<|z6<|zg<|zj (x := .bool _) rfl ?_
  rw [show singR f = false by unfold singR; rw [dj]; rfl]
 ·have dj : joinedB f = true := by simpa using cj
  refine ze<|zSr<|z2 (zk isAgg26 sizeOf26 rfl rfl)<|zc (reached_spec f hE hn (-1)) rfl<|z2 (zAf rfl)<|z6<|za<|zSr<|z2 (zFF underlying26 rfl sizeOf22 rfl rfl)<|z2 (zLf isAgg22 rfl)<|z2 (zq underlying22 rfl)<|z2 (zMi rfl)<|z6<|zd<|y1 (γ := Nat) [1, 3, 23] (fun v => [(24, .int .i64 v)]) (fun v => []) (fun v => v ≤ f.vars.length ∧ (List.range v).all (onceV f) = true) (fun v => f.vars.length - v) 0 zR1 zLe (⟨qf _, rfl⟩) ?_
  rintro v ⟨hvl, hall⟩
  refine zSr<|z2 (y7 rfl rfl)<|z6<|za<|zt rfl (fun cv=>?_) (fun cv=>?_)
  ·have hv2 : v < f.vars.length := by simp at cv; omega
   have hbad : onceV f v = false → singR f = false := fun h => by unfold singR; rw [show onceB f = false from range_all_bad hv2 h]; simp
   refine ze<|za<|zd<|zSr<|z2 (zMi rfl)<|z2 (zAi rfl)<|z6<|zSr<|z2 (zk isAgg26 sizeOf26 rfl rfl)<|z2 (zMi rfl)<|zc (refMakings_spec f hf v) rfl<|z2 (zAi rfl)<|z6<|zSr<|z2 (zMi rfl)<|z2 (yt rfl rfl)<|z2 (zMb rfl)<|zn (s := 32) rfl (fun c1=>?_) (fun c1=>?_)
   ·have d1 : 1 < (makings f v).length := by have h0 : (1 : Int) < ((makings f v).length : Int) := (by simpa using c1); omega
    refine z7 rfl rfl c1<|z7 rfl rfl c1<|z7 rfl rfl c1<|zh rfl rfl<|zh rfl rfl<|zh rfl rfl<|zh rfl rfl<|zh rfl rfl<|z7 rfl rfl c1<|z2 (zPt rfl c1 rfl)<|z6<|yg rfl rfl<|zSr<|z2 (zAb rfl)<|z6<|zg<|zj (x := .bool _) rfl ?_
    rw [hbad (by unfold onceV; simp [d1])]
   ·have d1 : ¬ 1 < (makings f v).length := by have h0 : ¬ (1 : Int) < ((makings f v).length : Int) := (by simpa using c1); omega
    refine z8 rfl rfl c1<|z2 (zMi rfl)<|z8 rfl rfl c1<|z2 (yt rfl rfl)<|z8 rfl rfl c1<|z2 (zMb rfl)<|zn (s := 35) rfl (fun c2=>?_) (fun c2=>?_)
    ·have d2 : 0 < (makings f v).length := by have h0 : (0 : Int) < ((makings f v).length : Int) := (by simpa using c2); omega
     refine z8 rfl rfl c2<|z2 (zMi rfl)<|z8 rfl rfl c2<|z2 (zFF underlying26 rfl sizeOf23 rfl rfl)<|z8 rfl rfl c2<|z2 (zLf isAgg23 rfl)<|z8 rfl rfl c2<|z2 (zq underlying23 rfl)<|z8 rfl rfl c2<|z2 (y7 rfl rfl)<|z8 rfl rfl c1<|z2 (zPt rfl c2 rfl)<|z2 (zPf rfl c1 rfl)<|z6<|zr rfl (fun c3=>?_) (fun c3=>?_)
     ·have d3 : v < f.params.length := by simpa using c3
      refine zSr<|z2 (zAb rfl)<|z6<|zg<|zj (x := .bool _) rfl ?_
      rw [hbad (by unfold onceV; rw [qn d2, qn d3]; simp)]
     ·have d3 : ¬ v < f.params.length := by simpa using c3
      refine ze<|zRg<|z2 (zAd rfl rfl)<|z2 (zMi rfl)<|z6 ?_
      exact ⟨v + 1, zR3, zR1, zLe, ⟨hv2, range_all_succ hall (by unfold onceV; rw [qo d1, qo d3]; simp)⟩, by omega⟩
    ·have d2 : ¬ 0 < (makings f v).length := by have h0 : ¬ (0 : Int) < ((makings f v).length : Int) := (by simpa using c2); omega
     refine z7 rfl rfl c2<|z7 rfl rfl c2<|z7 rfl rfl c2<|z7 rfl rfl c2<|z7 rfl rfl c2<|z8 rfl rfl c1<|z2 (zPf rfl c2 rfl)<|z2 (zPf rfl c1 rfl)<|z6<|yb rfl rfl<|ze<|zRg<|z2 (zAd rfl rfl)<|z2 (zMi rfl)<|z6 ?_
     exact ⟨v + 1, zR3, zR1, zLe, ⟨hv2, range_all_succ hall (by unfold onceV; rw [qo d1, qo d2]; rfl)⟩, by omega⟩
  ·have hvn : v = f.vars.length := by simp at cv; omega
   subst hvn
   have donce : onceB f = true := hall
   refine zz<|za<|zSr<|z2 (zFF underlying26 rfl sizeOf24 rfl rfl)<|z2 (zLf isAgg24 rfl)<|z2 (zq underlying24 rfl)<|z2 (zMi rfl)<|z6<|zd<|y1 (γ := Nat) [1, 3, 45, 46] (fun i => [(47, .int .i64 i)]) (fun i => []) (fun i => i ≤ f.blocks.length ∧ (List.range i).all (atR f) = true) (fun i => f.blocks.length - i) 0 zR1 zLe (⟨qf _, rfl⟩) ?_
   rintro i ⟨hi, hiall⟩
   refine zSr<|z2 (y7 rfl rfl)<|z6<|za<|zt rfl (fun ci=>?_) (fun ci=>?_)
   ·have hi2 : i < f.blocks.length := by simp at ci; omega
    obtain ⟨b, hbi⟩ : ∃ b, f.blocks[i] = b := ⟨_, rfl⟩
    have hget : f.blocks[i]? = some b := by rw [qc hi2, hbi]
    have hmem : b ∈ f.blocks := hbi ▸ qg hi2
    obtain ⟨hb0, hb1, hb2, hb3, hb4⟩ := hf.2.2.2.2 b hmem
    obtain ⟨hPh, hIn, hTm⟩ := hS.2.2.2.2.2 b hmem
    have hth := reachT_get (E := EndsOf f) (shut := -1) hi2
    refine ze<|za<|zd<|zSr<|z2 (zMi rfl)<|z2 (zIM i underlying24 sizeOf66 rfl rfl rfl hget)<|z2 (zk isAgg66 sizeOf66 rfl rfl)<|zy (cs := [.str ⟨#[]⟩, .raw (.slice none 0 0), .raw (.slice none 0 0), .int .i64 0, .int .i64 0, .int .i64 0, .int .i64 0]) zeroValue66 rfl rfl<|fun i7 => z2 (zAi rfl)<|zo sizeOf66 rfl rfl rfl rfl rfl rfl .head rfl<|zb (y9 (t := 7) rfl .head)<|z6<|za<|zSr<|z2 (zMf rfl)<|z2 (zMi rfl)<|z2 (zIM i underlying111 sizeOf4 rfl rfl rfl hth)<|z2 (yw (c := .bool _) isAgg4 rfl)<|z2 (yc rfl)<|z6<|zr rfl (fun cr=>?_) (fun cr=>?_)
    ·have dr : ¬ Rch (EndsOf f) (i : Int) := fun h => by simp at cr; exact cr ((way_all hG).2 h)
     refine zSr<|z2 (zAb rfl)<|z6<|zg<|zj (x := .bool _) rfl ?_
     rw [atR_bad hi2 hget (by unfold blkR; simp [dr])]
    ·have dr : Rch (EndsOf f) (i : Int) := by simp at cr; exact (way_all hG).1 cr
     refine ze<|za<|zSr<|z2 (zFF underlying66 rfl sizeOf59 rfl rfl)<|z2 (zLf isAgg59 rfl)<|z2 (zq underlying59 rfl)<|z2 (zMi rfl)<|z6<|zd<|y1 (γ := Nat) [1, 3, 6, 7, 45, 46, 47, 58, 59] (fun j => [(60, .int .i64 j)]) (fun j => []) (fun j => j ≤ b.phis.length ∧ (b.phis.take j).all (phR f) = true) (fun j => b.phis.length - j) 0 zR1 zLe (⟨qf _, rfl⟩) ?_
     rintro j ⟨hj, hjall⟩
     refine zSr<|z2 (y7 rfl rfl)<|z6<|za<|zt rfl (fun cjj=>?_) (fun cjj=>?_)
     ·have hj2 : j < b.phis.length := by simp at cjj; omega
      obtain ⟨p, hp⟩ : ∃ p, b.phis[j] = p := ⟨_, rfl⟩
      have hpm : p ∈ b.phis := hp ▸ qg hj2
      obtain ⟨hpd, hpl, hpn, hpa, hpf⟩ := hPh p hpm
      have hpb := hb3 p hpm
      refine ze<|za<|zd<|zSr<|z2 (zIM j underlying59 sizeOf95 rfl rfl rfl (by rw [qc hj2, hp]))<|z2 (zk isAgg95 sizeOf95 rfl rfl)<|zy (cs := [.int .i64 0, .raw (.slice none 0 0), .raw (.slice none 0 0)]) zeroValue95 rfl rfl<|fun i9 => zo sizeOf95 rfl rfl rfl rfl rfl rfl .head rfl<|zb (y9 (t := 9) rfl .head)<|z6<|zSr<|z2 (zFF underlying95 rfl sizeOf23 rfl rfl)<|z2 (zLf isAgg23 rfl)<|z2 (zq underlying23 rfl)<|z2 (zMi rfl)<|z6<|zd<|y1 (γ := Nat) [1, 3, 6, 7, 9, 45, 46, 47, 58, 59, 60, 65, 66] (fun k => [(67, .int .i64 k)]) (fun k => []) (fun k => k ≤ p.args.length ∧ ((p.args.zip p.from_).take k).all (fun q => aheadR f (makerT f q.1) q.2 (lenAt f q.2)) = true) (fun k => p.args.length - k) 0 zR1 zLe (⟨qf _, rfl⟩) ?_
      rintro k ⟨hk, hkall⟩
      refine zSr<|z2 (y7 rfl rfl)<|z6<|za<|zt rfl (fun ck=>?_) (fun ck=>?_)
      ·have hk2 : k < p.args.length := by simp at ck; omega
       have hk3 : k < p.from_.length := by omega
       obtain ⟨v, hv⟩ : ∃ v, p.args[k] = v := ⟨_, rfl⟩
       obtain ⟨c, hc⟩ : ∃ c, p.from_[k] = c := ⟨_, rfl⟩
       have hvv := List.all_eq_true.1 hpa v (hv ▸ qg hk2)
       have hcr : 0 ≤ c ∧ c < f.blocks.length := by have := List.all_eq_true.1 hpf c (hc ▸ qg hk3); simpa [hasB] using this
       obtain ⟨d, hd⟩ : ∃ d, f.blocks[c.toNat]'(by omega) = d := ⟨_, rfl⟩
       have hdg : f.blocks[c.toNat]? = some d := by rw [qc (by omega), hd]
       have hla : lenAt f c = d.insts.length := by unfold lenAt; rw [hdg]; rfl
       have hz : k < (p.args.zip p.from_).length := by rw [List.length_zip]; omega
       have hzk : (p.args.zip p.from_)[k] = (v, c) := by rw [List.getElem_zip, hv, hc]
       refine ze<|za<|zd<|zSr<|z2 (zMi rfl)<|z2 (zIM k underlying23 sizeOf3 rfl rfl rfl (by rw [qc hk2, hv]))<|z2 (zLi isAgg3 rfl)<|z2 (zAi rfl)<|z2 (zAi rfl)<|z6<|za<|y8 (fun j => false) (by kernel_rfl) rfl (zx (.rest _))<|zTk 0 rfl (zk isAgg26 sizeOf26 rfl rfl)<|zTk 1 rfl (zMi rfl)<|zTk 2 rfl (zFF underlying95 rfl sizeOf23 rfl rfl)<|zTk 3 rfl (zLf isAgg23 rfl)<|zTk 4 rfl (zMi rfl)<|zTk 5 rfl (zIM k underlying23 sizeOf3 rfl rfl rfl (by rw [qc hk3, hc]))<|zTk 6 rfl (zLi isAgg3 rfl)<|zTk 7 rfl (zFF underlying26 rfl sizeOf24 rfl rfl)<|zTk 8 rfl (zLf isAgg24 rfl)<|zTk 9 rfl (zFF underlying95 rfl sizeOf23 rfl rfl)<|zTk 10 rfl (zLf isAgg23 rfl)<|zTk 11 rfl (zMi rfl)<|zTk 12 rfl (zIM k underlying23 sizeOf3 rfl rfl rfl (by rw [qc hk3, hc]))<|zTk 13 rfl (zLi isAgg3 rfl)<|zTk 14 rfl (zIM c.toNat underlying24 sizeOf66 rfl rfl (by omega) hdg)<|zTk 15 rfl (zFF underlying66 rfl sizeOf60 rfl rfl)<|zTk 16 rfl (zLf isAgg60 rfl)<|zTk 17 rfl (zq underlying60 rfl)<|zOn 18 rfl<|zc (refAheadV_spec f hE hf hvv c d.insts.length hcr.1 hcr.2) rfl<|z6<|zTk 19 rfl (yc rfl)<|zDn<|zr rfl (fun cq=>?_) (fun cq=>?_)
       ·have hq : aheadR f (makerT f v) c (lenAt f c) = false := by rw [hla]; simpa using cq
        refine zSr<|z2 (zAb rfl)<|z6<|zg<|zj (x := .bool _) rfl ?_
        rw [atR_bad hi2 hget (by unfold blkR; rw [show b.phis.all (phR f) = false from Bool.eq_false_iff.2 (all_bad hj2 (by rw [hp]; unfold phR; exact Bool.eq_false_iff.2 (all_bad hz (by rw [hzk]; exact hq))))]; simp)]
       ·have hq : aheadR f (makerT f v) c (lenAt f c) = true := by rw [hla]; simpa using cq
        refine ze<|zRg<|z2 (zAd rfl rfl)<|z2 (zMi rfl)<|z6 ?_
        exact ⟨k + 1, zR13, zR1, zLe, ⟨hk2, all_take hz hkall (by rw [hzk]; exact hq)⟩, by omega⟩
      ·have hkn : k = p.args.length := by simp at ck; omega
       have hzl : (p.args.zip p.from_).length = p.args.length := by rw [List.length_zip]; omega
       rw [hkn, ← hzl, qh] at hkall
       refine zz<|zRg<|z2 (zAd rfl rfl)<|z2 (zMi rfl)<|z6 ?_
       exact ⟨j + 1, zR9, zR1, zLe, ⟨hj2, all_take hj2 hjall (by rw [hp]; exact hkall)⟩, by omega⟩
     ·have hjn : j = b.phis.length := by simp at cjj; omega
      subst hjn
      rw [qh] at hjall
      refine zz<|za<|zSr<|z2 (zFF underlying66 rfl sizeOf60 rfl rfl)<|z2 (zLf isAgg60 rfl)<|z2 (zq underlying60 rfl)<|z2 (zMi rfl)<|z6<|zd<|y1 (γ := Nat) [1, 3, 6, 7, 45, 46, 47, 95, 96] (fun k => [(97, .int .i64 k)]) (fun k => []) (fun k => k ≤ b.insts.length ∧ ((b.insts.zipIdx).take k).all (inR f i) = true) (fun k => b.insts.length - k) 0 zR1 zLe (⟨qf _, rfl⟩) ?_
      rintro k ⟨hk, hkall⟩
      refine zSr<|z2 (y7 rfl rfl)<|z6<|za<|zt rfl (fun ck=>?_) (fun ck=>?_)
      ·have hk2 : k < b.insts.length := by simp at ck; omega
       obtain ⟨z, hzk⟩ : ∃ z, b.insts[k] = z := ⟨_, rfl⟩
       have hzm : z ∈ b.insts := hzk ▸ qg hk2
       have hI := instP_F (hIn z hzm)
       have hzl := hb4 z hzm
       have hzi : k < b.insts.zipIdx.length := by simp; exact hk2
       have hze : b.insts.zipIdx[k] = (z, k) := by simp [hzk]
       refine ze<|za<|zd<|zSr<|z2 (zMi rfl)<|z2 (zIM k underlying60 sizeOf33 rfl rfl rfl (by rw [qc hk2, hzk]))<|z2 (zk isAgg33 sizeOf33 rfl rfl)<|zy (cs := [.int .i64 0, .int .i64 0, .raw (.slice none 0 0), .int .i64 0]) zeroValue33 rfl rfl<|fun i13 => z2 (zAi rfl)<|zo sizeOf33 rfl rfl rfl rfl rfl rfl .head rfl<|zb (y9 (t := 13) rfl .head)<|z6<|zSr<|z2 (zFF underlying33 rfl sizeOf23 rfl rfl)<|z2 (zLf isAgg23 rfl)<|z2 (zq underlying23 rfl)<|z2 (zMi rfl)<|z6<|zd<|y1 (γ := Nat) [1, 3, 6, 7, 12, 45, 46, 47, 95, 96, 97, 103, 104] (fun m => [(105, .int .i64 m)]) (fun m => []) (fun m => m ≤ z.args.length ∧ (z.args.take m).all (fun v => aheadR f (makerT f v) i k) = true) (fun m => z.args.length - m) 0 zR1 zLe (⟨qf _, rfl⟩) ?_
       rintro m ⟨hm, hmall⟩
       refine zSr<|z2 (y7 rfl rfl)<|z6<|za<|zt rfl (fun cm=>?_) (fun cm=>?_)
       ·have hm2 : m < z.args.length := by simp at cm; omega
        obtain ⟨v, hv⟩ : ∃ v, z.args[m] = v := ⟨_, rfl⟩
        have hvv := hI.args v (hv ▸ qg hm2)
        refine ze<|za<|zd<|zSr<|z2 (zIM m underlying23 sizeOf3 rfl rfl rfl (by rw [qc hm2, hv]))<|z2 (zLi isAgg3 rfl)<|z2 (zAi rfl)<|z6<|zSr<|z2 (zk isAgg26 sizeOf26 rfl rfl)<|z2 (zMi rfl)<|z2 (zMi rfl)<|z2 (zMi rfl)<|zc (refAheadV_spec f hE hf hvv (i : Int) (k : Int) (by omega) (by omega)) rfl<|z2 (yc rfl)<|z6<|zr rfl (fun cq=>?_) (fun cq=>?_)
        ·have hq : aheadR f (makerT f v) i k = false := by simpa using cq
         refine zSr<|z2 (zAb rfl)<|z6<|zg<|zj (x := .bool _) rfl ?_
         rw [atR_bad hi2 hget (by unfold blkR; rw [show b.insts.zipIdx.all (inR f i) = false from Bool.eq_false_iff.2 (all_bad hzi (by rw [hze]; unfold inR; exact Bool.eq_false_iff.2 (all_bad hm2 (by rw [hv]; exact hq))))]; simp)]
        ·have hq : aheadR f (makerT f v) i k = true := by simpa using cq
         refine ze<|zRg<|z2 (zAd rfl rfl)<|z2 (zMi rfl)<|z6 ?_
         exact ⟨m + 1, zR13, zR1, zLe, ⟨hm2, all_take hm2 hmall (by rw [hv]; exact hq)⟩, by omega⟩
       ·have hmn : m = z.args.length := by simp at cm; omega
        rw [hmn, qh] at hmall
        refine zz<|zRg<|z2 (zAd rfl rfl)<|z2 (zMi rfl)<|z6 ?_
        exact ⟨k + 1, zR9, zR1, zLe, ⟨hk2, all_take hzi hkall (by rw [hze]; exact hmall)⟩, by omega⟩
      ·have hkn : k = b.insts.length := by simp at ck; omega
       rw [hkn, show b.insts.length = b.insts.zipIdx.length by simp, qh] at hkall
       refine zz<|zSr<|z2 (zFF underlying66 rfl sizeOf64 rfl rfl)<|z2 (zFF underlying64 rfl sizeOf61 rfl rfl)<|z2 (zLi isAgg61 rfl)<|z2 (ya rfl rfl)<|z2 (zMb rfl)<|zn (s := 121) rfl (fun c0=>?_) (fun c0=>?_)
       ·have d0 : ¬ b.term.kind = 0 := by simpa using c0
        refine z8 rfl rfl c0<|z2 (zk isAgg26 sizeOf26 rfl rfl)<|z8 rfl rfl c0<|z2 (zFF underlying66 rfl sizeOf64 rfl rfl)<|z8 rfl rfl c0<|z2 (zFF underlying64 rfl sizeOf3 rfl rfl)<|z8 rfl rfl c0<|z2 (zLi isAgg3 rfl)<|z8 rfl rfl c0<|z2 (zMi rfl)<|z8 rfl rfl c0<|z2 (zFF underlying66 rfl sizeOf60 rfl rfl)<|z8 rfl rfl c0<|z2 (zLf isAgg60 rfl)<|z8 rfl rfl c0<|z2 (zq underlying60 rfl)<|z8 rfl rfl c0<|zc (refAheadV_spec f hE hf (term_var hTm d0) (i : Int) (b.insts.length : Int) (by omega) (by omega)) rfl<|z8 rfl rfl c0<|z2 (yc rfl)<|z2 (zPt rfl c0 rfl)<|z6<|zr rfl (fun cq=>?_) (fun cq=>?_)
        ·have hq : aheadR f (makerT f b.term.var) i b.insts.length = false := by simpa using cq
         refine zSr<|z2 (zAb rfl)<|z6<|zg<|zj (x := .bool _) rfl ?_
         rw [atR_bad hi2 hget (by unfold blkR tmR; rw [hq, qo d0]; simp)]
        ·have hq : aheadR f (makerT f b.term.var) i b.insts.length = true := by simpa using cq
         refine ze<|zRg<|z2 (zAd rfl rfl)<|z2 (zMi rfl)<|z6 ?_
         exact ⟨i + 1, zR4, zR1, zLe, ⟨hi2, range_all_succ hiall (by rw [atR_at hget]; unfold blkR tmR; rw [hjall, hkall, hq]; simp [dr])⟩, by omega⟩
       ·have d0 : b.term.kind = 0 := by simpa using c0
        refine z7 rfl rfl c0<|z7 rfl rfl c0<|z7 rfl rfl c0<|z7 rfl rfl c0<|z7 rfl rfl c0<|z7 rfl rfl c0<|z7 rfl rfl c0<|z7 rfl rfl c0<|z7 rfl rfl c0<|z7 rfl rfl c0<|z2 (zPf rfl c0 rfl)<|z6<|yb rfl rfl<|ze<|zRg<|z2 (zAd rfl rfl)<|z2 (zMi rfl)<|z6 ?_
        exact ⟨i + 1, zR4, zR1, zLe, ⟨hi2, range_all_succ hiall (by rw [atR_at hget]; unfold blkR tmR; rw [hjall, hkall, d0]; simp [dr])⟩, by omega⟩
   ·have hin : i = f.blocks.length := by simp at ci; omega
    subst hin
    refine zz<|zSr<|z2 (zAb rfl)<|z6<|zg<|zj (x := .bool _) rfl ?_
    rw [show singR f = true by unfold singR; rw [dj, donce, hiall]; rfl]
end Go.Proofs.YtjnpcfpecilejaaGreatDoor
namespace Go.Proofs.YtjnpcfpecilejaaGreatDoor
open Go.Proofs.Tryz
open Go.Proofs Go.Lib Go.Shelf Go.RowKit
variable {E : World}
set_option maxRecDepth 20000
theorem rof_spec (f : PFunc) (v : Int) (hv : hasV f v = true) : AFun prog E 173 [.agg (encF f), .int .i64 v] (.int .i64 (kindV f v)) := by
 obtain ⟨x, hx, hv2, hk⟩ := hasV_get hv
 rw [hk]
 refine zl func173 rfl (by decide) rfl<|zSr<|y4 (cs := _) rfl rfl rfl<|z2 (zAi rfl)<|z6<|zSr<|z2 (zFF underlying26 rfl sizeOf22 rfl rfl)<|z2 (zLf isAgg22 rfl)<|z2 (zMi rfl)<|z2 (zIM v.toNat underlying22 sizeOf56 rfl rfl hv2 hx)<|z2 (zFF underlying56 rfl sizeOf54 rfl rfl)<|z2 (zLi isAgg54 rfl)<|z2 (zAi rfl)<|z6<|zg<|zj (x := .int _ _) rfl ?_
 rfl
theorem rtype_spec (c : Int) : AFun prog E 175 [.int .u8 c] (.int .i64 (typeOf c)) := by
 refine zl func175 rfl (by decide) rfl<|zSr<|z2 (zAi rfl)<|z6<|za<|zSr<|z2 (zMi rfl)<|z6<|zd<|zSr<|z2 (y6 rfl rfl)<|z2 (zAb rfl)<|z6<|zr rfl (fun c1=>?_) (fun c1=>?_)
 ·refine zSr<|z2 (zAi rfl)<|z6<|zg<|zj (x := .int _ _) rfl ?_
  unfold typeOf; simp_all
 ·refine zSr<|z2 (y6 rfl rfl)<|z2 (zAb rfl)<|z6<|zr rfl (fun c2=>?_) (fun c2=>?_)
  ·refine zSr<|z2 (zAi rfl)<|z6<|zg<|zj (x := .int _ _) rfl ?_
   unfold typeOf; simp_all
  ·refine ze<|zSr<|z2 (zAi rfl)<|z6<|zg<|zj (x := .int _ _) rfl ?_
   unfold typeOf; simp_all
theorem copy_word : ∀ j : Nat, j < 27 → decide ((kRow (j : Int)).1 = ⟨#[99, 111, 112, 121]⟩) = decide (j = 1) := by decide
theorem copy_op {op : Int} (h : 0 ≤ op ∧ op ≤ 26) : ((kRow op).1 = ⟨#[99, 111, 112, 121]⟩) ↔ op = 1 := by
 have h1 := copy_word op.toNat (by omega)
 rw [Int.toNat_of_nonneg h.1] at h1
 constructor
 ·intro e
  have : decide (op.toNat = 1) = true := by rw [← h1]; exact qn e
  have := of_decide_eq_true this
  omega
 ·intro e
  have h2 : op.toNat = 1 := by omega
  have : decide ((kRow op).1 = ⟨#[99, 111, 112, 121]⟩) = true := by rw [h1]; exact qn h2
  exact of_decide_eq_true this
theorem kRow_get {op : Int} (h : 0 ≤ op ∧ op ≤ 26) : kindT[op.toNat]? = some (kRow op) := by
 unfold kRow
 have hl : op.toNat < kindT.length := by have : kindT.length = 27 := rfl; omega
 rw [if_pos h.1, qc hl]; rfl
def wantL (f : PFunc) (x : PInst) : List Int := if x.op = 1 then [kindV f x.dst] else takesL x.op
theorem wantL_len {f : PFunc} {x : PInst} (h : InstF f x) : x.args.length = (wantL f x).length := by
 rw [h.len]
 unfold wantL
 split
 ·rename_i e; rw [e]; rfl
 ·rfl
theorem instT_want {f : PFunc} {x : PInst} (h : InstF f x) : instT f x = (decide (x.args.map (kindV f) = wantL f x) && (!makesB x.op || (decide (x.op = 1) || decide (kindV f x.dst = makesT x.op)))) := by
 unfold instT wantL
 by_cases e : x.op = 1
 ·have hl := h.len
  rw [e, show (takesL 1).length = 1 from rfl] at hl
  obtain ⟨a, ha⟩ := List.length_eq_one_iff.1 hl
  rw [if_pos e, if_pos e, ha]
  simp [e]
  exact eq_comm
 ·rw [if_neg e, if_neg e]; simp [e]
theorem takes_byte {op : Int} {m : Nat} (h : m < (takesL op).length) : ∃ c : UInt8, (kRow op).2.1.data[m]? = some c ∧ (takesL op)[m] = typeOf (c.toNat : Int) := by
 have h1 : m < (kRow op).2.1.data.size := by rw [takes_len] at h; exact h
 have e : (takesL op)[m]? = ((kRow op).2.1.data.toList[m]?).map fun b => typeOf b.toNat := by unfold takesL; rw [qk]
 rw [qc h, Array.getElem?_toList, Array.getElem?_eq_getElem h1] at e
 exact ⟨(kRow op).2.1.data[m], by rw [Array.getElem?_eq_getElem h1], by simpa using e⟩
theorem makes_byte {op : Int} (h : ¬ (kRow op).2.2 = ⟨#[]⟩) : ∃ c : UInt8, (kRow op).2.2.data[0]? = some c ∧ makesT op = typeOf (c.toNat : Int) := by
 unfold makesT
 generalize (kRow op).2.2 = m at h ⊢
 obtain ⟨⟨l⟩⟩ := m
 cases l with
 | nil => exact absurd rfl h
 | cons c l => exact ⟨c, by simp, rfl⟩
end Go.Proofs.YtjnpcfpecilejaaGreatDoor
namespace Go.Proofs.YtjnpcfpecilejaaGreatDoor
open Go.Proofs.Tryz
open Go.Proofs Go.Lib Go.Shelf Go.RowKit
variable {E : World}
set_option maxRecDepth 20000
theorem want_1 {f : PFunc} {x : PInst} {m : Nat} (e : x.op = 1) (h : m < (wantL f x).length) : (wantL f x)[m] = kindV f x.dst := by
 have h2 : (wantL f x)[m]? = some (kindV f x.dst) := by
  unfold wantL at h ⊢
  rw [if_pos e] at h ⊢
  simp at h
  subst h; rfl
 rw [qc h] at h2
 exact Option.some.inj h2
theorem want_2 {f : PFunc} {x : PInst} {m : Nat} (e : ¬ x.op = 1) (h : m < (wantL f x).length) (h' : m < (takesL x.op).length) : (wantL f x)[m] = (takesL x.op)[m] := by
 have h2 : (wantL f x)[m]? = some ((takesL x.op)[m]) := by
  unfold wantL
  rw [if_neg e, qc h']
 rw [qc h] at h2
 exact Option.some.inj h2
theorem term_kind {f : PFunc} {t : PTerm} (h : termOK f t = true) : t.kind = 0 ∨ t.kind = 1 ∨ t.kind = 2 := by
 unfold termOK at h
 by_cases h0 : t.kind = 0
 ·exact .inl h0
 ·rw [if_neg h0] at h
  by_cases h1 : t.kind = 1
  ·exact .inr (.inl h1)
  ·rw [if_neg h1] at h
   by_cases h2 : t.kind = 2
   ·exact .inr (.inr h2)
   ·rw [if_neg h2] at h; cases h
set_option maxHeartbeats 8000000 in
theorem refTyped_spec (f : PFunc) (hf : small f) (hS : ShapedP f) : AFun prog E 120 [.agg (encF f)] (.bool (f.blocks.all (blkT f))) := by
 have hn := hf.2.2.1
 refine zl func120 rfl (by decide) rfl<|zSr<|y4 (cs := _) rfl rfl rfl<|z2 (zAb rfl)<|z6<|za<|zSr<|z2 (zFF underlying26 rfl sizeOf24 rfl rfl)<|z2 (zLf isAgg24 rfl)<|z2 (zq underlying24 rfl)<|z2 (zMi rfl)<|z6<|zd<|y1 (γ := Nat) [1, 16, 17] (fun i => [(18, .int .i64 i)]) (fun i => []) (fun i => i ≤ f.blocks.length ∧ (f.blocks.take i).all (blkT f) = true) (fun i => f.blocks.length - i) 0 zR1 zLe (⟨qf _, rfl⟩) ?_
 rintro i ⟨hi, hall⟩
 refine zSr<|z2 (y7 rfl rfl)<|z6<|za<|zt rfl (fun ci=>?_) (fun ci=>?_)
 ·have hi2 : i < f.blocks.length := by simp at ci; omega
  obtain ⟨b, hbi⟩ : ∃ b, f.blocks[i] = b := ⟨_, rfl⟩
  have hget : f.blocks[i]? = some b := by rw [qc hi2, hbi]
  have hmem : b ∈ f.blocks := hbi ▸ qg hi2
  obtain ⟨hb0, hb1, hb2, hb3, hb4⟩ := hf.2.2.2.2 b hmem
  obtain ⟨hPh, hIn, hTm⟩ := hS.2.2.2.2.2 b hmem
  have hbad : blkT f b = false → f.blocks.all (blkT f) = false := fun h => Bool.eq_false_iff.2 (all_bad hi2 (by rw [hbi]; exact h))
  refine ze<|za<|zd<|zSr<|z2 (zIM i underlying24 sizeOf66 rfl rfl rfl hget)<|z2 (zk isAgg66 sizeOf66 rfl rfl)<|zy (cs := [.str ⟨#[]⟩, .raw (.slice none 0 0), .raw (.slice none 0 0), .int .i64 0, .int .i64 0, .int .i64 0, .int .i64 0]) zeroValue66 rfl rfl<|fun i4 => zo sizeOf66 rfl rfl rfl rfl rfl rfl .head rfl<|zb (y9 (t := 4) rfl .head)<|z6<|za<|zSr<|z2 (zFF underlying66 rfl sizeOf59 rfl rfl)<|z2 (zLf isAgg59 rfl)<|z2 (zq underlying59 rfl)<|z2 (zMi rfl)<|z6<|zd<|y1 (γ := Nat) [1, 4, 16, 17, 18, 23, 24] (fun j => [(25, .int .i64 j)]) (fun j => []) (fun j => j ≤ b.phis.length ∧ (b.phis.take j).all (phiT f) = true) (fun j => b.phis.length - j) 0 zR1 zLe (⟨qf _, rfl⟩) ?_
  rintro j ⟨hj, hjall⟩
  refine zSr<|z2 (y7 rfl rfl)<|z6<|za<|zt rfl (fun cj=>?_) (fun cj=>?_)
  ·have hj2 : j < b.phis.length := by simp at cj; omega
   obtain ⟨p, hp⟩ : ∃ p, b.phis[j] = p := ⟨_, rfl⟩
   have hpm : p ∈ b.phis := hp ▸ qg hj2
   obtain ⟨hpd, hpl, hpn, hpa, hpf⟩ := hPh p hpm
   have hpb := (hb3 p hpm).1
   refine ze<|za<|zd<|zSr<|z2 (zIM j underlying59 sizeOf95 rfl rfl rfl (by rw [qc hj2, hp]))<|z2 (zk isAgg95 sizeOf95 rfl rfl)<|zy (cs := [.int .i64 0, .raw (.slice none 0 0), .raw (.slice none 0 0)]) zeroValue95 rfl rfl<|fun i6 => zo sizeOf95 rfl rfl rfl rfl rfl rfl .head rfl<|zb (y9 (t := 6) rfl .head)<|z6<|zSr<|z2 (zFF underlying95 rfl sizeOf23 rfl rfl)<|z2 (zLf isAgg23 rfl)<|z2 (zq underlying23 rfl)<|z2 (zMi rfl)<|z6<|zd<|y1 (γ := Nat) [1, 4, 6, 16, 17, 18, 23, 24, 25, 30, 31] (fun k => [(32, .int .i64 k)]) (fun k => []) (fun k => k ≤ p.args.length ∧ (p.args.take k).all (fun v => decide (kindV f v = kindV f p.dst)) = true) (fun k => p.args.length - k) 0 zR1 zLe (⟨qf _, rfl⟩) ?_
   rintro k ⟨hk, hkall⟩
   refine zSr<|z2 (y7 rfl rfl)<|z6<|za<|zt rfl (fun ck=>?_) (fun ck=>?_)
   ·have hk2 : k < p.args.length := by simp at ck; omega
    obtain ⟨v, hv⟩ : ∃ v, p.args[k] = v := ⟨_, rfl⟩
    have hvv := List.all_eq_true.1 hpa v (hv ▸ qg hk2)
    refine ze<|za<|zd<|zSr<|z2 (zIM k underlying23 sizeOf3 rfl rfl rfl (by rw [qc hk2, hv]))<|z2 (zLi isAgg3 rfl)<|z2 (zAi rfl)<|z6<|za<|y8 (fun j => false) (by kernel_rfl) rfl (zx (.rest _))<|zTk 0 rfl (zk isAgg26 sizeOf26 rfl rfl)<|zTk 1 rfl (zMi rfl)<|zTk 3 rfl (zk isAgg26 sizeOf26 rfl rfl)<|zTk 4 rfl (zFF underlying95 rfl sizeOf3 rfl rfl)<|zTk 5 rfl (zLi isAgg3 rfl)<|zOn 2 rfl<|zc (rof_spec f v hvv) rfl<|z6<|zOn 6 rfl<|zc (rof_spec f p.dst hpd) rfl<|z6<|zTk 7 rfl (ya rfl rfl)<|zDn<|zr rfl (fun cq=>?_) (fun cq=>?_)
    ·have hq : ¬ kindV f v = kindV f p.dst := by simpa using cq
     have hph : phiT f p = false := by
      unfold phiT
      rw [show (p.args.any fun v => !decide (kindV f v = kindV f p.dst)) = true from List.any_eq_true.2 ⟨v, hv ▸ qg hk2, by simp [hq]⟩]; rfl
     refine zSr<|z2 (zAb rfl)<|z6<|zg<|zj (x := .bool _) rfl ?_
     rw [hbad (by unfold blkT; rw [show b.phis.all (phiT f) = false from Bool.eq_false_iff.2 (all_bad hj2 (by rw [hp]; exact hph))]; rfl)]
    ·have hq : kindV f v = kindV f p.dst := by simpa using cq
     refine ze<|zRg<|z2 (zAd rfl rfl)<|z2 (zMi rfl)<|z6 ?_
     exact ⟨k + 1, zR11, zR1, zLe, ⟨hk2, all_take hk2 hkall (by rw [hv]; simp [hq])⟩, by omega⟩
   ·have hkn : k = p.args.length := by simp at ck; omega
    rw [hkn, qh] at hkall
    have hph : phiT f p = true := by
     unfold phiT
     rw [show (p.args.any fun v => !decide (kindV f v = kindV f p.dst)) = false from List.any_eq_false.2 fun v hv => by have := List.all_eq_true.1 hkall v hv; simpa using this]; rfl
    refine zz<|zRg<|z2 (zAd rfl rfl)<|z2 (zMi rfl)<|z6 ?_
    exact ⟨j + 1, zR7, zR1, zLe, ⟨hj2, all_take hj2 hjall (by rw [hp]; exact hph)⟩, by omega⟩
  ·have hjn : j = b.phis.length := by simp at cj; omega
   subst hjn
   rw [qh] at hjall
   refine zz<|za<|zSr<|z2 (zFF underlying66 rfl sizeOf60 rfl rfl)<|z2 (zLf isAgg60 rfl)<|z2 (zq underlying60 rfl)<|z2 (zMi rfl)<|z6<|zd<|y1 (γ := Nat) [1, 4, 16, 17, 18, 47, 48] (fun k => [(49, .int .i64 k)]) (fun k => []) (fun k => k ≤ b.insts.length ∧ (b.insts.take k).all (instT f) = true) (fun k => b.insts.length - k) 0 zR1 zLe (⟨qf _, rfl⟩) ?_
   rintro k ⟨hk, hkall⟩
   refine zSr<|z2 (y7 rfl rfl)<|z6<|za<|zt rfl (fun ck=>?_) (fun ck=>?_)
   ·have hk2 : k < b.insts.length := by simp at ck; omega
    obtain ⟨z, hz⟩ : ∃ z, b.insts[k] = z := ⟨_, rfl⟩
    have hzm : z ∈ b.insts := hz ▸ qg hk2
    have hI := instP_F (hIn z hzm)
    have hzl := hb4 z hzm
    have hwl := wantL_len hI
    have hdst : makesB z.op = true → hasV f z.dst = true := fun h => by
     rcases hI.dst with ⟨d1, _⟩ | ⟨_, _, d3⟩
     ·rw [h] at d1; cases d1
     ·exact d3
    have hcopy : z.op = 1 → makesB z.op = true := fun h => by rw [h]; rfl
    have hib : instT f z = false → f.blocks.all (blkT f) = false := fun h => hbad (by unfold blkT; rw [hjall, show b.insts.all (instT f) = false from Bool.eq_false_iff.2 (all_bad hk2 (by rw [hz]; exact h))]; rfl)
    refine ze<|za<|zd<|zSr<|z2 (zIM k underlying60 sizeOf33 rfl rfl rfl (by rw [qc hk2, hz]))<|z2 (zk isAgg33 sizeOf33 rfl rfl)<|zy (cs := [.int .i64 0, .int .i64 0, .raw (.slice none 0 0), .int .i64 0]) zeroValue33 rfl rfl<|fun i10 => zo sizeOf33 rfl rfl rfl rfl rfl rfl .head rfl<|zb (y9 (t := 10) rfl .head)<|z6<|za<|yh (γ := Nat) [1, 4, 10, 16, 17, 18, 47, 48, 49] (fun g => [(11, .po g 0)]) (fun g => [(g, .cells 222 (encK (kRow z.op)))]) (fun g => True) ?_ (fun _ _ h => h) ?_
    ·refine y8 (fun j => false) (by kernel_rfl) rfl (zx (.rest _))<|zTk 1 rfl (zFF underlying33 rfl sizeOf31 rfl rfl)<|zTk 2 rfl (zLi isAgg31 rfl)<|yj (i := 0) (j := 5) rfl rfl (by kernel_rfl) ?_ ?_
     ·refine zc (rows_spec) rfl<|z6<|zTk 3 rfl (zIM z.op.toNat underlying223 sizeOf222 rfl rfl (by have := hI.op; omega) (kRow_get hI.op))<|zTk 4 rfl (zk isAgg222 sizeOf222 rfl rfl)<|zOn 5 rfl<|zy (cs := [.str ⟨#[]⟩, .str ⟨#[]⟩, .str ⟨#[]⟩]) zeroValue222 rfl rfl<|fun i11 => z6<|zOn 6 rfl<|zo sizeOf222 rfl rfl rfl rfl rfl rfl .head rfl<|z6<|zDn ?_
      exact ⟨i11, zR9, zR1, zLe, trivial⟩
     ·refine zy (cs := [.str ⟨#[]⟩, .str ⟨#[]⟩, .str ⟨#[]⟩]) zeroValue222 rfl rfl<|fun i11 => z6<|zOn 0 rfl<|zc (rows_spec) rfl<|z6<|zTk 3 rfl (zIM z.op.toNat underlying223 sizeOf222 rfl rfl (by have := hI.op; omega) (kRow_get hI.op))<|zTk 4 rfl (zk isAgg222 sizeOf222 rfl rfl)<|zOn 6 rfl<|zo sizeOf222 rfl rfl rfl rfl rfl rfl .head rfl<|z6<|zDn ?_
      exact ⟨i11, zR9, zR1, zLe, trivial⟩
    ·rintro i11 _
     refine za<|zSr<|z2 (zFF underlying33 rfl sizeOf23 rfl rfl)<|z2 (zLf isAgg23 rfl)<|z2 (zq underlying23 rfl)<|z2 (zMi rfl)<|z6<|zd<|y1 (γ := Nat) [1, 4, 10, 11, 16, 17, 18, 47, 48, 49, 60] (fun m => [(61, .int .i64 m)]) (fun m => [(i11, .cells 222 (encK (kRow z.op)))]) (fun m => m ≤ z.args.length ∧ (z.args.take m).map (kindV f) = (wantL f z).take m) (fun m => z.args.length - m) 0 zR1 zLe (⟨qf _, by simp⟩) ?_
     rintro m ⟨hm, hmall⟩
     refine zSr<|z2 (y7 rfl rfl)<|z6<|za<|zt rfl (fun cm=>?_) (fun cm=>?_)
     ·have hm2 : m < z.args.length := by simp at cm; omega
      have hmw : m < (wantL f z).length := by omega
      have hmt : m < (takesL z.op).length := by have := hI.len; omega
      obtain ⟨v, hv⟩ : ∃ v, z.args[m] = v := ⟨_, rfl⟩
      have hvv := hI.args v (hv ▸ qg hm2)
      obtain ⟨c, hc, hct⟩ := takes_byte hmt
      have hbadm : ¬ kindV f v = (wantL f z)[m] → f.blocks.all (blkT f) = false := fun h => hib (by rw [instT_want hI, qo (map_ne hm2 hmw (by rw [hv]; exact h))]; rfl)
      refine ze<|za<|zd<|zSr<|z2 (zMi rfl)<|z2 (zAi rfl)<|z6<|zSr<|z2 (zm underlying222 rfl sizeOf9 (by decide) rfl rfl)<|z2 (zp (c := .str _) isAgg9 rfl ⟨_, .head⟩ rfl)<|z2 (zMi rfl)<|z2 (Gv.indexT (j := m) underlying9 rfl rfl rfl hc)<|zc (rtype_spec (c.toNat : Int)) rfl<|z2 (zAi rfl)<|z6<|za<|zSr<|z2 (zm underlying222 rfl sizeOf9 (by decide) rfl rfl)<|z2 (zp (c := .str _) isAgg9 rfl ⟨_, .head⟩ rfl)<|z2 (Gv.eqlT rfl rfl)<|z6<|zr rfl (fun cw=>?_) (fun cw=>?_)
      ·have ew : z.op = 1 := (copy_op hI.op).1 (by simpa using cw)
       refine zRg<|z2 (zk isAgg26 sizeOf26 rfl rfl)<|z2 (zFF underlying33 rfl sizeOf3 rfl rfl)<|z2 (zLi isAgg3 rfl)<|zc (rof_spec f z.dst (hdst (hcopy ew))) rfl<|z2 (zAi rfl)<|z6<|za<|y8 (fun j => false) (by kernel_rfl) rfl (zx (.rest _))<|zTk 0 rfl (zk isAgg26 sizeOf26 rfl rfl)<|zTk 1 rfl (zFF underlying33 rfl sizeOf23 rfl rfl)<|zTk 2 rfl (zLf isAgg23 rfl)<|zTk 3 rfl (zMi rfl)<|zTk 4 rfl (zIM m underlying23 sizeOf3 rfl rfl rfl (by rw [qc hm2, hv]))<|zTk 5 rfl (zLi isAgg3 rfl)<|zTk 7 rfl (zMi rfl)<|zOn 6 rfl<|zc (rof_spec f v hvv) rfl<|z6<|zTk 8 rfl (ya rfl rfl)<|zDn<|zr rfl (fun cq=>?_) (fun cq=>?_)
       ·have hq : ¬ kindV f v = kindV f z.dst := by simpa using cq
        refine zSr<|z2 (zAb rfl)<|z6<|zg<|zj (x := .bool _) rfl ?_
        rw [hbadm (by rw [want_1 ew hmw]; exact hq)]
       ·have hq : kindV f v = kindV f z.dst := by simpa using cq
        refine ze<|zRg<|z2 (zAd rfl rfl)<|z2 (zMi rfl)<|z6 ?_
        exact ⟨m + 1, zR11, zR1, zLe, ⟨hm2, map_take_succ hm2 hmw hmall (by rw [hv, want_1 ew hmw]; exact hq)⟩, by omega⟩
      ·have ew : ¬ z.op = 1 := fun e => by have := (copy_op hI.op).2 e; simp [this] at cw
       refine ze<|za<|y8 (fun j => false) (by kernel_rfl) rfl (zx (.rest _))<|zTk 0 rfl (zk isAgg26 sizeOf26 rfl rfl)<|zTk 1 rfl (zFF underlying33 rfl sizeOf23 rfl rfl)<|zTk 2 rfl (zLf isAgg23 rfl)<|zTk 3 rfl (zMi rfl)<|zTk 4 rfl (zIM m underlying23 sizeOf3 rfl rfl rfl (by rw [qc hm2, hv]))<|zTk 5 rfl (zLi isAgg3 rfl)<|zTk 7 rfl (zMi rfl)<|zOn 6 rfl<|zc (rof_spec f v hvv) rfl<|z6<|zTk 8 rfl (ya rfl rfl)<|zDn<|zr rfl (fun cq=>?_) (fun cq=>?_)
       ·have hq : ¬ kindV f v = typeOf (c.toNat : Int) := by simpa using cq
        refine zSr<|z2 (zAb rfl)<|z6<|zg<|zj (x := .bool _) rfl ?_
        rw [hbadm (by rw [want_2 ew hmw hmt, hct]; exact hq)]
       ·have hq : kindV f v = typeOf (c.toNat : Int) := by simpa using cq
        refine ze<|zRg<|z2 (zAd rfl rfl)<|z2 (zMi rfl)<|z6 ?_
        exact ⟨m + 1, zR11, zR1, zLe, ⟨hm2, map_take_succ hm2 hmw hmall (by rw [hv, want_2 ew hmw hmt, hct]; exact hq)⟩, by omega⟩
     ·have hmn : m = z.args.length := by simp at cm; omega
      have hall2 : z.args.map (kindV f) = wantL f z := by rw [hmn, qh, hwl, qh] at hmall; exact hmall
      have hiw := instT_want hI
      rw [qn hall2, Bool.true_and] at hiw
      refine zz<|za<|y8 (fun j => false) (by kernel_rfl) rfl (zx (.r (.rest _)))<|zTk 0 rfl (zm underlying222 rfl sizeOf9 (by decide) rfl rfl)<|zTk 1 rfl (zp (c := .str _) isAgg9 rfl ⟨_, .head⟩ rfl)<|zTk 2 rfl (Gv.neqT rfl rfl)<|zTk 3 rfl (zMb rfl)<|qb (s := 89) rfl (fun c1=>?_) (fun c1=>?_)
      ·have d1 : ¬ (kRow z.op).2.2 = ⟨#[]⟩ := by simpa using c1
       have dm : makesB z.op = true := by rw [makesB_eq, qo d1]; rfl
       obtain ⟨c, hc, hct⟩ := makes_byte d1
       refine zTt 4 rfl rfl rfl c1 (zm underlying222 rfl sizeOf9 (by decide) rfl rfl)<|zTt 5 rfl rfl rfl c1 (zp (c := .str _) isAgg9 rfl ⟨_, .head⟩ rfl)<|zTt 6 rfl rfl rfl c1 (Gv.neqT rfl rfl)<|zTk 7 rfl (zPt rfl c1 rfl)<|zTk 8 rfl (zMb rfl)<|qb (s := 94) rfl (fun c2=>?_) (fun c2=>?_)
       ·have ew : ¬ z.op = 1 := fun e => by have := (copy_op hI.op).2 e; simp [this] at c2
        refine zTt 9 rfl rfl rfl c2 (zk isAgg26 sizeOf26 rfl rfl)<|zTt 10 rfl rfl rfl c2 (zFF underlying33 rfl sizeOf3 rfl rfl)<|zTt 11 rfl rfl rfl c2 (zLi isAgg3 rfl)<|zTt 13 rfl rfl rfl c2 (zm underlying222 rfl sizeOf9 (by decide) rfl rfl)<|zTt 14 rfl rfl rfl c2 (zp (c := .str _) isAgg9 rfl ⟨_, .head⟩ rfl)<|zTt 15 rfl rfl rfl c2 (Gv.indexT (j := 0) underlying9 rfl rfl rfl hc)<|zOn 12 rfl<|z8 rfl rfl c2<|zc (rof_spec f z.dst (hdst dm)) rfl<|z6<|zOn 16 rfl<|z8 rfl rfl c2<|zc (rtype_spec (c.toNat : Int)) rfl<|z6<|zTt 17 rfl rfl rfl c2 (ya rfl rfl)<|zTk 18 rfl (zPt rfl c2 rfl)<|zDn<|zr rfl (fun cq=>?_) (fun cq=>?_)
        ·have hq : ¬ kindV f z.dst = typeOf (c.toNat : Int) := by simpa using cq
         refine zSr<|z2 (zAb rfl)<|z6<|zg<|zj (x := .bool _) rfl ?_
         rw [hib (by rw [hiw, dm, qo ew, hct, qo hq]; rfl)]
        ·have hq : kindV f z.dst = typeOf (c.toNat : Int) := by simpa using cq
         refine ze<|zRg<|z2 (zAd rfl rfl)<|z2 (zMi rfl)<|z6 ?_
         exact ⟨k + 1, zR7, zR1, ⟨_, (.drop (.refl _)), rfl⟩, ⟨hk2, all_take hk2 hkall (by rw [hz, hiw, hct, qn hq]; simp)⟩, by omega⟩
       ·have ew : z.op = 1 := (copy_op hI.op).1 (by simpa using c2)
        refine zTf 9 rfl rfl rfl c2<|zTf 10 rfl rfl rfl c2<|zTf 11 rfl rfl rfl c2<|zTf 12 rfl rfl rfl c2<|zTf 13 rfl rfl rfl c2<|zTf 14 rfl rfl rfl c2<|zTf 15 rfl rfl rfl c2<|zTf 16 rfl rfl rfl c2<|zTf 17 rfl rfl rfl c2<|zTk 18 rfl (zPf rfl c2 rfl)<|zDn<|yb rfl rfl<|ze<|zRg<|z2 (zAd rfl rfl)<|z2 (zMi rfl)<|z6 ?_
        exact ⟨k + 1, zR7, zR1, ⟨_, (.drop (.refl _)), rfl⟩, ⟨hk2, all_take hk2 hkall (by rw [hz, hiw, qn ew]; simp)⟩, by omega⟩
      ·have d1 : (kRow z.op).2.2 = ⟨#[]⟩ := by simpa using c1
       have dm : makesB z.op = false := by rw [makesB_eq, qn d1]; rfl
       refine zTf 4 rfl rfl rfl c1<|zTf 5 rfl rfl rfl c1<|zTf 6 rfl rfl rfl c1<|zTk 7 rfl (zPf rfl c1 rfl)<|zTk 8 rfl (zMb rfl)<|zTf 9 rfl rfl rfl rfl<|zTf 10 rfl rfl rfl rfl<|zTf 11 rfl rfl rfl rfl<|zTf 12 rfl rfl rfl rfl<|zTf 13 rfl rfl rfl rfl<|zTf 14 rfl rfl rfl rfl<|zTf 15 rfl rfl rfl rfl<|zTf 16 rfl rfl rfl rfl<|zTf 17 rfl rfl rfl rfl<|zTk 18 rfl (zPf rfl rfl rfl)<|zDn<|yb rfl rfl<|ze<|zRg<|z2 (zAd rfl rfl)<|z2 (zMi rfl)<|z6 ?_
       exact ⟨k + 1, zR7, zR1, ⟨_, (.drop (.refl _)), rfl⟩, ⟨hk2, all_take hk2 hkall (by rw [hz, hiw, dm]; rfl)⟩, by omega⟩
   ·have hkn : k = b.insts.length := by simp at ck; omega
    rw [hkn, qh] at hkall
    refine zz<|zSr<|z2 (zFF underlying66 rfl sizeOf64 rfl rfl)<|z2 (zk isAgg64 sizeOf64 rfl rfl)<|zy (cs := [.int .i64 0, .int .i64 0, .int .i64 0, .int .i64 0]) zeroValue64 rfl rfl<|fun i14 => zo sizeOf64 rfl rfl rfl rfl rfl rfl .head rfl<|zb (y9 (t := 14) rfl .head)<|z6<|za<|yh (γ := Bool) [1, 16, 17, 18] (fun u => [(152, .bool u)]) (fun u => []) (fun u => u = !termT f b.term) ?_ (fun _ _ h => h) ?_
    ·have hk3 := term_kind hTm
     refine zRg<|z2 (zFF underlying64 rfl sizeOf61 rfl rfl)<|z2 (zLi isAgg61 rfl)<|z2 (y6 rfl rfl)<|z2 (zMb rfl)<|zn (s := 111) rfl (fun c1=>?_) (fun c1=>?_)
     ·refine z8 rfl rfl c1<|z2 (zk isAgg26 sizeOf26 rfl rfl)<|z8 rfl rfl c1<|z2 (zFF underlying64 rfl sizeOf3 rfl rfl)<|z8 rfl rfl c1<|z2 (zLi isAgg3 rfl)<|z8 rfl rfl c1<|zc (rof_spec f b.term.var (term_var hTm (by simp_all))) rfl<|z8 rfl rfl c1<|z2 (ya rfl rfl)<|z2 (zPt rfl c1 rfl)<|z2 (zMb rfl)<|zn (s := 118) rfl (fun c2=>?_) (fun c2=>?_)
      ·refine z7 rfl rfl c2<|z7 rfl rfl c2<|z7 rfl rfl c2<|z7 rfl rfl c2<|zh rfl rfl<|zh rfl rfl<|zh rfl rfl<|zh rfl rfl<|zh rfl rfl<|zh rfl rfl<|zh rfl rfl<|zh rfl rfl<|zh rfl rfl<|zh rfl rfl<|zh rfl rfl<|zh rfl rfl<|zh rfl rfl<|zh rfl rfl<|zh rfl rfl<|zh rfl rfl<|zh rfl rfl<|z7 rfl rfl c2<|z2 (zPt rfl c2 rfl)<|z2 (zMb rfl)<|z7 rfl rfl rfl<|z7 rfl rfl rfl<|z7 rfl rfl rfl<|z7 rfl rfl rfl<|zh rfl rfl<|zh rfl rfl<|zh rfl rfl<|zh rfl rfl<|z7 rfl rfl rfl<|z2 (zPt rfl rfl rfl)<|z6 ?_
       exact ⟨_, zR4, zR1, zLe, by simp_all [termT] <;> omega⟩
      ·refine z8 rfl rfl c2<|z2 (zFF underlying64 rfl sizeOf61 rfl rfl)<|z8 rfl rfl c2<|z2 (zLi isAgg61 rfl)<|z8 rfl rfl c2<|z2 (y6 rfl rfl)<|z8 rfl rfl c2<|z2 (zMb rfl)<|zn (s := 122) rfl (fun c3=>?_) (fun c3=>?_)
       ·refine z8 rfl rfl c3<|z2 (zk isAgg26 sizeOf26 rfl rfl)<|z8 rfl rfl c3<|z2 (zFF underlying64 rfl sizeOf3 rfl rfl)<|z8 rfl rfl c3<|z2 (zLi isAgg3 rfl)<|z8 rfl rfl c3<|zc (rof_spec f b.term.var (term_var hTm (by simp_all))) rfl<|z8 rfl rfl c3<|z2 (ya rfl rfl)<|z8 rfl rfl c3<|z2 (zMb rfl)<|zn (s := 128) rfl (fun c4=>?_) (fun c4=>?_)
        ·refine z7 rfl rfl c4<|z7 rfl rfl c4<|z7 rfl rfl c4<|z7 rfl rfl c4<|z8 rfl rfl c3<|z2 (zPt rfl c4 rfl)<|z8 rfl rfl c3<|z2 (zMb rfl)<|z7 rfl rfl rfl<|z7 rfl rfl rfl<|z7 rfl rfl rfl<|z7 rfl rfl rfl<|z8 rfl rfl c3<|z2 (zPt rfl rfl rfl)<|z8 rfl rfl c2<|z2 (zPt rfl c3 rfl)<|z2 (zPf rfl c2 rfl)<|z2 (zMb rfl)<|z7 rfl rfl rfl<|z7 rfl rfl rfl<|z7 rfl rfl rfl<|z7 rfl rfl rfl<|zh rfl rfl<|zh rfl rfl<|zh rfl rfl<|zh rfl rfl<|z7 rfl rfl rfl<|z2 (zPt rfl rfl rfl)<|z6 ?_
         exact ⟨_, zR4, zR1, zLe, by simp_all [termT] <;> omega⟩
        ·refine z8 rfl rfl c4<|z2 (zFF underlying64 rfl sizeOf62 rfl rfl)<|z8 rfl rfl c4<|z2 (yq (j := 0) underlying62 sizeOf3 rfl rfl rfl (by decide) rfl)<|z8 rfl rfl c4<|z2 (zLi isAgg3 rfl)<|z8 rfl rfl c4<|z2 (y6 rfl rfl)<|z8 rfl rfl c3<|z2 (zPf rfl c4 rfl)<|z8 rfl rfl c3<|z2 (zMb rfl)<|zn (s := 134) rfl (fun c5=>?_) (fun c5=>?_)
         ·refine z7 rfl rfl c5<|z7 rfl rfl c5<|z7 rfl rfl c5<|z7 rfl rfl c5<|z8 rfl rfl c3<|z2 (zPt rfl c5 rfl)<|z8 rfl rfl c2<|z2 (zPt rfl c3 rfl)<|z2 (zPf rfl c2 rfl)<|z2 (zMb rfl)<|z7 rfl rfl rfl<|z7 rfl rfl rfl<|z7 rfl rfl rfl<|z7 rfl rfl rfl<|zh rfl rfl<|zh rfl rfl<|zh rfl rfl<|zh rfl rfl<|z7 rfl rfl rfl<|z2 (zPt rfl rfl rfl)<|z6 ?_
          exact ⟨_, zR4, zR1, zLe, by simp_all [termT] <;> omega⟩
         ·refine z8 rfl rfl c5<|z2 (zFF underlying64 rfl sizeOf62 rfl rfl)<|z8 rfl rfl c5<|z2 (yq (j := 1) underlying62 sizeOf3 rfl rfl rfl (by decide) rfl)<|z8 rfl rfl c5<|z2 (zLi isAgg3 rfl)<|z8 rfl rfl c5<|z2 (y6 rfl rfl)<|z8 rfl rfl c3<|z2 (zPf rfl c5 rfl)<|z8 rfl rfl c2<|z2 (zPt rfl c3 rfl)<|z2 (zPf rfl c2 rfl)<|z2 (zMb rfl)<|zn (s := 142) rfl (fun c6=>?_) (fun c6=>?_)
          ·refine z7 rfl rfl c6<|z7 rfl rfl c6<|z7 rfl rfl c6<|z7 rfl rfl c6<|zh rfl rfl<|zh rfl rfl<|zh rfl rfl<|zh rfl rfl<|z7 rfl rfl c6<|z2 (zPt rfl c6 rfl)<|z6 ?_
           exact ⟨_, zR4, zR1, zLe, by simp_all [termT] <;> omega⟩
          ·refine z8 rfl rfl c6<|z2 (zFF underlying64 rfl sizeOf61 rfl rfl)<|z8 rfl rfl c6<|z2 (zLi isAgg61 rfl)<|z8 rfl rfl c6<|z2 (y6 rfl rfl)<|z8 rfl rfl c6<|z2 (zMb rfl)<|zn (s := 146) rfl (fun c7=>?_) (fun c7=>?_)
           ·refine z8 rfl rfl c7<|z2 (zFF underlying64 rfl sizeOf62 rfl rfl)<|z8 rfl rfl c7<|z2 (yq (j := 0) underlying62 sizeOf3 rfl rfl rfl (by decide) rfl)<|z8 rfl rfl c7<|z2 (zLi isAgg3 rfl)<|z8 rfl rfl c7<|z2 (y6 rfl rfl)<|z8 rfl rfl c6<|z2 (zPt rfl c7 rfl)<|z2 (zPf rfl c6 rfl)<|z6 ?_
            exact ⟨_, zR4, zR1, zLe, by simp_all [termT] <;> omega⟩
           ·refine z7 rfl rfl c7<|z7 rfl rfl c7<|z7 rfl rfl c7<|z7 rfl rfl c7<|z8 rfl rfl c6<|z2 (zPf rfl c7 rfl)<|z2 (zPf rfl c6 rfl)<|z6 ?_
            exact ⟨_, zR4, zR1, zLe, by simp_all [termT] <;> omega⟩
       ·refine z7 rfl rfl c3<|z7 rfl rfl c3<|z7 rfl rfl c3<|z7 rfl rfl c3<|z7 rfl rfl c3<|z7 rfl rfl c3<|zh rfl rfl<|zh rfl rfl<|zh rfl rfl<|zh rfl rfl<|z7 rfl rfl c3<|z7 rfl rfl c3<|zh rfl rfl<|zh rfl rfl<|zh rfl rfl<|zh rfl rfl<|z7 rfl rfl c3<|z8 rfl rfl c2<|z2 (zPf rfl c3 rfl)<|z2 (zPf rfl c2 rfl)<|z2 (zMb rfl)<|z8 rfl rfl rfl<|z2 (zFF underlying64 rfl sizeOf61 rfl rfl)<|z8 rfl rfl rfl<|z2 (zLi isAgg61 rfl)<|z8 rfl rfl rfl<|z2 (y6 rfl rfl)<|z8 rfl rfl rfl<|z2 (zMb rfl)<|zn (s := 146) rfl (fun c8=>?_) (fun c8=>?_)
        ·refine z8 rfl rfl c8<|z2 (zFF underlying64 rfl sizeOf62 rfl rfl)<|z8 rfl rfl c8<|z2 (yq (j := 0) underlying62 sizeOf3 rfl rfl rfl (by decide) rfl)<|z8 rfl rfl c8<|z2 (zLi isAgg3 rfl)<|z8 rfl rfl c8<|z2 (y6 rfl rfl)<|z8 rfl rfl rfl<|z2 (zPt rfl c8 rfl)<|z2 (zPf rfl rfl rfl)<|z6 ?_
         exact ⟨_, zR4, zR1, zLe, by simp_all [termT] <;> omega⟩
        ·refine z7 rfl rfl c8<|z7 rfl rfl c8<|z7 rfl rfl c8<|z7 rfl rfl c8<|z8 rfl rfl rfl<|z2 (zPf rfl c8 rfl)<|z2 (zPf rfl rfl rfl)<|z6 ?_
         exact ⟨_, zR4, zR1, zLe, by simp_all [termT] <;> omega⟩
     ·refine z7 rfl rfl c1<|z7 rfl rfl c1<|z7 rfl rfl c1<|z7 rfl rfl c1<|z7 rfl rfl c1<|z2 (zPf rfl c1 rfl)<|z2 (zMb rfl)<|z8 rfl rfl rfl<|z2 (zFF underlying64 rfl sizeOf61 rfl rfl)<|z8 rfl rfl rfl<|z2 (zLi isAgg61 rfl)<|z8 rfl rfl rfl<|z2 (y6 rfl rfl)<|z8 rfl rfl rfl<|z2 (zMb rfl)<|zn (s := 122) rfl (fun c9=>?_) (fun c9=>?_)
      ·refine z8 rfl rfl c9<|z2 (zk isAgg26 sizeOf26 rfl rfl)<|z8 rfl rfl c9<|z2 (zFF underlying64 rfl sizeOf3 rfl rfl)<|z8 rfl rfl c9<|z2 (zLi isAgg3 rfl)<|z8 rfl rfl c9<|zc (rof_spec f b.term.var (term_var hTm (by simp_all))) rfl<|z8 rfl rfl c9<|z2 (ya rfl rfl)<|z8 rfl rfl c9<|z2 (zMb rfl)<|zn (s := 128) rfl (fun c10=>?_) (fun c10=>?_)
       ·refine z7 rfl rfl c10<|z7 rfl rfl c10<|z7 rfl rfl c10<|z7 rfl rfl c10<|z8 rfl rfl c9<|z2 (zPt rfl c10 rfl)<|z8 rfl rfl c9<|z2 (zMb rfl)<|z7 rfl rfl rfl<|z7 rfl rfl rfl<|z7 rfl rfl rfl<|z7 rfl rfl rfl<|z8 rfl rfl c9<|z2 (zPt rfl rfl rfl)<|z8 rfl rfl rfl<|z2 (zPt rfl c9 rfl)<|z2 (zPf rfl rfl rfl)<|z2 (zMb rfl)<|z7 rfl rfl rfl<|z7 rfl rfl rfl<|z7 rfl rfl rfl<|z7 rfl rfl rfl<|zh rfl rfl<|zh rfl rfl<|zh rfl rfl<|zh rfl rfl<|z7 rfl rfl rfl<|z2 (zPt rfl rfl rfl)<|z6 ?_
        exact ⟨_, zR4, zR1, zLe, by simp_all [termT] <;> omega⟩
       ·refine z8 rfl rfl c10<|z2 (zFF underlying64 rfl sizeOf62 rfl rfl)<|z8 rfl rfl c10<|z2 (yq (j := 0) underlying62 sizeOf3 rfl rfl rfl (by decide) rfl)<|z8 rfl rfl c10<|z2 (zLi isAgg3 rfl)<|z8 rfl rfl c10<|z2 (y6 rfl rfl)<|z8 rfl rfl c9<|z2 (zPf rfl c10 rfl)<|z8 rfl rfl c9<|z2 (zMb rfl)<|zn (s := 134) rfl (fun c11=>?_) (fun c11=>?_)
        ·refine z7 rfl rfl c11<|z7 rfl rfl c11<|z7 rfl rfl c11<|z7 rfl rfl c11<|z8 rfl rfl c9<|z2 (zPt rfl c11 rfl)<|z8 rfl rfl rfl<|z2 (zPt rfl c9 rfl)<|z2 (zPf rfl rfl rfl)<|z2 (zMb rfl)<|z7 rfl rfl rfl<|z7 rfl rfl rfl<|z7 rfl rfl rfl<|z7 rfl rfl rfl<|zh rfl rfl<|zh rfl rfl<|zh rfl rfl<|zh rfl rfl<|z7 rfl rfl rfl<|z2 (zPt rfl rfl rfl)<|z6 ?_
         exact ⟨_, zR4, zR1, zLe, by simp_all [termT] <;> omega⟩
        ·refine z8 rfl rfl c11<|z2 (zFF underlying64 rfl sizeOf62 rfl rfl)<|z8 rfl rfl c11<|z2 (yq (j := 1) underlying62 sizeOf3 rfl rfl rfl (by decide) rfl)<|z8 rfl rfl c11<|z2 (zLi isAgg3 rfl)<|z8 rfl rfl c11<|z2 (y6 rfl rfl)<|z8 rfl rfl c9<|z2 (zPf rfl c11 rfl)<|z8 rfl rfl rfl<|z2 (zPt rfl c9 rfl)<|z2 (zPf rfl rfl rfl)<|z2 (zMb rfl)<|zn (s := 142) rfl (fun c12=>?_) (fun c12=>?_)
         ·refine z7 rfl rfl c12<|z7 rfl rfl c12<|z7 rfl rfl c12<|z7 rfl rfl c12<|zh rfl rfl<|zh rfl rfl<|zh rfl rfl<|zh rfl rfl<|z7 rfl rfl c12<|z2 (zPt rfl c12 rfl)<|z6 ?_
          exact ⟨_, zR4, zR1, zLe, by simp_all [termT] <;> omega⟩
         ·refine z8 rfl rfl c12<|z2 (zFF underlying64 rfl sizeOf61 rfl rfl)<|z8 rfl rfl c12<|z2 (zLi isAgg61 rfl)<|z8 rfl rfl c12<|z2 (y6 rfl rfl)<|z8 rfl rfl c12<|z2 (zMb rfl)<|zn (s := 146) rfl (fun c13=>?_) (fun c13=>?_)
          ·refine z8 rfl rfl c13<|z2 (zFF underlying64 rfl sizeOf62 rfl rfl)<|z8 rfl rfl c13<|z2 (yq (j := 0) underlying62 sizeOf3 rfl rfl rfl (by decide) rfl)<|z8 rfl rfl c13<|z2 (zLi isAgg3 rfl)<|z8 rfl rfl c13<|z2 (y6 rfl rfl)<|z8 rfl rfl c12<|z2 (zPt rfl c13 rfl)<|z2 (zPf rfl c12 rfl)<|z6 ?_
           exact ⟨_, zR4, zR1, zLe, by simp_all [termT] <;> omega⟩
          ·refine z7 rfl rfl c13<|z7 rfl rfl c13<|z7 rfl rfl c13<|z7 rfl rfl c13<|z8 rfl rfl c12<|z2 (zPf rfl c13 rfl)<|z2 (zPf rfl c12 rfl)<|z6 ?_
           exact ⟨_, zR4, zR1, zLe, by simp_all [termT] <;> omega⟩
      ·refine z7 rfl rfl c9<|z7 rfl rfl c9<|z7 rfl rfl c9<|z7 rfl rfl c9<|z7 rfl rfl c9<|z7 rfl rfl c9<|zh rfl rfl<|zh rfl rfl<|zh rfl rfl<|zh rfl rfl<|z7 rfl rfl c9<|z7 rfl rfl c9<|zh rfl rfl<|zh rfl rfl<|zh rfl rfl<|zh rfl rfl<|z7 rfl rfl c9<|z8 rfl rfl rfl<|z2 (zPf rfl c9 rfl)<|z2 (zPf rfl rfl rfl)<|z2 (zMb rfl)<|z8 rfl rfl rfl<|z2 (zFF underlying64 rfl sizeOf61 rfl rfl)<|z8 rfl rfl rfl<|z2 (zLi isAgg61 rfl)<|z8 rfl rfl rfl<|z2 (y6 rfl rfl)<|z8 rfl rfl rfl<|z2 (zMb rfl)<|zn (s := 146) rfl (fun c14=>?_) (fun c14=>?_)
       ·refine z8 rfl rfl c14<|z2 (zFF underlying64 rfl sizeOf62 rfl rfl)<|z8 rfl rfl c14<|z2 (yq (j := 0) underlying62 sizeOf3 rfl rfl rfl (by decide) rfl)<|z8 rfl rfl c14<|z2 (zLi isAgg3 rfl)<|z8 rfl rfl c14<|z2 (y6 rfl rfl)<|z8 rfl rfl rfl<|z2 (zPt rfl c14 rfl)<|z2 (zPf rfl rfl rfl)<|z6 ?_
        exact ⟨_, zR4, zR1, zLe, by simp_all [termT] <;> omega⟩
       ·refine z7 rfl rfl c14<|z7 rfl rfl c14<|z7 rfl rfl c14<|z7 rfl rfl c14<|z8 rfl rfl rfl<|z2 (zPf rfl c14 rfl)<|z2 (zPf rfl rfl rfl)<|z6 ?_
        exact ⟨_, zR4, zR1, zLe, by simp_all [termT] <;> omega⟩
    ·rintro u hu
     subst hu
     refine zr rfl (fun ct=>?_) (fun ct=>?_)
     ·have dt : termT f b.term = false := by simpa using ct
      refine zSr<|z2 (zAb rfl)<|z6<|zg<|zj (x := .bool _) rfl ?_
      rw [hbad (by unfold blkT; rw [hjall, hkall, dt]; rfl)]
     ·have dt : termT f b.term = true := by simpa using ct
      refine ze<|zRg<|z2 (zAd rfl rfl)<|z2 (zMi rfl)<|z6 ?_
      exact ⟨i + 1, zR3, zR1, zLe, ⟨hi2, all_take hi2 hall (by rw [hbi]; unfold blkT; rw [hjall, hkall, dt]; rfl)⟩, by omega⟩
 ·have hin : i = f.blocks.length := by simp at ci; omega
  rw [hin, qh] at hall
  refine zz<|zSr<|z2 (zAb rfl)<|z6<|zg<|zj (x := .bool _) rfl ?_
  rw [hall]
end Go.Proofs.YtjnpcfpecilejaaGreatDoor
