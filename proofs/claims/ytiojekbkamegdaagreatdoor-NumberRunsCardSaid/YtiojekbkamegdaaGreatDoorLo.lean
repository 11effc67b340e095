/- The document's typed; the laws' typed, single and plain. Of programs that are little. -/
import Derived.Test.YtiojekbkamegdaaGreatDoorLn
import Derived.Test.YtiojekbkamegdaaGreatDoorLg
set_option linter.unusedVariables false
set_option linter.unusedSimpArgs false
set_option linter.unusedSectionVars false
namespace Go.Proofs.YtiojekbkamegdaaGreatDoor
open Go.Proofs.Tryz
open Go.Proofs Go.Lib Go.Shelf Go.RowKit
variable {E : World}
set_option maxRecDepth 20000
set_option maxHeartbeats 4000000 in
theorem Maker_spec (f : PFunc) (hf : small f) (v : Nat) : AFun prog E 58 [.agg (encF f), .int .i64 v] (.tup [.int .i64 (makerT f v).1, .int .i64 (makerT f v).2]) := by
 have hn := hf.2.2.1
 refine zp func58 Z (by decide) Z<|zSr<|yc (cs := _) Z Z Z<|zVzAi Z<|zVzAi Z<|z2<|zc<|zSr<|zVzFF jh Z Z1 Z Z<|zVzLf Z8 Z<|zVGvlenM jl Z<|zVzMi Z<|z2<|zi<|y7 (γ := Nat) [1, 13, 14] (fun k => [(15, .int .i64 k)]) (fun k => []) (fun k => k ≤ f.blocks.length ∧ cntE v (evTo f k) = 0) (fun k => f.blocks.length - k) 0 zR1 zLe (⟨qt _, Z⟩) ?_
 rintro k ⟨hk, hc⟩
 refine zSr<|zVGvlss Z Z<|z2<|zc<|zo Z (fun ck=>?_) (fun ck=>?_)
 ·have hk2 : k < f.blocks.length := by simp at ck; omega
  obtain ⟨b, hbk⟩ : ∃ b, f.blocks[k] = b := ⟨_, rfl⟩
  have hget : f.blocks[k]? = some b := by rw [qq hk2, hbk]
  have hmem : b ∈ f.blocks := hbk ▸ qu hk2
  obtain ⟨hb0, hb1, hb2, hb3, hb4⟩ := hf.2.2.2.2 b hmem
  refine zf<|zc<|zi<|zSr<|zVzMi Z<|z8 (zIM k jl jw Z Z Z hget)<|zVGvloadWF Yc jw Z Z<|zt (cs := [.str ⟨#[]⟩, .raw (.slice none 0 0), .raw (.slice none 0 0), .int .i64 0, .int .i64 0, .int .i64 0, .int .i64 0]) Zd Z Z<|fun i7 => zVzAi Z<|zn jw Z Z Z Z Z Z .head Z<|zd (yf (t := 7) Z .head)<|z2<|zc<|zSr<|zVzFF je Z Zn Z Z<|zVzLf Y4 Z<|zVGvlenM jx Z<|zVzMi Z<|z2<|zi<|y7 (γ := Nat) [1, 6, 7, 13, 14, 15, 21, 22] (fun j => [(23, .int .i64 j)]) (fun j => []) (fun j => j ≤ b.phis.length ∧ cntE v (evTo f k ++ evPh k (b.phis.take j)) = 0) (fun j => b.phis.length - j) 0 zR1 zLe (⟨qt _, by rw [show evPh k (b.phis.take 0) = [] from rfl, List.append_nil]; exact hc⟩) ?_
  rintro j ⟨hj, hcj⟩
  refine zSr<|zVGvlss Z Z<|z2<|zc<|zo Z (fun cj=>?_) (fun cj=>?_)
  ·have hj2 : j < b.phis.length := by simp at cj; omega
   have hpre := pre_phi hk2 hbk hj2
   have hsc := cntE_push v (evTo f k ++ evPh k (b.phis.take j)) b.phis[j].dst ((k : Int), (-1 : Int))
   rw [qs, ← evPh_succ k hj2] at hsc
   refine zf<|zc<|zi<|zSr<|z8 (zIM j jx Z0 Z Z Z (qq hj2))<|zVGvloadWF Yf Z0 Z Z<|zt (cs := [.int .i64 0, .raw (.slice none 0 0), .raw (.slice none 0 0)]) Zk Z Z<|fun i9 => zn Z0 Z Z Z Z Z Z .head Z<|zd (yf (t := 9) Z .head)<|z2<|zSr<|zVzFF js Z j7 Z Z<|zVzLi j9 Z<|zVzMi Z<|zVGveqlI Z Z<|z2<|zu Z (fun cd=>?_) (fun cd=>?_)
   ·have hd : b.phis[j].dst = (v : Int) := by simpa using cd
    rw [hd] at hpre
    refine zSr<|zVzMi Z<|zVzAi Z<|zVzAi Z<|z2<|zj<|afin.t2 (x := .int _ _) (y := .int _ _) Z Z ?_
    rw [maker_hit hpre hcj]
   ·have hd : ¬ b.phis[j].dst = (v : Int) := by simpa using cd
    refine zf<|zRg<|zVzAd Z Z<|zVzMi Z<|z2 ?_
    exact ⟨j + 1, zR8, zR1, zLe, ⟨hj2, by rw [hsc, if_neg hd, hcj]⟩, by omega⟩
  ·have hjn : j = b.phis.length := by simp at cj; omega
   subst hjn
   rw [qv] at hcj
   refine y6<|zSr<|zVzFF je Z Zb Z Z<|zVzLf Zw Z<|zVGvlenM jv Z<|zVzMi Z<|z2<|zi<|y7 (γ := Nat) [1, 6, 13, 14, 15, 34, 35] (fun j => [(36, .int .i64 j)]) (fun j => []) (fun j => j ≤ b.insts.length ∧ cntE v (evTo f k ++ evPh k b.phis ++ evIn k (b.insts.take j)) = 0) (fun j => b.insts.length - j) 0 zR1 zLe (⟨qt _, by rw [show evIn k (b.insts.take 0) = [] from rfl, List.append_nil]; exact hcj⟩) ?_
   rintro j ⟨hj, hci⟩
   refine zSr<|zVGvlss Z Z<|z2<|zc<|zo Z (fun cj=>?_) (fun cj=>?_)
   ·have hj2 : j < b.insts.length := by simp at cj; omega
    have hev := evIn_succ k hj2
    refine zf<|zc<|zi<|zSr<|zVzMi Z<|z8 (zIM j jv Z2 Z Z Z (qq hj2))<|zVGvloadWF Yg Z2 Z Z<|zt (cs := [.int .i64 0, .int .i64 0, .raw (.slice none 0 0), .int .i64 0]) Zy Z Z<|fun i11 => zVzAi Z<|zn Z2 Z Z Z Z Z Z .head Z<|zd (yf (t := 11) Z .head)<|z2<|zSr<|zVzFF ji Z j7 Z Z<|zVzLi j9 Z<|zVzMi Z<|zVGveqlI Z Z<|z2<|zu Z (fun cd=>?_) (fun cd=>?_)
    ·have hd : b.insts[j].dst = (v : Int) := by simpa using cd
     have hpre := pre_inst hk2 hbk hj2 (by omega)
     rw [hd] at hpre
     refine zSr<|zVzMi Z<|zVzMi Z<|zVzAi Z<|zVzAi Z<|z2<|zj<|afin.t2 (x := .int _ _) (y := .int _ _) Z Z ?_
     rw [maker_hit hpre hci]
    ·have hd : ¬ b.insts[j].dst = (v : Int) := by simpa using cd
     have hsc : cntE v (evTo f k ++ evPh k b.phis ++ evIn k (b.insts.take (j + 1))) = 0 := by
      rw [hev]
      split
      ·rw [← qs, cntE_push, if_neg hd, hci]
      ·rw [List.append_nil]; exact hci
     refine zf<|zRg<|zVzAd Z Z<|zVzMi Z<|z2 ?_
     exact ⟨j + 1, zR7, zR1, zLe, ⟨hj2, hsc⟩, by omega⟩
   ·have hjn : j = b.insts.length := by simp at cj; omega
    subst hjn
    rw [qv] at hci
    refine y6<|zRg<|zVzAd Z Z<|zVzMi Z<|z2 ?_
    exact ⟨k + 1, zR3, zR1, zLe, ⟨hk2, by rw [evTo_succ hk2, hbk, evBl, ← qs]; exact hci⟩, by omega⟩
 ·have hkn : k = f.blocks.length := by simp at ck; omega
  subst hkn
  refine y6<|zSr<|zVzAi Z<|zVzAi Z<|z2<|zj<|afin.t2 (x := .int _ _) (y := .int _ _) Z Z ?_
  rw [maker_none hc]
set_option maxHeartbeats 4000000 in
theorem refMakings_spec (f : PFunc) (hf : small f) (v : Nat) : AFun prog E 97 [.agg (encF f), .int .i64 v] (.int .i64 (makings f v).length) := by
 have hn := hf.2.2.1
 refine zp func97 Z (by decide) Z<|zSr<|yc (cs := _) Z Z Z<|zVzAi Z<|z2<|zSr<|zVzAi Z<|z2<|zc<|zSr<|zVzFF jh Z Z1 Z Z<|zVzLf Z8 Z<|zVGvlenM jl Z<|zVzMi Z<|z2<|zi<|y7 (γ := Nat) [1, 13, 14] (fun k => [(15, .int .i64 k), (5, .int .i64 (cntE v (evTo f k)))]) (fun k => []) (fun k => k ≤ f.blocks.length) (fun k => f.blocks.length - k) 0 zR2 zLe (qt _) ?_
 rintro k hk
 refine zSr<|zVGvlss Z Z<|z2<|zc<|zo Z (fun ck=>?_) (fun ck=>?_)
 ·have hk2 : k < f.blocks.length := by simp at ck; omega
  obtain ⟨b, hbk⟩ : ∃ b, f.blocks[k] = b := ⟨_, rfl⟩
  have hget : f.blocks[k]? = some b := by rw [qq hk2, hbk]
  have hmem : b ∈ f.blocks := hbk ▸ qu hk2
  obtain ⟨hb0, hb1, hb2, hb3, hb4⟩ := hf.2.2.2.2 b hmem
  have hel := hf.evs hk
  refine zf<|zc<|zi<|zSr<|z8 (zIM k jl jw Z Z Z hget)<|zVGvloadWF Yc jw Z Z<|zt (cs := [.str ⟨#[]⟩, .raw (.slice none 0 0), .raw (.slice none 0 0), .int .i64 0, .int .i64 0, .int .i64 0, .int .i64 0]) Zd Z Z<|fun i7 => zn jw Z Z Z Z Z Z .head Z<|zd (yf (t := 7) Z .head)<|z2<|zc<|zSr<|zVzFF je Z Zn Z Z<|zVzLf Y4 Z<|zVGvlenM jx Z<|zVzMi Z<|z2<|zi<|y7 (γ := Nat) [1, 7, 13, 14, 15, 20, 21] (fun j => [(22, .int .i64 j), (5, .int .i64 (cntE v (evTo f k ++ evPh k (b.phis.take j))))]) (fun j => []) (fun j => j ≤ b.phis.length) (fun j => b.phis.length - j) 0 ⟨Z, (by rw [show evPh k (b.phis.take 0) = [] from rfl, List.append_nil]; rfl), trivial⟩ zLe (qt _) ?_
  rintro j hj
  refine zSr<|zVGvlss Z Z<|z2<|zc<|zo Z (fun cj=>?_) (fun cj=>?_)
  ·have hj2 : j < b.phis.length := by simp at cj; omega
   have hsc := cntE_push v (evTo f k ++ evPh k (b.phis.take j)) b.phis[j].dst ((k : Int), (-1 : Int))
   rw [qs, ← evPh_succ k hj2] at hsc
   have hcl : cntE v (evTo f k ++ evPh k (b.phis.take j)) ≤ 2001000 := by
    have h1 := cntE_le v (evTo f k ++ evPh k (b.phis.take j))
    have h2 : (evPh k (b.phis.take j)).length ≤ 1000 := by unfold evPh; rw [qx, w3]; omega
    rw [qw] at h1; omega
   refine zf<|zc<|zi<|zSr<|z8 (zIM j jx Z0 Z Z Z (qq hj2))<|zVGvloadWF Yf Z0 Z Z<|zt (cs := [.int .i64 0, .raw (.slice none 0 0), .raw (.slice none 0 0)]) Zk Z Z<|fun i9 => zn Z0 Z Z Z Z Z Z .head Z<|zd (yf (t := 9) Z .head)<|z2<|zSr<|zVzFF js Z j7 Z Z<|zVzLi j9 Z<|zVzMi Z<|zVGveqlI Z Z<|z2<|zu Z (fun cd=>?_) (fun cd=>?_)
   ·have hd : b.phis[j].dst = (v : Int) := by simpa using cd
    rw [if_pos hd] at hsc
    refine zRg<|zVzMi Z<|zVzAd Z Z<|zVzAi Z<|z2<|zRg<|zVzAd Z Z<|zVzMi Z<|z2 ?_
    exact ⟨j + 1, zR7, ⟨rfl, (by rw [hsc]; rfl), trivial⟩, zLe, hj2, by omega⟩
   ·have hd : ¬ b.phis[j].dst = (v : Int) := by simpa using cd
    rw [if_neg hd] at hsc
    refine zf<|zRg<|zVzAd Z Z<|zVzMi Z<|z2 ?_
    exact ⟨j + 1, zR7, ⟨rfl, (by rw [hsc]; rfl), trivial⟩, zLe, hj2, by omega⟩
  ·have hjn : j = b.phis.length := by simp at cj; omega
   subst hjn
   rw [qv]
   refine y6<|zSr<|zVzFF je Z Zb Z Z<|zVzLf Zw Z<|zVGvlenM jv Z<|zVzMi Z<|z2<|zi<|y7 (γ := Nat) [1, 13, 14, 15, 34, 35] (fun j => [(36, .int .i64 j), (5, .int .i64 (cntE v (evTo f k ++ evPh k b.phis ++ evIn k (b.insts.take j))))]) (fun j => []) (fun j => j ≤ b.insts.length) (fun j => b.insts.length - j) 0 ⟨Z, (by rw [show evIn k (b.insts.take 0) = [] from rfl, List.append_nil]; rfl), trivial⟩ zLe (qt _) ?_
   rintro j hj
   refine zSr<|zVGvlss Z Z<|z2<|zc<|zo Z (fun cj=>?_) (fun cj=>?_)
   ·have hj2 : j < b.insts.length := by simp at cj; omega
    have hcl : cntE v (evTo f k ++ evPh k b.phis ++ evIn k (b.insts.take j)) ≤ 2002000 := by
     have h1 := cntE_le v (evTo f k ++ evPh k b.phis ++ evIn k (b.insts.take j))
     have h2 : (evPh k b.phis).length ≤ 1000 := by unfold evPh; rw [qx]; omega
     have h3 := evIn_len k (b.insts.take j)
     rw [w3] at h3
     rw [qw, qw] at h1; omega
    have hsc : cntE v (evTo f k ++ evPh k b.phis ++ evIn k (b.insts.take (j + 1))) = cntE v (evTo f k ++ evPh k b.phis ++ evIn k (b.insts.take j)) + if b.insts[j].dst = (v : Int) then 1 else 0 := by
     rw [evIn_succ k hj2]
     split
     ·rw [← qs, cntE_push]
     ·rw [List.append_nil, if_neg (by omega)]; rfl
    refine zf<|zc<|zi<|zSr<|z8 (zIM j jv Z2 Z Z Z (qq hj2))<|zVGvloadWF Yg Z2 Z Z<|zt (cs := [.int .i64 0, .int .i64 0, .raw (.slice none 0 0), .int .i64 0]) Zy Z Z<|fun i11 => zn Z2 Z Z Z Z Z Z .head Z<|zd (yf (t := 11) Z .head)<|z2<|zSr<|zVzFF ji Z j7 Z Z<|zVzLi j9 Z<|zVzMi Z<|zVGveqlI Z Z<|z2<|zu Z (fun cd=>?_) (fun cd=>?_)
    ·have hd : b.insts[j].dst = (v : Int) := by simpa using cd
     rw [if_pos hd] at hsc
     refine zRg<|zVzMi Z<|zVzAd Z Z<|zVzAi Z<|z2<|zRg<|zVzAd Z Z<|zVzMi Z<|z2 ?_
     exact ⟨j + 1, zR6, ⟨rfl, (by rw [hsc]; rfl), trivial⟩, zLe, hj2, by omega⟩
    ·have hd : ¬ b.insts[j].dst = (v : Int) := by simpa using cd
     rw [if_neg hd] at hsc
     refine zf<|zRg<|zVzAd Z Z<|zVzMi Z<|z2 ?_
     exact ⟨j + 1, zR6, ⟨rfl, (by rw [hsc]; rfl), trivial⟩, zLe, hj2, by omega⟩
   ·have hjn : j = b.insts.length := by simp at cj; omega
    subst hjn
    rw [qv]
    refine y6<|zRg<|zVzAd Z Z<|zVzMi Z<|z2 ?_
    exact ⟨k + 1, zR3, ⟨rfl, (by rw [evTo_succ hk2, hbk, evBl, ← qs]; rfl), trivial⟩, zLe, hk2, by omega⟩
 ·have hkn : k = f.blocks.length := by simp at ck; omega
  subst hkn
  refine y6<|zSr<|zVzMi Z<|zVzAi Z<|z2<|zj<|zk (x := .int _ _) Z ?_
  rw [makings_cnt]
theorem refAhead_spec (f : PFunc) (hE : EndsOk f) (hf : small f) (v : Nat) (b a : Int) (h0 : 0 ≤ b) (hb : b < f.blocks.length) : AFun prog E 25 [.agg (encF f), .int .i64 v, .int .i64 b, .int .i64 a] (.bool (aheadR f (makerT f v) b a)) := by
 have hn := hf.2.2.1
 refine zp func25 Z (by decide) Z<|zSr<|yc (cs := _) Z Z Z<|zVzAb Z<|z2<|zSr<|zVGvloadWF jq jj Z Z<|zVzMi Z<|zg (Maker_spec f hf v) Z<|z8 (zMu Z)<|z8 (zXi Z Z)<|z8 (zXi Z Z)<|zVzAi Z<|zVzAi Z<|z2<|zc<|zi<|zSr<|zVzMi Z<|zVGvlss Z Z<|zVzAb Z<|z2<|zo Z (fun c0=>?_) (fun c0=>?_)
 ·refine zSr<|zVzAb Z<|z2<|zj<|zk (x := .bool _) Z ?_
  rw [aheadR, if_pos c0]
 ·refine zSr<|zVzMi Z<|zVzMi Z<|zVGveqlI Z Z<|zVzAb Z<|z2<|zu Z (fun c1=>?_) (fun c1=>?_)
  ·have d1 : (makerT f v).1 = b := by simpa using c1
   refine zSr<|zVzMi Z<|zVzMi Z<|zVGvlss Z Z<|zVzAb Z<|z2<|zj<|zk (x := .bool _) Z ?_
   rw [aheadR, if_neg c0, if_pos d1]
  ·have d1 : ¬ (makerT f v).1 = b := by simpa using c1
   have hg := reachT_get (E := EndsOf f) (n := f.blocks.length) (k := b.toNat) (shut := (makerT f v).1) (by omega)
   rw [show ((b.toNat : Nat) : Int) = b by omega] at hg
   refine zf<|zSr<|zVGvloadWF jq jj Z Z<|zVzMi Z<|zg (reached_spec f hE hn (makerT f v).1) Z<|zVzMi Z<|z8 (zIM b.toNat jm Z5 Z Z (by omega) hg)<|z8 (q9 (c := .bool _) Yy Z)<|zVGvnot Z<|zVzAb Z<|z2<|zj<|zk (x := .bool _) Z ?_
   rw [aheadR, if_neg c0, if_neg d1]
end Go.Proofs.YtiojekbkamegdaaGreatDoor
namespace Go.Proofs.YtiojekbkamegdaaGreatDoor
open Go.Proofs.Tryz
open Go.Proofs Go.Lib Go.Shelf Go.RowKit
variable {E : World}
set_option maxRecDepth 20000
theorem phJ_iff {f : PFunc} (hE : EndsOk f) (i : Nat) (p : PPhi) : phJ f i p = true ↔ JoinR f i p.from_ := by
 unfold phJ
 rw [w9, joinS_iff, joinR_iff hE]
theorem filter_one {l : List Int} (hn : l.Nodup) {i : Int} (h : i ∈ l) : (l.filter fun c => decide (c = i)) = [i] := by
 induction l with
 | nil => cases h
 | cons c l ih =>
  obtain ⟨h1, h2⟩ := List.nodup_cons.1 hn
  by_cases e : c = i
  ·subst e
   have : (l.filter fun x => decide (x = c)) = [] := List.filter_eq_nil_iff.2 fun x hx => by
    simp only [w9]; rintro rfl; exact h1 hx
   simp [this]
  ·rw [List.filter_cons_of_neg (by simpa using e)]
   rcases List.mem_cons.1 h with h3 | h3
   ·exact absurd h3.symm e
   ·exact ih h2 h3
theorem predsT_one {f : PFunc} (k : Nat) (i : Int) : (predsT (EndsOf f) (k + 1) i).length = (predsT (EndsOf f) k i).length + if i ∈ EndsOf f k then 1 else 0 := by
 rw [predsT_succ, qw, qx]
 have hn := EndsOf_nodup f k
 congr 1
 by_cases h : i ∈ EndsOf f k
 ·rw [if_pos h]
  have h1 := filter_one hn h
  rw [h1]; rfl
 ·rw [if_neg h]
  have h1 : ((EndsOf f k).filter fun c => decide (c = i)) = [] := List.filter_eq_nil_iff.2 fun c hc => by
   simp only [w9]; rintro rfl; exact h hc
  rw [h1]; rfl
set_option maxHeartbeats 4000000 in
theorem refJoined_spec (f : PFunc) (hE : EndsOk f) (hf : small f) (hS : ShapedP f) : AFun prog E 96 [.agg (encF f)] (.bool (joinedB f)) := by
 have hn := hf.2.2.1
 refine zp func96 Z (by decide) Z<|zSr<|yc (cs := _) Z Z Z<|zVzAb Z<|z2<|zc<|zSr<|zVzFF jh Z Z1 Z Z<|zVzLf Z8 Z<|zVGvlenM jl Z<|zVzMi Z<|z2<|zi<|y7 (γ := Nat) [1, 13, 14] (fun i => [(15, .int .i64 i)]) (fun i => []) (fun i => i ≤ f.blocks.length ∧ (List.range i).all (blkJ f) = true) (fun i => f.blocks.length - i) 0 zR1 zLe (⟨qt _, Z⟩) ?_
 rintro i ⟨hi, hall⟩
 refine zSr<|zVGvlss Z Z<|z2<|zc<|zo Z (fun ci=>?_) (fun ci=>?_)
 ·have hi2 : i < f.blocks.length := by simp at ci; omega
  obtain ⟨b, hbi⟩ : ∃ b, f.blocks[i] = b := ⟨_, rfl⟩
  have hget : f.blocks[i]? = some b := by rw [qq hi2, hbi]
  have hmem : b ∈ f.blocks := hbi ▸ qu hi2
  obtain ⟨hb0, hb1, hb2, hb3, hb4⟩ := hf.2.2.2.2 b hmem
  have hPh := (hS.2.2.2.2.2 b hmem).1
  refine zf<|zc<|zi<|zSr<|zVzMi Z<|z8 (zIM i jl jw Z Z Z hget)<|zVGvloadWF Yc jw Z Z<|zt (cs := [.str ⟨#[]⟩, .raw (.slice none 0 0), .raw (.slice none 0 0), .int .i64 0, .int .i64 0, .int .i64 0, .int .i64 0]) Zd Z Z<|fun i4 => zVzAi Z<|zn jw Z Z Z Z Z Z .head Z<|zd (yf (t := 4) Z .head)<|z2<|zSr<|zVzFF je Z Zn Z Z<|zVzLf Y4 Z<|zVGvlenM jx Z<|zVzMi Z<|z2<|zi<|y7 (γ := Nat) [1, 3, 13, 14, 15, 21, 22] (fun j => [(23, .int .i64 j)]) (fun j => []) (fun j => j ≤ b.phis.length ∧ (b.phis.take j).all (phJ f i) = true) (fun j => b.phis.length - j) 0 zR1 zLe (⟨qt _, Z⟩) ?_
  rintro j ⟨hj, hjall⟩
  refine zSr<|zVGvlss Z Z<|z2<|zc<|zo Z (fun cj=>?_) (fun cj=>?_)
  ·have hj2 : j < b.phis.length := by simp at cj; omega
   obtain ⟨p, hp⟩ : ∃ p, b.phis[j] = p := ⟨_, rfl⟩
   have hpm : p ∈ b.phis := hp ▸ qu hj2
   have hpl := (hb3 p hpm).2
   have hpr : ∀ c ∈ p.from_, 0 ≤ c ∧ c < f.blocks.length := fun c hc => by have := List.all_eq_true.1 (hPh p hpm).2.2.2.2 c hc; simpa [hasB] using this
   have hbad : ¬ JoinR f i p.from_ → joinedB f = false := fun h => range_all_bad hi2 (by rw [blkJ_at hget]; exact Bool.eq_false_iff.2 (all_bad hj2 (by rw [hp]; exact Bool.eq_false_iff.2 fun h2 => h ((phJ_iff hE i p).1 h2))))
   refine zf<|zc<|zi<|zSr<|z8 (zIM j jx Z0 Z Z Z (by rw [qq hj2, hp])) ?_
   refine zVGvloadWF Yf Z0 Z Z<|zt (cs := [.int .i64 0, .raw (.slice none 0 0), .raw (.slice none 0 0)]) Zk Z Z<|fun i6 => zn Z0 Z Z Z Z Z Z .head Z<|zd (yf (t := 6) Z .head)<|z2<|zSr<|zVzAi Z<|z2<|zc<|zSr<|zVzFF jh Z Z1 Z Z<|zVzLf Z8 Z<|zVGvlenM jl Z<|zVzMi Z<|z2<|zi<|y7 (γ := Nat) [1, 3, 6, 13, 14, 15, 21, 22, 23, 29] (fun a => [(30, .int .i64 a), (7, .int .i64 (predsT (EndsOf f) a i).length)]) (fun a => []) (fun a => a ≤ f.blocks.length) (fun a => f.blocks.length - a) 0 zR2 zLe (qt _) ?_
   rintro a ha
   refine zSr<|zVGvlss Z Z<|z2<|zc<|zo Z (fun ca=>?_) (fun ca=>?_)
   ·have ha2 : a < f.blocks.length := by simp at ca; omega
    have hone := predsT_one (f := f) a i
    have hle := predsT_len f i a
    refine zf<|zc<|zi<|zSr<|zVzMi Z<|zVzAi Z<|z2<|zSr<|zVGvloadWF jq jj Z Z<|zVzMi Z<|zVzMi Z<|zg (leads_spec f hn (a : Int) (i : Int) (by omega) (by omega)) Z<|z2<|zu Z (fun cl=>?_) (fun cl=>?_)
    ·have hl : (i : Int) ∈ EndsOf f a := by simpa using cl
     rw [if_pos hl] at hone
     refine zRg<|zVzMi Z<|zVzAd Z Z<|zVzAi Z<|z2<|zRg<|zVzAd Z Z<|zVzMi Z<|z2 ?_
     exact ⟨a + 1, zR10, ⟨rfl, (by rw [hone]; rfl), trivial⟩, zLe, ha2, by omega⟩
    ·have hl : ¬ (i : Int) ∈ EndsOf f a := by simpa using cl
     rw [if_neg hl] at hone
     refine zf<|zRg<|zVzAd Z Z<|zVzMi Z<|z2 ?_
     exact ⟨a + 1, zR10, ⟨rfl, (by rw [hone]; rfl), trivial⟩, zLe, ha2, by omega⟩
   ·have han : a = f.blocks.length := by simp at ca; omega
    subst han
    refine y6<|zc<|zSr<|zVzMi Z<|zVzFF js Z jd Z Z<|zVzLf jk Z<|zVGvlenM j6 Z<|zVGvneqI Z Z<|z2<|zu Z (fun cn=>?_) (fun cn=>?_)
    ·have hne : ¬ (predsT (EndsOf f) f.blocks.length i).length = p.from_.length := by have h0 : ¬ ((predsT (EndsOf f) f.blocks.length i).length : Int) = (p.from_.length : Int) := (by simpa using cn); omega
     refine zSr<|zVzAb Z<|z2<|zj<|zk (x := .bool _) Z ?_
     rw [hbad fun h => hne h.1]
    ·have hne : (predsT (EndsOf f) f.blocks.length i).length = p.from_.length := by have h0 : ((predsT (EndsOf f) f.blocks.length i).length : Int) = (p.from_.length : Int) := (by simpa using cn); omega
     refine zf<|zSr<|zVzFF js Z jd Z Z<|zVzLf jk Z<|zVGvlenM j6 Z<|zVzMi Z<|z2<|zi<|y7 (γ := Nat) [1, 3, 6, 13, 14, 15, 21, 22, 23, 46, 47] (fun k => [(48, .int .i64 k)]) (fun k => []) (fun k => k ≤ p.from_.length ∧ ∀ q (h : q < p.from_.length), q < k → (i : Int) ∈ EndsOf f p.from_[q] ∧ p.from_[q] ∉ p.from_.take q) (fun k => p.from_.length - k) 0 zR1 zLe (⟨qt _, fun q h h2 => by omega⟩) ?_
     rintro k ⟨hk, hok⟩
     refine zSr<|zVGvlss Z Z<|z2<|zc<|zo Z (fun ck=>?_) (fun ck=>?_)
     ·have hk2 : k < p.from_.length := by simp at ck; omega
      obtain ⟨c, hc⟩ : ∃ c, p.from_[k] = c := ⟨_, rfl⟩
      obtain ⟨hc0, hcn⟩ := hpr c (hc ▸ qu hk2)
      refine zf<|zc<|zi<|zSr<|zVzMi Z<|z8 (zIM k j6 j7 Z Z Z (by rw [qq hk2, hc])) ?_
      refine zVzLi j9 Z<|zVzAi Z<|zVzAi Z<|z2<|zc<|zSr<|zVGvloadWF jq jj Z Z<|zVzMi Z<|zVzMi Z<|zg (leads_spec f hn c (i : Int) hc0 hcn) Z<|zVGvnot Z<|z2<|zu Z (fun cl=>?_) (fun cl=>?_)
      ·have hl : ¬ (i : Int) ∈ EndsOf f c := by simpa using cl
       refine zSr<|zVzAb Z<|z2<|zj<|zk (x := .bool _) Z ?_
       rw [hbad fun h => hl (hc ▸ (h.2 k hk2).1)]
      ·have hl : (i : Int) ∈ EndsOf f c := by simpa using cl
       refine zf<|zSr<|zVzMi Z<|zVzMi Z<|z2<|zi<|y7 (γ := Nat) [1, 3, 6, 10, 13, 14, 15, 21, 22, 23, 46, 47, 48, 58] (fun q => [(59, .int .i64 q)]) (fun q => []) (fun q => q ≤ k ∧ c ∉ p.from_.take q) (fun q => k - q) 0 zR1 zLe (⟨qt _, by simp⟩) ?_
       rintro q ⟨hq, hqn⟩
       refine zSr<|zVGvlss Z Z<|z2<|zc<|zo Z (fun cq=>?_) (fun cq=>?_)
       ·have hq2 : q < k := by omega
        have hq3 : q < p.from_.length := by omega
        refine zf<|zc<|zi<|zSr<|zVzMi Z<|zVzAi Z<|z2<|zSr<|zVzFF js Z jd Z Z<|zVzLf jk Z<|zVzMi Z<|z8 (zIM q j6 j7 Z Z Z (qq hq3))<|zVzLi j9 Z<|zVzMi Z<|zVGveqlI Z Z<|z2<|zu Z (fun ce=>?_) (fun ce=>?_)
        ·have he : p.from_[q] = c := by simpa using ce
         have hin : c ∈ p.from_.take k := by rw [← he]; exact List.mem_take_iff_getElem.2 ⟨q, by omega, rfl⟩
         refine zSr<|zVzAb Z<|z2<|zj<|zk (x := .bool _) Z ?_
         rw [hbad fun h => (h.2 k hk2).2 (by rw [hc]; exact hin)]
        ·have he : ¬ p.from_[q] = c := by simpa using ce
         refine zf<|zRg<|zVzAd Z Z<|zVzMi Z<|z2 ?_
         exact ⟨q + 1, ⟨rfl, rfl, rfl, rfl, rfl, rfl, rfl, rfl, rfl, rfl, rfl, rfl, rfl, rfl, trivial⟩, zR1, zLe, ⟨hq2, fun hm => by rw [qr hq3] at hm; rcases List.mem_append.1 hm with h1 | h1; exact hqn h1; simp at h1; exact he h1.symm⟩, by omega⟩
       ·have hqn2 : q = k := by omega
        subst hqn2
        refine y6<|zRg<|zVzAd Z Z<|zVzMi Z<|z2 ?_
        exact ⟨q + 1, zR11, zR1, zLe, ⟨hk2, fun r hr h2 => by rcases Nat.lt_succ_iff_lt_or_eq.1 h2 with h3 | h3; exact hok r hr h3; subst h3; rw [hc]; exact ⟨hl, hqn⟩⟩, by omega⟩
     ·have hkn : k = p.from_.length := by simp at ck; omega
      subst hkn
      refine y6<|zRg<|zVzAd Z Z<|zVzMi Z<|z2 ?_
      exact ⟨j + 1, zR7, zR1, zLe, ⟨hj2, all_take hj2 hjall (by rw [hp]; exact (phJ_iff hE i p).2 ⟨hne, fun q hq => hok q hq hq⟩)⟩, by omega⟩
  ·have hjn : j = b.phis.length := by simp at cj; omega
   subst hjn
   rw [qv] at hjall
   refine y6<|zRg<|zVzAd Z Z<|zVzMi Z<|z2 ?_
   exact ⟨i + 1, zR3, zR1, zLe, ⟨hi2, range_all_succ hall (by rw [blkJ_at hget]; exact hjall)⟩, by omega⟩
 ·have hin : i = f.blocks.length := by simp at ci; omega
  subst hin
  refine y6<|zSr<|zVzAb Z<|z2<|zj<|zk (x := .bool _) Z ?_
  rw [show joinedB f = true from hall]
end Go.Proofs.YtiojekbkamegdaaGreatDoor
namespace Go.Proofs.YtiojekbkamegdaaGreatDoor
open Go.Proofs.Tryz
open Go.Proofs Go.Lib Go.Shelf Go.RowKit
variable {E : World}
set_option maxRecDepth 20000
theorem hasV_nat {f : PFunc} {v : Int} (h : hasV f v = true) : ∃ k : Nat, v = (k : Int) ∧ k < f.vars.length := by
 have h1 : 0 ≤ v ∧ v < f.vars.length := by simpa [hasV] using h
 exact ⟨v.toNat, by omega, by omega⟩
theorem refAheadV_spec (f : PFunc) (hE : EndsOk f) (hf : small f) {v : Int} (hv : hasV f v = true) (b a : Int) (h0 : 0 ≤ b) (hb : b < f.blocks.length) : AFun prog E 25 [.agg (encF f), .int .i64 v, .int .i64 b, .int .i64 a] (.bool (aheadR f (makerT f v) b a)) := by
 obtain ⟨k, rfl, hk⟩ := hasV_nat hv
 exact refAhead_spec f hE hf k b a h0 hb
theorem atR_bad {f : PFunc} {i : Nat} {b : PBlock} (hi : i < f.blocks.length) (hg : f.blocks[i]? = some b) (h : blkR f i b = false) : singR f = false := by
 unfold singR; rw [range_all_bad hi (by rw [atR_at hg]; exact h)]; simp
set_option maxHeartbeats 8000000 in
theorem refSingle_spec (f : PFunc) (hE : EndsOk f) (hf : small f) (hS : ShapedP f) : AFun prog E 45 [.agg (encF f)] (.bool (singR f)) := by
 have hn := hf.2.2.1
 have hv := hf.1
 have hG := hE.grph
 refine zp func45 Z (by decide) Z<|zSr<|yc (cs := _) Z Z Z<|zVzAb Z<|z2<|zc<|zSr<|zVGvloadWF jq jj Z Z<|zg (refJoined_spec f hE hf hS) Z<|zVGvnot Z<|z2<|zu Z (fun cj=>?_) (fun cj=>?_)
 ·have dj : joinedB f = false := by simpa using cj
  refine zSr<|zVzAb Z<|z2<|zj<|zk (x := .bool _) Z ?_
  rw [show singR f = false by unfold singR; rw [dj]; rfl]
 ·have dj : joinedB f = true := by simpa using cj
  refine zf<|zSr<|zVGvloadWF jq jj Z Z<|zg (reached_spec f hE hn (-1)) Z<|z8 (zAf Z)<|z2<|zc<|zSr<|zVzFF jh Z Ya Z Z<|zVzLf Yk Z<|zVGvlenM Z4 Z<|zVzMi Z<|z2<|zi<|y7 (γ := Nat) [1, 3, 23] (fun v => [(24, .int .i64 v)]) (fun v => []) (fun v => v ≤ f.vars.length ∧ (List.range v).all (onceV f) = true) (fun v => f.vars.length - v) 0 zR1 zLe (⟨qt _, Z⟩) ?_
  rintro v ⟨hvl, hall⟩
  refine zSr<|zVGvlss Z Z<|z2<|zc<|zo Z (fun cv=>?_) (fun cv=>?_)
  ·have hv2 : v < f.vars.length := by simp at cv; omega
   have hbad : onceV f v = false → singR f = false := fun h => by unfold singR; rw [show onceB f = false from range_all_bad hv2 h]; simp
   refine zf<|zc<|zi<|zSr<|zVzMi Z<|zVzAi Z<|z2<|zSr<|zVGvloadWF jq jj Z Z<|zVzMi Z<|zg (refMakings_spec f hf v) Z<|zVzAi Z<|z2<|zSr<|zVzMi Z<|zVGvgtr Z Z<|zVzMb Z<|zq (s := 32) Z (fun c1=>?_) (fun c1=>?_)
   ·have d1 : 1 < (makings f v).length := by have h0 : (1 : Int) < ((makings f v).length : Int) := (by simpa using c1); omega
    refine z6 Z Z c1<|z6 Z Z c1<|z6 Z Z c1<|zh Z Z<|zh Z Z<|zh Z Z<|zh Z Z<|zh Z Z<|z6 Z Z c1<|zVzPt Z c1 Z<|z2<|yq Z Z<|zSr<|zVzAb Z<|z2<|zj<|zk (x := .bool _) Z ?_
    rw [hbad (by unfold onceV; simp [d1])]
   ·have d1 : ¬ 1 < (makings f v).length := by have h0 : ¬ (1 : Int) < ((makings f v).length : Int) := (by simpa using c1); omega
    refine z7 Z Z c1<|zVzMi Z<|z7 Z Z c1<|zVGvgtr Z Z<|z7 Z Z c1<|zVzMb Z<|zq (s := 35) Z (fun c2=>?_) (fun c2=>?_)
    ·have d2 : 0 < (makings f v).length := by have h0 : (0 : Int) < ((makings f v).length : Int) := (by simpa using c2); omega
     refine z7 Z Z c2<|zVzMi Z<|z7 Z Z c2<|zVzFF jh Z jd Z Z<|z7 Z Z c2<|zVzLf jk Z<|z7 Z Z c2<|zVGvlenM j6 Z<|z7 Z Z c2<|zVGvlss Z Z<|z7 Z Z c1<|zVzPt Z c2 Z<|zVzPf Z c1 Z<|z2<|zu Z (fun c3=>?_) (fun c3=>?_)
     ·have d3 : v < f.params.length := by simpa using c3
      refine zSr<|zVzAb Z<|z2<|zj<|zk (x := .bool _) Z ?_
      rw [hbad (by unfold onceV; rw [w4 d2, w4 d3]; simp)]
     ·have d3 : ¬ v < f.params.length := by simpa using c3
      refine zf<|zRg<|zVzAd Z Z<|zVzMi Z<|z2 ?_
      exact ⟨v + 1, zR3, zR1, zLe, ⟨hv2, range_all_succ hall (by unfold onceV; rw [w5 d1, w5 d3]; simp)⟩, by omega⟩
    ·have d2 : ¬ 0 < (makings f v).length := by have h0 : ¬ (0 : Int) < ((makings f v).length : Int) := (by simpa using c2); omega
     refine z6 Z Z c2<|z6 Z Z c2<|z6 Z Z c2<|z6 Z Z c2<|z6 Z Z c2<|z7 Z Z c1<|zVzPf Z c2 Z<|zVzPf Z c1 Z<|z2<|yj Z Z<|zf<|zRg<|zVzAd Z Z<|zVzMi Z<|z2 ?_
     exact ⟨v + 1, zR3, zR1, zLe, ⟨hv2, range_all_succ hall (by unfold onceV; rw [w5 d1, w5 d2]; rfl)⟩, by omega⟩
  ·have hvn : v = f.vars.length := by simp at cv; omega
   subst hvn
   have donce : onceB f = true := hall
   refine y6<|zc<|zSr<|zVzFF jh Z Z1 Z Z<|zVzLf Z8 Z<|zVGvlenM jl Z<|zVzMi Z<|z2<|zi<|y7 (γ := Nat) [1, 3, 45, 46] (fun i => [(47, .int .i64 i)]) (fun i => []) (fun i => i ≤ f.blocks.length ∧ (List.range i).all (atR f) = true) (fun i => f.blocks.length - i) 0 zR1 zLe (⟨qt _, Z⟩) ?_
   rintro i ⟨hi, hiall⟩
   refine zSr<|zVGvlss Z Z<|z2<|zc<|zo Z (fun ci=>?_) (fun ci=>?_)
   ·have hi2 : i < f.blocks.length := by simp at ci; omega
    obtain ⟨b, hbi⟩ : ∃ b, f.blocks[i] = b := ⟨_, rfl⟩
    have hget : f.blocks[i]? = some b := by rw [qq hi2, hbi]
    have hmem : b ∈ f.blocks := hbi ▸ qu hi2
    obtain ⟨hb0, hb1, hb2, hb3, hb4⟩ := hf.2.2.2.2 b hmem
    obtain ⟨hPh, hIn, hTm⟩ := hS.2.2.2.2.2 b hmem
    have hth := reachT_get (E := EndsOf f) (shut := -1) hi2
    refine zf<|zc<|zi<|zSr<|zVzMi Z<|z8 (zIM i jl jw Z Z Z hget)<|zVGvloadWF Yc jw Z Z<|zt (cs := [.str ⟨#[]⟩, .raw (.slice none 0 0), .raw (.slice none 0 0), .int .i64 0, .int .i64 0, .int .i64 0, .int .i64 0]) Zd Z Z<|fun i7 => zVzAi Z<|zn jw Z Z Z Z Z Z .head Z<|zd (yf (t := 7) Z .head)<|z2<|zc<|zSr<|zVzMf Z<|zVzMi Z<|z8 (zIM i jm Z5 Z Z Z hth)<|z8 (q9 (c := .bool _) Yy Z)<|zVGvnot Z<|z2<|zu Z (fun cr=>?_) (fun cr=>?_)
    ·have dr : ¬ Rch (EndsOf f) (i : Int) := fun h => by simp at cr; exact cr ((way_all hG).2 h)
     refine zSr<|zVzAb Z<|z2<|zj<|zk (x := .bool _) Z ?_
     rw [atR_bad hi2 hget (by unfold blkR; simp [dr])]
    ·have dr : Rch (EndsOf f) (i : Int) := by simp at cr; exact (way_all hG).1 cr
     refine zf<|zc<|zSr<|zVzFF je Z Zn Z Z<|zVzLf Y4 Z<|zVGvlenM jx Z<|zVzMi Z<|z2<|zi<|y7 (γ := Nat) [1, 3, 6, 7, 45, 46, 47, 58, 59] (fun j => [(60, .int .i64 j)]) (fun j => []) (fun j => j ≤ b.phis.length ∧ (b.phis.take j).all (phR f) = true) (fun j => b.phis.length - j) 0 zR1 zLe (⟨qt _, Z⟩) ?_
     rintro j ⟨hj, hjall⟩
     refine zSr<|zVGvlss Z Z<|z2<|zc<|zo Z (fun cjj=>?_) (fun cjj=>?_)
     ·have hj2 : j < b.phis.length := by simp at cjj; omega
      obtain ⟨p, hp⟩ : ∃ p, b.phis[j] = p := ⟨_, rfl⟩
      have hpm : p ∈ b.phis := hp ▸ qu hj2
      obtain ⟨hpd, hpl, hpn, hpa, hpf⟩ := hPh p hpm
      have hpb := hb3 p hpm
      refine zf<|zc<|zi<|zSr<|z8 (zIM j jx Z0 Z Z Z (by rw [qq hj2, hp])) ?_
      refine zVGvloadWF Yf Z0 Z Z<|zt (cs := [.int .i64 0, .raw (.slice none 0 0), .raw (.slice none 0 0)]) Zk Z Z<|fun i9 => zn Z0 Z Z Z Z Z Z .head Z<|zd (yf (t := 9) Z .head)<|z2<|zSr<|zVzFF js Z jd Z Z<|zVzLf jk Z<|zVGvlenM j6 Z<|zVzMi Z<|z2<|zi<|y7 (γ := Nat) [1, 3, 6, 7, 9, 45, 46, 47, 58, 59, 60, 65, 66] (fun k => [(67, .int .i64 k)]) (fun k => []) (fun k => k ≤ p.args.length ∧ ((p.args.zip p.from_).take k).all (fun q => aheadR f (makerT f q.1) q.2 (lenAt f q.2)) = true) (fun k => p.args.length - k) 0 zR1 zLe (⟨qt _, Z⟩) ?_
      rintro k ⟨hk, hkall⟩
      refine zSr<|zVGvlss Z Z<|z2<|zc<|zo Z (fun ck=>?_) (fun ck=>?_)
      ·have hk2 : k < p.args.length := by simp at ck; omega
       have hk3 : k < p.from_.length := by omega
       obtain ⟨v, hv⟩ : ∃ v, p.args[k] = v := ⟨_, rfl⟩
       obtain ⟨c, hc⟩ : ∃ c, p.from_[k] = c := ⟨_, rfl⟩
       have hvv := List.all_eq_true.1 hpa v (hv ▸ qu hk2)
       have hcr : 0 ≤ c ∧ c < f.blocks.length := by have := List.all_eq_true.1 hpf c (hc ▸ qu hk3); simpa [hasB] using this
       obtain ⟨d, hd⟩ : ∃ d, f.blocks[c.toNat]'(by omega) = d := ⟨_, rfl⟩
       have hdg : f.blocks[c.toNat]? = some d := by rw [qq (by omega), hd]
       have hla : lenAt f c = d.insts.length := by unfold lenAt; rw [hdg]; rfl
       have hz : k < (p.args.zip p.from_).length := by rw [List.length_zip]; omega
       have hzk : (p.args.zip p.from_)[k] = (v, c) := by rw [List.getElem_zip, hv, hc]
       refine zf<|zc<|zi<|zSr<|zVzMi Z<|z8 (zIM k j6 j7 Z Z Z (by rw [qq hk2, hv])) ?_
       refine zVzLi j9 Z<|zVzAi Z<|zVzAi Z<|z2<|zc<|zr (fun j => false) (by kernel_rfl) Z (zm (.rest _))<|zTk 0 Z (yl jq jj Z Z)<|zTk 1 Z (zMi Z)<|zTk 2 Z (zFF js Z jd Z Z)<|zTk 3 Z (zLf jk Z)<|zTk 4 Z (zMi Z)<|zTk 5 Z (zIM k j6 j7 Z Z Z (by rw [qq hk3, hc])) ?_
       refine zTk 6 Z (zLi j9 Z)<|zTk 7 Z (zFF jh Z Z1 Z Z)<|zTk 8 Z (zLf Z8 Z)<|zTk 9 Z (zFF js Z jd Z Z)<|zTk 10 Z (zLf jk Z)<|zTk 11 Z (zMi Z)<|zTk 12 Z (zIM k j6 j7 Z Z Z (by rw [qq hk3, hc])) ?_
       refine zTk 13 Z (zLi j9 Z)<|zTk 14 Z (zIM c.toNat jl jw Z Z (by omega) hdg)<|zTk 15 Z (zFF je Z Zb Z Z)<|zTk 16 Z (zLf Zw Z)<|zTk 17 Z (Gv.lenM jv Z)<|zOn 18 Z<|zg (refAheadV_spec f hE hf hvv c d.insts.length hcr.1 hcr.2) Z<|z2<|zTk 19 Z (Gv.not Z)<|zDn<|zu Z (fun cq=>?_) (fun cq=>?_)
       ·have hq : aheadR f (makerT f v) c (lenAt f c) = false := by rw [hla]; simpa using cq
        refine zSr<|zVzAb Z<|z2<|zj<|zk (x := .bool _) Z ?_
        rw [atR_bad hi2 hget (by unfold blkR; rw [show b.phis.all (phR f) = false from Bool.eq_false_iff.2 (all_bad hj2 (by rw [hp]; unfold phR; exact Bool.eq_false_iff.2 (all_bad hz (by rw [hzk]; exact hq))))]; simp)]
       ·have hq : aheadR f (makerT f v) c (lenAt f c) = true := by rw [hla]; simpa using cq
        refine zf<|zRg<|zVzAd Z Z<|zVzMi Z<|z2 ?_
        exact ⟨k + 1, ⟨rfl, rfl, rfl, rfl, rfl, rfl, rfl, rfl, rfl, rfl, rfl, rfl, rfl, trivial⟩, zR1, zLe, ⟨hk2, all_take hz hkall (by rw [hzk]; exact hq)⟩, by omega⟩
      ·have hkn : k = p.args.length := by simp at ck; omega
       have hzl : (p.args.zip p.from_).length = p.args.length := by rw [List.length_zip]; omega
       rw [hkn, ← hzl, qv] at hkall
       refine y6<|zRg<|zVzAd Z Z<|zVzMi Z<|z2 ?_
       exact ⟨j + 1, zR9, zR1, zLe, ⟨hj2, all_take hj2 hjall (by rw [hp]; exact hkall)⟩, by omega⟩
     ·have hjn : j = b.phis.length := by simp at cjj; omega
      subst hjn
      rw [qv] at hjall
      refine y6<|zc<|zSr<|zVzFF je Z Zb Z Z<|zVzLf Zw Z<|zVGvlenM jv Z<|zVzMi Z<|z2<|zi<|y7 (γ := Nat) [1, 3, 6, 7, 45, 46, 47, 95, 96] (fun k => [(97, .int .i64 k)]) (fun k => []) (fun k => k ≤ b.insts.length ∧ ((b.insts.zipIdx).take k).all (inR f i) = true) (fun k => b.insts.length - k) 0 zR1 zLe (⟨qt _, Z⟩) ?_
      rintro k ⟨hk, hkall⟩
      refine zSr<|zVGvlss Z Z<|z2<|zc<|zo Z (fun ck=>?_) (fun ck=>?_)
      ·have hk2 : k < b.insts.length := by simp at ck; omega
       obtain ⟨z, hzk⟩ : ∃ z, b.insts[k] = z := ⟨_, rfl⟩
       have hzm : z ∈ b.insts := hzk ▸ qu hk2
       have hI := instP_F (hIn z hzm)
       have hzl := hb4 z hzm
       have hzi : k < b.insts.zipIdx.length := by simp; exact hk2
       have hze : b.insts.zipIdx[k] = (z, k) := by simp [hzk]
       refine zf<|zc<|zi<|zSr<|zVzMi Z<|z8 (zIM k jv Z2 Z Z Z (by rw [qq hk2, hzk])) ?_
       refine zVGvloadWF Yg Z2 Z Z<|zt (cs := [.int .i64 0, .int .i64 0, .raw (.slice none 0 0), .int .i64 0]) Zy Z Z<|fun i13 => zVzAi Z<|zn Z2 Z Z Z Z Z Z .head Z<|zd (yf (t := 13) Z .head)<|z2<|zSr<|zVzFF ji Z jd Z Z<|zVzLf jk Z<|zVGvlenM j6 Z<|zVzMi Z<|z2<|zi<|y7 (γ := Nat) [1, 3, 6, 7, 12, 45, 46, 47, 95, 96, 97, 103, 104] (fun m => [(105, .int .i64 m)]) (fun m => []) (fun m => m ≤ z.args.length ∧ (z.args.take m).all (fun v => aheadR f (makerT f v) i k) = true) (fun m => z.args.length - m) 0 zR1 zLe (⟨qt _, Z⟩) ?_
       rintro m ⟨hm, hmall⟩
       refine zSr<|zVGvlss Z Z<|z2<|zc<|zo Z (fun cm=>?_) (fun cm=>?_)
       ·have hm2 : m < z.args.length := by simp at cm; omega
        obtain ⟨v, hv⟩ : ∃ v, z.args[m] = v := ⟨_, rfl⟩
        have hvv := hI.args v (hv ▸ qu hm2)
        refine zf<|zc<|zi<|zSr<|z8 (zIM m j6 j7 Z Z Z (by rw [qq hm2, hv])) ?_
        refine zVzLi j9 Z<|zVzAi Z<|z2<|zSr<|zVGvloadWF jq jj Z Z<|zVzMi Z<|zVzMi Z<|zVzMi Z<|zg (refAheadV_spec f hE hf hvv (i : Int) (k : Int) (by omega) (by omega)) Z<|zVGvnot Z<|z2<|zu Z (fun cq=>?_) (fun cq=>?_)
        ·have hq : aheadR f (makerT f v) i k = false := by simpa using cq
         refine zSr<|zVzAb Z<|z2<|zj<|zk (x := .bool _) Z ?_
         rw [atR_bad hi2 hget (by unfold blkR; rw [show b.insts.zipIdx.all (inR f i) = false from Bool.eq_false_iff.2 (all_bad hzi (by rw [hze]; unfold inR; exact Bool.eq_false_iff.2 (all_bad hm2 (by rw [hv]; exact hq))))]; simp)]
        ·have hq : aheadR f (makerT f v) i k = true := by simpa using cq
         refine zf<|zRg<|zVzAd Z Z<|zVzMi Z<|z2 ?_
         exact ⟨m + 1, ⟨rfl, rfl, rfl, rfl, rfl, rfl, rfl, rfl, rfl, rfl, rfl, rfl, rfl, trivial⟩, zR1, zLe, ⟨hm2, all_take hm2 hmall (by rw [hv]; exact hq)⟩, by omega⟩
       ·have hmn : m = z.args.length := by simp at cm; omega
        rw [hmn, qv] at hmall
        refine y6<|zRg<|zVzAd Z Z<|zVzMi Z<|z2 ?_
        exact ⟨k + 1, zR9, zR1, zLe, ⟨hk2, all_take hzi hkall (by rw [hze]; exact hmall)⟩, by omega⟩
      ·have hkn : k = b.insts.length := by simp at ck; omega
       rw [hkn, show b.insts.length = b.insts.zipIdx.length by simp, qv] at hkall
       refine y6<|zSr<|zVzFF je Z Ze Z Z<|zVzFF jf Z Zu Z Z<|zVzLi Y3 Z<|zVGvneqI Z Z<|zVzMb Z<|zq (s := 121) Z (fun c0=>?_) (fun c0=>?_)
       ·have d0 : ¬ b.term.kind = 0 := by simpa using c0
        refine z7 Z Z c0<|zVGvloadWF jq jj Z Z<|z7 Z Z c0<|zVzFF je Z Ze Z Z<|z7 Z Z c0<|zVzFF jf Z j7 Z Z<|z7 Z Z c0<|zVzLi j9 Z<|z7 Z Z c0<|zVzMi Z<|z7 Z Z c0<|zVzFF je Z Zb Z Z<|z7 Z Z c0<|zVzLf Zw Z<|z7 Z Z c0<|zVGvlenM jv Z<|z7 Z Z c0<|zg (refAheadV_spec f hE hf (term_var hTm d0) (i : Int) (b.insts.length : Int) (by omega) (by omega)) Z<|z7 Z Z c0<|zVGvnot Z<|zVzPt Z c0 Z<|z2<|zu Z (fun cq=>?_) (fun cq=>?_)
        ·have hq : aheadR f (makerT f b.term.var) i b.insts.length = false := by simpa using cq
         refine zSr<|zVzAb Z<|z2<|zj<|zk (x := .bool _) Z ?_
         rw [atR_bad hi2 hget (by unfold blkR tmR; rw [hq, w5 d0]; simp)]
        ·have hq : aheadR f (makerT f b.term.var) i b.insts.length = true := by simpa using cq
         refine zf<|zRg<|zVzAd Z Z<|zVzMi Z<|z2 ?_
         exact ⟨i + 1, zR4, zR1, zLe, ⟨hi2, range_all_succ hiall (by rw [atR_at hget]; unfold blkR tmR; rw [hjall, hkall, hq]; simp [dr])⟩, by omega⟩
       ·have d0 : b.term.kind = 0 := by simpa using c0
        refine z6 Z Z c0<|z6 Z Z c0<|z6 Z Z c0<|z6 Z Z c0<|z6 Z Z c0<|z6 Z Z c0<|z6 Z Z c0<|z6 Z Z c0<|z6 Z Z c0<|z6 Z Z c0<|zVzPf Z c0 Z<|z2<|yj Z Z<|zf<|zRg<|zVzAd Z Z<|zVzMi Z<|z2 ?_
        exact ⟨i + 1, zR4, zR1, zLe, ⟨hi2, range_all_succ hiall (by rw [atR_at hget]; unfold blkR tmR; rw [hjall, hkall, d0]; simp [dr])⟩, by omega⟩
   ·have hin : i = f.blocks.length := by simp at ci; omega
    subst hin
    refine y6<|zSr<|zVzAb Z<|z2<|zj<|zk (x := .bool _) Z ?_
    rw [show singR f = true by unfold singR; rw [dj, donce, hiall]; rfl]
end Go.Proofs.YtiojekbkamegdaaGreatDoor
namespace Go.Proofs.YtiojekbkamegdaaGreatDoor
open Go.Proofs.Tryz
open Go.Proofs Go.Lib Go.Shelf Go.RowKit
variable {E : World}
set_option maxRecDepth 20000
theorem rof_spec (f : PFunc) (v : Int) (hv : hasV f v = true) : AFun prog E 101 [.agg (encF f), .int .i64 v] (.int .i64 (kindV f v)) := by
 obtain ⟨x, hx, hv2, hk⟩ := hasV_get hv
 rw [hk]
 refine zp func101 Z (by decide) Z<|zSr<|yc (cs := _) Z Z Z<|zVzAi Z<|z2<|zSr<|zVzFF jh Z Ya Z Z<|zVzLf Yk Z<|zVzMi Z<|z8 (zIM v.toNat Z4 Ye Z Z hv2 hx)<|zVzFF Zl Z X5 Z Z<|zVzLi isAgg77 Z<|zVzAi Z<|z2<|zj<|zk (x := .int _ _) Z ?_
 rfl
theorem rtype_spec (c : Int) : AFun prog E 103 [.int .u8 c] (.int .i64 (typeOf c)) := by
 refine zp func103 Z (by decide) Z<|zSr<|zVzAi Z<|z2<|zc<|zSr<|zVzMi Z<|z2<|zi<|zSr<|zVGveqlI Z Z<|zVzAb Z<|z2<|zu Z (fun c1=>?_) (fun c1=>?_)
 ·refine zSr<|zVzAi Z<|z2<|zj<|zk (x := .int _ _) Z ?_
  unfold typeOf; simp_all
 ·refine zSr<|zVGveqlI Z Z<|zVzAb Z<|z2<|zu Z (fun c2=>?_) (fun c2=>?_)
  ·refine zSr<|zVzAi Z<|z2<|zj<|zk (x := .int _ _) Z ?_
   unfold typeOf; simp_all
  ·refine zf<|zSr<|zVzAi Z<|z2<|zj<|zk (x := .int _ _) Z ?_
   unfold typeOf; simp_all
theorem copy_word : ∀ j : Nat, j < 27 → decide ((kRow (j : Int)).1 = ⟨#[99, 111, 112, 121]⟩) = decide (j = 1) := by decide
theorem copy_op {op : Int} (h : 0 ≤ op ∧ op ≤ 26) : ((kRow op).1 = ⟨#[99, 111, 112, 121]⟩) ↔ op = 1 := by
 have h1 := copy_word op.toNat (by omega)
 rw [w8 h.1] at h1
 constructor
 ·intro e
  have : decide (op.toNat = 1) = true := by rw [← h1]; exact w4 e
  have := of_decide_eq_true this
  omega
 ·intro e
  have h2 : op.toNat = 1 := by omega
  have : decide ((kRow op).1 = ⟨#[99, 111, 112, 121]⟩) = true := by rw [h1]; exact w4 h2
  exact of_decide_eq_true this
theorem kRow_get {op : Int} (h : 0 ≤ op ∧ op ≤ 26) : kindT[op.toNat]? = some (kRow op) := by
 unfold kRow
 have hl : op.toNat < kindT.length := by have : kindT.length = 27 := rfl; omega
 rw [if_pos h.1, qq hl]; rfl
def wantL (f : PFunc) (x : PInst) : List Int := if x.op = 1 then [kindV f x.dst] else takesL x.op
theorem wantL_len {f : PFunc} {x : PInst} (h : InstF f x) : x.args.length = (wantL f x).length := by
 rw [h.len]
 unfold wantL
 split
 ·rename_i e; rw [e]; rfl
 ·rfl
theorem instT_want {f : PFunc} {x : PInst} (h : InstF f x) : instT f x = (decide (x.args.map (kindV f) = wantL f x) && (!makesB x.op || (decide (x.op = 1) || decide (kindV f x.dst = makesT x.op)))) := by
 unfold instT wantL
 by_cases e : x.op = 1
 ·have hl := h.len
  rw [e, show (takesL 1).length = 1 from rfl] at hl
  obtain ⟨a, ha⟩ := List.length_eq_one_iff.1 hl
  rw [if_pos e, if_pos e, ha]
  simp [e]
  exact eq_comm
 ·rw [if_neg e, if_neg e]; simp [e]
theorem takes_byte {op : Int} {m : Nat} (h : m < (takesL op).length) : ∃ c : UInt8, (kRow op).2.1.data[m]? = some c ∧ (takesL op)[m] = typeOf (c.toNat : Int) := by
 have h1 : m < (kRow op).2.1.data.size := by rw [takes_len] at h; exact h
 have e : (takesL op)[m]? = ((kRow op).2.1.data.toList[m]?).map fun b => typeOf b.toNat := by unfold takesL; rw [qy]
 rw [qq h, Array.getElem?_toList, Array.getElem?_eq_getElem h1] at e
 exact ⟨(kRow op).2.1.data[m], by rw [Array.getElem?_eq_getElem h1], by simpa using e⟩
theorem makes_byte {op : Int} (h : ¬ (kRow op).2.2 = ⟨#[]⟩) : ∃ c : UInt8, (kRow op).2.2.data[0]? = some c ∧ makesT op = typeOf (c.toNat : Int) := by
 unfold makesT
 generalize (kRow op).2.2 = m at h ⊢
 obtain ⟨⟨l⟩⟩ := m
 cases l with
 | nil => exact absurd rfl h
 | cons c l => exact ⟨c, by simp, rfl⟩
end Go.Proofs.YtiojekbkamegdaaGreatDoor
