/- The document's typed; the laws' typed, single and plain. Of programs that are little. -/
import Derived.Test.YtiojekbkamegdaaGreatDoorJn
import Derived.Test.YtiojekbkamegdaaGreatDoorJd
set_option linter.unusedVariables false
set_option linter.unusedSimpArgs false
set_option linter.unusedSectionVars false
namespace Go.Proofs.YtiojekbkamegdaaGreatDoor
open Go.Proofs.Tryz
open Go.Proofs Go.Lib Go.Shelf Go.RowKit
variable {E : World}
set_option maxRecDepth 20000
set_option maxHeartbeats 4000000 in
theorem Maker_spec (f : PFunc) (hf : small f) (v : Nat) : AFun prog E 58 [.agg (encF f), .int .i64 v] (.tup [.int .i64 (makerT f v).1, .int .i64 (makerT f v).2]) := by
 have hn := hf.2.2.1
 refine zn func58 rfl (by decide) rfl<|zSr<|yd (cs := _) rfl rfl rfl<|z2 (zAi rfl)<|z2 (zAi rfl)<|z6<|za<|zSr<|z2 (zFF underlying26 rfl sizeOf24 rfl rfl)<|z2 (zLf isAgg24 rfl)<|z2 (zu underlying24 rfl)<|z2 (zMi rfl)<|z6<|zf<|zz (γ := Nat) [1, 13, 14] (fun k => [(15, .int .i64 k)]) (fun k => []) (fun k => k ≤ f.blocks.length ∧ cntE v (evTo f k) = 0) (fun k => f.blocks.length - k) 0 zR1 zLe (⟨qm _, rfl⟩) ?_
 rintro k ⟨hk, hc⟩
 refine zSr<|z2 (yc rfl rfl)<|z6<|za<|zp rfl (fun ck=>?_) (fun ck=>?_)
 ·have hk2 : k < f.blocks.length := by simp at ck; omega
  obtain ⟨b, hbk⟩ : ∃ b, f.blocks[k] = b := ⟨_, rfl⟩
  have hget : f.blocks[k]? = some b := by rw [qj hk2, hbk]
  have hmem : b ∈ f.blocks := hbk ▸ qn hk2
  obtain ⟨hb0, hb1, hb2, hb3, hb4⟩ := hf.2.2.2.2 b hmem
  refine zd<|za<|zf<|zSr<|z2 (zMi rfl)<|z2 (zIM k underlying24 sizeOf58 rfl rfl rfl hget)<|z2 (zl isAgg58 sizeOf58 rfl rfl)<|y4 (cs := [.str ⟨#[]⟩, .raw (.slice none 0 0), .raw (.slice none 0 0), .int .i64 0, .int .i64 0, .int .i64 0, .int .i64 0]) zeroValue58 rfl rfl<|fun i7 => z2 (zAi rfl)<|zw sizeOf58 rfl rfl rfl rfl rfl rfl .head rfl<|ze (yh (t := 7) rfl .head)<|z6<|za<|zSr<|z2 (zFF underlying58 rfl sizeOf51 rfl rfl)<|z2 (zLf isAgg51 rfl)<|z2 (zu underlying51 rfl)<|z2 (zMi rfl)<|z6<|zf<|zz (γ := Nat) [1, 6, 7, 13, 14, 15, 21, 22] (fun j => [(23, .int .i64 j)]) (fun j => []) (fun j => j ≤ b.phis.length ∧ cntE v (evTo f k ++ evPh k (b.phis.take j)) = 0) (fun j => b.phis.length - j) 0 zR1 zLe (⟨qm _, by rw [show evPh k (b.phis.take 0) = [] from rfl, List.append_nil]; exact hc⟩) ?_
  rintro j ⟨hj, hcj⟩
  refine zSr<|z2 (yc rfl rfl)<|z6<|za<|zp rfl (fun cj=>?_) (fun cj=>?_)
  ·have hj2 : j < b.phis.length := by simp at cj; omega
   have hpre := pre_phi hk2 hbk hj2
   have hsc := cntE_push v (evTo f k ++ evPh k (b.phis.take j)) b.phis[j].dst ((k : Int), (-1 : Int))
   rw [ql, ← evPh_succ k hj2] at hsc
   refine zd<|za<|zf<|zSr<|z2 (zIM j underlying51 sizeOf81 rfl rfl rfl (qj hj2))<|z2 (zl isAgg81 sizeOf81 rfl rfl)<|y4 (cs := [.int .i64 0, .raw (.slice none 0 0), .raw (.slice none 0 0)]) zeroValue81 rfl rfl<|fun i9 => zw sizeOf81 rfl rfl rfl rfl rfl rfl .head rfl<|ze (yh (t := 9) rfl .head)<|z6<|zSr<|z2 (zFF underlying81 rfl sizeOf3 rfl rfl)<|z2 (zLi isAgg3 rfl)<|z2 (zMi rfl)<|z2 (y9 rfl rfl)<|z6<|zr rfl (fun cd=>?_) (fun cd=>?_)
   ·have hd : b.phis[j].dst = (v : Int) := by simpa using cd
    rw [hd] at hpre
    refine zSr<|z2 (zMi rfl)<|z2 (zAi rfl)<|z2 (zAi rfl)<|z6<|zh<|afin.t2 (x := .int _ _) (y := .int _ _) rfl rfl ?_
    rw [maker_hit hpre hcj]
   ·have hd : ¬ b.phis[j].dst = (v : Int) := by simpa using cd
    refine zd<|zRg<|z2 (zAd rfl rfl)<|z2 (zMi rfl)<|z6 ?_
    exact ⟨j + 1, zR8, zR1, zLe, ⟨hj2, by rw [hsc, if_neg hd, hcj]⟩, by omega⟩
  ·have hjn : j = b.phis.length := by simp at cj; omega
   subst hjn
   rw [qo] at hcj
   refine zx<|zSr<|z2 (zFF underlying58 rfl sizeOf52 rfl rfl)<|z2 (zLf isAgg52 rfl)<|z2 (zu underlying52 rfl)<|z2 (zMi rfl)<|z6<|zf<|zz (γ := Nat) [1, 6, 13, 14, 15, 34, 35] (fun j => [(36, .int .i64 j)]) (fun j => []) (fun j => j ≤ b.insts.length ∧ cntE v (evTo f k ++ evPh k b.phis ++ evIn k (b.insts.take j)) = 0) (fun j => b.insts.length - j) 0 zR1 zLe (⟨qm _, by rw [show evIn k (b.insts.take 0) = [] from rfl, List.append_nil]; exact hcj⟩) ?_
   rintro j ⟨hj, hci⟩
   refine zSr<|z2 (yc rfl rfl)<|z6<|za<|zp rfl (fun cj=>?_) (fun cj=>?_)
   ·have hj2 : j < b.insts.length := by simp at cj; omega
    have hev := evIn_succ k hj2
    refine zd<|za<|zf<|zSr<|z2 (zMi rfl)<|z2 (zIM j underlying52 sizeOf61 rfl rfl rfl (qj hj2))<|z2 (zl isAgg61 sizeOf61 rfl rfl)<|y4 (cs := [.int .i64 0, .int .i64 0, .raw (.slice none 0 0), .int .i64 0]) zeroValue61 rfl rfl<|fun i11 => z2 (zAi rfl)<|zw sizeOf61 rfl rfl rfl rfl rfl rfl .head rfl<|ze (yh (t := 11) rfl .head)<|z6<|zSr<|z2 (zFF underlying61 rfl sizeOf3 rfl rfl)<|z2 (zLi isAgg3 rfl)<|z2 (zMi rfl)<|z2 (y9 rfl rfl)<|z6<|zr rfl (fun cd=>?_) (fun cd=>?_)
    ·have hd : b.insts[j].dst = (v : Int) := by simpa using cd
     have hpre := pre_inst hk2 hbk hj2 (by omega)
     rw [hd] at hpre
     refine zSr<|z2 (zMi rfl)<|z2 (zMi rfl)<|z2 (zAi rfl)<|z2 (zAi rfl)<|z6<|zh<|afin.t2 (x := .int _ _) (y := .int _ _) rfl rfl ?_
     rw [maker_hit hpre hci]
    ·have hd : ¬ b.insts[j].dst = (v : Int) := by simpa using cd
     have hsc : cntE v (evTo f k ++ evPh k b.phis ++ evIn k (b.insts.take (j + 1))) = 0 := by
      rw [hev]
      split
      ·rw [← ql, cntE_push, if_neg hd, hci]
      ·rw [List.append_nil]; exact hci
     refine zd<|zRg<|z2 (zAd rfl rfl)<|z2 (zMi rfl)<|z6 ?_
     exact ⟨j + 1, zR7, zR1, zLe, ⟨hj2, hsc⟩, by omega⟩
   ·have hjn : j = b.insts.length := by simp at cj; omega
    subst hjn
    rw [qo] at hci
    refine zx<|zRg<|z2 (zAd rfl rfl)<|z2 (zMi rfl)<|z6 ?_
    exact ⟨k + 1, zR3, zR1, zLe, ⟨hk2, by rw [evTo_succ hk2, hbk, evBl, ← ql]; exact hci⟩, by omega⟩
 ·have hkn : k = f.blocks.length := by simp at ck; omega
  subst hkn
  refine zx<|zSr<|z2 (zAi rfl)<|z2 (zAi rfl)<|z6<|zh<|afin.t2 (x := .int _ _) (y := .int _ _) rfl rfl ?_
  rw [maker_none hc]
set_option maxHeartbeats 4000000 in
theorem refMakings_spec (f : PFunc) (hf : small f) (v : Nat) : AFun prog E 97 [.agg (encF f), .int .i64 v] (.int .i64 (makings f v).length) := by
 have hn := hf.2.2.1
 refine zn func97 rfl (by decide) rfl<|zSr<|yd (cs := _) rfl rfl rfl<|z2 (zAi rfl)<|z6<|zSr<|z2 (zAi rfl)<|z6<|za<|zSr<|z2 (zFF underlying26 rfl sizeOf24 rfl rfl)<|z2 (zLf isAgg24 rfl)<|z2 (zu underlying24 rfl)<|z2 (zMi rfl)<|z6<|zf<|zz (γ := Nat) [1, 13, 14] (fun k => [(15, .int .i64 k), (5, .int .i64 (cntE v (evTo f k)))]) (fun k => []) (fun k => k ≤ f.blocks.length) (fun k => f.blocks.length - k) 0 zR2 zLe (qm _) ?_
 rintro k hk
 refine zSr<|z2 (yc rfl rfl)<|z6<|za<|zp rfl (fun ck=>?_) (fun ck=>?_)
 ·have hk2 : k < f.blocks.length := by simp at ck; omega
  obtain ⟨b, hbk⟩ : ∃ b, f.blocks[k] = b := ⟨_, rfl⟩
  have hget : f.blocks[k]? = some b := by rw [qj hk2, hbk]
  have hmem : b ∈ f.blocks := hbk ▸ qn hk2
  obtain ⟨hb0, hb1, hb2, hb3, hb4⟩ := hf.2.2.2.2 b hmem
  have hel := hf.evs hk
  refine zd<|za<|zf<|zSr<|z2 (zIM k underlying24 sizeOf58 rfl rfl rfl hget)<|z2 (zl isAgg58 sizeOf58 rfl rfl)<|y4 (cs := [.str ⟨#[]⟩, .raw (.slice none 0 0), .raw (.slice none 0 0), .int .i64 0, .int .i64 0, .int .i64 0, .int .i64 0]) zeroValue58 rfl rfl<|fun i7 => zw sizeOf58 rfl rfl rfl rfl rfl rfl .head rfl<|ze (yh (t := 7) rfl .head)<|z6<|za<|zSr<|z2 (zFF underlying58 rfl sizeOf51 rfl rfl)<|z2 (zLf isAgg51 rfl)<|z2 (zu underlying51 rfl)<|z2 (zMi rfl)<|z6<|zf<|zz (γ := Nat) [1, 7, 13, 14, 15, 20, 21] (fun j => [(22, .int .i64 j), (5, .int .i64 (cntE v (evTo f k ++ evPh k (b.phis.take j))))]) (fun j => []) (fun j => j ≤ b.phis.length) (fun j => b.phis.length - j) 0 ⟨rfl, (by rw [show evPh k (b.phis.take 0) = [] from rfl, List.append_nil]; rfl), trivial⟩ zLe (qm _) ?_
  rintro j hj
  refine zSr<|z2 (yc rfl rfl)<|z6<|za<|zp rfl (fun cj=>?_) (fun cj=>?_)
  ·have hj2 : j < b.phis.length := by simp at cj; omega
   have hsc := cntE_push v (evTo f k ++ evPh k (b.phis.take j)) b.phis[j].dst ((k : Int), (-1 : Int))
   rw [ql, ← evPh_succ k hj2] at hsc
   have hcl : cntE v (evTo f k ++ evPh k (b.phis.take j)) ≤ 2001000 := by
    have h1 := cntE_le v (evTo f k ++ evPh k (b.phis.take j))
    have h2 : (evPh k (b.phis.take j)).length ≤ 1000 := by unfold evPh; rw [qq, qu]; omega
    rw [qp] at h1; omega
   refine zd<|za<|zf<|zSr<|z2 (zIM j underlying51 sizeOf81 rfl rfl rfl (qj hj2))<|z2 (zl isAgg81 sizeOf81 rfl rfl)<|y4 (cs := [.int .i64 0, .raw (.slice none 0 0), .raw (.slice none 0 0)]) zeroValue81 rfl rfl<|fun i9 => zw sizeOf81 rfl rfl rfl rfl rfl rfl .head rfl<|ze (yh (t := 9) rfl .head)<|z6<|zSr<|z2 (zFF underlying81 rfl sizeOf3 rfl rfl)<|z2 (zLi isAgg3 rfl)<|z2 (zMi rfl)<|z2 (y9 rfl rfl)<|z6<|zr rfl (fun cd=>?_) (fun cd=>?_)
   ·have hd : b.phis[j].dst = (v : Int) := by simpa using cd
    rw [if_pos hd] at hsc
    refine zRg<|z2 (zMi rfl)<|z2 (zAd rfl rfl)<|z2 (zAi rfl)<|z6<|zRg<|z2 (zAd rfl rfl)<|z2 (zMi rfl)<|z6 ?_
    exact ⟨j + 1, zR7, ⟨rfl, (by rw [hsc]; rfl), trivial⟩, zLe, hj2, by omega⟩
   ·have hd : ¬ b.phis[j].dst = (v : Int) := by simpa using cd
    rw [if_neg hd] at hsc
    refine zd<|zRg<|z2 (zAd rfl rfl)<|z2 (zMi rfl)<|z6 ?_
    exact ⟨j + 1, zR7, ⟨rfl, (by rw [hsc]; rfl), trivial⟩, zLe, hj2, by omega⟩
  ·have hjn : j = b.phis.length := by simp at cj; omega
   subst hjn
   rw [qo]
   refine zx<|zSr<|z2 (zFF underlying58 rfl sizeOf52 rfl rfl)<|z2 (zLf isAgg52 rfl)<|z2 (zu underlying52 rfl)<|z2 (zMi rfl)<|z6<|zf<|zz (γ := Nat) [1, 13, 14, 15, 34, 35] (fun j => [(36, .int .i64 j), (5, .int .i64 (cntE v (evTo f k ++ evPh k b.phis ++ evIn k (b.insts.take j))))]) (fun j => []) (fun j => j ≤ b.insts.length) (fun j => b.insts.length - j) 0 ⟨rfl, (by rw [show evIn k (b.insts.take 0) = [] from rfl, List.append_nil]; rfl), trivial⟩ zLe (qm _) ?_
   rintro j hj
   refine zSr<|z2 (yc rfl rfl)<|z6<|za<|zp rfl (fun cj=>?_) (fun cj=>?_)
   ·have hj2 : j < b.insts.length := by simp at cj; omega
    have hcl : cntE v (evTo f k ++ evPh k b.phis ++ evIn k (b.insts.take j)) ≤ 2002000 := by
     have h1 := cntE_le v (evTo f k ++ evPh k b.phis ++ evIn k (b.insts.take j))
     have h2 : (evPh k b.phis).length ≤ 1000 := by unfold evPh; rw [qq]; omega
     have h3 := evIn_len k (b.insts.take j)
     rw [qu] at h3
     rw [qp, qp] at h1; omega
    have hsc : cntE v (evTo f k ++ evPh k b.phis ++ evIn k (b.insts.take (j + 1))) = cntE v (evTo f k ++ evPh k b.phis ++ evIn k (b.insts.take j)) + if b.insts[j].dst = (v : Int) then 1 else 0 := by
     rw [evIn_succ k hj2]
     split
     ·rw [← ql, cntE_push]
     ·rw [List.append_nil, if_neg (by omega)]; rfl
    refine zd<|za<|zf<|zSr<|z2 (zIM j underlying52 sizeOf61 rfl rfl rfl (qj hj2))<|z2 (zl isAgg61 sizeOf61 rfl rfl)<|y4 (cs := [.int .i64 0, .int .i64 0, .raw (.slice none 0 0), .int .i64 0]) zeroValue61 rfl rfl<|fun i11 => zw sizeOf61 rfl rfl rfl rfl rfl rfl .head rfl<|ze (yh (t := 11) rfl .head)<|z6<|zSr<|z2 (zFF underlying61 rfl sizeOf3 rfl rfl)<|z2 (zLi isAgg3 rfl)<|z2 (zMi rfl)<|z2 (y9 rfl rfl)<|z6<|zr rfl (fun cd=>?_) (fun cd=>?_)
    ·have hd : b.insts[j].dst = (v : Int) := by simpa using cd
     rw [if_pos hd] at hsc
     refine zRg<|z2 (zMi rfl)<|z2 (zAd rfl rfl)<|z2 (zAi rfl)<|z6<|zRg<|z2 (zAd rfl rfl)<|z2 (zMi rfl)<|z6 ?_
     exact ⟨j + 1, zR6, ⟨rfl, (by rw [hsc]; rfl), trivial⟩, zLe, hj2, by omega⟩
    ·have hd : ¬ b.insts[j].dst = (v : Int) := by simpa using cd
     rw [if_neg hd] at hsc
     refine zd<|zRg<|z2 (zAd rfl rfl)<|z2 (zMi rfl)<|z6 ?_
     exact ⟨j + 1, zR6, ⟨rfl, (by rw [hsc]; rfl), trivial⟩, zLe, hj2, by omega⟩
   ·have hjn : j = b.insts.length := by simp at cj; omega
    subst hjn
    rw [qo]
    refine zx<|zRg<|z2 (zAd rfl rfl)<|z2 (zMi rfl)<|z6 ?_
    exact ⟨k + 1, zR3, ⟨rfl, (by rw [evTo_succ hk2, hbk, evBl, ← ql]; rfl), trivial⟩, zLe, hk2, by omega⟩
 ·have hkn : k = f.blocks.length := by simp at ck; omega
  subst hkn
  refine zx<|zSr<|z2 (zMi rfl)<|z2 (zAi rfl)<|z6<|zh<|zj (x := .int _ _) rfl ?_
  rw [makings_cnt]
theorem refAhead_spec (f : PFunc) (hE : EndsOk f) (hf : small f) (v : Nat) (b a : Int) (h0 : 0 ≤ b) (hb : b < f.blocks.length) : AFun prog E 25 [.agg (encF f), .int .i64 v, .int .i64 b, .int .i64 a] (.bool (aheadR f (makerT f v) b a)) := by
 have hn := hf.2.2.1
 refine zn func25 rfl (by decide) rfl<|zSr<|yd (cs := _) rfl rfl rfl<|z2 (zAb rfl)<|z6<|zSr<|z2 (zl isAgg26 sizeOf26 rfl rfl)<|z2 (zMi rfl)<|zk (Maker_spec f hf v) rfl<|z2 (zMu rfl)<|z2 (zXi rfl rfl)<|z2 (zXi rfl rfl)<|z2 (zAi rfl)<|z2 (zAi rfl)<|z6<|za<|zf<|zSr<|z2 (zMi rfl)<|z2 (yc rfl rfl)<|z2 (zAb rfl)<|z6<|zp rfl (fun c0=>?_) (fun c0=>?_)
 ·refine zSr<|z2 (zAb rfl)<|z6<|zh<|zj (x := .bool _) rfl ?_
  rw [aheadR, if_pos c0]
 ·refine zSr<|z2 (zMi rfl)<|z2 (zMi rfl)<|z2 (y9 rfl rfl)<|z2 (zAb rfl)<|z6<|zr rfl (fun c1=>?_) (fun c1=>?_)
  ·have d1 : (makerT f v).1 = b := by simpa using c1
   refine zSr<|z2 (zMi rfl)<|z2 (zMi rfl)<|z2 (yc rfl rfl)<|z2 (zAb rfl)<|z6<|zh<|zj (x := .bool _) rfl ?_
   rw [aheadR, if_neg c0, if_pos d1]
  ·have d1 : ¬ (makerT f v).1 = b := by simpa using c1
   have hg := reachT_get (E := EndsOf f) (n := f.blocks.length) (k := b.toNat) (shut := (makerT f v).1) (by omega)
   rw [show ((b.toNat : Nat) : Int) = b by omega] at hg
   refine zd<|zSr<|z2 (zl isAgg26 sizeOf26 rfl rfl)<|z2 (zMi rfl)<|zk (reached_spec f hE hn (makerT f v).1) rfl<|z2 (zMi rfl)<|z2 (zIM b.toNat underlying98 sizeOf4 rfl rfl (by omega) hg)<|z2 (yv (c := .bool _) isAgg4 rfl)<|z2 (yo rfl)<|z2 (zAb rfl)<|z6<|zh<|zj (x := .bool _) rfl ?_
   rw [aheadR, if_neg c0, if_neg d1]
end Go.Proofs.YtiojekbkamegdaaGreatDoor
namespace Go.Proofs.YtiojekbkamegdaaGreatDoor
open Go.Proofs.Tryz
open Go.Proofs Go.Lib Go.Shelf Go.RowKit
variable {E : World}
set_option maxRecDepth 20000
theorem phJ_iff {f : PFunc} (hE : EndsOk f) (i : Nat) (p : PPhi) : phJ f i p = true ↔ JoinR f i p.from_ := by
 unfold phJ
 rw [qz, joinS_iff, joinR_iff hE]
theorem filter_one {l : List Int} (hn : l.Nodup) {i : Int} (h : i ∈ l) : (l.filter fun c => decide (c = i)) = [i] := by
 induction l with
 | nil => cases h
 | cons c l ih =>
  obtain ⟨h1, h2⟩ := List.nodup_cons.1 hn
  by_cases e : c = i
  ·subst e
   have : (l.filter fun x => decide (x = c)) = [] := List.filter_eq_nil_iff.2 fun x hx => by
    simp only [qz]; rintro rfl; exact h1 hx
   simp [this]
  ·rw [List.filter_cons_of_neg (by simpa using e)]
   rcases List.mem_cons.1 h with h3 | h3
   ·exact absurd h3.symm e
   ·exact ih h2 h3
theorem predsT_one {f : PFunc} (k : Nat) (i : Int) : (predsT (EndsOf f) (k + 1) i).length = (predsT (EndsOf f) k i).length + if i ∈ EndsOf f k then 1 else 0 := by
 rw [predsT_succ, qp, qq]
 have hn := EndsOf_nodup f k
 congr 1
 by_cases h : i ∈ EndsOf f k
 ·rw [if_pos h]
  have h1 := filter_one hn h
  rw [h1]; rfl
 ·rw [if_neg h]
  have h1 : ((EndsOf f k).filter fun c => decide (c = i)) = [] := List.filter_eq_nil_iff.2 fun c hc => by
   simp only [qz]; rintro rfl; exact h hc
  rw [h1]; rfl
set_option maxHeartbeats 4000000 in
theorem refJoined_spec (f : PFunc) (hE : EndsOk f) (hf : small f) (hS : ShapedP f) : AFun prog E 96 [.agg (encF f)] (.bool (joinedB f)) := by
 have hn := hf.2.2.1
 refine zn func96 rfl (by decide) rfl<|zSr<|yd (cs := _) rfl rfl rfl<|z2 (zAb rfl)<|z6<|za<|zSr<|z2 (zFF underlying26 rfl sizeOf24 rfl rfl)<|z2 (zLf isAgg24 rfl)<|z2 (zu underlying24 rfl)<|z2 (zMi rfl)<|z6<|zf<|zz (γ := Nat) [1, 13, 14] (fun i => [(15, .int .i64 i)]) (fun i => []) (fun i => i ≤ f.blocks.length ∧ (List.range i).all (blkJ f) = true) (fun i => f.blocks.length - i) 0 zR1 zLe (⟨qm _, rfl⟩) ?_
 rintro i ⟨hi, hall⟩
 refine zSr<|z2 (yc rfl rfl)<|z6<|za<|zp rfl (fun ci=>?_) (fun ci=>?_)
 ·have hi2 : i < f.blocks.length := by simp at ci; omega
  obtain ⟨b, hbi⟩ : ∃ b, f.blocks[i] = b := ⟨_, rfl⟩
  have hget : f.blocks[i]? = some b := by rw [qj hi2, hbi]
  have hmem : b ∈ f.blocks := hbi ▸ qn hi2
  obtain ⟨hb0, hb1, hb2, hb3, hb4⟩ := hf.2.2.2.2 b hmem
  have hPh := (hS.2.2.2.2.2 b hmem).1
  refine zd<|za<|zf<|zSr<|z2 (zMi rfl)<|z2 (zIM i underlying24 sizeOf58 rfl rfl rfl hget)<|z2 (zl isAgg58 sizeOf58 rfl rfl)<|y4 (cs := [.str ⟨#[]⟩, .raw (.slice none 0 0), .raw (.slice none 0 0), .int .i64 0, .int .i64 0, .int .i64 0, .int .i64 0]) zeroValue58 rfl rfl<|fun i4 => z2 (zAi rfl)<|zw sizeOf58 rfl rfl rfl rfl rfl rfl .head rfl<|ze (yh (t := 4) rfl .head)<|z6<|zSr<|z2 (zFF underlying58 rfl sizeOf51 rfl rfl)<|z2 (zLf isAgg51 rfl)<|z2 (zu underlying51 rfl)<|z2 (zMi rfl)<|z6<|zf<|zz (γ := Nat) [1, 3, 13, 14, 15, 21, 22] (fun j => [(23, .int .i64 j)]) (fun j => []) (fun j => j ≤ b.phis.length ∧ (b.phis.take j).all (phJ f i) = true) (fun j => b.phis.length - j) 0 zR1 zLe (⟨qm _, rfl⟩) ?_
  rintro j ⟨hj, hjall⟩
  refine zSr<|z2 (yc rfl rfl)<|z6<|za<|zp rfl (fun cj=>?_) (fun cj=>?_)
  ·have hj2 : j < b.phis.length := by simp at cj; omega
   obtain ⟨p, hp⟩ : ∃ p, b.phis[j] = p := ⟨_, rfl⟩
   have hpm : p ∈ b.phis := hp ▸ qn hj2
   have hpl := (hb3 p hpm).2
   have hpr : ∀ c ∈ p.from_, 0 ≤ c ∧ c < f.blocks.length := fun c hc => by have := List.all_eq_true.1 (hPh p hpm).2.2.2.2 c hc; simpa [hasB] using this
   have hbad : ¬ JoinR f i p.from_ → joinedB f = false := fun h => range_all_bad hi2 (by rw [blkJ_at hget]; exact Bool.eq_false_iff.2 (all_bad hj2 (by rw [hp]; exact Bool.eq_false_iff.2 fun h2 => h ((phJ_iff hE i p).1 h2))))
   refine zd<|za<|zf<|zSr<|z2 (zIM j underlying51 sizeOf81 rfl rfl rfl (by rw [qj hj2, hp])) ?_
   refine z2 (zl isAgg81 sizeOf81 rfl rfl)<|y4 (cs := [.int .i64 0, .raw (.slice none 0 0), .raw (.slice none 0 0)]) zeroValue81 rfl rfl<|fun i6 => zw sizeOf81 rfl rfl rfl rfl rfl rfl .head rfl<|ze (yh (t := 6) rfl .head)<|z6<|zSr<|z2 (zAi rfl)<|z6<|za<|zSr<|z2 (zFF underlying26 rfl sizeOf24 rfl rfl)<|z2 (zLf isAgg24 rfl)<|z2 (zu underlying24 rfl)<|z2 (zMi rfl)<|z6<|zf<|zz (γ := Nat) [1, 3, 6, 13, 14, 15, 21, 22, 23, 29] (fun a => [(30, .int .i64 a), (7, .int .i64 (predsT (EndsOf f) a i).length)]) (fun a => []) (fun a => a ≤ f.blocks.length) (fun a => f.blocks.length - a) 0 zR2 zLe (qm _) ?_
   rintro a ha
   refine zSr<|z2 (yc rfl rfl)<|z6<|za<|zp rfl (fun ca=>?_) (fun ca=>?_)
   ·have ha2 : a < f.blocks.length := by simp at ca; omega
    have hone := predsT_one (f := f) a i
    have hle := predsT_len f i a
    refine zd<|za<|zf<|zSr<|z2 (zMi rfl)<|z2 (zAi rfl)<|z6<|zSr<|z2 (zl isAgg26 sizeOf26 rfl rfl)<|z2 (zMi rfl)<|z2 (zMi rfl)<|zk (leads_spec f hn (a : Int) (i : Int) (by omega) (by omega)) rfl<|z6<|zr rfl (fun cl=>?_) (fun cl=>?_)
    ·have hl : (i : Int) ∈ EndsOf f a := by simpa using cl
     rw [if_pos hl] at hone
     refine zRg<|z2 (zMi rfl)<|z2 (zAd rfl rfl)<|z2 (zAi rfl)<|z6<|zRg<|z2 (zAd rfl rfl)<|z2 (zMi rfl)<|z6 ?_
     exact ⟨a + 1, zR10, ⟨rfl, (by rw [hone]; rfl), trivial⟩, zLe, ha2, by omega⟩
    ·have hl : ¬ (i : Int) ∈ EndsOf f a := by simpa using cl
     rw [if_neg hl] at hone
     refine zd<|zRg<|z2 (zAd rfl rfl)<|z2 (zMi rfl)<|z6 ?_
     exact ⟨a + 1, zR10, ⟨rfl, (by rw [hone]; rfl), trivial⟩, zLe, ha2, by omega⟩
   ·have han : a = f.blocks.length := by simp at ca; omega
    subst han
    refine zx<|za<|zSr<|z2 (zMi rfl)<|z2 (zFF underlying81 rfl sizeOf23 rfl rfl)<|z2 (zLf isAgg23 rfl)<|z2 (zu underlying23 rfl)<|z2 (yi rfl rfl)<|z6<|zr rfl (fun cn=>?_) (fun cn=>?_)
    ·have hne : ¬ (predsT (EndsOf f) f.blocks.length i).length = p.from_.length := by have h0 : ¬ ((predsT (EndsOf f) f.blocks.length i).length : Int) = (p.from_.length : Int) := (by simpa using cn); omega
     refine zSr<|z2 (zAb rfl)<|z6<|zh<|zj (x := .bool _) rfl ?_
     rw [hbad fun h => hne h.1]
    ·have hne : (predsT (EndsOf f) f.blocks.length i).length = p.from_.length := by have h0 : ((predsT (EndsOf f) f.blocks.length i).length : Int) = (p.from_.length : Int) := (by simpa using cn); omega
     refine zd<|zSr<|z2 (zFF underlying81 rfl sizeOf23 rfl rfl)<|z2 (zLf isAgg23 rfl)<|z2 (zu underlying23 rfl)<|z2 (zMi rfl)<|z6<|zf<|zz (γ := Nat) [1, 3, 6, 13, 14, 15, 21, 22, 23, 46, 47] (fun k => [(48, .int .i64 k)]) (fun k => []) (fun k => k ≤ p.from_.length ∧ ∀ q (h : q < p.from_.length), q < k → (i : Int) ∈ EndsOf f p.from_[q] ∧ p.from_[q] ∉ p.from_.take q) (fun k => p.from_.length - k) 0 zR1 zLe (⟨qm _, fun q h h2 => by omega⟩) ?_
     rintro k ⟨hk, hok⟩
     refine zSr<|z2 (yc rfl rfl)<|z6<|za<|zp rfl (fun ck=>?_) (fun ck=>?_)
     ·have hk2 : k < p.from_.length := by simp at ck; omega
      obtain ⟨c, hc⟩ : ∃ c, p.from_[k] = c := ⟨_, rfl⟩
      obtain ⟨hc0, hcn⟩ := hpr c (hc ▸ qn hk2)
      refine zd<|za<|zf<|zSr<|z2 (zMi rfl)<|z2 (zIM k underlying23 sizeOf3 rfl rfl rfl (by rw [qj hk2, hc])) ?_
      refine z2 (zLi isAgg3 rfl)<|z2 (zAi rfl)<|z2 (zAi rfl)<|z6<|za<|zSr<|z2 (zl isAgg26 sizeOf26 rfl rfl)<|z2 (zMi rfl)<|z2 (zMi rfl)<|zk (leads_spec f hn c (i : Int) hc0 hcn) rfl<|z2 (yo rfl)<|z6<|zr rfl (fun cl=>?_) (fun cl=>?_)
      ·have hl : ¬ (i : Int) ∈ EndsOf f c := by simpa using cl
       refine zSr<|z2 (zAb rfl)<|z6<|zh<|zj (x := .bool _) rfl ?_
       rw [hbad fun h => hl (hc ▸ (h.2 k hk2).1)]
      ·have hl : (i : Int) ∈ EndsOf f c := by simpa using cl
       refine zd<|zSr<|z2 (zMi rfl)<|z2 (zMi rfl)<|z6<|zf<|zz (γ := Nat) [1, 3, 6, 10, 13, 14, 15, 21, 22, 23, 46, 47, 48, 58] (fun q => [(59, .int .i64 q)]) (fun q => []) (fun q => q ≤ k ∧ c ∉ p.from_.take q) (fun q => k - q) 0 zR1 zLe (⟨qm _, by simp⟩) ?_
       rintro q ⟨hq, hqn⟩
       refine zSr<|z2 (yc rfl rfl)<|z6<|za<|zp rfl (fun cq=>?_) (fun cq=>?_)
       ·have hq2 : q < k := by omega
        have hq3 : q < p.from_.length := by omega
        refine zd<|za<|zf<|zSr<|z2 (zMi rfl)<|z2 (zAi rfl)<|z6<|zSr<|z2 (zFF underlying81 rfl sizeOf23 rfl rfl)<|z2 (zLf isAgg23 rfl)<|z2 (zMi rfl)<|z2 (zIM q underlying23 sizeOf3 rfl rfl rfl (qj hq3))<|z2 (zLi isAgg3 rfl)<|z2 (zMi rfl)<|z2 (y9 rfl rfl)<|z6<|zr rfl (fun ce=>?_) (fun ce=>?_)
        ·have he : p.from_[q] = c := by simpa using ce
         have hin : c ∈ p.from_.take k := by rw [← he]; exact List.mem_take_iff_getElem.2 ⟨q, by omega, rfl⟩
         refine zSr<|z2 (zAb rfl)<|z6<|zh<|zj (x := .bool _) rfl ?_
         rw [hbad fun h => (h.2 k hk2).2 (by rw [hc]; exact hin)]
        ·have he : ¬ p.from_[q] = c := by simpa using ce
         refine zd<|zRg<|z2 (zAd rfl rfl)<|z2 (zMi rfl)<|z6 ?_
         exact ⟨q + 1, zR14, zR1, zLe, ⟨hq2, fun hm => by rw [qk hq3] at hm; rcases List.mem_append.1 hm with h1 | h1; exact hqn h1; simp at h1; exact he h1.symm⟩, by omega⟩
       ·have hqn2 : q = k := by omega
        subst hqn2
        refine zx<|zRg<|z2 (zAd rfl rfl)<|z2 (zMi rfl)<|z6 ?_
        exact ⟨q + 1, zR11, zR1, zLe, ⟨hk2, fun r hr h2 => by rcases Nat.lt_succ_iff_lt_or_eq.1 h2 with h3 | h3; exact hok r hr h3; subst h3; rw [hc]; exact ⟨hl, hqn⟩⟩, by omega⟩
     ·have hkn : k = p.from_.length := by simp at ck; omega
      subst hkn
      refine zx<|zRg<|z2 (zAd rfl rfl)<|z2 (zMi rfl)<|z6 ?_
      exact ⟨j + 1, zR7, zR1, zLe, ⟨hj2, all_take hj2 hjall (by rw [hp]; exact (phJ_iff hE i p).2 ⟨hne, fun q hq => hok q hq hq⟩)⟩, by omega⟩
  ·have hjn : j = b.phis.length := by simp at cj; omega
   subst hjn
   rw [qo] at hjall
   refine zx<|zRg<|z2 (zAd rfl rfl)<|z2 (zMi rfl)<|z6 ?_
   exact ⟨i + 1, zR3, zR1, zLe, ⟨hi2, range_all_succ hall (by rw [blkJ_at hget]; exact hjall)⟩, by omega⟩
 ·have hin : i = f.blocks.length := by simp at ci; omega
  subst hin
  refine zx<|zSr<|z2 (zAb rfl)<|z6<|zh<|zj (x := .bool _) rfl ?_
  rw [show joinedB f = true from hall]
end Go.Proofs.YtiojekbkamegdaaGreatDoor
namespace Go.Proofs.YtiojekbkamegdaaGreatDoor
open Go.Proofs.Tryz
open Go.Proofs Go.Lib Go.Shelf Go.RowKit
variable {E : World}
set_option maxRecDepth 20000
theorem hasV_nat {f : PFunc} {v : Int} (h : hasV f v = true) : ∃ k : Nat, v = (k : Int) ∧ k < f.vars.length := by
 have h1 : 0 ≤ v ∧ v < f.vars.length := by simpa [hasV] using h
 exact ⟨v.toNat, by omega, by omega⟩
theorem refAheadV_spec (f : PFunc) (hE : EndsOk f) (hf : small f) {v : Int} (hv : hasV f v = true) (b a : Int) (h0 : 0 ≤ b) (hb : b < f.blocks.length) : AFun prog E 25 [.agg (encF f), .int .i64 v, .int .i64 b, .int .i64 a] (.bool (aheadR f (makerT f v) b a)) := by
 obtain ⟨k, rfl, hk⟩ := hasV_nat hv
 exact refAhead_spec f hE hf k b a h0 hb
theorem atR_bad {f : PFunc} {i : Nat} {b : PBlock} (hi : i < f.blocks.length) (hg : f.blocks[i]? = some b) (h : blkR f i b = false) : singR f = false := by
 unfold singR; rw [range_all_bad hi (by rw [atR_at hg]; exact h)]; simp
set_option maxHeartbeats 8000000 in
theorem refSingle_spec (f : PFunc) (hE : EndsOk f) (hf : small f) (hS : ShapedP f) : AFun prog E 45 [.agg (encF f)] (.bool (singR f)) := by
 have hn := hf.2.2.1
 have hv := hf.1
 have hG := hE.grph
 refine zn func45 rfl (by decide) rfl<|zSr<|yd (cs := _) rfl rfl rfl<|z2 (zAb rfl)<|z6<|za<|zSr<|z2 (zl isAgg26 sizeOf26 rfl rfl)<|zk (refJoined_spec f hE hf hS) rfl<|z2 (yo rfl)<|z6<|zr rfl (fun cj=>?_) (fun cj=>?_)
 ·have dj : joinedB f = false := by simpa using cj
  refine zSr<|z2 (zAb rfl)<|z6<|zh<|zj (x := .bool _) rfl ?_
  rw [show singR f = false by unfold singR; rw [dj]; rfl]
 ·have dj : joinedB f = true := by simpa using cj
  refine zd<|zSr<|z2 (zl isAgg26 sizeOf26 rfl rfl)<|zk (reached_spec f hE hn (-1)) rfl<|z2 (zAf rfl)<|z6<|za<|zSr<|z2 (zFF underlying26 rfl sizeOf22 rfl rfl)<|z2 (zLf isAgg22 rfl)<|z2 (zu underlying22 rfl)<|z2 (zMi rfl)<|z6<|zf<|zz (γ := Nat) [1, 3, 23] (fun v => [(24, .int .i64 v)]) (fun v => []) (fun v => v ≤ f.vars.length ∧ (List.range v).all (onceV f) = true) (fun v => f.vars.length - v) 0 zR1 zLe (⟨qm _, rfl⟩) ?_
  rintro v ⟨hvl, hall⟩
  refine zSr<|z2 (yc rfl rfl)<|z6<|za<|zp rfl (fun cv=>?_) (fun cv=>?_)
  ·have hv2 : v < f.vars.length := by simp at cv; omega
   have hbad : onceV f v = false → singR f = false := fun h => by unfold singR; rw [show onceB f = false from range_all_bad hv2 h]; simp
   refine zd<|za<|zf<|zSr<|z2 (zMi rfl)<|z2 (zAi rfl)<|z6<|zSr<|z2 (zl isAgg26 sizeOf26 rfl rfl)<|z2 (zMi rfl)<|zk (refMakings_spec f hf v) rfl<|z2 (zAi rfl)<|z6<|zSr<|z2 (zMi rfl)<|z2 (q3 rfl rfl)<|z2 (zMb rfl)<|zo (s := 32) rfl (fun c1=>?_) (fun c1=>?_)
   ·have d1 : 1 < (makings f v).length := by have h0 : (1 : Int) < ((makings f v).length : Int) := (by simpa using c1); omega
    refine z7 rfl rfl c1<|z7 rfl rfl c1<|z7 rfl rfl c1<|zg rfl rfl<|zg rfl rfl<|zg rfl rfl<|zg rfl rfl<|zg rfl rfl<|z7 rfl rfl c1<|z2 (zPt rfl c1 rfl)<|z6<|yk rfl rfl<|zSr<|z2 (zAb rfl)<|z6<|zh<|zj (x := .bool _) rfl ?_
    rw [hbad (by unfold onceV; simp [d1])]
   ·have d1 : ¬ 1 < (makings f v).length := by have h0 : ¬ (1 : Int) < ((makings f v).length : Int) := (by simpa using c1); omega
    refine z8 rfl rfl c1<|z2 (zMi rfl)<|z8 rfl rfl c1<|z2 (q3 rfl rfl)<|z8 rfl rfl c1<|z2 (zMb rfl)<|zo (s := 35) rfl (fun c2=>?_) (fun c2=>?_)
    ·have d2 : 0 < (makings f v).length := by have h0 : (0 : Int) < ((makings f v).length : Int) := (by simpa using c2); omega
     refine z8 rfl rfl c2<|z2 (zMi rfl)<|z8 rfl rfl c2<|z2 (zFF underlying26 rfl sizeOf23 rfl rfl)<|z8 rfl rfl c2<|z2 (zLf isAgg23 rfl)<|z8 rfl rfl c2<|z2 (zu underlying23 rfl)<|z8 rfl rfl c2<|z2 (yc rfl rfl)<|z8 rfl rfl c1<|z2 (zPt rfl c2 rfl)<|z2 (zPf rfl c1 rfl)<|z6<|zr rfl (fun c3=>?_) (fun c3=>?_)
     ·have d3 : v < f.params.length := by simpa using c3
      refine zSr<|z2 (zAb rfl)<|z6<|zh<|zj (x := .bool _) rfl ?_
      rw [hbad (by unfold onceV; rw [qv d2, qv d3]; simp)]
     ·have d3 : ¬ v < f.params.length := by simpa using c3
      refine zd<|zRg<|z2 (zAd rfl rfl)<|z2 (zMi rfl)<|z6 ?_
      exact ⟨v + 1, zR3, zR1, zLe, ⟨hv2, range_all_succ hall (by unfold onceV; rw [qw d1, qw d3]; simp)⟩, by omega⟩
    ·have d2 : ¬ 0 < (makings f v).length := by have h0 : ¬ (0 : Int) < ((makings f v).length : Int) := (by simpa using c2); omega
     refine z7 rfl rfl c2<|z7 rfl rfl c2<|z7 rfl rfl c2<|z7 rfl rfl c2<|z7 rfl rfl c2<|z8 rfl rfl c1<|z2 (zPf rfl c2 rfl)<|z2 (zPf rfl c1 rfl)<|z6<|yl rfl rfl<|zd<|zRg<|z2 (zAd rfl rfl)<|z2 (zMi rfl)<|z6 ?_
     exact ⟨v + 1, zR3, zR1, zLe, ⟨hv2, range_all_succ hall (by unfold onceV; rw [qw d1, qw d2]; rfl)⟩, by omega⟩
  ·have hvn : v = f.vars.length := by simp at cv; omega
   subst hvn
   have donce : onceB f = true := hall
   refine zx<|za<|zSr<|z2 (zFF underlying26 rfl sizeOf24 rfl rfl)<|z2 (zLf isAgg24 rfl)<|z2 (zu underlying24 rfl)<|z2 (zMi rfl)<|z6<|zf<|zz (γ := Nat) [1, 3, 45, 46] (fun i => [(47, .int .i64 i)]) (fun i => []) (fun i => i ≤ f.blocks.length ∧ (List.range i).all (atR f) = true) (fun i => f.blocks.length - i) 0 zR1 zLe (⟨qm _, rfl⟩) ?_
   rintro i ⟨hi, hiall⟩
   refine zSr<|z2 (yc rfl rfl)<|z6<|za<|zp rfl (fun ci=>?_) (fun ci=>?_)
   ·have hi2 : i < f.blocks.length := by simp at ci; omega
    obtain ⟨b, hbi⟩ : ∃ b, f.blocks[i] = b := ⟨_, rfl⟩
    have hget : f.blocks[i]? = some b := by rw [qj hi2, hbi]
    have hmem : b ∈ f.blocks := hbi ▸ qn hi2
    obtain ⟨hb0, hb1, hb2, hb3, hb4⟩ := hf.2.2.2.2 b hmem
    obtain ⟨hPh, hIn, hTm⟩ := hS.2.2.2.2.2 b hmem
    have hth := reachT_get (E := EndsOf f) (shut := -1) hi2
    refine zd<|za<|zf<|zSr<|z2 (zMi rfl)<|z2 (zIM i underlying24 sizeOf58 rfl rfl rfl hget)<|z2 (zl isAgg58 sizeOf58 rfl rfl)<|y4 (cs := [.str ⟨#[]⟩, .raw (.slice none 0 0), .raw (.slice none 0 0), .int .i64 0, .int .i64 0, .int .i64 0, .int .i64 0]) zeroValue58 rfl rfl<|fun i7 => z2 (zAi rfl)<|zw sizeOf58 rfl rfl rfl rfl rfl rfl .head rfl<|ze (yh (t := 7) rfl .head)<|z6<|za<|zSr<|z2 (zMf rfl)<|z2 (zMi rfl)<|z2 (zIM i underlying98 sizeOf4 rfl rfl rfl hth)<|z2 (yv (c := .bool _) isAgg4 rfl)<|z2 (yo rfl)<|z6<|zr rfl (fun cr=>?_) (fun cr=>?_)
    ·have dr : ¬ Rch (EndsOf f) (i : Int) := fun h => by simp at cr; exact cr ((way_all hG).2 h)
     refine zSr<|z2 (zAb rfl)<|z6<|zh<|zj (x := .bool _) rfl ?_
     rw [atR_bad hi2 hget (by unfold blkR; simp [dr])]
    ·have dr : Rch (EndsOf f) (i : Int) := by simp at cr; exact (way_all hG).1 cr
     refine zd<|za<|zSr<|z2 (zFF underlying58 rfl sizeOf51 rfl rfl)<|z2 (zLf isAgg51 rfl)<|z2 (zu underlying51 rfl)<|z2 (zMi rfl)<|z6<|zf<|zz (γ := Nat) [1, 3, 6, 7, 45, 46, 47, 58, 59] (fun j => [(60, .int .i64 j)]) (fun j => []) (fun j => j ≤ b.phis.length ∧ (b.phis.take j).all (phR f) = true) (fun j => b.phis.length - j) 0 zR1 zLe (⟨qm _, rfl⟩) ?_
     rintro j ⟨hj, hjall⟩
     refine zSr<|z2 (yc rfl rfl)<|z6<|za<|zp rfl (fun cjj=>?_) (fun cjj=>?_)
     ·have hj2 : j < b.phis.length := by simp at cjj; omega
      obtain ⟨p, hp⟩ : ∃ p, b.phis[j] = p := ⟨_, rfl⟩
      have hpm : p ∈ b.phis := hp ▸ qn hj2
      obtain ⟨hpd, hpl, hpn, hpa, hpf⟩ := hPh p hpm
      have hpb := hb3 p hpm
      refine zd<|za<|zf<|zSr<|z2 (zIM j underlying51 sizeOf81 rfl rfl rfl (by rw [qj hj2, hp])) ?_
      refine z2 (zl isAgg81 sizeOf81 rfl rfl)<|y4 (cs := [.int .i64 0, .raw (.slice none 0 0), .raw (.slice none 0 0)]) zeroValue81 rfl rfl<|fun i9 => zw sizeOf81 rfl rfl rfl rfl rfl rfl .head rfl<|ze (yh (t := 9) rfl .head)<|z6<|zSr<|z2 (zFF underlying81 rfl sizeOf23 rfl rfl)<|z2 (zLf isAgg23 rfl)<|z2 (zu underlying23 rfl)<|z2 (zMi rfl)<|z6<|zf<|zz (γ := Nat) [1, 3, 6, 7, 9, 45, 46, 47, 58, 59, 60, 65, 66] (fun k => [(67, .int .i64 k)]) (fun k => []) (fun k => k ≤ p.args.length ∧ ((p.args.zip p.from_).take k).all (fun q => aheadR f (makerT f q.1) q.2 (lenAt f q.2)) = true) (fun k => p.args.length - k) 0 zR1 zLe (⟨qm _, rfl⟩) ?_
      rintro k ⟨hk, hkall⟩
      refine zSr<|z2 (yc rfl rfl)<|z6<|za<|zp rfl (fun ck=>?_) (fun ck=>?_)
      ·have hk2 : k < p.args.length := by simp at ck; omega
       have hk3 : k < p.from_.length := by omega
       obtain ⟨v, hv⟩ : ∃ v, p.args[k] = v := ⟨_, rfl⟩
       obtain ⟨c, hc⟩ : ∃ c, p.from_[k] = c := ⟨_, rfl⟩
       have hvv := List.all_eq_true.1 hpa v (hv ▸ qn hk2)
       have hcr : 0 ≤ c ∧ c < f.blocks.length := by have := List.all_eq_true.1 hpf c (hc ▸ qn hk3); simpa [hasB] using this
       obtain ⟨d, hd⟩ : ∃ d, f.blocks[c.toNat]'(by omega) = d := ⟨_, rfl⟩
       have hdg : f.blocks[c.toNat]? = some d := by rw [qj (by omega), hd]
       have hla : lenAt f c = d.insts.length := by unfold lenAt; rw [hdg]; rfl
       have hz : k < (p.args.zip p.from_).length := by rw [List.length_zip]; omega
       have hzk : (p.args.zip p.from_)[k] = (v, c) := by rw [List.getElem_zip, hv, hc]
       refine zd<|za<|zf<|zSr<|z2 (zMi rfl)<|z2 (zIM k underlying23 sizeOf3 rfl rfl rfl (by rw [qj hk2, hv])) ?_
       refine z2 (zLi isAgg3 rfl)<|z2 (zAi rfl)<|z2 (zAi rfl)<|z6<|za<|yb (fun j => false) (by kernel_rfl) rfl (zq (.rest _))<|zTk 0 rfl (zl isAgg26 sizeOf26 rfl rfl)<|zTk 1 rfl (zMi rfl)<|zTk 2 rfl (zFF underlying81 rfl sizeOf23 rfl rfl)<|zTk 3 rfl (zLf isAgg23 rfl)<|zTk 4 rfl (zMi rfl)<|zTk 5 rfl (zIM k underlying23 sizeOf3 rfl rfl rfl (by rw [qj hk3, hc])) ?_
       refine zTk 6 rfl (zLi isAgg3 rfl)<|zTk 7 rfl (zFF underlying26 rfl sizeOf24 rfl rfl)<|zTk 8 rfl (zLf isAgg24 rfl)<|zTk 9 rfl (zFF underlying81 rfl sizeOf23 rfl rfl)<|zTk 10 rfl (zLf isAgg23 rfl)<|zTk 11 rfl (zMi rfl)<|zTk 12 rfl (zIM k underlying23 sizeOf3 rfl rfl rfl (by rw [qj hk3, hc])) ?_
       refine zTk 13 rfl (zLi isAgg3 rfl)<|zTk 14 rfl (zIM c.toNat underlying24 sizeOf58 rfl rfl (by omega) hdg)<|zTk 15 rfl (zFF underlying58 rfl sizeOf52 rfl rfl)<|zTk 16 rfl (zLf isAgg52 rfl)<|zTk 17 rfl (zu underlying52 rfl)<|zOn 18 rfl<|zk (refAheadV_spec f hE hf hvv c d.insts.length hcr.1 hcr.2) rfl<|z6<|zTk 19 rfl (yo rfl)<|zDn<|zr rfl (fun cq=>?_) (fun cq=>?_)
       ·have hq : aheadR f (makerT f v) c (lenAt f c) = false := by rw [hla]; simpa using cq
        refine zSr<|z2 (zAb rfl)<|z6<|zh<|zj (x := .bool _) rfl ?_
        rw [atR_bad hi2 hget (by unfold blkR; rw [show b.phis.all (phR f) = false from Bool.eq_false_iff.2 (all_bad hj2 (by rw [hp]; unfold phR; exact Bool.eq_false_iff.2 (all_bad hz (by rw [hzk]; exact hq))))]; simp)]
       ·have hq : aheadR f (makerT f v) c (lenAt f c) = true := by rw [hla]; simpa using cq
        refine zd<|zRg<|z2 (zAd rfl rfl)<|z2 (zMi rfl)<|z6 ?_
        exact ⟨k + 1, zR13, zR1, zLe, ⟨hk2, all_take hz hkall (by rw [hzk]; exact hq)⟩, by omega⟩
      ·have hkn : k = p.args.length := by simp at ck; omega
       have hzl : (p.args.zip p.from_).length = p.args.length := by rw [List.length_zip]; omega
       rw [hkn, ← hzl, qo] at hkall
       refine zx<|zRg<|z2 (zAd rfl rfl)<|z2 (zMi rfl)<|z6 ?_
       exact ⟨j + 1, zR9, zR1, zLe, ⟨hj2, all_take hj2 hjall (by rw [hp]; exact hkall)⟩, by omega⟩
     ·have hjn : j = b.phis.length := by simp at cjj; omega
      subst hjn
      rw [qo] at hjall
      refine zx<|za<|zSr<|z2 (zFF underlying58 rfl sizeOf52 rfl rfl)<|z2 (zLf isAgg52 rfl)<|z2 (zu underlying52 rfl)<|z2 (zMi rfl)<|z6<|zf<|zz (γ := Nat) [1, 3, 6, 7, 45, 46, 47, 95, 96] (fun k => [(97, .int .i64 k)]) (fun k => []) (fun k => k ≤ b.insts.length ∧ ((b.insts.zipIdx).take k).all (inR f i) = true) (fun k => b.insts.length - k) 0 zR1 zLe (⟨qm _, rfl⟩) ?_
      rintro k ⟨hk, hkall⟩
      refine zSr<|z2 (yc rfl rfl)<|z6<|za<|zp rfl (fun ck=>?_) (fun ck=>?_)
      ·have hk2 : k < b.insts.length := by simp at ck; omega
       obtain ⟨z, hzk⟩ : ∃ z, b.insts[k] = z := ⟨_, rfl⟩
       have hzm : z ∈ b.insts := hzk ▸ qn hk2
       have hI := instP_F (hIn z hzm)
       have hzl := hb4 z hzm
       have hzi : k < b.insts.zipIdx.length := by simp; exact hk2
       have hze : b.insts.zipIdx[k] = (z, k) := by simp [hzk]
       refine zd<|za<|zf<|zSr<|z2 (zMi rfl)<|z2 (zIM k underlying52 sizeOf61 rfl rfl rfl (by rw [qj hk2, hzk])) ?_
       refine z2 (zl isAgg61 sizeOf61 rfl rfl)<|y4 (cs := [.int .i64 0, .int .i64 0, .raw (.slice none 0 0), .int .i64 0]) zeroValue61 rfl rfl<|fun i13 => z2 (zAi rfl)<|zw sizeOf61 rfl rfl rfl rfl rfl rfl .head rfl<|ze (yh (t := 13) rfl .head)<|z6<|zSr<|z2 (zFF underlying61 rfl sizeOf23 rfl rfl)<|z2 (zLf isAgg23 rfl)<|z2 (zu underlying23 rfl)<|z2 (zMi rfl)<|z6<|zf<|zz (γ := Nat) [1, 3, 6, 7, 12, 45, 46, 47, 95, 96, 97, 103, 104] (fun m => [(105, .int .i64 m)]) (fun m => []) (fun m => m ≤ z.args.length ∧ (z.args.take m).all (fun v => aheadR f (makerT f v) i k) = true) (fun m => z.args.length - m) 0 zR1 zLe (⟨qm _, rfl⟩) ?_
       rintro m ⟨hm, hmall⟩
       refine zSr<|z2 (yc rfl rfl)<|z6<|za<|zp rfl (fun cm=>?_) (fun cm=>?_)
       ·have hm2 : m < z.args.length := by simp at cm; omega
        obtain ⟨v, hv⟩ : ∃ v, z.args[m] = v := ⟨_, rfl⟩
        have hvv := hI.args v (hv ▸ qn hm2)
        refine zd<|za<|zf<|zSr<|z2 (zIM m underlying23 sizeOf3 rfl rfl rfl (by rw [qj hm2, hv])) ?_
        refine z2 (zLi isAgg3 rfl)<|z2 (zAi rfl)<|z6<|zSr<|z2 (zl isAgg26 sizeOf26 rfl rfl)<|z2 (zMi rfl)<|z2 (zMi rfl)<|z2 (zMi rfl)<|zk (refAheadV_spec f hE hf hvv (i : Int) (k : Int) (by omega) (by omega)) rfl<|z2 (yo rfl)<|z6<|zr rfl (fun cq=>?_) (fun cq=>?_)
        ·have hq : aheadR f (makerT f v) i k = false := by simpa using cq
         refine zSr<|z2 (zAb rfl)<|z6<|zh<|zj (x := .bool _) rfl ?_
         rw [atR_bad hi2 hget (by unfold blkR; rw [show b.insts.zipIdx.all (inR f i) = false from Bool.eq_false_iff.2 (all_bad hzi (by rw [hze]; unfold inR; exact Bool.eq_false_iff.2 (all_bad hm2 (by rw [hv]; exact hq))))]; simp)]
        ·have hq : aheadR f (makerT f v) i k = true := by simpa using cq
         refine zd<|zRg<|z2 (zAd rfl rfl)<|z2 (zMi rfl)<|z6 ?_
         exact ⟨m + 1, zR13, zR1, zLe, ⟨hm2, all_take hm2 hmall (by rw [hv]; exact hq)⟩, by omega⟩
       ·have hmn : m = z.args.length := by simp at cm; omega
        rw [hmn, qo] at hmall
        refine zx<|zRg<|z2 (zAd rfl rfl)<|z2 (zMi rfl)<|z6 ?_
        exact ⟨k + 1, zR9, zR1, zLe, ⟨hk2, all_take hzi hkall (by rw [hze]; exact hmall)⟩, by omega⟩
      ·have hkn : k = b.insts.length := by simp at ck; omega
       rw [hkn, show b.insts.length = b.insts.zipIdx.length by simp, qo] at hkall
       refine zx<|zSr<|z2 (zFF underlying58 rfl sizeOf56 rfl rfl)<|z2 (zFF underlying56 rfl sizeOf53 rfl rfl)<|z2 (zLi isAgg53 rfl)<|z2 (yi rfl rfl)<|z2 (zMb rfl)<|zo (s := 121) rfl (fun c0=>?_) (fun c0=>?_)
       ·have d0 : ¬ b.term.kind = 0 := by simpa using c0
        refine z8 rfl rfl c0<|z2 (zl isAgg26 sizeOf26 rfl rfl)<|z8 rfl rfl c0<|z2 (zFF underlying58 rfl sizeOf56 rfl rfl)<|z8 rfl rfl c0<|z2 (zFF underlying56 rfl sizeOf3 rfl rfl)<|z8 rfl rfl c0<|z2 (zLi isAgg3 rfl)<|z8 rfl rfl c0<|z2 (zMi rfl)<|z8 rfl rfl c0<|z2 (zFF underlying58 rfl sizeOf52 rfl rfl)<|z8 rfl rfl c0<|z2 (zLf isAgg52 rfl)<|z8 rfl rfl c0<|z2 (zu underlying52 rfl)<|z8 rfl rfl c0<|zk (refAheadV_spec f hE hf (term_var hTm d0) (i : Int) (b.insts.length : Int) (by omega) (by omega)) rfl<|z8 rfl rfl c0<|z2 (yo rfl)<|z2 (zPt rfl c0 rfl)<|z6<|zr rfl (fun cq=>?_) (fun cq=>?_)
        ·have hq : aheadR f (makerT f b.term.var) i b.insts.length = false := by simpa using cq
         refine zSr<|z2 (zAb rfl)<|z6<|zh<|zj (x := .bool _) rfl ?_
         rw [atR_bad hi2 hget (by unfold blkR tmR; rw [hq, qw d0]; simp)]
        ·have hq : aheadR f (makerT f b.term.var) i b.insts.length = true := by simpa using cq
         refine zd<|zRg<|z2 (zAd rfl rfl)<|z2 (zMi rfl)<|z6 ?_
         exact ⟨i + 1, zR4, zR1, zLe, ⟨hi2, range_all_succ hiall (by rw [atR_at hget]; unfold blkR tmR; rw [hjall, hkall, hq]; simp [dr])⟩, by omega⟩
       ·have d0 : b.term.kind = 0 := by simpa using c0
        refine z7 rfl rfl c0<|z7 rfl rfl c0<|z7 rfl rfl c0<|z7 rfl rfl c0<|z7 rfl rfl c0<|z7 rfl rfl c0<|z7 rfl rfl c0<|z7 rfl rfl c0<|z7 rfl rfl c0<|z7 rfl rfl c0<|z2 (zPf rfl c0 rfl)<|z6<|yl rfl rfl<|zd<|zRg<|z2 (zAd rfl rfl)<|z2 (zMi rfl)<|z6 ?_
        exact ⟨i + 1, zR4, zR1, zLe, ⟨hi2, range_all_succ hiall (by rw [atR_at hget]; unfold blkR tmR; rw [hjall, hkall, d0]; simp [dr])⟩, by omega⟩
   ·have hin : i = f.blocks.length := by simp at ci; omega
    subst hin
    refine zx<|zSr<|z2 (zAb rfl)<|z6<|zh<|zj (x := .bool _) rfl ?_
    rw [show singR f = true by unfold singR; rw [dj, donce, hiall]; rfl]
end Go.Proofs.YtiojekbkamegdaaGreatDoor
namespace Go.Proofs.YtiojekbkamegdaaGreatDoor
open Go.Proofs.Tryz
open Go.Proofs Go.Lib Go.Shelf Go.RowKit
variable {E : World}
set_option maxRecDepth 20000
theorem rof_spec (f : PFunc) (v : Int) (hv : hasV f v = true) : AFun prog E 101 [.agg (encF f), .int .i64 v] (.int .i64 (kindV f v)) := by
 obtain ⟨x, hx, hv2, hk⟩ := hasV_get hv
 rw [hk]
 refine zn func101 rfl (by decide) rfl<|zSr<|yd (cs := _) rfl rfl rfl<|z2 (zAi rfl)<|z6<|zSr<|z2 (zFF underlying26 rfl sizeOf22 rfl rfl)<|z2 (zLf isAgg22 rfl)<|z2 (zMi rfl)<|z2 (zIM v.toNat underlying22 sizeOf79 rfl rfl hv2 hx)<|z2 (zFF underlying79 rfl sizeOf77 rfl rfl)<|z2 (zLi isAgg77 rfl)<|z2 (zAi rfl)<|z6<|zh<|zj (x := .int _ _) rfl ?_
 rfl
theorem rtype_spec (c : Int) : AFun prog E 103 [.int .u8 c] (.int .i64 (typeOf c)) := by
 refine zn func103 rfl (by decide) rfl<|zSr<|z2 (zAi rfl)<|z6<|za<|zSr<|z2 (zMi rfl)<|z6<|zf<|zSr<|z2 (y9 rfl rfl)<|z2 (zAb rfl)<|z6<|zr rfl (fun c1=>?_) (fun c1=>?_)
 ·refine zSr<|z2 (zAi rfl)<|z6<|zh<|zj (x := .int _ _) rfl ?_
  unfold typeOf; simp_all
 ·refine zSr<|z2 (y9 rfl rfl)<|z2 (zAb rfl)<|z6<|zr rfl (fun c2=>?_) (fun c2=>?_)
  ·refine zSr<|z2 (zAi rfl)<|z6<|zh<|zj (x := .int _ _) rfl ?_
   unfold typeOf; simp_all
  ·refine zd<|zSr<|z2 (zAi rfl)<|z6<|zh<|zj (x := .int _ _) rfl ?_
   unfold typeOf; simp_all
theorem copy_word : ∀ j : Nat, j < 27 → decide ((kRow (j : Int)).1 = ⟨#[99, 111, 112, 121]⟩) = decide (j = 1) := by decide
theorem copy_op {op : Int} (h : 0 ≤ op ∧ op ≤ 26) : ((kRow op).1 = ⟨#[99, 111, 112, 121]⟩) ↔ op = 1 := by
 have h1 := copy_word op.toNat (by omega)
 rw [Int.toNat_of_nonneg h.1] at h1
 constructor
 ·intro e
  have : decide (op.toNat = 1) = true := by rw [← h1]; exact qv e
  have := of_decide_eq_true this
  omega
 ·intro e
  have h2 : op.toNat = 1 := by omega
  have : decide ((kRow op).1 = ⟨#[99, 111, 112, 121]⟩) = true := by rw [h1]; exact qv h2
  exact of_decide_eq_true this
theorem kRow_get {op : Int} (h : 0 ≤ op ∧ op ≤ 26) : kindT[op.toNat]? = some (kRow op) := by
 unfold kRow
 have hl : op.toNat < kindT.length := by have : kindT.length = 27 := rfl; omega
 rw [if_pos h.1, qj hl]; rfl
def wantL (f : PFunc) (x : PInst) : List Int := if x.op = 1 then [kindV f x.dst] else takesL x.op
theorem wantL_len {f : PFunc} {x : PInst} (h : InstF f x) : x.args.length = (wantL f x).length := by
 rw [h.len]
 unfold wantL
 split
 ·rename_i e; rw [e]; rfl
 ·rfl
theorem instT_want {f : PFunc} {x : PInst} (h : InstF f x) : instT f x = (decide (x.args.map (kindV f) = wantL f x) && (!makesB x.op || (decide (x.op = 1) || decide (kindV f x.dst = makesT x.op)))) := by
 unfold instT wantL
 by_cases e : x.op = 1
 ·have hl := h.len
  rw [e, show (takesL 1).length = 1 from rfl] at hl
  obtain ⟨a, ha⟩ := List.length_eq_one_iff.1 hl
  rw [if_pos e, if_pos e, ha]
  simp [e]
  exact eq_comm
 ·rw [if_neg e, if_neg e]; simp [e]
theorem takes_byte {op : Int} {m : Nat} (h : m < (takesL op).length) : ∃ c : UInt8, (kRow op).2.1.data[m]? = some c ∧ (takesL op)[m] = typeOf (c.toNat : Int) := by
 have h1 : m < (kRow op).2.1.data.size := by rw [takes_len] at h; exact h
 have e : (takesL op)[m]? = ((kRow op).2.1.data.toList[m]?).map fun b => typeOf b.toNat := by unfold takesL; rw [qr]
 rw [qj h, Array.getElem?_toList, Array.getElem?_eq_getElem h1] at e
 exact ⟨(kRow op).2.1.data[m], by rw [Array.getElem?_eq_getElem h1], by simpa using e⟩
theorem makes_byte {op : Int} (h : ¬ (kRow op).2.2 = ⟨#[]⟩) : ∃ c : UInt8, (kRow op).2.2.data[0]? = some c ∧ makesT op = typeOf (c.toNat : Int) := by
 unfold makesT
 generalize (kRow op).2.2 = m at h ⊢
 obtain ⟨⟨l⟩⟩ := m
 cases l with
 | nil => exact absurd rfl h
 | cons c l => exact ⟨c, by simp, rfl⟩
end Go.Proofs.YtiojekbkamegdaaGreatDoor
