/- The document's joined, single and plain. Of programs that are little. -/
import Derived.Test.YtjnpcfpecilejaaGreatDoorGl
import Derived.Test.YtjnpcfpecilejaaGreatDoorGi
set_option linter.unusedVariables false
set_option linter.unusedSimpArgs false
set_option linter.unusedSectionVars false
namespace Go.Proofs.YtjnpcfpecilejaaGreatDoor
open Go.Proofs.Tryz
open Go.Proofs Go.Lib Go.Shelf Go.RowKit
variable {E : World}
set_option maxRecDepth 20000
theorem mem_endsL (t : PTerm) (b : Int) : b ∈ endsL t ↔ (t.kind = 0 ∧ t.to0 = b) ∨ (t.kind = 1 ∧ (t.to0 = b ∨ t.to1 = b)) := by
 unfold endsL
 by_cases h0 : t.kind = 0
 ·rw [if_pos h0]; simp [h0]; exact eq_comm
 ·rw [if_neg h0]
  by_cases h1 : t.kind = 1
  ·rw [if_pos h1]
   by_cases h2 : t.to0 = t.to1
   ·rw [if_pos h2]; simp [h1, h2]; exact eq_comm
   ·rw [if_neg h2]; simp [h1]
    constructor
    ·rintro (h | h); exact .inl h.symm; exact .inr h.symm
    ·rintro (h | h); exact .inl h.symm; exact .inr h.symm
  ·rw [if_neg h1]; simp [h0, h1]
theorem leads_spec (f : PFunc) (hn : f.blocks.length ≤ 1000) (a b : Int) (h0 : 0 ≤ a) (ha : a < f.blocks.length) : AFun prog E 17 [.agg (encF f), .int .i64 a, .int .i64 b] (.bool (decide (b ∈ EndsOf f a))) := by
 obtain ⟨c, hc⟩ : ∃ c, f.blocks[a.toNat]'(by omega) = c := ⟨_, rfl⟩
 have hget : f.blocks[a.toNat]? = some c := by rw [qc (by omega), hc]
 have hE : EndsOf f a = endsL c.term := by rw [EndsOf_get h0 (by omega), hc]
 rw [hE]
 refine zl func17 rfl (by decide) rfl<|zSr<|y4 (cs := _) rfl rfl rfl<|z2 (zAb rfl)<|z6<|zSr<|z2 (zFF underlying26 rfl sizeOf24 rfl rfl)<|z2 (zLf isAgg24 rfl)<|z2 (zMi rfl)<|z2 (zIM a.toNat underlying24 sizeOf66 rfl rfl (by omega) hget)<|z2 (zFF underlying66 rfl sizeOf64 rfl rfl)<|z2 (zk isAgg64 sizeOf64 rfl rfl)<|zy (cs := [.int .i64 0, .int .i64 0, .int .i64 0, .int .i64 0]) zeroValue64 rfl rfl<|fun i7 => zo sizeOf64 rfl rfl rfl rfl rfl rfl .head rfl<|zb (y9 (t := 7) rfl .head)<|z6<|zSr<|z2 (zFF underlying64 rfl sizeOf61 rfl rfl)<|z2 (zLi isAgg61 rfl)<|z2 (y6 rfl rfl)<|z2 (zMb rfl)<|zn (s := 17) rfl (fun c1=>?_) (fun c1=>?_)
 ·refine z8 rfl rfl c1<|z2 (zFF underlying64 rfl sizeOf62 rfl rfl)<|z8 rfl rfl c1<|z2 (yq (j := 0) underlying62 sizeOf3 rfl rfl rfl (by decide) rfl)<|z8 rfl rfl c1<|z2 (zLi isAgg3 rfl)<|z8 rfl rfl c1<|z2 (zMi rfl)<|z8 rfl rfl c1<|z2 (y6 rfl rfl)<|z2 (zPt rfl c1 rfl)<|z2 (zMb rfl)<|zn (s := 24) rfl (fun c2=>?_) (fun c2=>?_)
  ·refine z7 rfl rfl c2<|z7 rfl rfl c2<|z7 rfl rfl c2<|z7 rfl rfl c2<|zh rfl rfl<|zh rfl rfl<|zh rfl rfl<|zh rfl rfl<|zh rfl rfl<|zh rfl rfl<|zh rfl rfl<|zh rfl rfl<|zh rfl rfl<|zh rfl rfl<|zh rfl rfl<|zh rfl rfl<|z7 rfl rfl c2<|z2 (zPt rfl c2 rfl)<|z2 (zAb rfl)<|z6<|zg<|zj (x := .bool _) rfl<|congrArg AV.bool ?_; rw [ql]; simp only [qr, mem_endsL]; simp_all
  ·refine z8 rfl rfl c2<|z2 (zFF underlying64 rfl sizeOf61 rfl rfl)<|z8 rfl rfl c2<|z2 (zLi isAgg61 rfl)<|z8 rfl rfl c2<|z2 (y6 rfl rfl)<|z8 rfl rfl c2<|z2 (zMb rfl)<|zn (s := 28) rfl (fun c3=>?_) (fun c3=>?_)
   ·refine z8 rfl rfl c3<|z2 (zFF underlying64 rfl sizeOf62 rfl rfl)<|z8 rfl rfl c3<|z2 (yq (j := 0) underlying62 sizeOf3 rfl rfl rfl (by decide) rfl)<|z8 rfl rfl c3<|z2 (zLi isAgg3 rfl)<|z8 rfl rfl c3<|z2 (zMi rfl)<|z8 rfl rfl c3<|z2 (y6 rfl rfl)<|z8 rfl rfl c3<|z2 (zMb rfl)<|zn (s := 34) rfl (fun c4=>?_) (fun c4=>?_)
    ·refine z7 rfl rfl c4<|z7 rfl rfl c4<|z7 rfl rfl c4<|z7 rfl rfl c4<|z7 rfl rfl c4<|z8 rfl rfl c3<|z2 (zPt rfl c4 rfl)<|z8 rfl rfl c2<|z2 (zPt rfl c3 rfl)<|z2 (zPf rfl c2 rfl)<|z2 (zAb rfl)<|z6<|zg<|zj (x := .bool _) rfl<|congrArg AV.bool ?_; rw [ql]; simp only [qr, mem_endsL]; simp_all
    ·refine z8 rfl rfl c4<|z2 (zFF underlying64 rfl sizeOf62 rfl rfl)<|z8 rfl rfl c4<|z2 (yq (j := 1) underlying62 sizeOf3 rfl rfl rfl (by decide) rfl)<|z8 rfl rfl c4<|z2 (zLi isAgg3 rfl)<|z8 rfl rfl c4<|z2 (zMi rfl)<|z8 rfl rfl c4<|z2 (y6 rfl rfl)<|z8 rfl rfl c3<|z2 (zPf rfl c4 rfl)<|z8 rfl rfl c2<|z2 (zPt rfl c3 rfl)<|z2 (zPf rfl c2 rfl)<|z2 (zAb rfl)<|z6<|zg<|zj (x := .bool _) rfl<|congrArg AV.bool ?_; rw [ql]; simp only [qr, mem_endsL]; simp_all
   ·refine z7 rfl rfl c3<|z7 rfl rfl c3<|z7 rfl rfl c3<|z7 rfl rfl c3<|z7 rfl rfl c3<|z7 rfl rfl c3<|zh rfl rfl<|zh rfl rfl<|zh rfl rfl<|zh rfl rfl<|zh rfl rfl<|z7 rfl rfl c3<|z8 rfl rfl c2<|z2 (zPf rfl c3 rfl)<|z2 (zPf rfl c2 rfl)<|z2 (zAb rfl)<|z6<|zg<|zj (x := .bool _) rfl<|congrArg AV.bool ?_; rw [ql]; simp only [qr, mem_endsL]; simp_all
 ·refine z7 rfl rfl c1<|z7 rfl rfl c1<|z7 rfl rfl c1<|z7 rfl rfl c1<|z7 rfl rfl c1<|z2 (zPf rfl c1 rfl)<|z2 (zMb rfl)<|z8 rfl rfl rfl<|z2 (zFF underlying64 rfl sizeOf61 rfl rfl)<|z8 rfl rfl rfl<|z2 (zLi isAgg61 rfl)<|z8 rfl rfl rfl<|z2 (y6 rfl rfl)<|z8 rfl rfl rfl<|z2 (zMb rfl)<|zn (s := 28) rfl (fun c5=>?_) (fun c5=>?_)
  ·refine z8 rfl rfl c5<|z2 (zFF underlying64 rfl sizeOf62 rfl rfl)<|z8 rfl rfl c5<|z2 (yq (j := 0) underlying62 sizeOf3 rfl rfl rfl (by decide) rfl)<|z8 rfl rfl c5<|z2 (zLi isAgg3 rfl)<|z8 rfl rfl c5<|z2 (zMi rfl)<|z8 rfl rfl c5<|z2 (y6 rfl rfl)<|z8 rfl rfl c5<|z2 (zMb rfl)<|zn (s := 34) rfl (fun c6=>?_) (fun c6=>?_)
   ·refine z7 rfl rfl c6<|z7 rfl rfl c6<|z7 rfl rfl c6<|z7 rfl rfl c6<|z7 rfl rfl c6<|z8 rfl rfl c5<|z2 (zPt rfl c6 rfl)<|z8 rfl rfl rfl<|z2 (zPt rfl c5 rfl)<|z2 (zPf rfl rfl rfl)<|z2 (zAb rfl)<|z6<|zg<|zj (x := .bool _) rfl<|congrArg AV.bool ?_; rw [ql]; simp only [qr, mem_endsL]; simp_all
   ·refine z8 rfl rfl c6<|z2 (zFF underlying64 rfl sizeOf62 rfl rfl)<|z8 rfl rfl c6<|z2 (yq (j := 1) underlying62 sizeOf3 rfl rfl rfl (by decide) rfl)<|z8 rfl rfl c6<|z2 (zLi isAgg3 rfl)<|z8 rfl rfl c6<|z2 (zMi rfl)<|z8 rfl rfl c6<|z2 (y6 rfl rfl)<|z8 rfl rfl c5<|z2 (zPf rfl c6 rfl)<|z8 rfl rfl rfl<|z2 (zPt rfl c5 rfl)<|z2 (zPf rfl rfl rfl)<|z2 (zAb rfl)<|z6<|zg<|zj (x := .bool _) rfl<|congrArg AV.bool ?_; rw [ql]; simp only [qr, mem_endsL]; simp_all
  ·refine z7 rfl rfl c5<|z7 rfl rfl c5<|z7 rfl rfl c5<|z7 rfl rfl c5<|z7 rfl rfl c5<|z7 rfl rfl c5<|zh rfl rfl<|zh rfl rfl<|zh rfl rfl<|zh rfl rfl<|zh rfl rfl<|z7 rfl rfl c5<|z8 rfl rfl rfl<|z2 (zPf rfl c5 rfl)<|z2 (zPf rfl rfl rfl)<|z2 (zAb rfl)<|z6<|zg<|zj (x := .bool _) rfl<|congrArg AV.bool ?_; rw [ql]; simp only [qr, mem_endsL]; simp_all
theorem okX_set {a shut x : Int} {out : List Bool} {y : Nat} (hx : okX a out shut x) (h0 : 0 ≤ x) (hy : y < out.length) : okX a (out.set y true) shut x := by
 refine ⟨hx.1, ?_⟩
 rcases hx.2 with h | h
 ·exact .inl h
 ·right
  unfold gb at h ⊢
  rw [List.getElem?_set]
  by_cases e : y = x.toNat
  ·rw [if_pos e, if_pos (by omega)]; rfl
  ·rw [if_neg e]; exact h
set_option maxHeartbeats 4000000 in
theorem from_own (f : PFunc) (hE : EndsOk f) (hn : f.blocks.length ≤ 1000) (a shut : Int) (h0 : 0 ≤ a) (ha : a < f.blocks.length) : ACall prog E 102 [.agg (encF f), .int .i64 a, .int .i64 shut] []
  fun x O => ∃ i : Nat, x = .own i f.blocks.length ∧ O = [(i, .grow 1 4 (cB (fromT (EndsOf f) f.blocks.length a shut)))] := by
 have hG := hE.grph
 obtain ⟨n, hnn⟩ : ∃ n, f.blocks.length = n := ⟨_, rfl⟩
 rw [hnn] at hG hn ha ⊢
 refine zl func102 rfl (by decide) rfl<|zSr<|y4 (cs := _) rfl rfl rfl<|z2 (zAr rfl)<|z6<|zSr<|z2 (zFF underlying26 rfl sizeOf24 rfl rfl)<|z2 (zLf isAgg24 rfl)<|z2 (zq underlying24 rfl)<|z2 (zAi rfl)<|z6<|zSr<|z2 (zMi rfl)<|AOps.makeB (m := n) underlying111 type4 rfl rfl rfl rfl rfl (by omega) (by omega) (by show (1 : Int) * _ ≤ _; omega) (by omega)<|fun i16 => z2 (zAo rfl)<|z6<|za<|zSr<|z2 (zAb rfl)<|z6<|zd<|y1 (γ := List Bool × Bool) [1, 2, 3, 7, 8] (fun g => [(9, .bool g.2)]) (fun g => [(i16, .grow 1 4 (cB g.1))]) (fun g => FrS (EndsOf f) a shut n g.1 ∧ (g.2 = false → clTo (EndsOf f) a shut g.1 n)) (fun g => 2 * nFalse g.1 + (if g.2 = true then 1 else 0)) (List.replicate n false, true) zR1 zLe (⟨FrS.begin _ _ _ _, fun h => by cases h⟩) ?_
 rintro ⟨o0, again⟩ ⟨hS0, hfin⟩
 try dsimp only at *
 refine za<|zSr<|z2 (zMb rfl)<|z6<|zr rfl (fun ca=>?_) (fun ca=>?_)
 ·have ca : again = true := by simpa using ca
  subst ca
  refine ze<|zd<|zSr<|z2 (zAb rfl)<|z6<|zSr<|z2 (zMi rfl)<|z2 (zMi rfl)<|z6<|zd<|y1 (γ := Nat × List Bool × Bool) [1, 2, 3, 7, 8, 18] (fun g => [(19, .int .i64 g.1), (9, .bool g.2.2)]) (fun g => [(i16, .grow 1 4 (cB g.2.1))]) (fun g => g.1 ≤ n ∧ FrR (EndsOf f) a shut n o0 g.2.1 g.2.2 ∧ (g.2.2 = false → clTo (EndsOf f) a shut g.2.1 g.1)) (fun g => n - g.1) (0, o0, false) zR2 zLe (⟨qf _, ⟨hS0, Nat.le_refl _, fun h => (by cases h), fun _ => rfl⟩, fun _ x hx => by omega⟩) ?_
  rintro ⟨x, out, ag⟩ ⟨hx, hR, hcl⟩
  try dsimp only at *
  have hol := hR.len
  refine zSr<|z2 (y7 rfl rfl)<|z6<|za<|zt rfl (fun cx=>?_) (fun cx=>?_)
  ·have hx2 : x < n := by omega
   have hgx : out[x]? = some (gb out (x : Int)) := gb_some (by omega)
   refine ze<|za<|zd<|zSr<|z2 (zMi rfl)<|z2 (zAi rfl)<|z6<|za<|za<|yh (γ := Bool) [1, 2, 3, 7, 8, 9, 10, 18, 19] (fun u => [(36, .bool u)]) (fun u => [(i16, .grow 1 4 (cB out))]) (fun u => u = !decide (okX a out shut x)) ?_ (fun _ _ h => h) ?_
   ·refine zRg<|z2 (zMi rfl)<|z2 (zMi rfl)<|z2 (y6 rfl rfl)<|z2 (zMb rfl)<|zn (s := 25) rfl (fun c7=>?_) (fun c7=>?_)
    ·refine z7 rfl rfl c7<|z7 rfl rfl c7<|z7 rfl rfl c7<|z7 rfl rfl c7<|zh rfl rfl<|zh rfl rfl<|zh rfl rfl<|zh rfl rfl<|zh rfl rfl<|z7 rfl rfl c7<|z2 (zPt rfl c7 rfl)<|z6 ?_
     exact ⟨_, zR9, zR1, zLe, by simp_all [okX]⟩
    ·refine z8 rfl rfl c7<|z2 (zMi rfl)<|z8 rfl rfl c7<|z2 (zMi rfl)<|z8 rfl rfl c7<|z2 (ya rfl rfl)<|z8 rfl rfl c7<|z2 (zMb rfl)<|zn (s := 29) rfl (fun c8=>?_) (fun c8=>?_)
     ·refine z8 rfl rfl c8<|z2 (zMo rfl)<|z8 rfl rfl c8<|z2 (zMi rfl)<|z8 rfl rfl c8<|z2 (yp (j := x) underlying111 sizeOf4 rfl rfl rfl ⟨_, .head⟩ (by first | rfl | (simp [cI_len, cB_len]; done) | (simp [cI_len, cB_len]; omega)) hx2)<|z8 rfl rfl c8<|z2 (Gv.loadB (j := x) isAgg4 rfl ⟨_, .head⟩ hgx)<|z8 rfl rfl c8<|z2 (yc rfl)<|z8 rfl rfl c7<|z2 (zPt rfl c8 rfl)<|z2 (zPf rfl c7 rfl)<|z6 ?_
      exact ⟨_, zR9, zR1, zLe, by simp_all [okX]⟩
     ·refine z7 rfl rfl c8<|z7 rfl rfl c8<|z7 rfl rfl c8<|z7 rfl rfl c8<|z7 rfl rfl c8<|z8 rfl rfl c7<|z2 (zPf rfl c8 rfl)<|z2 (zPf rfl c7 rfl)<|z6 ?_
      exact ⟨_, zR9, zR1, zLe, by simp_all [okX]⟩
   ·rintro u hu
    subst hu
    refine zr rfl (fun co=>?_) (fun co=>?_)
    ·have hno : ¬ okX a out shut x := by simpa using co
     refine zz<|zRg<|z2 (zAd rfl rfl)<|z2 (zMi rfl)<|z6 ?_
     exact ⟨(x + 1, out, ag), zR6, zR2, zLe, ⟨hx2, hR, fun h z hz hok => by rcases Nat.lt_succ_iff_lt_or_eq.1 hz with h1 | h1; exact hcl h z h1 hok; exact absurd (h1 ▸ hok) hno⟩, by dsimp only; omega⟩
    ·have hok : okX a out shut x := by simpa using co
     refine ze<|zSr<|z2 (zMi rfl)<|z2 (zMi rfl)<|z6<|zd<|y1 (γ := Nat × List Bool × Bool) [1, 2, 3, 7, 8, 10, 18, 19, 37] (fun g => [(38, .int .i64 g.1), (9, .bool g.2.2)]) (fun g => [(i16, .grow 1 4 (cB g.2.1))]) (fun g => g.1 ≤ n ∧ FrR (EndsOf f) a shut n o0 g.2.1 g.2.2 ∧ okX a g.2.1 shut x ∧ (g.2.2 = false → clTo (EndsOf f) a shut g.2.1 x ∧ clAt (EndsOf f) a shut g.2.1 x g.1)) (fun g => n - g.1) (0, out, ag) zR2 zLe (⟨qf _, hR, hok, fun h => ⟨hcl h, fun _ y hy => by omega⟩⟩) ?_
     rintro ⟨y, out, ag⟩ ⟨hy, hR, hok, hcl⟩
     try dsimp only at *
     have hol := hR.len
     refine zSr<|z2 (y7 rfl rfl)<|z6<|za<|zt rfl (fun cy=>?_) (fun cy=>?_)
     ·have hy2 : y < n := by omega
      have hgy : out[y]? = some (gb out (y : Int)) := gb_some (by omega)
      have hstep : (ag = false → (y : Int) ∈ EndsOf f x → (y : Int) ≠ shut → gb out y = true) → (ag = false → clTo (EndsOf f) a shut out x ∧ clAt (EndsOf f) a shut out x (y + 1)) := fun h1 h2 => ⟨(hcl h2).1, fun ho z hz he hs => by
       rcases Nat.lt_succ_iff_lt_or_eq.1 hz with h3 | h3
       ·exact (hcl h2).2 ho z h3 he hs
       ·subst h3; exact h1 h2 he hs⟩
      refine ze<|za<|zd<|zSr<|z2 (zMi rfl)<|z2 (zAi rfl)<|z6<|zSr<|z2 (zMi rfl)<|z2 (zMi rfl)<|z2 (ya rfl rfl)<|z2 (zMb rfl)<|zn (s := 44) rfl (fun c1=>?_) (fun c1=>?_)
      ·have d1 : (y : Int) ≠ shut := by simpa using c1
       refine z8 rfl rfl c1<|z2 (zMo rfl)<|z8 rfl rfl c1<|z2 (zMi rfl)<|z8 rfl rfl c1<|z2 (yp (j := y) underlying111 sizeOf4 rfl rfl rfl ⟨_, .head⟩ (by first | rfl | (simp [cI_len, cB_len]; done) | (simp [cI_len, cB_len]; omega)) hy2)<|z8 rfl rfl c1<|z2 (Gv.loadB (j := y) isAgg4 rfl ⟨_, .head⟩ hgy)<|z8 rfl rfl c1<|z2 (yc rfl)<|z2 (zPt rfl c1 rfl)<|z2 (zMb rfl)<|zn (s := 51) rfl (fun c2=>?_) (fun c2=>?_)
       ·have d2 : gb out (y : Int) = false := by simpa using c2
        refine z8 rfl rfl c2<|z2 (zk isAgg26 sizeOf26 rfl rfl)<|z8 rfl rfl c2<|z2 (zMi rfl)<|z8 rfl rfl c2<|z2 (zMi rfl)<|z8 rfl rfl c2<|zc (leads_spec f (by omega) (x : Int) (y : Int) (by omega) (by omega)) rfl<|z2 (zPt rfl c2 rfl)<|z6<|zr rfl (fun c3=>?_) (fun c3=>?_)
        ·have d3 : (y : Int) ∈ EndsOf f x := by simpa using c3
         refine zSr<|z2 (zMo rfl)<|z2 (zMi rfl)<|z2 (yp (j := y) underlying111 sizeOf4 rfl rfl rfl ⟨_, .head⟩ (by first | rfl | (simp [cI_len, cB_len]; done) | (simp [cI_len, cB_len]; omega)) hy2)<|AOps.storeB (j := y) sizeOf4 rfl rfl .head (by first | omega | (simp; omega))<|z6<|zRg<|z2 (zAb rfl)<|z6<|zRg<|z2 (zAd rfl rfl)<|z2 (zMi rfl)<|z6 ?_
         exact ⟨(y + 1, out.set y true, true), zR9, zR2, zLe, ⟨hy2, hR.hit hok d3 d1 hy2 d2, okX_set hok (by omega) (by omega), fun h => by cases h⟩, by dsimp only; omega⟩
        ·have d3 : ¬ (y : Int) ∈ EndsOf f x := by simpa using c3
         refine ze<|zRg<|z2 (zAd rfl rfl)<|z2 (zMi rfl)<|z6 ?_
         exact ⟨(y + 1, out, ag), zR9, zR2, zLe, ⟨hy2, hR, hok, hstep fun _ h _ => absurd h d3⟩, by dsimp only; omega⟩
       ·have d2 : gb out (y : Int) = true := by simpa using c2
        refine z7 rfl rfl c2<|z7 rfl rfl c2<|z7 rfl rfl c2<|z7 rfl rfl c2<|z2 (zPf rfl c2 rfl)<|z6<|yb rfl rfl<|ze<|zRg<|z2 (zAd rfl rfl)<|z2 (zMi rfl)<|z6 ?_
        exact ⟨(y + 1, out, ag), zR9, zR2, zLe, ⟨hy2, hR, hok, hstep fun _ _ _ => d2⟩, by dsimp only; omega⟩
      ·have d1 : (y : Int) = shut := by simpa using c1
       refine z7 rfl rfl c1<|z7 rfl rfl c1<|z7 rfl rfl c1<|z7 rfl rfl c1<|z7 rfl rfl c1<|z2 (zPf rfl c1 rfl)<|z2 (zMb rfl)<|z7 rfl rfl rfl<|z7 rfl rfl rfl<|z7 rfl rfl rfl<|z7 rfl rfl rfl<|z2 (zPf rfl rfl rfl)<|z6<|yb rfl rfl<|ze<|zRg<|z2 (zAd rfl rfl)<|z2 (zMi rfl)<|z6 ?_
       exact ⟨(y + 1, out, ag), zR9, zR2, zLe, ⟨hy2, hR, hok, hstep fun _ _ h => absurd d1 h⟩, by dsimp only; omega⟩
     ·have hyn : y = n := by omega
      refine zz<|zRg<|z2 (zAd rfl rfl)<|z2 (zMi rfl)<|z6 ?_
      exact ⟨(x + 1, out, ag), zR6, zR2, zLe, ⟨hx2, hR, fun h z hz ho => by rcases Nat.lt_succ_iff_lt_or_eq.1 hz with h1 | h1; exact (hcl h).1 z h1 ho; subst h1; exact fun y2 he hs => (by by_cases hlt : y2 < n; exact (hcl h).2 ho y2 (by omega) he hs; exact absurd (hG.rng z (by omega) (by omega) _ he).2 (by omega))⟩, by dsimp only; omega⟩
  ·have hxn : x = n := by omega
   subst hxn
   refine zz ?_
   exact ⟨(out, ag), zR5, zR1, zLe, ⟨hR.toFrS, hcl⟩, by dsimp only; have h1 := hR.less; have h2 := hR.more; cases ag; simp; omega; have := h2 rfl; simp; omega⟩
 ·have ca : again = false := by simpa using ca
  rw [hS0.eq hG ⟨h0, ha⟩ (hfin ca)]
  refine zz<|zSr<|z2 (zMo rfl)<|z2 (zAo rfl)<|z6<|zg<|zj (x := .own _ _) rfl ?_
  exact ⟨i16, rfl, rfl⟩
theorem reached_spec (f : PFunc) (hE : EndsOk f) (hn : f.blocks.length ≤ 1000) (shut : Int) : AFun prog E 57 [.agg (encF f), .int .i64 shut] (.fro 1 ((reachT (EndsOf f) f.blocks.length shut).map encB)) := by
 have hpos := hE.grph.npos
 refine zl func57 rfl (by decide) rfl<|zSr<|y4 (cs := _) rfl rfl rfl<|z2 (zAr rfl)<|z6<|zSr<|z2 (zk isAgg26 sizeOf26 rfl rfl)<|z2 (zMi rfl)<|y5 rfl (zx (.rest _)) (from_own f hE hn 0 shut (Int.le_refl _) (by omega)) ?_
 rintro r8 O8 ⟨i8, rfl, rfl⟩
 refine z2 (zAo rfl)<|z6<|zSr<|z2 (zMo rfl)<|z2 (zMi rfl)<|z2 (ya rfl rfl)<|z2 (yp (j := 0) underlying111 sizeOf4 rfl rfl rfl ⟨_, .head⟩ (by rw [cB_len, fromT_len]) hpos)<|AOps.storeB (j := 0) sizeOf4 rfl rfl .head (by rw [fromT_len]; exact hpos)<|z6<|zSr<|z2 (zMo rfl)<|z2 (zAo rfl)<|z6 ?_
 rw [show (!decide (shut = 0)) = decide (shut ≠ 0) by simp, reachT_eq]
 refine yf (GStep.knowB (t := 4) rfl .head (reachT_len _ _ _))<|zg<|zj (x := .fro _ _) rfl ?_
 rfl
end Go.Proofs.YtjnpcfpecilejaaGreatDoor
namespace Go.Proofs.YtjnpcfpecilejaaGreatDoor
open Go.Proofs.Tryz
def cntE (v : Nat) (ev : List (Int × Plc)) : Nat := (ev.filter fun e => decide (e.1 = (v : Int))).length
theorem cntE_push (v : Nat) (ev : List (Int × Plc)) (d : Int) (x : Plc) : cntE v (ev ++ [(d, x)]) = cntE v ev + if d = (v : Int) then 1 else 0 := by
 unfold cntE; rw [List.filter_append, qi]
 by_cases h : d = (v : Int) <;> simp [h]
theorem makings_cnt (f : PFunc) (v : Nat) : (makings f v).length = cntE v (evTo f f.blocks.length) := by rw [← evTo_of, qj]; rfl
theorem cntE_le (v : Nat) (ev : List (Int × Plc)) : cntE v ev ≤ ev.length := List.length_filter_le _ _
theorem evTo_pre {f : PFunc} : ∀ {n k : Nat}, k ≤ n → n ≤ f.blocks.length → evTo f k <+: evTo f n
 | 0, k, h, _ => by rw [show k = 0 by omega]; exact List.prefix_refl _
 | n + 1, k, h, hn => by
  by_cases e : k = n + 1
  ·rw [e]; exact List.prefix_refl _
  ·rw [evTo_succ (by omega)]
   exact (evTo_pre (by omega) (by omega)).trans (List.prefix_append _ _)
theorem evPh_pre (i : Nat) (ps : List PPhi) (j : Nat) : evPh i (ps.take j) <+: evPh i ps := by
 unfold evPh
 obtain ⟨r, hr⟩ := List.take_prefix j ps
 exact ⟨r.map fun p => (p.dst, ((i : Int), -1)), by rw [← List.map_append, hr]⟩
theorem evIn_pre (i : Nat) (xs : List PInst) : ∀ (m j : Nat), j ≤ m → m ≤ xs.length → evIn i (xs.take j) <+: evIn i (xs.take m)
 | 0, j, h, _ => by rw [show j = 0 by omega]; exact List.prefix_refl _
 | m + 1, j, h, hm => by
  by_cases e : j = m + 1
  ·rw [e]; exact List.prefix_refl _
  ·rw [evIn_succ i (by omega)]
   exact (evIn_pre i xs m j (by omega) (by omega)).trans (List.prefix_append _ _)
theorem pre_phi {f : PFunc} {k j : Nat} {b : PBlock} (hk : k < f.blocks.length) (hb : f.blocks[k] = b) (hj : j < b.phis.length) : (evTo f k ++ evPh k (b.phis.take j)) ++ [(b.phis[j].dst, ((k : Int), (-1 : Int)))] <+: evTo f f.blocks.length := by
 refine List.IsPrefix.trans ?_ (evTo_pre (show k + 1 ≤ f.blocks.length by omega) (Nat.le_refl _))
 rw [evTo_succ hk, hb, qe, ← evPh_succ k hj, evBl]
 exact (List.prefix_append_right_inj _).2 ((evPh_pre k b.phis (j + 1)).trans (List.prefix_append _ _))
theorem pre_inst {f : PFunc} {k j : Nat} {b : PBlock} (hk : k < f.blocks.length) (hb : f.blocks[k] = b) (hj : j < b.insts.length) (h0 : 0 ≤ b.insts[j].dst) : (evTo f k ++ evPh k b.phis ++ evIn k (b.insts.take j)) ++ [(b.insts[j].dst, ((k : Int), (j : Int)))] <+: evTo f f.blocks.length := by
 refine List.IsPrefix.trans ?_ (evTo_pre (show k + 1 ≤ f.blocks.length by omega) (Nat.le_refl _))
 have h := evIn_succ k hj
 rw [if_pos h0] at h
 rw [evTo_succ hk, hb, qe, ← h, evBl, qe]
 have h2 := evIn_pre k b.insts b.insts.length (j + 1) (by omega) (Nat.le_refl _)
 rw [qh] at h2
 exact (List.prefix_append_right_inj _).2 ((List.prefix_append_right_inj _).2 h2)
theorem maker_hit {f : PFunc} {v : Nat} {pre : List (Int × Plc)} {x : Plc} (hp : pre ++ [((v : Int), x)] <+: evTo f f.blocks.length) (h0 : cntE v pre = 0) : makerT f v = x := by
 obtain ⟨r, hr⟩ := hp
 have h1 : pre.filter (fun e => decide (e.1 = (v : Int))) = [] := List.eq_nil_of_length_eq_zero h0
 unfold makerT
 rw [← evTo_of, ← hr, List.filter_append, List.filter_append, h1]
 simp
theorem maker_none {f : PFunc} {v : Nat} (h0 : cntE v (evTo f f.blocks.length) = 0) : makerT f v = (-1, 0) := by
 unfold makerT
 rw [← evTo_of, List.eq_nil_of_length_eq_zero h0]
 rfl
noncomputable section
def aheadR (f : PFunc) (m : Plc) (b at_ : Int) : Bool := by
 classical exact if m.1 < 0 then true else if m.1 = b then decide (m.2 < at_) else !decide (Way (EndsOf f) (fun x => x ≠ m.1) 0 b)
def phR (f : PFunc) (p : PPhi) : Bool := (p.args.zip p.from_).all fun q => aheadR f (makerT f q.1) q.2 (lenAt f q.2)
def inR (f : PFunc) (i : Nat) (x : PInst × Nat) : Bool := x.1.args.all fun v => aheadR f (makerT f v) i x.2
def tmR (f : PFunc) (i : Nat) (b : PBlock) : Bool := decide (b.term.kind = 0) || aheadR f (makerT f b.term.var) i b.insts.length
def blkR (f : PFunc) (i : Nat) (b : PBlock) : Bool := by
 classical exact decide (Rch (EndsOf f) (i : Int)) && (b.phis.all (phR f) && (b.insts.zipIdx.all (inR f i) && tmR f i b))
def atR (f : PFunc) (i : Nat) : Bool := ((f.blocks[i]?).map (blkR f i)).getD true
def singR (f : PFunc) : Bool := joinedB f && (onceB f && (List.range f.blocks.length).all (atR f))
end
theorem atR_at {f : PFunc} {i : Nat} {b : PBlock} (h : f.blocks[i]? = some b) : atR f i = blkR f i b := by unfold atR; rw [h]; rfl
theorem aheadR_eq {f : PFunc} (hE : EndsOk f) (m : Plc) {b : Int} (at_ : Int) (hb : Rch (EndsOf f) b) : aheadR f m b at_ = aheadB f m b at_ := by
 rw [ql, aheadB_iff hE]
 unfold aheadR AheadP
 by_cases h0 : m.1 < 0
 ·rw [if_pos h0]; simp [h0]
 ·rw [if_neg h0]
  by_cases h1 : m.1 = b
  ·rw [if_pos h1]; simp [h1]; omega
  ·rw [if_neg h1]
   simp only [Bool.not_eq_true', decide_eq_false_iff_not]
   constructor
   ·intro h; exact .inr (.inr ⟨by omega, h1, hb, h⟩)
   ·rintro (h | h | h)
    ·exact absurd h h0
    ·exact absurd h.1 h1
    ·exact h.2.2.2
theorem singR_eq {f : PFunc} (hE : EndsOk f) (hfr : ∀ b ∈ f.blocks, ∀ p ∈ b.phis, ∀ c ∈ p.from_, 0 ≤ c ∧ c < f.blocks.length) : singR f = singB f := by
 unfold singR singB
 by_cases hA : AllRP f
 ·have hall : (reachB (EndsOf f) f.blocks.length).contains false = false := (reachB_iff hE).2 hA
  rw [hall]
  have hrch : ∀ c : Int, 0 ≤ c → c < f.blocks.length → Rch (EndsOf f) c := fun c h0 h1 => by
   have := hA c.toNat (by omega)
   rwa [show ((c.toNat : Nat) : Int) = c by omega] at this
  have : (List.range f.blocks.length).all (atR f) = behB f := by
   unfold behB
   rw [ql, qq, qq]
   refine forall_congr' fun i=>?_
   constructor
   all_goals
    intro h hi
    have hi2 := List.mem_range.1 hi
    have h := h hi
    have hget : f.blocks[i]? = some f.blocks[i] := qc hi2
    have hmem := qg hi2
    have e1 : f.blocks[i].phis.all (phR f) = f.blocks[i].phis.all (phA f) := by
     rw [ql, qq, qq]
     refine forall_congr' fun p => forall_congr' fun hp=>?_
     unfold phR phA
     rw [qq, qq]
     refine forall_congr' fun q => forall_congr' fun hq=>?_
     have hc := hfr _ hmem p hp q.2 (List.of_mem_zip hq).2
     rw [aheadR_eq hE _ _ (hrch q.2 hc.1 hc.2)]
    have e2 : f.blocks[i].insts.zipIdx.all (inR f i) = f.blocks[i].insts.zipIdx.all (inA f i) := by
     rw [ql, qq, qq]
     refine forall_congr' fun x => forall_congr' fun _=>?_
     unfold inR inA
     rw [qq, qq]
     refine forall_congr' fun v => forall_congr' fun _=>?_
     rw [aheadR_eq hE _ _ (hA i hi2)]
    have e3 : tmR f i f.blocks[i] = tmA f i f.blocks[i] := by unfold tmR tmA; rw [aheadR_eq hE _ _ (hA i hi2)]
    have e : blkR f i f.blocks[i] = blkA f i f.blocks[i] := by
     unfold blkR blkA; rw [e1, e2, e3]; simp [hA i hi2, Bool.and_assoc]
    first
     | (rw [atR_at hget, e] at h; rw [atA_at hget]; exact h)
     | (rw [atA_at hget, ← e] at h; rw [atR_at hget]; exact h)
  rw [this]
  simp
 ·have h1 : (reachB (EndsOf f) f.blocks.length).contains false = true := by
   cases h : (reachB (EndsOf f) f.blocks.length).contains false with
   | true => rfl
   | false => exact absurd ((reachB_iff hE).1 h) hA
  have h2 : (List.range f.blocks.length).all (atR f) = false := by
   rw [Bool.eq_false_iff]
   intro h
   apply hA
   intro i hi
   have := List.all_eq_true.1 h i (List.mem_range.2 hi)
   rw [atR_at (qc hi)] at this
   unfold blkR at this
   simp only [qp, qr] at this
   exact this.1
  rw [h1, h2]
  simp
end Go.Proofs.YtjnpcfpecilejaaGreatDoor
namespace Go.Proofs.YtjnpcfpecilejaaGreatDoor
open Go.Proofs.Tryz
open Go.Proofs Go.Lib Go.Shelf Go.RowKit
variable {E : World}
set_option maxRecDepth 20000
set_option maxHeartbeats 4000000 in
theorem Maker_spec (f : PFunc) (hf : small f) (v : Nat) : AFun prog E 28 [.agg (encF f), .int .i64 v] (.tup [.int .i64 (makerT f v).1, .int .i64 (makerT f v).2]) := by
 have hn := hf.2.2.1
 refine zl func28 rfl (by decide) rfl<|zSr<|y4 (cs := _) rfl rfl rfl<|z2 (zAi rfl)<|z2 (zAi rfl)<|z6<|za<|zSr<|z2 (zFF underlying26 rfl sizeOf24 rfl rfl)<|z2 (zLf isAgg24 rfl)<|z2 (zq underlying24 rfl)<|z2 (zMi rfl)<|z6<|zd<|y1 (γ := Nat) [1, 13, 14] (fun k => [(15, .int .i64 k)]) (fun k => []) (fun k => k ≤ f.blocks.length ∧ cntE v (evTo f k) = 0) (fun k => f.blocks.length - k) 0 zR1 zLe (⟨qf _, rfl⟩) ?_
 rintro k ⟨hk, hc⟩
 refine zSr<|z2 (y7 rfl rfl)<|z6<|za<|zt rfl (fun ck=>?_) (fun ck=>?_)
 ·have hk2 : k < f.blocks.length := by simp at ck; omega
  obtain ⟨b, hbk⟩ : ∃ b, f.blocks[k] = b := ⟨_, rfl⟩
  have hget : f.blocks[k]? = some b := by rw [qc hk2, hbk]
  have hmem : b ∈ f.blocks := hbk ▸ qg hk2
  obtain ⟨hb0, hb1, hb2, hb3, hb4⟩ := hf.2.2.2.2 b hmem
  refine ze<|za<|zd<|zSr<|z2 (zMi rfl)<|z2 (zIM k underlying24 sizeOf66 rfl rfl rfl hget)<|z2 (zk isAgg66 sizeOf66 rfl rfl)<|zy (cs := [.str ⟨#[]⟩, .raw (.slice none 0 0), .raw (.slice none 0 0), .int .i64 0, .int .i64 0, .int .i64 0, .int .i64 0]) zeroValue66 rfl rfl<|fun i7 => z2 (zAi rfl)<|zo sizeOf66 rfl rfl rfl rfl rfl rfl .head rfl<|zb (y9 (t := 7) rfl .head)<|z6<|za<|zSr<|z2 (zFF underlying66 rfl sizeOf59 rfl rfl)<|z2 (zLf isAgg59 rfl)<|z2 (zq underlying59 rfl)<|z2 (zMi rfl)<|z6<|zd<|y1 (γ := Nat) [1, 6, 7, 13, 14, 15, 21, 22] (fun j => [(23, .int .i64 j)]) (fun j => []) (fun j => j ≤ b.phis.length ∧ cntE v (evTo f k ++ evPh k (b.phis.take j)) = 0) (fun j => b.phis.length - j) 0 zR1 zLe (⟨qf _, by rw [show evPh k (b.phis.take 0) = [] from rfl, List.append_nil]; exact hc⟩) ?_
  rintro j ⟨hj, hcj⟩
  refine zSr<|z2 (y7 rfl rfl)<|z6<|za<|zt rfl (fun cj=>?_) (fun cj=>?_)
  ·have hj2 : j < b.phis.length := by simp at cj; omega
   have hpre := pre_phi hk2 hbk hj2
   have hsc := cntE_push v (evTo f k ++ evPh k (b.phis.take j)) b.phis[j].dst ((k : Int), (-1 : Int))
   rw [qe, ← evPh_succ k hj2] at hsc
   refine ze<|za<|zd<|zSr<|z2 (zIM j underlying59 sizeOf95 rfl rfl rfl (qc hj2))<|z2 (zk isAgg95 sizeOf95 rfl rfl)<|zy (cs := [.int .i64 0, .raw (.slice none 0 0), .raw (.slice none 0 0)]) zeroValue95 rfl rfl<|fun i9 => zo sizeOf95 rfl rfl rfl rfl rfl rfl .head rfl<|zb (y9 (t := 9) rfl .head)<|z6<|zSr<|z2 (zFF underlying95 rfl sizeOf3 rfl rfl)<|z2 (zLi isAgg3 rfl)<|z2 (zMi rfl)<|z2 (y6 rfl rfl)<|z6<|zr rfl (fun cd=>?_) (fun cd=>?_)
   ·have hd : b.phis[j].dst = (v : Int) := by simpa using cd
    rw [hd] at hpre
    refine zSr<|z2 (zMi rfl)<|z2 (zAi rfl)<|z2 (zAi rfl)<|z6<|zg<|afin.t2 (x := .int _ _) (y := .int _ _) rfl rfl ?_
    rw [maker_hit hpre hcj]
   ·have hd : ¬ b.phis[j].dst = (v : Int) := by simpa using cd
    refine ze<|zRg<|z2 (zAd rfl rfl)<|z2 (zMi rfl)<|z6 ?_
    exact ⟨j + 1, zR8, zR1, zLe, ⟨hj2, by rw [hsc, if_neg hd, hcj]⟩, by omega⟩
  ·have hjn : j = b.phis.length := by simp at cj; omega
   subst hjn
   rw [qh] at hcj
   refine zz<|zSr<|z2 (zFF underlying66 rfl sizeOf60 rfl rfl)<|z2 (zLf isAgg60 rfl)<|z2 (zq underlying60 rfl)<|z2 (zMi rfl)<|z6<|zd<|y1 (γ := Nat) [1, 6, 13, 14, 15, 34, 35] (fun j => [(36, .int .i64 j)]) (fun j => []) (fun j => j ≤ b.insts.length ∧ cntE v (evTo f k ++ evPh k b.phis ++ evIn k (b.insts.take j)) = 0) (fun j => b.insts.length - j) 0 zR1 zLe (⟨qf _, by rw [show evIn k (b.insts.take 0) = [] from rfl, List.append_nil]; exact hcj⟩) ?_
   rintro j ⟨hj, hci⟩
   refine zSr<|z2 (y7 rfl rfl)<|z6<|za<|zt rfl (fun cj=>?_) (fun cj=>?_)
   ·have hj2 : j < b.insts.length := by simp at cj; omega
    have hev := evIn_succ k hj2
    refine ze<|za<|zd<|zSr<|z2 (zMi rfl)<|z2 (zIM j underlying60 sizeOf33 rfl rfl rfl (qc hj2))<|z2 (zk isAgg33 sizeOf33 rfl rfl)<|zy (cs := [.int .i64 0, .int .i64 0, .raw (.slice none 0 0), .int .i64 0]) zeroValue33 rfl rfl<|fun i11 => z2 (zAi rfl)<|zo sizeOf33 rfl rfl rfl rfl rfl rfl .head rfl<|zb (y9 (t := 11) rfl .head)<|z6<|zSr<|z2 (zFF underlying33 rfl sizeOf3 rfl rfl)<|z2 (zLi isAgg3 rfl)<|z2 (zMi rfl)<|z2 (y6 rfl rfl)<|z6<|zr rfl (fun cd=>?_) (fun cd=>?_)
    ·have hd : b.insts[j].dst = (v : Int) := by simpa using cd
     have hpre := pre_inst hk2 hbk hj2 (by omega)
     rw [hd] at hpre
     refine zSr<|z2 (zMi rfl)<|z2 (zMi rfl)<|z2 (zAi rfl)<|z2 (zAi rfl)<|z6<|zg<|afin.t2 (x := .int _ _) (y := .int _ _) rfl rfl ?_
     rw [maker_hit hpre hci]
    ·have hd : ¬ b.insts[j].dst = (v : Int) := by simpa using cd
     have hsc : cntE v (evTo f k ++ evPh k b.phis ++ evIn k (b.insts.take (j + 1))) = 0 := by
      rw [hev]
      split
      ·rw [← qe, cntE_push, if_neg hd, hci]
      ·rw [List.append_nil]; exact hci
     refine ze<|zRg<|z2 (zAd rfl rfl)<|z2 (zMi rfl)<|z6 ?_
     exact ⟨j + 1, zR7, zR1, zLe, ⟨hj2, hsc⟩, by omega⟩
   ·have hjn : j = b.insts.length := by simp at cj; omega
    subst hjn
    rw [qh] at hci
    refine zz<|zRg<|z2 (zAd rfl rfl)<|z2 (zMi rfl)<|z6 ?_
    exact ⟨k + 1, zR3, zR1, zLe, ⟨hk2, by rw [evTo_succ hk2, hbk, evBl, ← qe]; exact hci⟩, by omega⟩
 ·have hkn : k = f.blocks.length := by simp at ck; omega
  subst hkn
  refine zz<|zSr<|z2 (zAi rfl)<|z2 (zAi rfl)<|z6<|zg<|afin.t2 (x := .int _ _) (y := .int _ _) rfl rfl ?_
  rw [maker_none hc]
set_option maxHeartbeats 4000000 in
theorem refMakings_spec (f : PFunc) (hf : small f) (v : Nat) : AFun prog E 107 [.agg (encF f), .int .i64 v] (.int .i64 (makings f v).length) := by
 have hn := hf.2.2.1
 refine zl func107 rfl (by decide) rfl<|zSr<|y4 (cs := _) rfl rfl rfl<|z2 (zAi rfl)<|z6<|zSr<|z2 (zAi rfl)<|z6<|za<|zSr<|z2 (zFF underlying26 rfl sizeOf24 rfl rfl)<|z2 (zLf isAgg24 rfl)<|z2 (zq underlying24 rfl)<|z2 (zMi rfl)<|z6<|zd<|y1 (γ := Nat) [1, 13, 14] (fun k => [(15, .int .i64 k), (5, .int .i64 (cntE v (evTo f k)))]) (fun k => []) (fun k => k ≤ f.blocks.length) (fun k => f.blocks.length - k) 0 zR2 zLe (qf _) ?_
 rintro k hk
 refine zSr<|z2 (y7 rfl rfl)<|z6<|za<|zt rfl (fun ck=>?_) (fun ck=>?_)
 ·have hk2 : k < f.blocks.length := by simp at ck; omega
  obtain ⟨b, hbk⟩ : ∃ b, f.blocks[k] = b := ⟨_, rfl⟩
  have hget : f.blocks[k]? = some b := by rw [qc hk2, hbk]
  have hmem : b ∈ f.blocks := hbk ▸ qg hk2
  obtain ⟨hb0, hb1, hb2, hb3, hb4⟩ := hf.2.2.2.2 b hmem
  have hel := hf.evs hk
  refine ze<|za<|zd<|zSr<|z2 (zIM k underlying24 sizeOf66 rfl rfl rfl hget)<|z2 (zk isAgg66 sizeOf66 rfl rfl)<|zy (cs := [.str ⟨#[]⟩, .raw (.slice none 0 0), .raw (.slice none 0 0), .int .i64 0, .int .i64 0, .int .i64 0, .int .i64 0]) zeroValue66 rfl rfl<|fun i7 => zo sizeOf66 rfl rfl rfl rfl rfl rfl .head rfl<|zb (y9 (t := 7) rfl .head)<|z6<|za<|zSr<|z2 (zFF underlying66 rfl sizeOf59 rfl rfl)<|z2 (zLf isAgg59 rfl)<|z2 (zq underlying59 rfl)<|z2 (zMi rfl)<|z6<|zd<|y1 (γ := Nat) [1, 7, 13, 14, 15, 20, 21] (fun j => [(22, .int .i64 j), (5, .int .i64 (cntE v (evTo f k ++ evPh k (b.phis.take j))))]) (fun j => []) (fun j => j ≤ b.phis.length) (fun j => b.phis.length - j) 0 ⟨rfl, (by rw [show evPh k (b.phis.take 0) = [] from rfl, List.append_nil]; rfl), trivial⟩ zLe (qf _) ?_
  rintro j hj
  refine zSr<|z2 (y7 rfl rfl)<|z6<|za<|zt rfl (fun cj=>?_) (fun cj=>?_)
  ·have hj2 : j < b.phis.length := by simp at cj; omega
   have hsc := cntE_push v (evTo f k ++ evPh k (b.phis.take j)) b.phis[j].dst ((k : Int), (-1 : Int))
   rw [qe, ← evPh_succ k hj2] at hsc
   have hcl : cntE v (evTo f k ++ evPh k (b.phis.take j)) ≤ 2001000 := by
    have h1 := cntE_le v (evTo f k ++ evPh k (b.phis.take j))
    have h2 : (evPh k (b.phis.take j)).length ≤ 1000 := by unfold evPh; rw [qj, qm]; omega
    rw [qi] at h1; omega
   refine ze<|za<|zd<|zSr<|z2 (zIM j underlying59 sizeOf95 rfl rfl rfl (qc hj2))<|z2 (zk isAgg95 sizeOf95 rfl rfl)<|zy (cs := [.int .i64 0, .raw (.slice none 0 0), .raw (.slice none 0 0)]) zeroValue95 rfl rfl<|fun i9 => zo sizeOf95 rfl rfl rfl rfl rfl rfl .head rfl<|zb (y9 (t := 9) rfl .head)<|z6<|zSr<|z2 (zFF underlying95 rfl sizeOf3 rfl rfl)<|z2 (zLi isAgg3 rfl)<|z2 (zMi rfl)<|z2 (y6 rfl rfl)<|z6<|zr rfl (fun cd=>?_) (fun cd=>?_)
   ·have hd : b.phis[j].dst = (v : Int) := by simpa using cd
    rw [if_pos hd] at hsc
    refine zRg<|z2 (zMi rfl)<|z2 (zAd rfl rfl)<|z2 (zAi rfl)<|z6<|zRg<|z2 (zAd rfl rfl)<|z2 (zMi rfl)<|z6 ?_
    exact ⟨j + 1, zR7, ⟨rfl, (by rw [hsc]; rfl), trivial⟩, zLe, hj2, by omega⟩
   ·have hd : ¬ b.phis[j].dst = (v : Int) := by simpa using cd
    rw [if_neg hd] at hsc
    refine ze<|zRg<|z2 (zAd rfl rfl)<|z2 (zMi rfl)<|z6 ?_
    exact ⟨j + 1, zR7, ⟨rfl, (by rw [hsc]; rfl), trivial⟩, zLe, hj2, by omega⟩
  ·have hjn : j = b.phis.length := by simp at cj; omega
   subst hjn
   rw [qh]
   refine zz<|zSr<|z2 (zFF underlying66 rfl sizeOf60 rfl rfl)<|z2 (zLf isAgg60 rfl)<|z2 (zq underlying60 rfl)<|z2 (zMi rfl)<|z6<|zd<|y1 (γ := Nat) [1, 13, 14, 15, 34, 35] (fun j => [(36, .int .i64 j), (5, .int .i64 (cntE v (evTo f k ++ evPh k b.phis ++ evIn k (b.insts.take j))))]) (fun j => []) (fun j => j ≤ b.insts.length) (fun j => b.insts.length - j) 0 ⟨rfl, (by rw [show evIn k (b.insts.take 0) = [] from rfl, List.append_nil]; rfl), trivial⟩ zLe (qf _) ?_
   rintro j hj
   refine zSr<|z2 (y7 rfl rfl)<|z6<|za<|zt rfl (fun cj=>?_) (fun cj=>?_)
   ·have hj2 : j < b.insts.length := by simp at cj; omega
    have hcl : cntE v (evTo f k ++ evPh k b.phis ++ evIn k (b.insts.take j)) ≤ 2002000 := by
     have h1 := cntE_le v (evTo f k ++ evPh k b.phis ++ evIn k (b.insts.take j))
     have h2 : (evPh k b.phis).length ≤ 1000 := by unfold evPh; rw [qj]; omega
     have h3 := evIn_len k (b.insts.take j)
     rw [qm] at h3
     rw [qi, qi] at h1; omega
    have hsc : cntE v (evTo f k ++ evPh k b.phis ++ evIn k (b.insts.take (j + 1))) = cntE v (evTo f k ++ evPh k b.phis ++ evIn k (b.insts.take j)) + if b.insts[j].dst = (v : Int) then 1 else 0 := by
     rw [evIn_succ k hj2]
     split
     ·rw [← qe, cntE_push]
     ·rw [List.append_nil, if_neg (by omega)]; rfl
    refine ze<|za<|zd<|zSr<|z2 (zIM j underlying60 sizeOf33 rfl rfl rfl (qc hj2))<|z2 (zk isAgg33 sizeOf33 rfl rfl)<|zy (cs := [.int .i64 0, .int .i64 0, .raw (.slice none 0 0), .int .i64 0]) zeroValue33 rfl rfl<|fun i11 => zo sizeOf33 rfl rfl rfl rfl rfl rfl .head rfl<|zb (y9 (t := 11) rfl .head)<|z6<|zSr<|z2 (zFF underlying33 rfl sizeOf3 rfl rfl)<|z2 (zLi isAgg3 rfl)<|z2 (zMi rfl)<|z2 (y6 rfl rfl)<|z6<|zr rfl (fun cd=>?_) (fun cd=>?_)
    ·have hd : b.insts[j].dst = (v : Int) := by simpa using cd
     rw [if_pos hd] at hsc
     refine zRg<|z2 (zMi rfl)<|z2 (zAd rfl rfl)<|z2 (zAi rfl)<|z6<|zRg<|z2 (zAd rfl rfl)<|z2 (zMi rfl)<|z6 ?_
     exact ⟨j + 1, zR6, ⟨rfl, (by rw [hsc]; rfl), trivial⟩, zLe, hj2, by omega⟩
    ·have hd : ¬ b.insts[j].dst = (v : Int) := by simpa using cd
     rw [if_neg hd] at hsc
     refine ze<|zRg<|z2 (zAd rfl rfl)<|z2 (zMi rfl)<|z6 ?_
     exact ⟨j + 1, zR6, ⟨rfl, (by rw [hsc]; rfl), trivial⟩, zLe, hj2, by omega⟩
   ·have hjn : j = b.insts.length := by simp at cj; omega
    subst hjn
    rw [qh]
    refine zz<|zRg<|z2 (zAd rfl rfl)<|z2 (zMi rfl)<|z6 ?_
    exact ⟨k + 1, zR3, ⟨rfl, (by rw [evTo_succ hk2, hbk, evBl, ← qe]; rfl), trivial⟩, zLe, hk2, by omega⟩
 ·have hkn : k = f.blocks.length := by simp at ck; omega
  subst hkn
  refine zz<|zSr<|z2 (zMi rfl)<|z2 (zAi rfl)<|z6<|zg<|zj (x := .int _ _) rfl ?_
  rw [makings_cnt]
theorem refAhead_spec (f : PFunc) (hE : EndsOk f) (hf : small f) (v : Nat) (b a : Int) (h0 : 0 ≤ b) (hb : b < f.blocks.length) : AFun prog E 108 [.agg (encF f), .int .i64 v, .int .i64 b, .int .i64 a] (.bool (aheadR f (makerT f v) b a)) := by
 have hn := hf.2.2.1
 refine zl func108 rfl (by decide) rfl<|zSr<|y4 (cs := _) rfl rfl rfl<|z2 (zAb rfl)<|z6<|zSr<|z2 (zk isAgg26 sizeOf26 rfl rfl)<|z2 (zMi rfl)<|zc (Maker_spec f hf v) rfl<|z2 (zMu rfl)<|z2 (zXi rfl rfl)<|z2 (zXi rfl rfl)<|z2 (zAi rfl)<|z2 (zAi rfl)<|z6<|za<|zd<|zSr<|z2 (zMi rfl)<|z2 (y7 rfl rfl)<|z2 (zAb rfl)<|z6<|zt rfl (fun c0=>?_) (fun c0=>?_)
 ·refine zSr<|z2 (zAb rfl)<|z6<|zg<|zj (x := .bool _) rfl ?_
  rw [aheadR, if_pos c0]
 ·refine zSr<|z2 (zMi rfl)<|z2 (zMi rfl)<|z2 (y6 rfl rfl)<|z2 (zAb rfl)<|z6<|zr rfl (fun c1=>?_) (fun c1=>?_)
  ·have d1 : (makerT f v).1 = b := by simpa using c1
   refine zSr<|z2 (zMi rfl)<|z2 (zMi rfl)<|z2 (y7 rfl rfl)<|z2 (zAb rfl)<|z6<|zg<|zj (x := .bool _) rfl ?_
   rw [aheadR, if_neg c0, if_pos d1]
  ·have d1 : ¬ (makerT f v).1 = b := by simpa using c1
   have hg := reachT_get (E := EndsOf f) (n := f.blocks.length) (k := b.toNat) (shut := (makerT f v).1) (by omega)
   rw [show ((b.toNat : Nat) : Int) = b by omega] at hg
   refine ze<|zSr<|z2 (zk isAgg26 sizeOf26 rfl rfl)<|z2 (zMi rfl)<|zc (reached_spec f hE hn (makerT f v).1) rfl<|z2 (zMi rfl)<|z2 (zIM b.toNat underlying111 sizeOf4 rfl rfl (by omega) hg)<|z2 (yw (c := .bool _) isAgg4 rfl)<|z2 (yc rfl)<|z2 (zAb rfl)<|z6<|zg<|zj (x := .bool _) rfl ?_
   rw [aheadR, if_neg c0, if_neg d1]
end Go.Proofs.YtjnpcfpecilejaaGreatDoor
namespace Go.Proofs.YtjnpcfpecilejaaGreatDoor
open Go.Proofs.Tryz
open Go.Proofs Go.Lib Go.Shelf Go.RowKit
variable {E : World}
set_option maxRecDepth 20000
theorem phJ_iff {f : PFunc} (hE : EndsOk f) (i : Nat) (p : PPhi) : phJ f i p = true ↔ JoinR f i p.from_ := by
 unfold phJ
 rw [qr, joinS_iff, joinR_iff hE]
theorem filter_one {l : List Int} (hn : l.Nodup) {i : Int} (h : i ∈ l) : (l.filter fun c => decide (c = i)) = [i] := by
 induction l with
 | nil => cases h
 | cons c l ih =>
  obtain ⟨h1, h2⟩ := List.nodup_cons.1 hn
  by_cases e : c = i
  ·subst e
   have : (l.filter fun x => decide (x = c)) = [] := List.filter_eq_nil_iff.2 fun x hx => by
    simp only [qr]; rintro rfl; exact h1 hx
   simp [this]
  ·rw [List.filter_cons_of_neg (by simpa using e)]
   rcases List.mem_cons.1 h with h3 | h3
   ·exact absurd h3.symm e
   ·exact ih h2 h3
theorem predsT_one {f : PFunc} (k : Nat) (i : Int) : (predsT (EndsOf f) (k + 1) i).length = (predsT (EndsOf f) k i).length + if i ∈ EndsOf f k then 1 else 0 := by
 rw [predsT_succ, qi, qj]
 have hn := EndsOf_nodup f k
 congr 1
 by_cases h : i ∈ EndsOf f k
 ·rw [if_pos h]
  have h1 := filter_one hn h
  rw [h1]; rfl
 ·rw [if_neg h]
  have h1 : ((EndsOf f k).filter fun c => decide (c = i)) = [] := List.filter_eq_nil_iff.2 fun c hc => by
   simp only [qr]; rintro rfl; exact h hc
  rw [h1]; rfl
set_option maxHeartbeats 4000000 in
theorem refJoined_spec (f : PFunc) (hE : EndsOk f) (hf : small f) (hS : ShapedP f) : AFun prog E 106 [.agg (encF f)] (.bool (joinedB f)) := by
 have hn := hf.2.2.1
 refine zl func106 rfl (by decide) rfl<|zSr<|y4 (cs := _) rfl rfl rfl<|z2 (zAb rfl)<|z6<|za<|zSr<|z2 (zFF underlying26 rfl sizeOf24 rfl rfl)<|z2 (zLf isAgg24 rfl)<|z2 (zq underlying24 rfl)<|z2 (zMi rfl)<|z6<|zd<|y1 (γ := Nat) [1, 13, 14] (fun i => [(15, .int .i64 i)]) (fun i => []) (fun i => i ≤ f.blocks.length ∧ (List.range i).all (blkJ f) = true) (fun i => f.blocks.length - i) 0 zR1 zLe (⟨qf _, rfl⟩) ?_
 rintro i ⟨hi, hall⟩
 refine zSr<|z2 (y7 rfl rfl)<|z6<|za<|zt rfl (fun ci=>?_) (fun ci=>?_)
 ·have hi2 : i < f.blocks.length := by simp at ci; omega
  obtain ⟨b, hbi⟩ : ∃ b, f.blocks[i] = b := ⟨_, rfl⟩
  have hget : f.blocks[i]? = some b := by rw [qc hi2, hbi]
  have hmem : b ∈ f.blocks := hbi ▸ qg hi2
  obtain ⟨hb0, hb1, hb2, hb3, hb4⟩ := hf.2.2.2.2 b hmem
  have hPh := (hS.2.2.2.2.2 b hmem).1
  refine ze<|za<|zd<|zSr<|z2 (zMi rfl)<|z2 (zIM i underlying24 sizeOf66 rfl rfl rfl hget)<|z2 (zk isAgg66 sizeOf66 rfl rfl)<|zy (cs := [.str ⟨#[]⟩, .raw (.slice none 0 0), .raw (.slice none 0 0), .int .i64 0, .int .i64 0, .int .i64 0, .int .i64 0]) zeroValue66 rfl rfl<|fun i4 => z2 (zAi rfl)<|zo sizeOf66 rfl rfl rfl rfl rfl rfl .head rfl<|zb (y9 (t := 4) rfl .head)<|z6<|zSr<|z2 (zFF underlying66 rfl sizeOf59 rfl rfl)<|z2 (zLf isAgg59 rfl)<|z2 (zq underlying59 rfl)<|z2 (zMi rfl)<|z6<|zd<|y1 (γ := Nat) [1, 3, 13, 14, 15, 21, 22] (fun j => [(23, .int .i64 j)]) (fun j => []) (fun j => j ≤ b.phis.length ∧ (b.phis.take j).all (phJ f i) = true) (fun j => b.phis.length - j) 0 zR1 zLe (⟨qf _, rfl⟩) ?_
  rintro j ⟨hj, hjall⟩
  refine zSr<|z2 (y7 rfl rfl)<|z6<|za<|zt rfl (fun cj=>?_) (fun cj=>?_)
  ·have hj2 : j < b.phis.length := by simp at cj; omega
   obtain ⟨p, hp⟩ : ∃ p, b.phis[j] = p := ⟨_, rfl⟩
   have hpm : p ∈ b.phis := hp ▸ qg hj2
   have hpl := (hb3 p hpm).2
   have hpr : ∀ c ∈ p.from_, 0 ≤ c ∧ c < f.blocks.length := fun c hc => by have := List.all_eq_true.1 (hPh p hpm).2.2.2.2 c hc; simpa [hasB] using this
   have hbad : ¬ JoinR f i p.from_ → joinedB f = false := fun h => range_all_bad hi2 (by rw [blkJ_at hget]; exact Bool.eq_false_iff.2 (all_bad hj2 (by rw [hp]; exact Bool.eq_false_iff.2 fun h2 => h ((phJ_iff hE i p).1 h2))))
   refine ze<|za<|zd<|zSr<|z2 (zIM j underlying59 sizeOf95 rfl rfl rfl (by rw [qc hj2, hp]))<|z2 (zk isAgg95 sizeOf95 rfl rfl)<|zy (cs := [.int .i64 0, .raw (.slice none 0 0), .raw (.slice none 0 0)]) zeroValue95 rfl rfl<|fun i6 => zo sizeOf95 rfl rfl rfl rfl rfl rfl .head rfl<|zb (y9 (t := 6) rfl .head)<|z6<|zSr<|z2 (zAi rfl)<|z6<|za<|zSr<|z2 (zFF underlying26 rfl sizeOf24 rfl rfl)<|z2 (zLf isAgg24 rfl)<|z2 (zq underlying24 rfl)<|z2 (zMi rfl)<|z6<|zd<|y1 (γ := Nat) [1, 3, 6, 13, 14, 15, 21, 22, 23, 29] (fun a => [(30, .int .i64 a), (7, .int .i64 (predsT (EndsOf f) a i).length)]) (fun a => []) (fun a => a ≤ f.blocks.length) (fun a => f.blocks.length - a) 0 zR2 zLe (qf _) ?_
   rintro a ha
   refine zSr<|z2 (y7 rfl rfl)<|z6<|za<|zt rfl (fun ca=>?_) (fun ca=>?_)
   ·have ha2 : a < f.blocks.length := by simp at ca; omega
    have hone := predsT_one (f := f) a i
    have hle := predsT_len f i a
    refine ze<|za<|zd<|zSr<|z2 (zMi rfl)<|z2 (zAi rfl)<|z6<|zSr<|z2 (zk isAgg26 sizeOf26 rfl rfl)<|z2 (zMi rfl)<|z2 (zMi rfl)<|zc (leads_spec f hn (a : Int) (i : Int) (by omega) (by omega)) rfl<|z6<|zr rfl (fun cl=>?_) (fun cl=>?_)
    ·have hl : (i : Int) ∈ EndsOf f a := by simpa using cl
     rw [if_pos hl] at hone
     refine zRg<|z2 (zMi rfl)<|z2 (zAd rfl rfl)<|z2 (zAi rfl)<|z6<|zRg<|z2 (zAd rfl rfl)<|z2 (zMi rfl)<|z6 ?_
     exact ⟨a + 1, zR10, ⟨rfl, (by rw [hone]; rfl), trivial⟩, zLe, ha2, by omega⟩
    ·have hl : ¬ (i : Int) ∈ EndsOf f a := by simpa using cl
     rw [if_neg hl] at hone
     refine ze<|zRg<|z2 (zAd rfl rfl)<|z2 (zMi rfl)<|z6 ?_
     exact ⟨a + 1, zR10, ⟨rfl, (by rw [hone]; rfl), trivial⟩, zLe, ha2, by omega⟩
   ·have han : a = f.blocks.length := by simp at ca; omega
    subst han
    refine zz<|za<|zSr<|z2 (zMi rfl)<|z2 (zFF underlying95 rfl sizeOf23 rfl rfl)<|z2 (zLf isAgg23 rfl)<|z2 (zq underlying23 rfl)<|z2 (ya rfl rfl)<|z6<|zr rfl (fun cn=>?_) (fun cn=>?_)
    ·have hne : ¬ (predsT (EndsOf f) f.blocks.length i).length = p.from_.length := by have h0 : ¬ ((predsT (EndsOf f) f.blocks.length i).length : Int) = (p.from_.length : Int) := (by simpa using cn); omega
     refine zSr<|z2 (zAb rfl)<|z6<|zg<|zj (x := .bool _) rfl ?_
     rw [hbad fun h => hne h.1]
    ·have hne : (predsT (EndsOf f) f.blocks.length i).length = p.from_.length := by have h0 : ((predsT (EndsOf f) f.blocks.length i).length : Int) = (p.from_.length : Int) := (by simpa using cn); omega
     refine ze<|zSr<|z2 (zFF underlying95 rfl sizeOf23 rfl rfl)<|z2 (zLf isAgg23 rfl)<|z2 (zq underlying23 rfl)<|z2 (zMi rfl)<|z6<|zd<|y1 (γ := Nat) [1, 3, 6, 13, 14, 15, 21, 22, 23, 46, 47] (fun k => [(48, .int .i64 k)]) (fun k => []) (fun k => k ≤ p.from_.length ∧ ∀ q (h : q < p.from_.length), q < k → (i : Int) ∈ EndsOf f p.from_[q] ∧ p.from_[q] ∉ p.from_.take q) (fun k => p.from_.length - k) 0 zR1 zLe (⟨qf _, fun q h h2 => by omega⟩) ?_
     rintro k ⟨hk, hok⟩
     refine zSr<|z2 (y7 rfl rfl)<|z6<|za<|zt rfl (fun ck=>?_) (fun ck=>?_)
     ·have hk2 : k < p.from_.length := by simp at ck; omega
      obtain ⟨c, hc⟩ : ∃ c, p.from_[k] = c := ⟨_, rfl⟩
      obtain ⟨hc0, hcn⟩ := hpr c (hc ▸ qg hk2)
      refine ze<|za<|zd<|zSr<|z2 (zMi rfl)<|z2 (zIM k underlying23 sizeOf3 rfl rfl rfl (by rw [qc hk2, hc]))<|z2 (zLi isAgg3 rfl)<|z2 (zAi rfl)<|z2 (zAi rfl)<|z6<|za<|zSr<|z2 (zk isAgg26 sizeOf26 rfl rfl)<|z2 (zMi rfl)<|z2 (zMi rfl)<|zc (leads_spec f hn c (i : Int) hc0 hcn) rfl<|z2 (yc rfl)<|z6<|zr rfl (fun cl=>?_) (fun cl=>?_)
      ·have hl : ¬ (i : Int) ∈ EndsOf f c := by simpa using cl
       refine zSr<|z2 (zAb rfl)<|z6<|zg<|zj (x := .bool _) rfl ?_
       rw [hbad fun h => hl (hc ▸ (h.2 k hk2).1)]
      ·have hl : (i : Int) ∈ EndsOf f c := by simpa using cl
       refine ze<|zSr<|z2 (zMi rfl)<|z2 (zMi rfl)<|z6<|zd<|y1 (γ := Nat) [1, 3, 6, 10, 13, 14, 15, 21, 22, 23, 46, 47, 48, 58] (fun q => [(59, .int .i64 q)]) (fun q => []) (fun q => q ≤ k ∧ c ∉ p.from_.take q) (fun q => k - q) 0 zR1 zLe (⟨qf _, by simp⟩) ?_
       rintro q ⟨hq, hqn⟩
       refine zSr<|z2 (y7 rfl rfl)<|z6<|za<|zt rfl (fun cq=>?_) (fun cq=>?_)
       ·have hq2 : q < k := by omega
        have hq3 : q < p.from_.length := by omega
        refine ze<|za<|zd<|zSr<|z2 (zMi rfl)<|z2 (zAi rfl)<|z6<|zSr<|z2 (zFF underlying95 rfl sizeOf23 rfl rfl)<|z2 (zLf isAgg23 rfl)<|z2 (zMi rfl)<|z2 (zIM q underlying23 sizeOf3 rfl rfl rfl (qc hq3))<|z2 (zLi isAgg3 rfl)<|z2 (zMi rfl)<|z2 (y6 rfl rfl)<|z6<|zr rfl (fun ce=>?_) (fun ce=>?_)
        ·have he : p.from_[q] = c := by simpa using ce
         have hin : c ∈ p.from_.take k := by rw [← he]; exact List.mem_take_iff_getElem.2 ⟨q, by omega, rfl⟩
         refine zSr<|z2 (zAb rfl)<|z6<|zg<|zj (x := .bool _) rfl ?_
         rw [hbad fun h => (h.2 k hk2).2 (by rw [hc]; exact hin)]
        ·have he : ¬ p.from_[q] = c := by simpa using ce
         refine ze<|zRg<|z2 (zAd rfl rfl)<|z2 (zMi rfl)<|z6 ?_
         exact ⟨q + 1, zR14, zR1, zLe, ⟨hq2, fun hm => by rw [qd hq3] at hm; rcases List.mem_append.1 hm with h1 | h1; exact hqn h1; simp at h1; exact he h1.symm⟩, by omega⟩
       ·have hqn2 : q = k := by omega
        subst hqn2
        refine zz<|zRg<|z2 (zAd rfl rfl)<|z2 (zMi rfl)<|z6 ?_
        exact ⟨q + 1, zR11, zR1, zLe, ⟨hk2, fun r hr h2 => by rcases Nat.lt_succ_iff_lt_or_eq.1 h2 with h3 | h3; exact hok r hr h3; subst h3; rw [hc]; exact ⟨hl, hqn⟩⟩, by omega⟩
     ·have hkn : k = p.from_.length := by simp at ck; omega
      subst hkn
      refine zz<|zRg<|z2 (zAd rfl rfl)<|z2 (zMi rfl)<|z6 ?_
      exact ⟨j + 1, zR7, zR1, zLe, ⟨hj2, all_take hj2 hjall (by rw [hp]; exact (phJ_iff hE i p).2 ⟨hne, fun q hq => hok q hq hq⟩)⟩, by omega⟩
  ·have hjn : j = b.phis.length := by simp at cj; omega
   subst hjn
   rw [qh] at hjall
   refine zz<|zRg<|z2 (zAd rfl rfl)<|z2 (zMi rfl)<|z6 ?_
   exact ⟨i + 1, zR3, zR1, zLe, ⟨hi2, range_all_succ hall (by rw [blkJ_at hget]; exact hjall)⟩, by omega⟩
 ·have hin : i = f.blocks.length := by simp at ci; omega
  subst hin
  refine zz<|zSr<|z2 (zAb rfl)<|z6<|zg<|zj (x := .bool _) rfl ?_
  rw [show joinedB f = true from hall]
end Go.Proofs.YtjnpcfpecilejaaGreatDoor
