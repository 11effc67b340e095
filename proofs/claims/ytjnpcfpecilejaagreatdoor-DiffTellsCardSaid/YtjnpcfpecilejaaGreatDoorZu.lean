/- What is asked of the program itself, of the law DiffTells, fact for fact. No conditions. -/
import Derived.Test.YtjnpcfpecilejaaGreatDoorZp
import Derived.Test.YtjnpcfpecilejaaGreatDoorZt
import Derived.Test.YtjnpcfpecilejaaGreatDoorZr
import Derived.Test.YtjnpcfpecilejaaGreatDoorZg
import Derived.Test.YtjnpcfpecilejaaGreatDoorZc
import Derived.Test.YtjnpcfpecilejaaGreatDoorZd
import Derived.Lib.LaidRTab
import Derived.Test.YtjnpcfpecilejaaGreatDoorRows
import Derived.Test.YtjnpcfpecilejaaGreatDoorChecked
import Derived.ProofKit
import Derived.JoinedOf
set_option linter.unusedVariables false
set_option linter.unusedSimpArgs false
set_option linter.unusedSectionVars false
namespace Go.Proofs.YtjnpcfpecilejaaGreatDoor
open Go.Proofs.Tryz
open Go.Proofs Go.Lib Go.Shelf Go.RowKit
variable {E : World}
set_option maxRecDepth 20000
theorem lv_nat {l : List Rng} {k : Nat} (h : k < l.length) : l[k]? = some (lv l (k : Int)) := by unfold lv; rw [show (k : Int).toNat = k from rfl, qf h]; rfl
theorem ref_spec (r : Rng) : AFun Tryz.prog E 64 [.agg (encZ r)] (.agg (encZ r)) := by
 refine zp func64 rfl (by decide) rfl<|zb<|z8 rfl<|yc (cs := _) rfl rfl rfl<|y9 (cs := [.int .i64 0, .int .i64 0]) zeroValue75 rfl rfl<|fun i2 => z6<|zb<|z8 rfl<|z2 (zn isAgg74 sizeOf74 rfl rfl)<|y4 sizeOf75 rfl rfl rfl rfl rfl rfl .head rfl<|z6<|zh<|yz rfl ⟨_, .head⟩ isAgg75 sizeOf75 rfl ?_
 rfl
theorem refs_spec (l : List Rng) (hl : l.length ≤ 100000) : AFun Tryz.prog E 26 [.fro 2 (l.map encZ)] (.fro 2 (l.map encZ)) := by
 refine zp func26 rfl (by decide) rfl<|zb<|z8 rfl<|z2 (zw (v := .raw _) rfl)<|z6<|zb<|z8 rfl<|z2 (zw (v := .raw _) rfl)<|z6<|zb<|zb<|z8 rfl<|z2 (zMf rfl)<|z2 (y5 underlying41 rfl)<|z2 (zMi rfl)<|z6<|adopt_wp (t := 3) (k := 2) (T := 75) rfl<|fun i3 => zi<|ya (γ := Nat × Nat) [6, 7] (fun g => [(8, .int .i64 g.1), (3, .own g.2 g.1)]) (fun g => [(g.2, .grow 2 75 (lC (l.take g.1)))]) (fun g => g.1 ≤ l.length) (fun g => l.length - g.1) (0, i3) zR2 zLe (qi _) ?_
 rintro ⟨k, io⟩ hk
 try dsimp only at *
 refine zb<|z8 rfl<|z2 (ye rfl rfl)<|z6<|zb<|zr rfl (fun ck => ?_) (fun ck => ?_)
 ·have hk2 : k < l.length := by simp at ck; omega
  refine ze<|zb<|zi<|zb<|z8 rfl<|z2 (y6 (j := k) underlying41 sizeOf74 rfl rfl rfl (lv_nat hk2))<|z2 (zn isAgg74 sizeOf74 rfl rfl)<|y9 (cs := [.int .i64 0, .int .i64 0]) zeroValue74 rfl rfl<|fun i5 => y4 sizeOf74 rfl rfl rfl rfl rfl rfl .head rfl<|zf (yh (t := 5) rfl .head)<|z6<|z8 rfl<|z2 (zq (v := .own _ _) rfl)<|z2 (zn isAgg74 sizeOf74 rfl rfl)<|zg (ref_spec _) rfl<|zx (rows := [[_, _]]) ps47_1 rfl rfl rfl rfl rfl<|yn (k := 2) underlying47 Tryz.type75 rfl rfl rfl rfl rfl (fun _ => .head) (by rw [lC_len, List.length_take]; omega) (by decide) rfl (by show (_ + 1) * 16 ≤ _; omega) (by show _ + 1 ≤ _; omega)<|fun i16 => z2 (zw (v := .own _ _) rfl)<|z6<|z8 rfl<|z2 (yb rfl rfl (by unfold I64; omega))<|z2 (zMi rfl)<|z6 ?_
  exact ⟨(k + 1, i16), zR2, zR2, ⟨_, (.refl _), by rw [qg hk2, ← lC_push, show l[k] = lv l k by have := lv_nat hk2; rw [qf hk2] at this; exact Option.some.inj this]; rfl⟩, hk2, by dsimp only; omega⟩
 ·have hkn : k = l.length := by simp at ck; omega
  subst hkn
  rw [qk]
  refine y8<|yp (GStep.knowR (t := 3) rfl .head rfl)<|zb<|z8 rfl<|z2 (zMf rfl)<|z2 (zAf rfl)<|z6<|zh<|zk (x := .fro _ _) rfl ?_
  rfl
end Go.Proofs.YtjnpcfpecilejaaGreatDoor
namespace Go.Proofs.YtjnpcfpecilejaaGreatDoor
open Go.Proofs.Tryz
open Go.Proofs Go.Lib Go.Shelf Go.RowKit
variable {E : World}
set_option maxRecDepth 20000
theorem cellsE (es : List Edge) : ((es.map encE).flatten).all AV.cell = true := by
 rw [List.all_eq_true]
 intro x hx
 obtain ⟨r, hr, hx⟩ := List.mem_flatten.1 hx
 obtain ⟨e, _, rfl⟩ := List.mem_map.1 hr
 simp only [encE, List.mem_cons, List.not_mem_nil, or_false] at hx
 rcases hx with rfl | rfl | rfl <;> rfl
theorem eC_app (a b : List Edge) : eC (a ++ b) = eC a ++ (b.map encE).flatten := by rw [eC_flat, eC_flat, List.map_append, List.flatten_append]
theorem blks0 (f : PFunc) (l : List Rng) (up : Bool) : blksE f l up 0 = [] := by simp [blksE]
theorem app0 {f : PFunc} {l : List Rng} {up : Bool} {i : Nat} {V : List Edge} : AV.own i V.length = AV.own i (V ++ blksE f l up 0).length := by rw [blks0, qp]
theorem ins_0 (f : PFunc) (l : List Rng) (up : Bool) (i : Nat) (b : List PInst) : insE f l up i (b.take 0) = [] := by simp [insE]
set_option maxHeartbeats 8000000 in
theorem refAll_spec (f : PFunc) (hF : RuleF f) (hE : EndsOk f) (l : List Rng) (hol : ∀ r ∈ l, ok64 r) (hll : l.length = f.vars.length) : AFun Tryz.prog E 25 [.agg (encF f), .fro 2 (l.map encZ)] (.tup [.fro 3 ((edgesE f l true).map encE), .fro 3 ((edgesE f l false).map encE)]) := by
 have hf := hF.small
 have hS := hF.shaped
 have hvn := hf.1
 have hn := hf.2.2.1
 have hok : ∀ u : Int, 0 ≤ u → ok64 (lv l u) := fun u _ => lv_ok hol u
 have hend : ∀ (up : Bool) (v : Int), 0 ≤ v → toldB (ofR f l v) (endN f l up v false) = true → is64 (1 * endN f l up v false) := fun up v hv => told_end (ofR_ok hok hv) (by unfold endN; cases up; exact .inl rfl; exact .inr rfl) (.inl rfl)
 refine zp func25 rfl (by decide) rfl<|zb<|z8 rfl<|yc (cs := _) rfl rfl rfl<|z2 (zw (v := .raw _) rfl)<|z2 (zw (v := .raw _) rfl)<|z6<|zb<|z8 rfl<|z2 (zn isAgg26 sizeOf26 rfl rfl)<|zg (refTable_spec f hE hn) rfl<|z2 (zAf rfl)<|z6<|zb<|z8 rfl<|z2 (zc underlying26 rfl sizeOf22 (by decide) rfl rfl)<|z2 (zLf isAgg22 rfl)<|z2 (y5 underlying22 rfl)<|z2 (zAi rfl)<|z6<|zb<|zb<|z8 rfl<|z2 (zc underlying26 rfl sizeOf22 (by decide) rfl rfl)<|z2 (zLf isAgg22 rfl)<|z2 (y5 underlying22 rfl)<|z2 (zMi rfl)<|z6<|adopt_wp (t := 5) (k := 3) (T := 119) rfl<|fun i5 => adopt_wp (t := 4) (k := 3) (T := 119) rfl<|fun i4 => zi<|ya (γ := Nat × Nat × Nat) [1, 2, 6, 7, 26, 27] (fun g => [(28, .int .i64 g.1), (4, .own g.2.1 (varsE f l true g.1).length), (5, .own g.2.2 (varsE f l false g.1).length)]) (fun g => [(g.2.1, .grow 3 119 (eC (varsE f l true g.1))), (g.2.2, .grow 3 119 (eC (varsE f l false g.1)))]) (fun g => g.1 ≤ f.vars.length) (fun g => f.vars.length - g.1) (0, i4, i5) zR3 zLe (qi _) ?_
 rintro ⟨k, ju, jd⟩ hk
 try dsimp only at *
 refine zb<|z8 rfl<|z2 (ye rfl rfl)<|z6<|zb<|zr rfl (fun ck => ?_) (fun ck => ?_)
 ·have hk2 : k < f.vars.length := by simp at ck; omega
  have hvu := varsE_len f l true k
  have hvd := varsE_len f l false k
  obtain ⟨y, hy, hyt, hy0, hy2⟩ := ty_get hS (hasV_ofNat hk2)
  refine ze<|zb<|zi<|zb<|z8 rfl<|z2 (zMi rfl)<|z2 (y6 (j := k) underlying22 sizeOf56 rfl rfl rfl hy)<|z2 (zn isAgg56 sizeOf56 rfl rfl)<|y9 (cs := [.str ⟨#[]⟩, .int .i64 0]) zeroValue56 rfl rfl<|fun i9 => z2 (zAi rfl)<|y4 sizeOf56 rfl rfl rfl rfl rfl rfl .head rfl<|zf (yh (t := 9) rfl .head)<|z6<|zb<|z8 rfl<|z2 (zn isAgg26 sizeOf26 rfl rfl)<|z2 (zMi rfl)<|zg (Maker_spec f hf k) rfl<|z2 (zq (v := .tup _) rfl)<|z2 (yj (v := .int _ _) rfl rfl)<|z2 (yj (v := .int _ _) rfl rfl)<|z2 (zAi rfl)<|z2 (zAi rfl)<|z6<|zb<|yk (γ := Bool) [1, 2, 4, 5, 6, 7, 8, 9, 26, 27, 28] (fun u => [(45, .bool u)]) (fun u => [(ju, .grow 3 119 (eC (varsE f l true k))), (jd, .grow 3 119 (eC (varsE f l false k)))]) (fun u => u = decide ((makerT f k).1 < 0 ∧ tyV f k ≠ 1)) ?_ (fun _ _ h => h) ?_
  ·refine z8 rfl<|z2 (zMi rfl)<|z2 (ye rfl rfl)<|z2 (zMb rfl)<|zm (s := 41) rfl (fun c1 => ?_) (fun c1 => ?_)
   ·refine za rfl rfl c1<|z2 (zc underlying56 rfl sizeOf54 (by decide) rfl rfl)<|za rfl rfl c1<|z2 (zLi isAgg54 rfl)<|za rfl rfl c1<|z2 (yl rfl rfl)<|z2 (zPt rfl c1 rfl)<|z6 ?_
    exact ⟨_, zR11, zR1, zLe, by clear hend; simp_all <;> omega⟩
   ·refine z7 rfl rfl c1<|z7 rfl rfl c1<|z7 rfl rfl c1<|z2 (zPf rfl c1 rfl)<|z6 ?_
    exact ⟨_, zR11, zR1, zLe, by clear hend; simp_all <;> omega⟩
  ·rintro u hu
   subst hu
   refine zr rfl (fun cm => ?_) (fun cm => ?_)
   ·have eu : varsE f l true (k + 1) = withE (varsE f l true k) k (n0 f) (ofR f l k) (ofR f l k).2 1 := by rw [varsE_succ, varE, if_pos cm]; rfl
    have ed : varsE f l false (k + 1) = withE (varsE f l false k) k (n0 f) (ofR f l k) (ofR f l k).1 1 := by rw [varsE_succ, varE, if_pos cm]; rfl
    have hms := rMeet_s (E := E) (lv l k) (rType y.ty)
    rw [show rMeet (lv l k) (rType y.ty) = ofR f l k by unfold ofR; rw [← hyt]] at hms
    refine zb<|yk (γ := Nat) [1, 2, 4, 5, 6, 7, 8, 26, 27, 28] (fun z => [(12, .po z 0)]) (fun z => [(z, .cells 75 (encZ (ofR f l k))), (ju, .grow 3 119 (eC (varsE f l true k))), (jd, .grow 3 119 (eC (varsE f l false k)))]) (fun z => True) ?_ (fun _ _ h => h) ?_
    ·refine y7 (fun j => false) (by kernel_rfl) rfl (zo (.rest _))<|zTk (i := 0) rfl (zMf rfl)<|zTk (i := 1) rfl (zMi rfl)<|zTk (i := 2) rfl (y6 (j := k) underlying47 sizeOf75 rfl rfl rfl (lv_nat (by omega)))<|zTk (i := 3) rfl (zn isAgg75 sizeOf75 rfl rfl)<|zTk (i := 4) rfl (zc underlying56 rfl sizeOf54 (by decide) rfl rfl)<|zTk (i := 5) rfl (zLi isAgg54 rfl)<|yu (i := 6) (j := 8) rfl rfl (by kernel_rfl) ?_ ?_
     ·refine zg (rType_s (t := y.ty) ⟨hy0, hy2⟩) rfl<|z6<|yu (i := 7) (j := 8) rfl rfl (by kernel_rfl) ?_ ?_
      ·refine zg (hms) rfl<|z6<|zOn (i := 8) rfl<|y9 (cs := [.int .i64 0, .int .i64 0]) zeroValue75 rfl rfl<|fun i12 => z6<|zOn (i := 9) rfl<|y4 sizeOf75 rfl rfl rfl rfl rfl rfl .head rfl<|z6<|zDn ?_
       exact ⟨i12, zR10, zR1, zLe, trivial⟩
      ·refine y9 (cs := [.int .i64 0, .int .i64 0]) zeroValue75 rfl rfl<|fun i12 => z6<|zOn (i := 7) rfl<|zg (hms) rfl<|z6<|zOn (i := 9) rfl<|y4 sizeOf75 rfl rfl rfl rfl rfl rfl .head rfl<|z6<|zDn ?_
       exact ⟨i12, zR10, zR1, zLe, trivial⟩
     ·refine y9 (cs := [.int .i64 0, .int .i64 0]) zeroValue75 rfl rfl<|fun i12 => z6<|zOn (i := 6) rfl<|zg (rType_s (t := y.ty) ⟨hy0, hy2⟩) rfl<|z6<|zOn (i := 7) rfl<|zg (hms) rfl<|z6<|zOn (i := 9) rfl<|y4 sizeOf75 rfl rfl rfl rfl rfl rfl .head rfl<|z6<|zDn ?_
      exact ⟨i12, zR10, zR1, zLe, trivial⟩
    ·rintro z _
     refine yp (yh (t := 12) rfl .head)<|y7 (fun j => false) (by kernel_rfl) rfl (zo (.rest _))<|zTk (i := 0) rfl (zq (v := .own _ _) rfl)<|zTk (i := 1) rfl (zMi rfl)<|zTk (i := 2) rfl (zMi rfl)<|zTk (i := 3) rfl (zn isAgg75 sizeOf75 rfl rfl)<|zTk (i := 4) rfl (zc underlying75 rfl sizeOf2 (by decide) rfl rfl)<|zTk (i := 5) rfl (zLi isAgg2 rfl)<|zTk (i := 7) rfl (zq (v := .own _ _) rfl)<|zTk (i := 8) rfl (zMi rfl)<|zTk (i := 9) rfl (zMi rfl)<|zTk (i := 10) rfl (zn isAgg75 sizeOf75 rfl rfl)<|zTk (i := 11) rfl (zc underlying75 rfl sizeOf2 (by decide) rfl rfl)<|zTk (i := 12) rfl (zLi isAgg2 rfl)<|zOn (i := 6) rfl<|zt rfl (zo (.l (.r (.rest _)))) (with_spec ju (varsE f l true k) (by omega) k (n0 f) (ofR f l k) (ofR f l k).2 1 (hend true k (by omega))) ?_
     rintro r60 O60 ⟨j1, rfl, rfl, _⟩
     refine z6<|zOn (i := 13) rfl<|zt rfl (zo (.r (.l (.rest _)))) (with_spec jd (varsE f l false k) (by omega) k (n0 f) (ofR f l k) (ofR f l k).1 1 (hend false k (by omega))) ?_
     rintro r67 O67 ⟨j2, rfl, rfl, _⟩
     refine z6<|zTk (i := 14) rfl (zw (v := .own _ _) rfl)<|zTk (i := 15) rfl (zw (v := .own _ _) rfl)<|zDn<|yp (zj (zl (.tail .head)))<|z8 rfl<|z2 (yb rfl rfl (by unfold I64; omega))<|z2 (zMi rfl)<|z6 ?_
     exact ⟨(k + 1, j1, j2), zR6, ⟨rfl, (by rw [eu] <;> rfl), (by rw [ed] <;> rfl), trivial⟩, ⟨_, (.refl _), (by rw [eu, ed] <;> rfl)⟩, hk2, by dsimp only; omega⟩
   ·have eu : ∀ up, varsE f l up (k + 1) = varsE f l up k := fun up => by rw [varsE_succ, varE, if_neg cm, qp]
    refine ze<|z8 rfl<|z2 (yb rfl rfl (by unfold I64; omega))<|z2 (zMi rfl)<|z6 ?_
    exact ⟨(k + 1, ju, jd), zR6, ⟨rfl, (by rw [eu] <;> rfl), (by rw [eu] <;> rfl), trivial⟩, ⟨_, (.refl _), by rw [eu, eu]⟩, hk2, by dsimp only; omega⟩
 ·have hkn : k = f.vars.length := by simp at ck; omega
  subst hkn
  refine y8<|zb<|zb<|z8 rfl<|z2 (zc underlying26 rfl sizeOf24 (by decide) rfl rfl)<|z2 (zLf isAgg24 rfl)<|z2 (y5 underlying24 rfl)<|z2 (zMi rfl)<|z6 ?_
  obtain ⟨VU, hVU⟩ : ∃ V, varsE f l true f.vars.length = V := ⟨_, rfl⟩
  obtain ⟨VD, hVD⟩ : ∃ V, varsE f l false f.vars.length = V := ⟨_, rfl⟩
  have hbU : ∀ {i j : Nat} (hi : i < f.blocks.length), j ≤ f.blocks[i].insts.length → (VU ++ (blksE f l true i ++ insE f l true i (f.blocks[i].insts.take j))).length ≤ 70000000 := fun hi hj => by rw [← hVU]; exact edges_len hf l true hi hj
  have hbD : ∀ {i j : Nat} (hi : i < f.blocks.length), j ≤ f.blocks[i].insts.length → (VD ++ (blksE f l false i ++ insE f l false i (f.blocks[i].insts.take j))).length ≤ 70000000 := fun hi hj => by rw [← hVD]; exact edges_len hf l false hi hj
  rw [hVU, hVD]
  refine zi<|ya (γ := Nat × Nat × Nat) [1, 2, 6, 7, 70, 71] (fun g => [(72, .int .i64 g.1), (4, .own g.2.1 (VU ++ blksE f l true g.1).length), (5, .own g.2.2 (VD ++ blksE f l false g.1).length)]) (fun g => [(g.2.1, .grow 3 119 (eC (VU ++ blksE f l true g.1))), (g.2.2, .grow 3 119 (eC (VD ++ blksE f l false g.1)))]) (fun g => g.1 ≤ f.blocks.length) (fun g => f.blocks.length - g.1) (0, ju, jd) ⟨rfl, app0, app0, trivial⟩ ⟨_, (.refl _), by rw [blks0, blks0, qp, qp]⟩ (qi _) ?_
  rintro ⟨i, ju, jd⟩ hi
  try dsimp only at *
  refine zb<|z8 rfl<|z2 (ye rfl rfl)<|z6<|zb<|zr rfl (fun ci => ?_) (fun ci => ?_)
  ·have hi2 : i < f.blocks.length := by simp at ci; omega
   obtain ⟨b, hbi⟩ : ∃ b, f.blocks[i] = b := ⟨_, rfl⟩
   have hget : f.blocks[i]? = some b := by rw [qf hi2, hbi]
   have hmem : b ∈ f.blocks := hbi ▸ qj hi2
   obtain ⟨hb0, hb1, hb2, hb3, hb4⟩ := hf.2.2.2.2 b hmem
   obtain ⟨hPh, hIn, hTm⟩ := hS.2.2.2.2.2 b hmem
   have hbU2 : ∀ j, j ≤ b.insts.length → (VU ++ (blksE f l true i ++ insE f l true i (b.insts.take j))).length ≤ 70000000 := fun j hj => by have := hbU hi2 (j := j) (by rw [hbi]; exact hj); rwa [hbi] at this
   have hbD2 : ∀ j, j ≤ b.insts.length → (VD ++ (blksE f l false i ++ insE f l false i (b.insts.take j))).length ≤ 70000000 := fun j hj => by have := hbD hi2 (j := j) (by rw [hbi]; exact hj); rwa [hbi] at this
   refine ze<|zb<|zi<|zb<|z8 rfl<|z2 (zMi rfl)<|z2 (y6 (j := i) underlying24 sizeOf66 rfl rfl rfl hget)<|z2 (zn isAgg66 sizeOf66 rfl rfl)<|y9 (cs := [.str ⟨#[]⟩, .raw (.slice none 0 0), .raw (.slice none 0 0), .int .i64 0, .int .i64 0, .int .i64 0, .int .i64 0]) zeroValue66 rfl rfl<|fun i14 => z2 (zAi rfl)<|y4 sizeOf66 rfl rfl rfl rfl rfl rfl .head rfl<|zf (yh (t := 14) rfl .head)<|z6<|zb<|z8 rfl<|z2 (zc underlying66 rfl sizeOf60 (by decide) rfl rfl)<|z2 (zLf isAgg60 rfl)<|z2 (y5 underlying60 rfl)<|z2 (zMi rfl)<|z6<|zi<|ya (γ := Nat × Nat × Nat) [1, 2, 6, 7, 13, 70, 71, 72, 78, 79] (fun g => [(80, .int .i64 g.1), (4, .own g.2.1 (VU ++ (blksE f l true i ++ insE f l true i (b.insts.take g.1))).length), (5, .own g.2.2 (VD ++ (blksE f l false i ++ insE f l false i (b.insts.take g.1))).length)]) (fun g => [(g.2.1, .grow 3 119 (eC (VU ++ (blksE f l true i ++ insE f l true i (b.insts.take g.1))))), (g.2.2, .grow 3 119 (eC (VD ++ (blksE f l false i ++ insE f l false i (b.insts.take g.1)))))]) (fun g => g.1 ≤ b.insts.length) (fun g => b.insts.length - g.1) (0, ju, jd) ⟨rfl, (by rw [ins_0, qp] <;> rfl), (by rw [ins_0, qp] <;> rfl), trivial⟩ ⟨_, (.refl _), by rw [ins_0, ins_0, qp, qp]⟩ (qi _) ?_
   rintro ⟨j, ju, jd⟩ hj
   try dsimp only at *
   refine zb<|z8 rfl<|z2 (ye rfl rfl)<|z6<|zb<|zr rfl (fun cj => ?_) (fun cj => ?_)
   ·have hj2 : j < b.insts.length := by simp at cj; omega
    obtain ⟨z, hz⟩ : ∃ z, b.insts[j] = z := ⟨_, rfl⟩
    have hI := instP_F (hIn z (hz ▸ qj hj2))
    have hleU := hbU2 j (by omega)
    have hleD := hbD2 j (by omega)
    have hsn : ∀ (V : List Edge) (up : Bool), V ++ (blksE f l up i ++ insE f l up i (b.insts.take (j + 1))) = V ++ (blksE f l up i ++ insE f l up i (b.insts.take j)) ++ stepE f l up z i j := fun V up => by rw [insE_succ f l up i hj2, hz]; simp
    have hsU := hsn VU true
    have hsD := hsn VD false
    obtain ⟨eu, heu⟩ : ∃ e, VU ++ (blksE f l true i ++ insE f l true i (b.insts.take j)) = e := ⟨_, rfl⟩
    obtain ⟨ed, hed⟩ : ∃ e, VD ++ (blksE f l false i ++ insE f l false i (b.insts.take j)) = e := ⟨_, rfl⟩
    rw [heu] at hleU hsU
    rw [hed] at hleD hsD
    rw [heu, hed]
    have hdst : 0 ≤ z.dst → z.dst.toNat < f.vars.length ∧ hasV f z.dst = true := fun h0 => by
     rcases hI.dst with ⟨_, h⟩ | ⟨_, _, h⟩
     ·omega
     ·have := hasV_rng h; exact ⟨by omega, h⟩
    refine ze<|zb<|zi<|zb<|z8 rfl<|z2 (zMi rfl)<|z2 (y6 (j := j) underlying60 sizeOf33 rfl rfl rfl (by rw [qf hj2, hz]))<|z2 (zn isAgg33 sizeOf33 rfl rfl)<|y9 (cs := [.int .i64 0, .int .i64 0, .raw (.slice none 0 0), .int .i64 0]) zeroValue33 rfl rfl<|fun i16 => z2 (zAi rfl)<|y4 sizeOf33 rfl rfl rfl rfl rfl rfl .head rfl<|zf (yh (t := 16) rfl .head)<|z6<|zb<|zb<|yk (γ := Bool) [1, 2, 4, 5, 6, 7, 13, 15, 16, 70, 71, 72, 78, 79, 80] (fun u => [(97, .bool u)]) (fun u => [(ju, .grow 3 119 (eC (eu))), (jd, .grow 3 119 (eC (ed)))]) (fun u => u = !decide (0 ≤ z.dst ∧ tyV f z.dst ≠ 1)) ?_ (fun _ _ h => h) ?_
    ·refine z8 rfl<|z2 (zc underlying33 rfl sizeOf3 (by decide) rfl rfl)<|z2 (zLi isAgg3 rfl)<|z2 (ye rfl rfl)<|z2 (zMb rfl)<|zm (s := 88) rfl (fun cd => ?_) (fun cd => ?_)
     ·have hd0 : z.dst < 0 := of_decide_eq_true cd
      refine z7 rfl rfl cd<|z7 rfl rfl cd<|z7 rfl rfl cd<|z7 rfl rfl cd<|z7 rfl rfl cd<|z7 rfl rfl cd<|z7 rfl rfl cd<|z7 rfl rfl cd<|z2 (zPt rfl cd rfl)<|z6 ?_
      exact ⟨_, zR15, zR1, zLe, by rw [qr (fun h => by omega)]; rfl⟩
     ·have hd0 : ¬ z.dst < 0 := of_decide_eq_false cd
      have hdl := (hdst (by omega)).1
      have hty : tyV f z.dst = f.vars[z.dst.toNat].ty := by have := tyV_get (f := f) hdl; rwa [Int.toNat_of_nonneg (by omega)] at this
      refine za rfl rfl cd<|z2 (zc underlying26 rfl sizeOf22 (by decide) rfl rfl)<|za rfl rfl cd<|z2 (zLf isAgg22 rfl)<|za rfl rfl cd<|z2 (zc underlying33 rfl sizeOf3 (by decide) rfl rfl)<|za rfl rfl cd<|z2 (zLi isAgg3 rfl)<|za rfl rfl cd<|z2 (y6 (j := z.dst.toNat) underlying22 sizeOf56 rfl rfl (by omega) (qf hdl))<|za rfl rfl cd<|z2 (zc underlying56 rfl sizeOf54 (by decide) rfl rfl)<|za rfl rfl cd<|z2 (zLi isAgg54 rfl)<|za rfl rfl cd<|z2 (y3 rfl rfl)<|z2 (zPf rfl cd rfl)<|z6 ?_
      exact ⟨_, zR15, zR1, zLe, by rw [hty, qo]; simp; omega⟩
    ·rintro u hu
     subst hu
     refine zy rfl (fun cc => ?_) (fun cc => ?_)
     ·have hc0 : ¬ (0 ≤ z.dst ∧ tyV f z.dst ≠ 1) := notdecT cc
      have hst : ∀ up, stepE f l up z i j = [] := fun up => by unfold stepE; rw [if_neg hc0]
      refine y8<|z8 rfl<|z2 (yb rfl rfl (by unfold I64; omega))<|z2 (zMi rfl)<|z6 ?_
      exact ⟨(j + 1, ju, jd), zR10, ⟨rfl, (by rw [hsU, hst, qp] <;> rfl), (by rw [hsD, hst, qp] <;> rfl), trivial⟩, ⟨_, (.refl _), by rw [hsU, hsD, hst, hst, qp, qp]⟩, hj2, by dsimp only; omega⟩
     ·have hc0 : 0 ≤ z.dst ∧ tyV f z.dst ≠ 1 := notdecF cc
      obtain ⟨hdl, hdv⟩ := hdst hc0.1
      obtain ⟨y, hy, hyt, hy0, hy2⟩ := ty_get hS hdv
      have hilU := instE_len f l true z i j
      have hilD := instE_len f l false z i j
      obtain ⟨IU, hIU⟩ : ∃ I, instE f l true z i j = I := ⟨_, rfl⟩
      obtain ⟨ID, hID⟩ : ∃ I, instE f l false z i j = I := ⟨_, rfl⟩
      have hOf := refOf_spec (E := E) f hf hS hE l hll hok z hI i j hi2
      rw [hIU, hID] at hOf
      rw [hIU] at hilU
      rw [hID] at hilD
      have hlU : (eu ++ IU).length ≤ 80000000 := by rw [ql]; omega
      have hlD : (ed ++ ID).length ≤ 80000000 := by rw [ql]; omega
      have fu : VU ++ (blksE f l true i ++ insE f l true i (b.insts.take (j + 1))) = withE (eu ++ IU) z.dst (n0 f) (ofR f l z.dst) (ofR f l z.dst).2 1 := by rw [hsU]; unfold stepE; rw [if_pos hc0, hIU, ← qh]; rfl
      have fd : VD ++ (blksE f l false i ++ insE f l false i (b.insts.take (j + 1))) = withE (ed ++ ID) z.dst (n0 f) (ofR f l z.dst) (ofR f l z.dst).1 1 := by rw [hsD]; unfold stepE; rw [if_pos hc0, hID, ← qh]; rfl
      refine ze<|zb<|z8 rfl<|z2 (zn isAgg26 sizeOf26 rfl rfl)<|z2 (zMf rfl)<|z2 (zMf rfl)<|z2 (zn isAgg33 sizeOf33 rfl rfl)<|z2 (zMi rfl)<|z2 (zMi rfl)<|zg (hOf) rfl<|z2 (zq (v := .tup _) rfl)<|z2 (yj (v := .fro _ _) rfl rfl)<|z2 (yj (v := .fro _ _) rfl rfl)<|z2 (zAf rfl)<|z2 (zAf rfl)<|z6<|zb<|yk (γ := Nat × Nat) [1, 2, 6, 7, 13, 16, 70, 71, 72, 78, 79, 80] (fun g => [(4, .own g.1 (eu ++ IU).length), (5, .own g.2 (ed ++ ID).length)]) (fun g => [(g.1, .grow 3 119 (eC (eu ++ IU))), (g.2, .grow 3 119 (eC (ed ++ ID)))]) (fun g => True) ?_ (fun _ _ h => h) ?_
      ·refine z8 rfl<|z2 (zq (v := .own _ _) rfl)<|z2 (zMf rfl)<|yn (k := 3) underlying44 Tryz.type119 rfl rfl rfl rfl rfl (fun _ => .head) (by rw [eC_len]) (by decide) (cellsE _) (by rw [qm]; show (_ + _) * 24 ≤ _; omega) (by rw [qm]; omega)<|fun i110 => z2 (zq (v := .own _ _) rfl)<|z2 (zMf rfl)<|yn (k := 3) underlying44 Tryz.type119 rfl rfl rfl rfl rfl (fun _ => (.tail .head)) (by rw [eC_len]) (by decide) (cellsE _) (by rw [qm]; show (_ + _) * 24 ≤ _; omega) (by rw [qm]; omega)<|fun i113 => z2 (zw (v := .own _ _) rfl)<|z2 (zw (v := .own _ _) rfl)<|z6 ?_
       exact ⟨(i110, i113), zR12, ⟨congrArg (AV.own i110) (show eu.length + (IU.map encE).length = (eu ++ IU).length by rw [ql, qm]), congrArg (AV.own i113) (show ed.length + (ID.map encE).length = (ed ++ ID).length by rw [ql, qm]), trivial⟩, ⟨_, (.refl _), (by rw [eC_app, eC_app] <;> rfl)⟩, trivial⟩
      ·rintro ⟨ju, jd⟩ _
       have hms := rMeet_s (E := E) (lv l z.dst) (rType y.ty)
       rw [show rMeet (lv l z.dst) (rType y.ty) = ofR f l z.dst by unfold ofR; rw [← hyt]] at hms
       refine zb<|yk (γ := Nat) [1, 2, 4, 5, 6, 7, 13, 16, 70, 71, 72, 78, 79, 80] (fun q => [(19, .po q 0)]) (fun q => [(q, .cells 75 (encZ (ofR f l z.dst))), (ju, .grow 3 119 (eC (eu ++ IU))), (jd, .grow 3 119 (eC (ed ++ ID)))]) (fun q => True) ?_ (fun _ _ h => h) ?_
       ·refine y7 (fun j => false) (by kernel_rfl) rfl (zo (.rest _))<|zTk (i := 0) rfl (zMf rfl)<|zTk (i := 1) rfl (zc underlying33 rfl sizeOf3 (by decide) rfl rfl)<|zTk (i := 2) rfl (zLi isAgg3 rfl)<|zTk (i := 3) rfl (y6 (j := z.dst.toNat) underlying47 sizeOf75 rfl rfl (by omega) (by have := lv_nat (l := l) (k := z.dst.toNat) (by omega); rwa [Int.toNat_of_nonneg hc0.1] at this))<|zTk (i := 4) rfl (zn isAgg75 sizeOf75 rfl rfl)<|zTk (i := 5) rfl (zc underlying26 rfl sizeOf22 (by decide) rfl rfl)<|zTk (i := 6) rfl (zLf isAgg22 rfl)<|zTk (i := 7) rfl (zc underlying33 rfl sizeOf3 (by decide) rfl rfl)<|zTk (i := 8) rfl (zLi isAgg3 rfl)<|zTk (i := 9) rfl (y6 (j := z.dst.toNat) underlying22 sizeOf56 rfl rfl (by omega) hy)<|zTk (i := 10) rfl (zc underlying56 rfl sizeOf54 (by decide) rfl rfl)<|zTk (i := 11) rfl (zLi isAgg54 rfl)<|yu (i := 12) (j := 14) rfl rfl (by kernel_rfl) ?_ ?_
        ·refine zg (rType_s (t := y.ty) ⟨hy0, hy2⟩) rfl<|z6<|yu (i := 13) (j := 14) rfl rfl (by kernel_rfl) ?_ ?_
         ·refine zg (hms) rfl<|z6<|zOn (i := 14) rfl<|y9 (cs := [.int .i64 0, .int .i64 0]) zeroValue75 rfl rfl<|fun i19 => z6<|zOn (i := 15) rfl<|y4 sizeOf75 rfl rfl rfl rfl rfl rfl .head rfl<|z6<|zDn ?_
          exact ⟨i19, zR14, zR1, zLe, trivial⟩
         ·refine y9 (cs := [.int .i64 0, .int .i64 0]) zeroValue75 rfl rfl<|fun i19 => z6<|zOn (i := 13) rfl<|zg (hms) rfl<|z6<|zOn (i := 15) rfl<|y4 sizeOf75 rfl rfl rfl rfl rfl rfl .head rfl<|z6<|zDn ?_
          exact ⟨i19, zR14, zR1, zLe, trivial⟩
        ·refine y9 (cs := [.int .i64 0, .int .i64 0]) zeroValue75 rfl rfl<|fun i19 => z6<|zOn (i := 12) rfl<|zg (rType_s (t := y.ty) ⟨hy0, hy2⟩) rfl<|z6<|zOn (i := 13) rfl<|zg (hms) rfl<|z6<|zOn (i := 15) rfl<|y4 sizeOf75 rfl rfl rfl rfl rfl rfl .head rfl<|z6<|zDn ?_
         exact ⟨i19, zR14, zR1, zLe, trivial⟩
       ·rintro q _
        refine yp (yh (t := 19) rfl .head)<|y7 (fun j => false) (by kernel_rfl) rfl (zo (.rest _))<|zTk (i := 0) rfl (zq (v := .own _ _) rfl)<|zTk (i := 1) rfl (zc underlying33 rfl sizeOf3 (by decide) rfl rfl)<|zTk (i := 2) rfl (zLi isAgg3 rfl)<|zTk (i := 3) rfl (zMi rfl)<|zTk (i := 4) rfl (zn isAgg75 sizeOf75 rfl rfl)<|zTk (i := 5) rfl (zc underlying75 rfl sizeOf2 (by decide) rfl rfl)<|zTk (i := 6) rfl (zLi isAgg2 rfl)<|zTk (i := 8) rfl (zq (v := .own _ _) rfl)<|zTk (i := 9) rfl (zc underlying33 rfl sizeOf3 (by decide) rfl rfl)<|zTk (i := 10) rfl (zLi isAgg3 rfl)<|zTk (i := 11) rfl (zMi rfl)<|zTk (i := 12) rfl (zn isAgg75 sizeOf75 rfl rfl)<|zTk (i := 13) rfl (zc underlying75 rfl sizeOf2 (by decide) rfl rfl)<|zTk (i := 14) rfl (zLi isAgg2 rfl)<|zOn (i := 7) rfl<|zt rfl (zo (.l (.r (.rest _)))) (with_spec ju (eu ++ IU) (by omega) z.dst (n0 f) (ofR f l z.dst) (ofR f l z.dst).2 1 (hend true z.dst hc0.1)) ?_
        rintro r135 O135 ⟨j1, rfl, rfl, _⟩
        refine z6<|zOn (i := 15) rfl<|zt rfl (zo (.r (.l (.rest _)))) (with_spec jd (ed ++ ID) (by omega) z.dst (n0 f) (ofR f l z.dst) (ofR f l z.dst).1 1 (hend false z.dst hc0.1)) ?_
        rintro r143 O143 ⟨j2, rfl, rfl, _⟩
        refine z6<|zTk (i := 16) rfl (zw (v := .own _ _) rfl)<|zTk (i := 17) rfl (zw (v := .own _ _) rfl)<|zDn<|yp (zj (zl (.tail .head)))<|z8 rfl<|z2 (yb rfl rfl (by unfold I64; omega))<|z2 (zMi rfl)<|z6 ?_
        exact ⟨(j + 1, j1, j2), zR10, ⟨rfl, (by rw [fu] <;> rfl), (by rw [fd] <;> rfl), trivial⟩, ⟨_, (.refl _), (by rw [fu, fd] <;> rfl)⟩, hj2, by dsimp only; omega⟩
   ·have hjn : j = b.insts.length := by simp at cj; omega
    subst hjn
    have eb : ∀ up, blksE f l up i ++ insE f l up i b.insts = blksE f l up (i + 1) := fun up => by rw [blksE_succ l up hi2, hbi]
    rw [qk, eb, eb]
    refine y8<|z8 rfl<|z2 (yb rfl rfl (by unfold I64; omega))<|z2 (zMi rfl)<|z6 ?_
    exact ⟨(i + 1, ju, jd), zR6, zR3, zLe, hi2, by dsimp only; omega⟩
  ·have hin : i = f.blocks.length := by simp at ci; omega
   subst hin
   have eU : VU ++ blksE f l true f.blocks.length = edgesE f l true := by rw [← hVU]; rfl
   have eD : VD ++ blksE f l false f.blocks.length = edgesE f l false := by rw [← hVD]; rfl
   rw [eU, eD]
   refine y8<|zb<|z8 rfl<|z2 (zq (v := .own _ _) rfl)<|z2 (zq (v := .own _ _) rfl)<|z2 (zw (v := .own _ _) rfl)<|z2 (zw (v := .own _ _) rfl)<|z6<|yp (GStep.knowE (t := 4) (by rfl) .head (by rfl))<|yp (GStep.knowE (t := 5) (by rfl) .head (by rfl))<|zh<|q5 (x := .fro _ _) (y := .fro _ _) rfl rfl ?_
   rfl
end Go.Proofs.YtjnpcfpecilejaaGreatDoor
namespace Go.Proofs.YtjnpcfpecilejaaGreatDoor
open Go.Proofs.Tryz
open Go.Proofs Go.Lib Go.Shelf Go.RowKit
variable {E : World}
set_option maxRecDepth 20000
end Go.Proofs.YtjnpcfpecilejaaGreatDoor
namespace Go.Proofs.YtjnpcfpecilejaaGreatDoor
open Go.Proofs.Tryz
open Go.Proofs Go.Lib Go.Shelf Go.RowKit
variable {E : World}
set_option maxRecDepth 20000
theorem diffTells_law (f : PFunc) (hw : wFunc f) (hL : Letters E) (l : List Rng) (ho : ∀ r ∈ l, ok64 r) (hl : l.length ≤ 9223372036854775807) : AFun Tryz.prog E 4 [.agg (encF f), .fro 2 (l.map encZ)] (.bool true) := by
 have hlv := lives23_spec (E := E) hL
 refine zp func4 rfl (by decide) rfl<|zb<|z8 rfl<|yc (cs := _) rfl rfl rfl<|z2 (zAb rfl)<|z6<|zb<|zb<|z8 rfl<|zg (hlv) rfl<|z2 (yg rfl)<|z2 (zMb rfl)<|za rfl rfl rfl<|z2 (zn isAgg26 sizeOf26 rfl rfl)<|za rfl rfl rfl<|zg (fewT_spec f hw) rfl<|za rfl rfl rfl<|z2 (yg rfl)<|z2 (zPf rfl rfl rfl)<|z2 (zMb rfl)<|zm (s := 16) rfl (fun cf => ?_) (fun cf => ?_)
 ·refine z7 rfl rfl cf<|z7 rfl rfl cf<|z7 rfl rfl cf<|z2 (zPt rfl cf rfl)<|z6<|yr rfl rfl<|zb<|z8 rfl<|zg (hlv) rfl<|z2 (zAb rfl)<|z6<|zh<|zk (x := .bool _) rfl ?_
  rfl
 ·have hfew : fewB f = true := by cases h : fewB f; rw [h] at cf; simp at cf; rfl
  have hsm := ((fewB_iff f).1 hfew).small
  have hfU := edges_few hsm l true
  have hfD := edges_few hsm l false
  refine za rfl rfl cf<|z2 (zMf rfl)<|za rfl rfl cf<|z2 (y5 underlying41 rfl)<|za rfl rfl cf<|z2 (yv rfl rfl)<|z2 (zPf rfl cf rfl)<|z6<|zy rfl (fun cl => ?_) (fun cl => ?_)
  ·refine zb<|z8 rfl<|zg (hlv) rfl<|z2 (zAb rfl)<|z6<|zh<|zk (x := .bool _) rfl ?_
   rfl
  ·have hl2 : l.length ≤ 120 := by have h : ¬ (120 : Int) < l.length := (by simpa using cl); omega
   refine ze<|zb<|y7 (fun j => false) (by kernel_rfl) rfl (zo (.rest _))<|zTk (i := 0) rfl (zn isAgg26 sizeOf26 rfl rfl)<|zTk (i := 1) rfl (zMf rfl)<|zTk (i := 3) rfl (zn isAgg26 sizeOf26 rfl rfl)<|zTk (i := 4) rfl (zMf rfl)<|zOn (i := 2) rfl<|zg (upper_spec f hsm hL l ho) rfl<|z6<|zOn (i := 5) rfl<|zg (lower_spec f hsm hL l ho) rfl<|z6<|zTk (i := 6) rfl (zAf rfl)<|zTk (i := 7) rfl (zAf rfl)<|zDn<|zb<|zb<|z8 rfl<|z2 (zn isAgg26 sizeOf26 rfl rfl)<|zg (lawSingle_spec f hw hL) rfl<|z2 (yg rfl)<|z2 (zMb rfl)<|zm (s := 31) rfl (fun cs => ?_) (fun cs => ?_)
   ·have hs : (typedB f && singB f) = false := by have h : lawSing f = false := (by cases h : lawSing f; rfl; rw [h] at cs; simp at cs); unfold lawSing at h; rw [hfew] at h; exact h
    have hb : ∀ up, edgesB f l up = [] := fun up => by unfold edgesB; rw [hs]; rfl
    rw [hb, hb]
    refine z7 rfl rfl cs<|z7 rfl rfl cs<|z7 rfl rfl cs<|z7 rfl rfl cs<|z7 rfl rfl cs<|z7 rfl rfl cs<|z2 (zPt rfl cs rfl)<|z6<|yr rfl rfl<|zb<|z8 rfl<|z2 (zMf rfl)<|z2 (y5 underlying42 rfl)<|z2 (zMf rfl)<|z2 (y5 underlying42 rfl)<|z2 (yb rfl rfl (by unfold I64; decide))<|z2 (y3 rfl rfl)<|z2 (zAb rfl)<|z6<|zh<|zk (x := .bool _) rfl ?_
    rfl
   ·have hs : (typedB f && singB f) = true := by have h : lawSing f = true := (by cases h : lawSing f; rw [h] at cs; simp at cs; rfl); unfold lawSing at h; rw [hfew] at h; exact h
    refine za rfl rfl cs<|z2 (zMf rfl)<|za rfl rfl cs<|z2 (y5 underlying41 rfl)<|za rfl rfl cs<|z2 (zc underlying26 rfl sizeOf22 (by decide) rfl rfl)<|za rfl rfl cs<|z2 (zLf isAgg22 rfl)<|za rfl rfl cs<|z2 (y5 underlying22 rfl)<|za rfl rfl cs<|z2 (yl rfl rfl)<|z2 (zPf rfl cs rfl)<|z6<|zy rfl (fun cn => ?_) (fun cn => ?_)
    ·have hne : ¬ l.length = f.vars.length := by intro e; rw [e] at cn; simp at cn
     have hb : ∀ up, edgesB f l up = [] := fun up => by unfold edgesB; rw [if_neg (fun h => hne h.2)]
     rw [hb, hb]
     refine zb<|z8 rfl<|z2 (zMf rfl)<|z2 (y5 underlying42 rfl)<|z2 (zMf rfl)<|z2 (y5 underlying42 rfl)<|z2 (yb rfl rfl (by unfold I64; decide))<|z2 (y3 rfl rfl)<|z2 (zAb rfl)<|z6<|zh<|zk (x := .bool _) rfl ?_
     rfl
    ·have hll : l.length = f.vars.length := by have h : (!decide ((l.length : Int) = (f.vars.length : Int))) = false := cn; simp at h; omega
     have hb : ∀ up, edgesB f l up = edgesE f l up := fun up => by unfold edgesB; rw [if_pos ⟨hs, hll⟩]
     rw [hb, hb]
     refine ze<|zb<|y7 (fun j => false) (by kernel_rfl) rfl (zo (.rest _))<|zTk (i := 0) rfl (zn isAgg26 sizeOf26 rfl rfl)<|zTk (i := 1) rfl (zMf rfl)<|zOn (i := 2) rfl<|zg (refs_spec l (by omega)) rfl<|z6<|zOn (i := 3) rfl<|zg (refAll_spec f (ruleF_of hsm hs) (typedB_ends (and3 hs).1) l ho hll) rfl<|z6<|zTk (i := 4) rfl (zq (v := .tup _) rfl)<|zTk (i := 5) rfl (yj (v := .fro _ _) rfl rfl)<|zTk (i := 6) rfl (yj (v := .fro _ _) rfl rfl)<|zTk (i := 7) rfl (zAf rfl)<|zTk (i := 8) rfl (zAf rfl)<|zDn<|zb<|z8 rfl<|z2 (zMf rfl)<|z2 (zMf rfl)<|zg (sameE_spec (edgesE f l true) (edgesE f l true) (by omega)) rfl<|z2 (zMb rfl)<|za rfl rfl (qq rfl)<|z2 (zMf rfl)<|za rfl rfl (qq rfl)<|z2 (zMf rfl)<|za rfl rfl (qq rfl)<|zg (sameE_spec (edgesE f l false) (edgesE f l false) (by omega)) rfl<|z2 (zPt rfl (qq rfl) rfl)<|z2 (zAb rfl)<|z6<|zh<|zk (x := .bool _) rfl ?_
     exact jb (qq rfl)
end Go.Proofs.YtjnpcfpecilejaaGreatDoor
namespace Go.Proofs.YtjnpcfpecilejaaGreatDoor
open Go.Proofs.Tryz
open Go.Proofs Go.Lib Go.Shelf Go.RowKit Go.WideShapes
set_option maxRecDepth 20000
variable {W : World}
theorem decI : Dec Tryz.prog W 3 encI (fun x => (Lit.int .i64 x).wf = true) := Dec.int underlying3
theorem decIs : Dec Tryz.prog W 23 (fun l : List Int => [.fro 1 (l.map encI)]) wL := fun en held fuel cs x h => by
 obtain ⟨l, hl, r⟩ := Dec.slice (k := 1) underlying23 decI (by kernel_rfl) (by decide) en held fuel cs x h
 exact ⟨l, hl.2, r⟩
theorem decVar : Dec Tryz.prog W 56 encVar (fun _ => True) := fun en held fuel cs x h => by
 obtain ⟨xs, n, _, _, hl, hxl, hf⟩ := DataW.trod_struct underlying56 h
 have hl : cs.length = 2 := hl.trans (by kernel_rfl)
 have hxl : xs.length = 2 := hxl
 obtain ⟨a, _, ra⟩ := qd (o := 0) (k := 1) (hf 0 _ rfl) (Dec.str underlying9) (by omega) rfl (by kernel_rfl)
 obtain ⟨b, _, rb⟩ := qd (o := 1) (k := 1) (hf 1 _ rfl) (Dec.int underlying54) (by omega) rfl (by kernel_rfl)
 exact ⟨⟨a, b⟩, trivial, q0 (o := 0) ra (q0 rb (RepL.fin hl))⟩
theorem decPhi : Dec Tryz.prog W 95 encPhi wPhi := fun en held fuel cs x h => by
 obtain ⟨xs, n, _, _, hl, hxl, hf⟩ := DataW.trod_struct underlying95 h
 have hl : cs.length = 3 := hl.trans (by kernel_rfl)
 have hxl : xs.length = 3 := hxl
 obtain ⟨a, _, ra⟩ := qd (o := 0) (k := 1) (hf 0 _ rfl) decI (by omega) rfl (by kernel_rfl)
 obtain ⟨b, hb, rb⟩ := qd (o := 1) (k := 1) (hf 1 _ rfl) decIs (by omega) rfl (by kernel_rfl)
 obtain ⟨c, hc, rc⟩ := qd (o := 2) (k := 1) (hf 2 _ rfl) decIs (by omega) rfl (by kernel_rfl)
 exact ⟨⟨a, b, c⟩, ⟨hb, hc⟩, q0 (o := 0) ra (q0 rb (q0 rc (RepL.fin hl)))⟩
def wInst (x : PInst) : Prop := wL x.args ∧ (Lit.int .i64 x.num).wf = true
theorem decInst : Dec Tryz.prog W 33 encInst wInst := fun en held fuel cs x h => by
 obtain ⟨xs, n, _, _, hl, hxl, hf⟩ := DataW.trod_struct underlying33 h
 have hl : cs.length = 4 := hl.trans (by kernel_rfl)
 have hxl : xs.length = 4 := hxl
 obtain ⟨a, _, ra⟩ := qd (o := 0) (k := 1) (hf 0 _ rfl) (Dec.int underlying31) (by omega) rfl (by kernel_rfl)
 obtain ⟨b, _, rb⟩ := qd (o := 1) (k := 1) (hf 1 _ rfl) decI (by omega) rfl (by kernel_rfl)
 obtain ⟨c, hc, rc⟩ := qd (o := 2) (k := 1) (hf 2 _ rfl) decIs (by omega) rfl (by kernel_rfl)
 obtain ⟨d, hd, rd⟩ := qd (o := 3) (k := 1) (hf 3 _ rfl) (Dec.int underlying2) (by omega) rfl (by kernel_rfl)
 exact ⟨⟨a, b, c, d⟩, ⟨hc, hd⟩, q0 (o := 0) ra (q0 rb (q0 rc (q0 rd (RepL.fin hl))))⟩
theorem decTerm : Dec Tryz.prog W 64 encTerm (fun _ => True) := fun en held fuel cs x h => by
 obtain ⟨xs, n, _, _, hl, hxl, hf⟩ := DataW.trod_struct underlying64 h
 have hl : cs.length = 4 := hl.trans (by kernel_rfl)
 have hxl : xs.length = 3 := hxl
 obtain ⟨a, _, ra⟩ := qd (o := 0) (k := 1) (hf 0 _ rfl) (Dec.int underlying61) (by omega) rfl (by kernel_rfl)
 obtain ⟨b, _, rb⟩ := qd (o := 1) (k := 1) (hf 1 _ rfl) decI (by omega) rfl (by kernel_rfl)
 obtain ⟨c, _, rc⟩ := qd (o := 2) (k := 2) (hf 2 _ rfl) (Dec.pair (k := 1) underlying62 decI (by kernel_rfl) (by kernel_rfl)) (by omega) rfl (by kernel_rfl)
 exact ⟨⟨a, b, c.1, c.2⟩, trivial, q0 (o := 0) ra (q0 rb (q0 rc (RepL.fin hl)))⟩
def NumsI (f : PFunc) : Prop := ∀ b ∈ f.blocks, ∀ x ∈ b.insts, is64 x.num
def wBlkN (b : PBlock) : Prop := wBlk b ∧ ∀ x ∈ b.insts, -9223372036854775808 ≤ x.num ∧ x.num ≤ 9223372036854775807
theorem decBlkN : Dec Tryz.prog W 66 encBlk wBlkN := fun en held fuel cs x h => by
 obtain ⟨xs, n, _, _, hl, hxl, hf⟩ := DataW.trod_struct underlying66 h
 have hl : cs.length = 7 := hl.trans (by kernel_rfl)
 have hxl : xs.length = 4 := hxl
 obtain ⟨a, _, ra⟩ := qd (o := 0) (k := 1) (hf 0 _ rfl) (Dec.str underlying9) (by omega) rfl (by kernel_rfl)
 obtain ⟨b, hb, rb⟩ := qd (o := 1) (k := 1) (hf 1 _ rfl) (Dec.slice (k := 3) underlying59 decPhi (by kernel_rfl) (by decide)) (by omega) rfl (by kernel_rfl)
 obtain ⟨c, hc, rc⟩ := qd (o := 2) (k := 1) (hf 2 _ rfl) (Dec.slice (k := 4) underlying60 decInst (by kernel_rfl) (by decide)) (by omega) rfl (by kernel_rfl)
 obtain ⟨d, _, rd⟩ := qd (o := 3) (k := 4) (hf 3 _ rfl) decTerm (by omega) rfl (by kernel_rfl)
 exact ⟨⟨a, b, c, d⟩, ⟨⟨hb.2, hc.2, hb.1, fun x hx => (hc.1 x hx).1⟩, fun x hx => by simpa [Lit.wf, IntKind.min, IntKind.max, IntKind.signed, IntKind.bits] using (hc.1 x hx).2⟩, q0 (o := 0) ra (q0 rb (q0 rc (q0 rd (RepL.fin hl))))⟩
theorem decFN : Dec Tryz.prog W 26 encF (fun f => wFunc f ∧ NumsI f) := fun en held fuel cs x h => by
 obtain ⟨xs, n, _, _, hl, hxl, hf⟩ := DataW.trod_struct underlying26 h
 have hl : cs.length = 3 := hl.trans (by kernel_rfl)
 have hxl : xs.length = 3 := hxl
 obtain ⟨a, ha, ra⟩ := qd (o := 0) (k := 1) (hf 0 _ rfl) (Dec.slice (k := 2) underlying22 decVar (by kernel_rfl) (by decide)) (by omega) rfl (by kernel_rfl)
 obtain ⟨b, hb, rb⟩ := qd (o := 1) (k := 1) (hf 1 _ rfl) decIs (by omega) rfl (by kernel_rfl)
 obtain ⟨c, hc, rc⟩ := qd (o := 2) (k := 1) (hf 2 _ rfl) (Dec.slice (k := 7) underlying24 decBlkN (by kernel_rfl) (by decide)) (by omega) rfl (by kernel_rfl)
 exact ⟨⟨a, b, c⟩, ⟨⟨ha.2, hb, hc.2, fun x hx => (hc.1 x hx).1⟩, fun x hx => (hc.1 x hx).2⟩, q0 (o := 0) ra (q0 rb (q0 rc (RepL.fin hl)))⟩
theorem decRng : Dec Tryz.prog W 74 encZ ok64 := fun en held fuel cs x h => by
 obtain ⟨xs, n, _, _, hl, hxl, hf⟩ := DataW.trod_struct underlying74 h
 have hl : cs.length = 2 := hl.trans (by kernel_rfl)
 have hxl : xs.length = 2 := hxl
 obtain ⟨a, ha, ra⟩ := qd (o := 0) (k := 1) (hf 0 _ rfl) (Dec.int underlying2) (by omega) rfl (by kernel_rfl)
 obtain ⟨b, hb, rb⟩ := qd (o := 1) (k := 1) (hf 1 _ rfl) (Dec.int underlying2) (by omega) rfl (by kernel_rfl)
 exact ⟨(a, b), ⟨by simpa [is64, Lit.wf, IntKind.min, IntKind.max, IntKind.signed, IntKind.bits] using ha, by simpa [is64, Lit.wf, IntKind.min, IntKind.max, IntKind.signed, IntKind.bits] using hb⟩, q0 (o := 0) ra (q0 rb (RepL.fin hl))⟩
theorem decRngs : Dec Tryz.prog W 41 (fun l : List Rng => [.fro 2 (l.map encZ)]) (fun l => (∀ r ∈ l, ok64 r) ∧ l.length ≤ 9223372036854775807) := fun en held fuel cs x h =>
 Dec.slice (k := 2) underlying41 decRng (by kernel_rfl) (by decide) en held fuel cs x h
theorem of_slice {H : Type} {enc : TypeId × Value → H} {held : Bool} {α : Type} {T e : TypeId} {k : Nat} {g : α → List (List AV)} {ok : α → Prop} {base : Nat} {v : Value} {d : DataW H} {p : List MemPlace} (hd : Dec Tryz.prog W T (fun a => [.fro k (g a)]) ok) (ht : Tryz.prog.underlying T = some (.slice e))
  (hv : Value.okWide Tryz.prog W .any base T v) (h : DataW.Trod enc Tryz.prog W 0 (fun _ => true) held T v d p) : ∃ a, ok a ∧ RepV (I0 W) (.fro k (g a)) v := by
 obtain ⟨a, len, cap, rfl⟩ := okWide_slice ht hv
 obtain ⟨fuel, h⟩ := h
 obtain ⟨a, h1, v, _, e, h2, h3⟩ := hd enc held fuel _ _ h
 cases e
 exact ⟨a, h1, h2⟩
theorem of_struct {H : Type} {enc : TypeId × Value → H} {held : Bool} {α : Type} {T : TypeId} {e : α → List AV} {ok : α → Prop} {fs : Array Field} {base : Nat} {v : Value} {d : DataW H} {p : List MemPlace} (hd : Dec Tryz.prog W T e ok) (ht : Tryz.prog.underlying T = some (.struct fs))
  (hv : Value.okWide Tryz.prog W .any base T v) (h : DataW.Trod enc Tryz.prog W 0 (fun _ => true) held T v d p) : ∃ a, ok a ∧ RepV (I0 W) (.agg (e a)) v := by
 obtain ⟨cs, rfl, _⟩ := okWide_struct ht hv
 obtain ⟨fuel, h⟩ := h
 obtain ⟨a, h1, h2⟩ := hd enc held fuel _ _ h
 exact ⟨a, h1, cs.toList, by simp, h2⟩
theorem xTab : RExtra Tryz.prog Tryz.lays200_ren := ⟨by kernel_rfl, by kernel_rfl, by kernel_rfl, by kernel_rfl, by kernel_rfl, by kernel_rfl, by kernel_rfl, by kernel_rfl⟩
theorem letters_of (h : Lib.VarReads Tryz.prog W "unicode.properties" (Lib.tabData .u8 Lib.propertiesTab)) (h2 : Lib.VarReads Tryz.prog W "unicode.Letter" (Lib.rtabData letterT)) : Letters W :=
 ⟨tabIs_of_reads (g := 0) (by kernel_rfl) (by kernel_rfl) underlying296 underlying5 (by kernel_rfl) (by kernel_rfl) h,
  rvar_of_reads { Tryz.lays200 with } xTab (name := "unicode.Letter") (g := 1) (by kernel_rfl) (by kernel_rfl) h2⟩
end Go.Proofs.YtjnpcfpecilejaaGreatDoor
namespace Go.Proofs.YtjnpcfpecilejaaGreatDoor
open Go.Proofs.Tryz
open Go.Proofs
theorem fMay : Tryz.prog.mayEnter = true := by kernel_rfl
theorem fLift : (Rows.diffTellsRow.lifted == Tryz.prog.liftsFinal) = true := by kernel_rfl
theorem fMake : (Tryz.prog.make == some Rows.diffTellsRow.make) = true := by kernel_rfl
theorem fLaid : laidOutB Tryz.prog = true := by kernel_rfl
theorem fRow : mapsRowed Tryz.prog = true := by kernel_rfl
theorem fStop : (Tryz.prog.stops == []) = true := by kernel_rfl
theorem fKnob : (Tryz.prog.stopKnobs == []) = true := by kernel_rfl
theorem fKeys : (Rows.diffTellsRow.plainKeys == Tryz.prog.plainKeys) = true := by kernel_rfl
theorem fHeard : Tryz.prog.stopsHeard = true := by kernel_rfl
theorem gIn : (Rows.diffTellsRow.inPlace == Tryz.prog.inPlace 4) = true := by kernel_rfl
theorem gUn : (Rows.diffTellsRow.unfollowed == Tryz.prog.unfollowed 4) = true := by kernel_rfl
theorem gRec : (Rows.diffTellsRow.recurses == Tryz.prog.recurses 4) = true := by kernel_rfl
theorem gNam : (Rows.diffTellsRow.named == Tryz.prog.varsNamed 4) = true := by kernel_rfl
theorem closed : joinedFacts Tryz.prog 4 Tryz.f4 Rows.diffTellsSpec Rows.diffTellsRow = true := by
 unfold joinedFacts
 rw [fLaid, fRow, fStop, fKnob, gIn, gUn, gRec, gNam, fKeys, fHeard, fMay, fLift, fMake]
 kernel_rfl
end Go.Proofs.YtjnpcfpecilejaaGreatDoor
