/- The tree of what is above what: made, and asked. Of programs that are little. -/
import Derived.Test.YtjnpcfpecilejaaGreatDoorHi
import Derived.Test.YtjnpcfpecilejaaGreatDoorHd
import Derived.Test.YtjnpcfpecilejaaGreatDoorHh
import Derived.Test.YtjnpcfpecilejaaGreatDoorHf
import Derived.LaidEqlPtr
set_option linter.unusedVariables false
set_option linter.unusedSimpArgs false
set_option linter.unusedSectionVars false
namespace Go.Proofs.YtjnpcfpecilejaaGreatDoor
open Go.Proofs.Tryz
open Go.Proofs Go.Lib Go.Shelf Go.RowKit
variable {E : World}
set_option maxRecDepth 20000
theorem right_spec (f : PFunc) (hf : small f) (hL : Letters E) : AFun prog E 145 [.agg (encF f)] (.bool (typedB f)) := by
 refine zo func145 rfl (by decide) rfl<|zSr<|y7 (cs := _) rfl rfl rfl<|z2 (zAb rfl)<|z6<|zSr<|z2 (zk isAgg26 sizeOf26 rfl rfl)<|ze (Typed_spec f hf hL) rfl<|z2 (y3 rfl rfl)<|z2 (zAb rfl)<|z6<|zf<|zj (x := .bool _) rfl ?_
 cases typedB f <;> rfl
theorem typedB_ends {f : PFunc} (h : typedB f = true) : EndsOk f := by
 unfold typedB at h
 rw [qw, shapedB_eq] at h
 exact (qz h.1).ends
theorem predsX_spec (f : PFunc) (hf : small f) (hL : Letters E) (ht : typedB f = true) : AFun prog E 92 [.agg (encF f)] (froN eI (predsR f f.blocks.length)) := by
 have hn := hf.2.2.1
 refine zo func92 rfl (by decide) rfl<|zSr<|y7 (cs := _) rfl rfl rfl<|z2 (zAr rfl)<|z6<|za<|zSr<|z2 (zk isAgg26 sizeOf26 rfl rfl)<|ze (right_spec f hf hL) rfl<|z2 (yd rfl)<|z6<|yh rfl (by rw [ht]; rfl)<|zc<|zSr<|z2 (zk isAgg26 sizeOf26 rfl rfl)<|ze (preds_spec f (typedB_ends ht) (by omega)) rfl<|z2 (zAf rfl)<|z6<|zf<|zj (x := .fro _ _) rfl ?_
 rfl
theorem orderO_spec (f : PFunc) (hE : EndsOk f) (hn : f.blocks.length ≤ 1000) : AFun prog E 190 [.agg (encF f)] (.fro 1 ((orderT (EndsOf f) f.blocks.length).map encI)) :=
 order_spec f hE (by omega) fun l i T h => reverse_own l i T h
theorem orderX_spec (f : PFunc) (hf : small f) (hL : Letters E) (ht : typedB f = true) : AFun prog E 140 [.agg (encF f)] (.fro 1 ((orderT (EndsOf f) f.blocks.length).map encI)) := by
 have hn := hf.2.2.1
 refine zo func140 rfl (by decide) rfl<|zSr<|y7 (cs := _) rfl rfl rfl<|z2 (zAr rfl)<|z6<|za<|zSr<|z2 (zk isAgg26 sizeOf26 rfl rfl)<|ze (right_spec f hf hL) rfl<|z2 (yd rfl)<|z6<|yh rfl (by rw [ht]; rfl)<|zc<|zSr<|z2 (zk isAgg26 sizeOf26 rfl rfl)<|ze (orderO_spec f (typedB_ends ht) (by omega)) rfl<|z2 (zAf rfl)<|z6<|zf<|zj (x := .fro _ _) rfl ?_
 rfl
def encB (x : Bool) : List AV := [.bool x]
theorem reach_spec (f : PFunc) (hE : EndsOk f) (hn : f.blocks.length ≤ 1000) : AFun prog E 196 [.agg (encF f)] (.fro 1 ((reachB (EndsOf f) f.blocks.length).map encB)) := by
 have hG := hE.grph
 have hol := order_len hG
 refine zo func196 rfl (by decide) rfl<|zSr<|y7 (cs := _) rfl rfl rfl<|z2 (zAr rfl)<|z6<|zSr<|z2 (zFF underlying26 rfl sizeOf24 rfl rfl)<|z2 (zLf isAgg24 rfl)<|z2 (zz underlying24 rfl)<|AOps.makeB (m := f.blocks.length) underlying111 type4 rfl rfl rfl rfl rfl (by simp) (by simp) (by show (1 : Int) * _ ≤ _; omega) (by omega)<|fun i9 => z2 (zAo rfl)<|z6<|za<|zSr<|z2 (zk isAgg26 sizeOf26 rfl rfl)<|ze (orderO_spec f hE hn) rfl<|z2 (zz underlying23 rfl)<|z2 (zMi rfl)<|z6<|zh<|y6 (γ := Nat) [3, 11, 12] (fun k => [(13, .int .i64 k)]) (fun k => [(i9, .grow 1 4 (cB (setsT (List.replicate f.blocks.length false) ((orderT (EndsOf f) f.blocks.length).take k))))]) (fun k => k ≤ (orderT (EndsOf f) f.blocks.length).length) (fun k => (orderT (EndsOf f) f.blocks.length).length - k) 0 zR1 zLe (qm _) ?_
 rintro k hk
 refine zSr<|z2 (y8 rfl rfl)<|z6<|za<|zp rfl (fun ck=>?_) (fun ck=>?_)
 ·have hk2 : k < (orderT (EndsOf f) f.blocks.length).length := by simp at ck; omega
  obtain ⟨b, hb⟩ : ∃ b, (orderT (EndsOf f) f.blocks.length)[k] = b := ⟨_, rfl⟩
  have hr := order_rng hG.toEOk (hb ▸ qn hk2)
  refine zc<|za<|zh<|zSr<|z2 (zIM k underlying23 sizeOf3 rfl rfl rfl (by rw [qj hk2, hb]))<|z2 (zLi isAgg3 rfl)<|z2 (zAi rfl)<|z6<|zRg<|z2 (zMo rfl)<|z2 (zMi rfl)<|z2 (yx (j := b.toNat) underlying111 sizeOf4 rfl rfl (by omega) ⟨_, .head⟩ (by rw [cB_len, setsT_len]; simp) (by omega))<|AOps.storeB (j := b.toNat) sizeOf4 rfl rfl .head (by rw [setsT_len]; simp; omega)<|z6<|zRg<|z2 (zAd rfl rfl)<|z2 (zMi rfl)<|z6 ?_
  exact ⟨k + 1, zR3, zR1, ⟨_, (.refl _), by rw [qk hk2, setsT_snoc, hb]⟩, hk2, by omega⟩
 ·have hkn : k = (orderT (EndsOf f) f.blocks.length).length := by simp at ck; omega
  subst hkn
  rw [qo]
  refine y4<|zSr<|z2 (zMo rfl)<|z2 (zAo rfl)<|z6<|yf (GStep.knowB (t := 2) rfl .head (by rw [setsT_len]; simp))<|zf<|zj (x := .fro _ _) rfl ?_
  rfl
theorem reachX_spec (f : PFunc) (hf : small f) (hL : Letters E) (ht : typedB f = true) : AFun prog E 151 [.agg (encF f)] (.fro 1 ((reachB (EndsOf f) f.blocks.length).map encB)) := by
 have hn := hf.2.2.1
 refine zo func151 rfl (by decide) rfl<|zSr<|y7 (cs := _) rfl rfl rfl<|z2 (zAr rfl)<|z6<|za<|zSr<|z2 (zk isAgg26 sizeOf26 rfl rfl)<|ze (right_spec f hf hL) rfl<|z2 (yd rfl)<|z6<|yh rfl (by rw [ht]; rfl)<|zc<|zSr<|z2 (zk isAgg26 sizeOf26 rfl rfl)<|ze (reach_spec f (typedB_ends ht) (by omega)) rfl<|z2 (zAf rfl)<|z6<|zf<|zj (x := .fro _ _) rfl ?_
 rfl
theorem indexB_spec (xs : List Bool) (v : Bool) (hl : xs.length ≤ 281474976710656) : AFun prog E 195 [.fro 1 (xs.map encB), .bool v] (.int .i64 (firstI (fun x => decide (v = x)) xs 0)) := by
 refine zo func195 rfl (by decide) rfl<|zSr<|z2 (zAi rfl)<|z6<|za<|zSr<|z2 (zMf rfl)<|z2 (zz underlying111 rfl)<|z2 (zMi rfl)<|z6<|zh<|y6 (γ := Nat) [0, 1, 7] (fun k => [(8, .int .i64 k)]) (fun k => []) (fun k => k ≤ xs.length ∧ (xs.take k).all (fun x => !decide (v = x))) (fun k => xs.length - k) 0 zR1 zLe (⟨qm _, rfl⟩) ?_
 rintro k ⟨hk, hall⟩
 refine zSr<|z2 (y8 rfl rfl)<|z6<|za<|zp rfl (fun ck=>?_) (fun ck=>?_)
 ·have hk2 : k < xs.length := by simp at ck; omega
  refine zc<|za<|zh<|zSr<|z2 (zMi rfl)<|z2 (zAi rfl)<|z6<|zSr<|z2 (zMb rfl)<|z2 (zMf rfl)<|z2 (zMi rfl)<|z2 (zIM k underlying111 sizeOf4 rfl rfl rfl (qj hk2))<|z2 (yu (c := .bool _) isAgg4 rfl)<|z2 (Gv.eqlB underlying4 rfl rfl)<|z6<|zr rfl (fun cp=>?_) (fun cp=>?_)
  ·refine zSr<|z2 (zMi rfl)<|z2 (zAi rfl)<|z6<|zf<|zj (x := .int _ _) rfl ?_
   rw [firstI_drop _ xs k hk hall, List.drop_eq_getElem_cons hk2, firstI, if_pos (by simpa using cp)]
  ·refine zc<|zRg<|z2 (zAd rfl rfl)<|z2 (zMi rfl)<|z6 ?_
   exact ⟨k + 1, zR3, zR1, zLe, ⟨hk2, by rw [qk hk2, List.all_append, hall]; simpa using cp⟩, by omega⟩
 ·have hkn : k = xs.length := by simp at ck; omega
  refine y4<|zSr<|z2 (zAi rfl)<|z6<|zf<|zj (x := .int _ _) rfl ?_
  rw [firstI_drop _ xs k hk hall, hkn, List.drop_length, firstI]
theorem containsB_spec (xs : List Bool) (v : Bool) (hl : xs.length ≤ 281474976710656) : AFun prog E 150 [.fro 1 (xs.map encB), .bool v] (.bool (xs.contains v)) := by
 refine zo func150 rfl (by decide) rfl<|zSr<|z2 (zAb rfl)<|z6<|zSr<|z2 (zMf rfl)<|z2 (zMb rfl)<|ze (indexB_spec xs v hl) rfl<|z2 (q9 rfl rfl)<|z2 (zAb rfl)<|z6<|zf<|zj (x := .bool _) rfl ?_
 rw [firstI_ge]; congr 1; rw [qs]; simp
theorem cloneO (xs : List Int) (hl : xs.length ≤ 1000) : ACall prog E 137 [.fro 1 (xs.map encI)] [] (fun x O' => ∃ i : Nat, x = .own i xs.length ∧ O' = [(i, .grow 1 3 (cI xs))]) := by
 refine zo func137 rfl (by decide) rfl<|zSr<|z2 (zAr rfl)<|z6<|za<|zSr<|z2 (zMf rfl)<|AOps.isNil underlying23 rfl rfl (fun hnil=>?_) ?_
 ·have hx : xs = [] := by simpa using hnil
  subst hx
  refine z6<|yr rfl rfl<|zSr<|z2 (zAr rfl)<|z6<|zf ?_
  repeat (first | refine aseqQ_ret ?_ | refine ablockQ_ret ?_)
  refine adopt_fin (s := 2) (k := 1) (T := 3) rfl (fun i=>?_)
  refine zj (x := .own _ _) rfl ?_
  exact ⟨i, rfl, rfl⟩
 ·refine z6<|yh rfl rfl<|zc<|zSr<|AOps.buildSlice0 (k := 1) underlying23 type3<|fun i5 => z2 (zMf rfl)<|yl (k := 1) underlying23 type3 rfl rfl rfl rfl rfl (fun _ => .head) (by simp) (by decide) (all_cell (fun _ => rfl) xs) (by show (_ + _) * 8 ≤ _; simp <;> omega) (by simp <;> omega)<|fun i7 => z2 (zAo rfl)<|z6<|zf<|zj (x := .own _ _) rfl ?_
  exact ⟨i7, (by simp), by rw [← cI_flat]; rfl⟩
theorem predsR_row (f : PFunc) {k : Nat} (h : k < f.blocks.length) : (predsR f f.blocks.length)[k]? = some (predsT (EndsOf f) f.blocks.length (k : Int)) := by unfold predsR; rw [qr, List.getElem?_range h]; rfl
theorem joined_spec (f : PFunc) (hE : EndsOk f) (hf : small f) : AFun prog E 194 [.agg (encF f)] (.bool (joinedB f)) := by
 have hn := hf.2.2.1
 refine zo func194 rfl (by decide) rfl<|zSr<|y7 (cs := _) rfl rfl rfl<|z2 (zAb rfl)<|z6<|zSr<|z2 (zk isAgg26 sizeOf26 rfl rfl)<|ze (preds_spec f hE (by omega)) rfl<|z2 (zAf rfl)<|z6<|za<|zSr<|z2 (zFF underlying26 rfl sizeOf24 rfl rfl)<|z2 (zLf isAgg24 rfl)<|z2 (zz underlying24 rfl)<|z2 (zMi rfl)<|z6<|zh<|y6 (γ := Nat) [3, 12, 13] (fun k => [(14, .int .i64 k)]) (fun k => []) (fun k => k ≤ f.blocks.length ∧ (List.range k).all (blkJ f) = true) (fun k => f.blocks.length - k) 0 zR1 zLe (⟨qm _, rfl⟩) ?_
 rintro k ⟨hk, hall⟩
 refine zSr<|z2 (y8 rfl rfl)<|z6<|za<|zp rfl (fun ck=>?_) (fun ck=>?_)
 ·have hk2 : k < f.blocks.length := by simp at ck; omega
  obtain ⟨b, hbk⟩ : ∃ b, f.blocks[k] = b := ⟨_, rfl⟩
  have hget : f.blocks[k]? = some b := by rw [qj hk2, hbk]
  obtain ⟨hb0, hb1, hb2, hb3, hb4⟩ := hf.2.2.2.2 b (hbk ▸ qn hk2)
  refine zc<|za<|zh<|zSr<|z2 (zMi rfl)<|z2 (zIM k underlying24 sizeOf66 rfl rfl rfl hget)<|z2 (zk isAgg66 sizeOf66 rfl rfl)<|zq (cs := [.str ⟨#[]⟩, .raw (.slice none 0 0), .raw (.slice none 0 0), .int .i64 0, .int .i64 0, .int .i64 0, .int .i64 0]) zeroValue66 rfl rfl<|fun i5 => z2 (zAi rfl)<|zm sizeOf66 rfl rfl rfl rfl rfl rfl .head rfl<|zd (y9 (t := 5) rfl .head)<|z6<|zSr<|z2 (zFF underlying66 rfl sizeOf59 rfl rfl)<|z2 (zLf isAgg59 rfl)<|z2 (zz underlying59 rfl)<|z2 (zMi rfl)<|z6<|zh<|y6 (γ := Nat) [3, 4, 12, 13, 14, 20, 21] (fun j => [(22, .int .i64 j)]) (fun j => []) (fun j => j ≤ b.phis.length ∧ (b.phis.take j).all (phJ f k) = true) (fun j => b.phis.length - j) 0 zR1 zLe (⟨qm _, rfl⟩) ?_
  rintro j ⟨hj, hjall⟩
  refine zSr<|z2 (y8 rfl rfl)<|z6<|za<|zp rfl (fun cj=>?_) (fun cj=>?_)
  ·have hj2 : j < b.phis.length := by simp at cj; omega
   have hpf := (hb3 _ (qn hj2)).2
   refine zc<|za<|zh<|zSr<|z2 (zIM j underlying59 sizeOf95 rfl rfl rfl (qj hj2))<|z2 (zk isAgg95 sizeOf95 rfl rfl)<|zq (cs := [.int .i64 0, .raw (.slice none 0 0), .raw (.slice none 0 0)]) zeroValue95 rfl rfl<|fun i7 => zm sizeOf95 rfl rfl rfl rfl rfl rfl .head rfl<|zd (y9 (t := 7) rfl .head)<|z6<|zSr<|z2 (zFF underlying95 rfl sizeOf23 rfl rfl)<|z2 (zLf isAgg23 rfl)<|zt rfl (zn (.rest _)) (cloneO b.phis[j].from_ hpf) ?_
   rintro r28 O28 ⟨i8, rfl, rfl⟩
   refine z2 (zAo rfl)<|z6<|zSr<|z2 (zMo rfl)<|zt rfl (zn (.l (.rest _))) (sort_own b.phis[j].from_ i8 _ (by omega)) ?_
   rintro r30 O30 ⟨rfl, rfl⟩
   refine z6<|yf (GStep.knowI (t := 8) rfl .head (by rw [(sortI_perm _).length_eq]))<|zSr<|z2 (zMf rfl)<|z2 (zMf rfl)<|z2 (zMi rfl)<|z2 (zIM k underlying103 sizeOf23 rfl rfl rfl (predsR_row f hk2))<|z2 (zLf isAgg23 rfl)<|ze (equalI_spec (sortI b.phis[j].from_) (predsT (EndsOf f) f.blocks.length (k : Int)) (by unfold okL; rw [(sortI_perm _).length_eq]; omega)) rfl<|z2 (yd rfl)<|z6<|zr rfl (fun cq=>?_) (fun cq=>?_)
   ·refine zSr<|z2 (zAb rfl)<|z6<|zf<|zj (x := .bool _) rfl ?_
    rw [show joinedB f = false from range_all_bad hk2 (by rw [blkJ_at hget]; exact Bool.eq_false_iff.2 (all_bad hj2 (by simpa [phJ] using cq)))]
   ·refine zc<|zRg<|z2 (zAd rfl rfl)<|z2 (zMi rfl)<|z6 ?_
    exact ⟨j + 1, zR7, zR1, zLe, ⟨hj2, all_take hj2 hjall (by simpa [phJ] using cq)⟩, by omega⟩
  ·have hjn : j = b.phis.length := by simp at cj; omega
   subst hjn
   rw [qo] at hjall
   refine y4<|zRg<|z2 (zAd rfl rfl)<|z2 (zMi rfl)<|z6 ?_
   exact ⟨k + 1, zR3, zR1, zLe, ⟨hk2, range_all_succ hall (by rw [blkJ_at hget]; exact hjall)⟩, by omega⟩
 ·have hkn : k = f.blocks.length := by simp at ck; omega
  subst hkn
  refine y4<|zSr<|z2 (zAb rfl)<|z6<|zf<|zj (x := .bool _) rfl ?_
  rw [show joinedB f = true from hall]
theorem joinedX_spec (f : PFunc) (hf : small f) (hL : Letters E) : AFun prog E 149 [.agg (encF f)] (.int .i64 (if (typedB f && joinedB f) = true then 0 else 3)) := by
 refine zo func149 rfl (by decide) rfl<|zSr<|y7 (cs := _) rfl rfl rfl<|z2 (zAi rfl)<|z6<|za<|zSr<|z2 (zk isAgg26 sizeOf26 rfl rfl)<|ze (right_spec f hf hL) rfl<|z2 (yd rfl)<|z2 (zMb rfl)<|zl (s := 6) rfl (fun ct=>?_) (fun ct=>?_)
 ·refine z7 rfl rfl ct<|z7 rfl rfl ct<|z7 rfl rfl ct<|z2 (zPt rfl ct rfl)<|z6<|yr rfl rfl<|zSr<|z2 (zAi rfl)<|z6<|zf<|zj (x := .int _ _) rfl ?_
  rw [show typedB f = false by simpa using ct]; rfl
 ·have ht : typedB f = true := by simpa using ct
  refine z8 rfl rfl ct<|z2 (zk isAgg26 sizeOf26 rfl rfl)<|z8 rfl rfl ct<|ze (joined_spec f (typedB_ends ht) hf) rfl<|z8 rfl rfl ct<|z2 (yd rfl)<|z2 (zPf rfl ct rfl)<|z6<|zr rfl (fun cj=>?_) (fun cj=>?_)
  ·refine zSr<|z2 (zAi rfl)<|z6<|zf<|zj (x := .int _ _) rfl ?_
   rw [show joinedB f = false by simpa using cj]; simp
  ·refine zc<|zSr<|z2 (zAi rfl)<|z6<|zf<|zj (x := .int _ _) rfl ?_
   rw [ht, show joinedB f = true by simpa using cj]; rfl
end Go.Proofs.YtjnpcfpecilejaaGreatDoor
namespace Go.Proofs.YtjnpcfpecilejaaGreatDoor
open Go.Proofs.Tryz
section
variable {S : Int → List Int} {at_ : Int → Int} {V : List Int} {N : Int → Int}
theorem meet_left (hV : Ord S at_ V) (hN : NInv S at_ V N) {K : Nat} (hK : ∀ a b, a ∈ V → b ∈ V → at_ a + at_ b < K) {x y : Int} (hx : N x ≠ -1) (hy : N y ≠ -1) (hlt : at_ y < at_ x) :
  x ≠ 0 ∧ N (N x) ≠ -1 ∧ at_ (N x) < at_ x ∧ meetF N at_ K x y = meetF N at_ K (N x) y := by
 have h1 := (hV.pos x).1 (hN.mem x hx)
 have h2 := (hV.pos y).1 (hN.mem y hy)
 have h3 := hK x y (hN.mem x hx) (hN.mem y hy)
 have hx0 : x ≠ 0 := fun e => by rw [e, hV.zero] at hlt; omega
 obtain ⟨g1, g2, g3⟩ := hN.near x hx0 hx
 refine ⟨hx0, g2, g3, ?_⟩
 obtain ⟨k, rfl⟩ : ∃ k, K = k + 1 := ⟨K - 1, by omega⟩
 have hm := meet_more hV hN k (k + 1) (N x) y g2 hy (by omega) (by omega)
 rw [hm]
 show (if x = y then x else if at_ y < at_ x then meetF N at_ k (N x) y else meetF N at_ k x (N y)) = _
 rw [if_neg (fun e => by rw [e] at hlt; omega), if_pos hlt]
theorem meet_right (hV : Ord S at_ V) (hN : NInv S at_ V N) {K : Nat} (hK : ∀ a b, a ∈ V → b ∈ V → at_ a + at_ b < K) {x y : Int} (hx : N x ≠ -1) (hy : N y ≠ -1) (hlt : at_ x < at_ y) :
  y ≠ 0 ∧ N (N y) ≠ -1 ∧ at_ (N y) < at_ y ∧ meetF N at_ K x y = meetF N at_ K x (N y) := by
 have h1 := (hV.pos x).1 (hN.mem x hx)
 have h2 := (hV.pos y).1 (hN.mem y hy)
 have h3 := hK x y (hN.mem x hx) (hN.mem y hy)
 have hy0 : y ≠ 0 := fun e => by rw [e, hV.zero] at hlt; omega
 obtain ⟨g1, g2, g3⟩ := hN.near y hy0 hy
 refine ⟨hy0, g2, g3, ?_⟩
 obtain ⟨k, rfl⟩ : ∃ k, K = k + 1 := ⟨K - 1, by omega⟩
 have hm := meet_more hV hN k (k + 1) x (N y) hx g2 (by omega) (by omega)
 rw [hm]
 show (if x = y then x else if at_ y < at_ x then meetF N at_ k (N x) y else meetF N at_ k x (N y)) = _
 rw [if_neg (fun e => by rw [e] at hlt; omega), if_neg (by omega)]
theorem meet_same {K : Nat} (hK : 0 < K) (x : Int) : meetF N at_ K x x = x := by
 obtain ⟨k, rfl⟩ : ∃ k, K = k + 1 := ⟨K - 1, by omega⟩
 show (if x = x then x else _) = x
 rw [if_pos rfl]
end
def atTo (n : Nat) (V : List Int) (k : Nat) : List Int := ((V.take k).zipIdx).foldl (fun l p => l.set p.1.toNat (p.2 : Int)) (List.replicate n (-1))
theorem foldl_len {α : Type} {g : List Int → α → List Int} (h : ∀ l x, (g l x).length = l.length) : ∀ (ws : List α) (l : List Int), (ws.foldl g l).length = l.length
 | [], _ => rfl
 | w :: ws, l => by rw [List.foldl_cons, foldl_len h ws, h]
theorem atTo_len (n : Nat) (V : List Int) (k : Nat) : (atTo n V k).length = n := by unfold atTo; rw [foldl_len (fun l x => List.length_set)]; simp
theorem atTo_succ {n : Nat} {V : List Int} {k : Nat} (h : k < V.length) : (atTo n V k).set V[k].toNat (k : Int) = atTo n V (k + 1) := by
 unfold atTo; rw [zipTake h, List.foldl_append]; rfl
theorem atTo_all (n : Nat) (V : List Int) : atTo n V V.length = atOf n V := by unfold atTo atOf; rw [qo]
section
variable {S : Int → List Int} {at_ V : List Int} {preds : Int → List Int} {n : Nat}
def rndTo (at_ : List Int) (K : Nat) (preds : Int → List Int) (V l : List Int) (q : Nat) : List Int := ((V.drop 1).take q).foldl (stepL at_ K preds) l
theorem rndTo_succ {K q : Nat} {l : List Int} (h : q < (V.drop 1).length) : rndTo at_ K preds V l (q + 1) = stepL at_ K preds (rndTo at_ K preds V l q) (V.drop 1)[q] := by
 unfold rndTo; rw [qk h, List.foldl_append]; rfl
theorem rndTo_all {K : Nat} {l : List Int} : rndTo at_ K preds V l (V.drop 1).length = passL at_ K preds V l := by
 unfold rndTo passL; rw [qo, List.drop_one]
theorem rndTo_len {K q : Nat} (l : List Int) : (rndTo at_ K preds V l q).length = l.length := fold_len K _ _
end
section
variable {E : Int → List Int} {n : Nat}
theorem preds_rng (hE : Grph E n) {b p : Int} (h : p ∈ predsT E n b) : 0 ≤ p ∧ p < n := by
 unfold predsT at h
 obtain ⟨i, h1, h2⟩ := List.mem_flatMap.1 h
 obtain ⟨c, _, rfl⟩ := List.mem_map.1 h2
 exact mem_intsTo.1 h1
def nearR (E : Int → List Int) (n : Nat) : List Int := (nearG E n).set 0 (-1)
theorem nearR_len (E : Int → List Int) (n : Nat) : (nearR E n).length = n := by unfold nearR; rw [List.length_set, nearG_len]
theorem nearR_get {b : Int} (h0 : 0 ≤ b) (hb : b ≠ 0) : gi (nearR E n) b = gi (nearG E n) b := by
 unfold nearR gi
 rw [if_pos h0, if_pos h0, List.getElem?_set_ne (by omega)]
theorem nearR_0 (hn : 0 < n) : gi (nearR E n) 0 = -1 := by
 unfold nearR gi
 rw [if_pos (Int.le_refl _)]
 simp [nearG_len, hn]
end
theorem bestF_cons (N at_ : Int → Int) (K : Nat) (p : Int) (ps : List Int) (m : Int) : bestF N at_ K (p :: ps) m = bestF N at_ K ps (if at_ p = -1 ∨ N p = -1 then m else if m = -1 then p else meetF N at_ K m p) := rfl
end Go.Proofs.YtjnpcfpecilejaaGreatDoor
namespace Go.Proofs.YtjnpcfpecilejaaGreatDoor
open Go.Proofs.Tryz
open Go.Proofs
variable {E : World}
set_option maxRecDepth 20000
theorem meet_spec {S : Int → List Int} {V nr al : List Int} {n K i j : Nat} {T T' : TypeId} (hV : Ord S (gi al) V) (hN : NInv S (gi al) V (gi nr)) (hK : ∀ a b, a ∈ V → b ∈ V → gi al a + gi al b < K) (hK0 : 0 < K) (hnl : nr.length = n) (hal : al.length = n) (hlt : ∀ b ∈ V, b < n) {a b : Int} (ha : gi nr a ≠ -1) (hb : gi nr b ≠ -1) :
  ACall prog E 191 [.agg [.own i n, .own j n], .int .i64 a, .int .i64 b] [(j, .grow 1 T' (cI al)), (i, .grow 1 T (cI nr))]
   fun r O => r = .int .i64 (meetF (gi nr) (gi al) K a b) ∧ O = [(j, .grow 1 T' (cI al)), (i, .grow 1 T (cI nr))] := by
 have hget : ∀ x, gi nr x ≠ -1 → 0 ≤ x ∧ x.toNat < n := fun x hx => by
  have hm := hN.mem x hx
  have := hV.nn x hm
  have := hlt x hm
  omega
 have hNl : ∀ x, gi nr x ≠ -1 → nr[x.toNat]? = some (gi nr x) := fun x hx => gi_get (hget x hx).1 (by rw [hnl]; exact (hget x hx).2)
 have hAl : ∀ x, gi nr x ≠ -1 → al[x.toNat]? = some (gi al x) := fun x hx => gi_get (hget x hx).1 (by rw [hal]; exact (hget x hx).2)
 have hpos : ∀ x, gi nr x ≠ -1 → 0 ≤ gi al x := fun x hx => (hV.pos x).1 (hN.mem x hx)
 refine zo func191 rfl (by decide) rfl<|zSr<|yn (cs := _) rfl rfl rfl rfl<|fun i3 => z2 (zAi rfl)<|z6<|za<|zh<|y6 (γ := Int × Int) [3] (fun g => [(1, .int .i64 g.1), (2, .int .i64 g.2)]) (fun g => [(i3, .cells 238 [.own i n, .own j n]), (j, .grow 1 T' (cI al)), (i, .grow 1 T (cI nr))]) (fun g => gi nr g.1 ≠ -1 ∧ gi nr g.2 ≠ -1 ∧ meetF (gi nr) (gi al) K g.1 g.2 = meetF (gi nr) (gi al) K a b) (fun g => (gi al g.1 + gi al g.2).toNat) (a, b) zR2 zLe (⟨ha, hb, rfl⟩) ?_
 rintro ⟨x, y⟩ ⟨hx, hy, hm⟩
 try dsimp only at *
 refine za<|zSr<|z2 (zMi rfl)<|z2 (zMi rfl)<|z2 (yi rfl rfl)<|z6<|zr rfl (fun cxy=>?_) (fun cxy=>?_)
 ·have hxy : x ≠ y := by simpa using cxy
  refine zc<|zh<|za<|zh<|y6 (γ := Int) [2, 3] (fun u => [(1, .int .i64 u)]) (fun u => [(i3, .cells 238 [.own i n, .own j n]), (j, .grow 1 T' (cI al)), (i, .grow 1 T (cI nr))]) (fun u => gi nr u ≠ -1 ∧ meetF (gi nr) (gi al) K u y = meetF (gi nr) (gi al) K a b ∧ (u = x ∨ gi al u < gi al x)) (fun u => (gi al u).toNat) x zR1 zLe (⟨hx, hm, .inl rfl⟩) ?_
  rintro u ⟨hu, hmu, hux⟩
  refine za<|za<|y1 (fun j => false) (by kernel_rfl) rfl (zn (.r (.r (.r (.rest _)))))<|zTk 0 rfl (zu underlying238 rfl sizeOf23 (by decide) rfl rfl)<|zTk 1 rfl (zy (c := .own _ _) isAgg23 rfl ⟨_, .head⟩ rfl)<|zTk 2 rfl (zMi rfl)<|zTk 3 rfl (yx (j := u.toNat) underlying23 sizeOf3 rfl rfl (by have := hget u hu; omega) ⟨_, .t1⟩ (by first | rfl | (simp [cI_len, cB_len]; done) | (simp [cI_len, cB_len]; omega)) (hget u hu).2)<|zTk 4 rfl (qd (j := u.toNat) isAgg3 rfl ⟨_, .t1⟩ (hAl u hu))<|zTk 5 rfl (zu underlying238 rfl sizeOf23 (by decide) rfl rfl)<|zTk 6 rfl (zy (c := .own _ _) isAgg23 rfl ⟨_, .head⟩ rfl)<|zTk 7 rfl (zMi rfl)<|zTk 8 rfl (yx (j := y.toNat) underlying23 sizeOf3 rfl rfl (by have := hget y hy; omega) ⟨_, .t1⟩ (by first | rfl | (simp [cI_len, cB_len]; done) | (simp [cI_len, cB_len]; omega)) (hget y hy).2)<|zTk 9 rfl (qd (j := y.toNat) isAgg3 rfl ⟨_, .t1⟩ (hAl y hy))<|zTk 10 rfl (yv rfl rfl)<|zDn<|zr rfl (fun c1=>?_) (fun c1=>?_)
  ·have c1 : gi al y < gi al u := by simpa using c1
   obtain ⟨h1, h2, h3, h4⟩ := meet_left hV hN hK hu hy c1
   have hp := hpos u hu
   have hp' := hpos _ h2
   refine zc<|zh<|zRg<|z2 (zu underlying238 rfl sizeOf23 (by decide) rfl rfl)<|z2 (zy (c := .own _ _) isAgg23 rfl ⟨_, .head⟩ rfl)<|z2 (zMi rfl)<|z2 (yx (j := u.toNat) underlying23 sizeOf3 rfl rfl (by have := hget u hu; omega) ⟨_, .t2⟩ (by first | rfl | (simp [cI_len, cB_len]; done) | (simp [cI_len, cB_len]; omega)) (hget u hu).2)<|z2 (qd (j := u.toNat) isAgg3 rfl ⟨_, .t2⟩ (hNl u hu))<|z2 (zAi rfl)<|z6 ?_
   exact ⟨gi nr u, zR2, zR1, zLe, ⟨h2, by rw [← h4]; exact hmu, .inr (by rcases hux with rfl | h <;> omega)⟩, by omega⟩
  ·have c1 : ¬ gi al y < gi al u := by simpa using c1
   refine y4<|zh<|y6 (γ := Int) [1, 3] (fun z => [(2, .int .i64 z)]) (fun z => [(i3, .cells 238 [.own i n, .own j n]), (j, .grow 1 T' (cI al)), (i, .grow 1 T (cI nr))]) (fun z => gi nr z ≠ -1 ∧ meetF (gi nr) (gi al) K u z = meetF (gi nr) (gi al) K a b ∧ (z = y ∨ gi al z < gi al y)) (fun z => (gi al z).toNat) y zR1 zLe (⟨hy, hmu, .inl rfl⟩) ?_
   rintro z ⟨hz, hmz, hzy⟩
   refine za<|za<|y1 (fun j => false) (by kernel_rfl) rfl (zn (.r (.r (.r (.rest _)))))<|zTk 0 rfl (zu underlying238 rfl sizeOf23 (by decide) rfl rfl)<|zTk 1 rfl (zy (c := .own _ _) isAgg23 rfl ⟨_, .head⟩ rfl)<|zTk 2 rfl (zMi rfl)<|zTk 3 rfl (yx (j := z.toNat) underlying23 sizeOf3 rfl rfl (by have := hget z hz; omega) ⟨_, .t1⟩ (by first | rfl | (simp [cI_len, cB_len]; done) | (simp [cI_len, cB_len]; omega)) (hget z hz).2)<|zTk 4 rfl (qd (j := z.toNat) isAgg3 rfl ⟨_, .t1⟩ (hAl z hz))<|zTk 5 rfl (zu underlying238 rfl sizeOf23 (by decide) rfl rfl)<|zTk 6 rfl (zy (c := .own _ _) isAgg23 rfl ⟨_, .head⟩ rfl)<|zTk 7 rfl (zMi rfl)<|zTk 8 rfl (yx (j := u.toNat) underlying23 sizeOf3 rfl rfl (by have := hget u hu; omega) ⟨_, .t1⟩ (by first | rfl | (simp [cI_len, cB_len]; done) | (simp [cI_len, cB_len]; omega)) (hget u hu).2)<|zTk 9 rfl (qd (j := u.toNat) isAgg3 rfl ⟨_, .t1⟩ (hAl u hu))<|zTk 10 rfl (yv rfl rfl)<|zDn<|zr rfl (fun c2=>?_) (fun c2=>?_)
   ·have c2 : gi al u < gi al z := by simpa using c2
    obtain ⟨h1, h2, h3, h4⟩ := meet_right hV hN hK hu hz c2
    have hp := hpos z hz
    have hp' := hpos _ h2
    refine zc<|zh<|zRg<|z2 (zu underlying238 rfl sizeOf23 (by decide) rfl rfl)<|z2 (zy (c := .own _ _) isAgg23 rfl ⟨_, .head⟩ rfl)<|z2 (zMi rfl)<|z2 (yx (j := z.toNat) underlying23 sizeOf3 rfl rfl (by have := hget z hz; omega) ⟨_, .t2⟩ (by first | rfl | (simp [cI_len, cB_len]; done) | (simp [cI_len, cB_len]; omega)) (hget z hz).2)<|z2 (qd (j := z.toNat) isAgg3 rfl ⟨_, .t2⟩ (hNl z hz))<|z2 (zAi rfl)<|z6 ?_
    exact ⟨gi nr z, zR2, zR1, zLe, ⟨h2, by rw [← h4]; exact hmz, .inr (by rcases hzy with rfl | h <;> omega)⟩, by omega⟩
   ·have c2 : ¬ gi al u < gi al z := by simpa using c2
    have hp1 := hpos x hx
    have hp2 := hpos y hy
    have hp3 := hpos u hu
    have hp4 := hpos z hz
    have hin : gi al x = gi al y → x = y := fun e => hV.inj x y (hN.mem x hx) (hN.mem y hy) e
    refine y4 ?_
    exact ⟨(u, z), zR1, zR2, zLe, ⟨hu, hz, hmz⟩, by dsimp only; rcases hux with rfl | hux <;> rcases hzy with rfl | hzy <;> omega⟩
 ·have hxy : x = y := by simpa using cxy
  subst hxy
  rw [meet_same hK0] at hm
  refine y4<|zSr<|z2 (zMi rfl)<|z2 (zAi rfl)<|z6<|yf (GStep.drop .head)<|zf<|zj (x := .int _ _) rfl ?_
  exact ⟨by rw [hm], rfl⟩
end Go.Proofs.YtjnpcfpecilejaaGreatDoor
namespace Go.Proofs.YtjnpcfpecilejaaGreatDoor
open Go.Proofs.Tryz
open Go.Proofs
theorem pl238 : Places prog 238 #[(0, 1), (1, 1)] [.raw (.slice none 0 0), .raw (.slice none 0 0)] := ⟨_, _, underlying238, zeroValue238, fun w => by kernel_rfl, rfl⟩
variable {E : World}
set_option maxRecDepth 20000
theorem nearest_spec (f : PFunc) (hE : EndsOk f) (hn : f.blocks.length ≤ 1000) : ACall prog E 141 [.fro 1 ((orderT (EndsOf f) f.blocks.length).map encI), froN eI (predsR f f.blocks.length), .int .i64 f.blocks.length] []
  fun x O' => ∃ i : Nat, x = .own i f.blocks.length ∧ O' = [(i, .grow 1 3 (cI (nearR (EndsOf f) f.blocks.length)))] := by
 have hG := hE.grph
 have hk := hG.gok
 have hpos := hG.npos
 have hol := order_len hG
 obtain ⟨n, hnn⟩ : ∃ n, f.blocks.length = n := ⟨_, rfl⟩
 obtain ⟨S, hS⟩ : ∃ S, EndsOf f = S := ⟨_, rfl⟩
 have hrow : ∀ k, k < n → (predsR f n)[k]? = some (predsT S n (k : Int)) := fun k h => by rw [← hnn, ← hS]; exact predsR_row f (by omega)
 rw [hnn] at hk hG hpos hol hn ⊢
 rw [hS] at hk hG hol ⊢
 obtain ⟨V, hVe⟩ : ∃ V, orderT S n = V := ⟨_, rfl⟩
 have hNG : nearT (atOf n V) V (predsT S n) n = nearG S n := by rw [← hVe]; rfl
 rw [hVe] at hk hol ⊢
 have hVp := hk.pos
 have hK := hk.K
 have hdl : (V.drop 1).length + 1 = V.length := by simp; omega
 refine zo func141 rfl (by decide) rfl<|zSr<|z2 (zAr rfl)<|z6<|zSr<|zw (rows := [[_]]) ps23_1 rfl rfl rfl rfl rfl<|z2 (zMi rfl)<|zt rfl (zn (.rest _)) (repeat_own (-1) n (by omega) hpos) ?_
 rintro r18 O18 ⟨i18, rfl, rfl⟩
 refine zw (rows := [[_]]) ps23_1 rfl rfl rfl rfl rfl<|z2 (zMi rfl)<|zt rfl (zn (.r (.rest _))) (repeat_own (-1) n (by omega) hpos) ?_
 rintro r21 O21 ⟨i21, rfl, rfl⟩
 refine z2 (y5 (cps := [(0, [_]), (1, [_])]) (rs := [_, _]) pl238 rfl rfl rfl)<|zq (cs := [.raw (.slice none 0 0), .raw (.slice none 0 0)]) zeroValue238 rfl rfl<|fun i7 => zm sizeOf238 rfl rfl rfl rfl rfl rfl .head rfl<|z6<|za<|zSr<|z2 (zMf rfl)<|z2 (zz underlying23 rfl)<|z2 (zMi rfl)<|z6<|zh<|y6 (γ := Nat) [0, 1, 7, 23, 24] (fun k => [(25, .int .i64 k)]) (fun k => [(i7, .cells 238 [.own i18 n, .own i21 n]), (i21, .grow 1 3 (cI (atTo n V k))), (i18, .grow 1 3 (cI (List.replicate n (-1))))]) (fun k => k ≤ V.length) (fun k => V.length - k) 0 zR1 zLe (qm _) ?_
 rintro k hkl
 refine zSr<|z2 (y8 rfl rfl)<|z6<|za<|zp rfl (fun ck=>?_) (fun ck=>?_)
 ·have hk2 : k < V.length := by simp at ck; omega
  have hb := hk.lt _ (qn hk2)
  have hb0 := hk.ord.nn _ (qn hk2)
  refine zc<|za<|zh<|zSr<|z2 (zMi rfl)<|z2 (zIM k underlying23 sizeOf3 rfl rfl rfl (qj hk2))<|z2 (zLi isAgg3 rfl)<|z2 (zAi rfl)<|z2 (zAi rfl)<|z6<|zRg<|z2 (zu underlying238 rfl sizeOf23 (by decide) rfl rfl)<|z2 (zy (c := .own _ _) isAgg23 rfl ⟨_, .head⟩ rfl)<|z2 (zMi rfl)<|z2 (zMi rfl)<|z2 (yx (j := V[k].toNat) underlying23 sizeOf3 rfl rfl (by omega) ⟨_, .t1⟩ (by rw [cI_len, atTo_len]) (by omega))<|AOps.storeI (j := V[k].toNat) sizeOf3 rfl rfl .t1 (by rw [atTo_len]; omega)<|z6<|zRg<|z2 (zAd rfl rfl)<|z2 (zMi rfl)<|z6 ?_
  exact ⟨k + 1, zR5, zR1, ⟨_, (.refl _), by rw [atTo_succ hk2]⟩, hk2, by omega⟩
 ·have hkn : k = V.length := by simp at ck; omega
  subst hkn
  rw [atTo_all]
  have hatl : (atOf n V).length = n := by rw [← atTo_all]; exact atTo_len n V _
  have hatg : ∀ x : Int, 0 ≤ x → x < n → (atOf n V)[x.toNat]? = some (gi (atOf n V) x) := fun x h1 h2 => gi_get h1 (by omega)
  refine y4<|zSr<|z2 (zu underlying238 rfl sizeOf23 (by decide) rfl rfl)<|z2 (zy (c := .own _ _) isAgg23 rfl ⟨_, .head⟩ rfl)<|z2 (yx (j := 0) underlying23 sizeOf3 rfl rfl rfl ⟨_, .t2⟩ (by first | rfl | (simp [cI_len, cB_len]; done) | (simp [cI_len, cB_len]; omega)) (by omega))<|AOps.storeI (j := 0) sizeOf3 rfl rfl .t2 (by first | omega | (simp; omega))<|z6<|za<|zSr<|z2 (zAb rfl)<|z6<|zh<|y6 (γ := Nat × Bool × List Int) [0, 1, 7] (fun g => [(10, .bool g.2.1)]) (fun g => [(i7, .cells 238 [.own i18 n, .own i21 n]), (i21, .grow 1 3 (cI (atOf n V))), (i18, .grow 1 3 (cI g.2.2))]) (fun g => Rnd S (gi (atOf n V)) V (gi g.2.2) g.1 1 ∧ g.2.2.length = n ∧ (g.2.1 = true → g.1 ≤ V.length) ∧ (g.2.1 = false → g.2.2 = nearG S n)) (fun g => (if g.2.1 = true then V.length + 1 - g.1 else 0)) (0, true, first0 n) zR1 zLe (⟨hk.begin, first0_len n, fun _ => qm _, fun h => by cases h⟩) ?_
  rintro ⟨j, again, l⟩ ⟨hR, hl, hj, hfin⟩
  try dsimp only at *
  refine za<|zSr<|z2 (zMb rfl)<|z6<|zr rfl (fun ca=>?_) (fun ca=>?_)
  ·have ca : again = true := by simpa using ca
   subst ca
   have hj := hj rfl
   refine zc<|zh<|zSr<|z2 (zAb rfl)<|z6<|zSr<|z2 (zMf rfl)<|z2 (Gv.cutLoM (j := 1) underlying23 sizeOf3 rfl rfl rfl (by omega))<|z2 (zz underlying23 rfl)<|z2 (zMi rfl)<|z6<|zh<|y6 (γ := Nat × Bool × List Int) [0, 1, 7, 41, 42] (fun g => [(43, .int .i64 g.1), (10, .bool g.2.1)]) (fun g => [(i7, .cells 238 [.own i18 n, .own i21 n]), (i21, .grow 1 3 (cI (atOf n V))), (i18, .grow 1 3 (cI g.2.2))]) (fun g => g.1 ≤ (V.drop 1).length ∧ g.2.2 = rndTo (atOf n V) (2 * V.length) (predsT S n) V l g.1 ∧ Rnd S (gi (atOf n V)) V (gi g.2.2) j ((g.1 + 1 : Nat) : Int) ∧ (g.2.1 = true → j < V.length) ∧ (g.2.1 = false → g.2.2 = l)) (fun g => (V.drop 1).length - g.1) (0, false, l) zR2 zLe (⟨qm _, rfl, hR, fun h => (by cases h), fun _ => rfl⟩) ?_
   rintro ⟨q, ag, l'⟩ ⟨hq, hl', hR', hag, hsame⟩
   try dsimp only at *
   have hl'n : l'.length = n := by rw [hl', rndTo_len, hl]
   refine zSr<|z2 (y8 rfl rfl)<|z6<|za<|zp rfl (fun cq=>?_) (fun cq=>?_)
   ·have hq2 : q < (V.drop 1).length := by simpa using cq
    obtain ⟨b, hb⟩ : ∃ b, (V.drop 1)[q] = b := ⟨_, rfl⟩
    have hbV : V[q + 1]? = some b := by rw [← hb, List.getElem_drop, Nat.add_comm]; exact qj (by simp at hq2; omega)
    obtain ⟨hs1, hs2, hs3, hbm, hb0⟩ := hk.step hl'n (Nat.succ_pos q) hbV hR'
    have hblt := hk.lt b hbm
    have hbnn := hk.ord.nn b hbm
    have hpr : ∀ p ∈ predsT S n b, 0 ≤ p ∧ p < n := fun p hp => preds_rng hG hp
    have hsucc := rndTo_succ (at_ := atOf n V) (K := 2 * V.length) (preds := predsT S n) (l := l) hq2
    rw [hb, ← hl'] at hsucc
    have hgl : ∀ x : Int, 0 ≤ x → x < n → l'[x.toNat]? = some (gi l' x) := fun x h1 h2 => gi_get h1 (by omega)
    have hrb : (predsR f n)[b.toNat]? = some (predsT S n b) := by
     have := hrow b.toNat (by omega)
     rwa [show ((b.toNat : Nat) : Int) = b by omega] at this
    obtain ⟨ps, hps⟩ : ∃ ps, predsT S n b = ps := ⟨_, rfl⟩
    have hpsl : ps.length ≤ 2 * n := by rw [← hps, ← hS]; exact predsT_len f b n
    rw [hps] at hpr hrb
    refine zc<|za<|zh<|zSr<|z2 (zIM q underlying23 sizeOf3 rfl rfl rfl (by rw [qj hq2, hb]))<|z2 (zLi isAgg3 rfl)<|z2 (zAi rfl)<|z6<|zSr<|z2 (zAi rfl)<|z6<|za<|zSr<|z2 (zMf rfl)<|z2 (zMi rfl)<|z2 (zIM b.toNat underlying103 sizeOf23 rfl rfl (by omega) hrb)<|z2 (zLf isAgg23 rfl)<|z2 (zz underlying23 rfl)<|z2 (zMi rfl)<|z6<|zh<|y6 (γ := Nat × Int) [0, 1, 7, 10, 12, 41, 42, 43, 50, 51] (fun g => [(52, .int .i64 g.1), (13, .int .i64 g.2)]) (fun g => [(i7, .cells 238 [.own i18 n, .own i21 n]), (i21, .grow 1 3 (cI (atOf n V))), (i18, .grow 1 3 (cI l'))]) (fun g => g.1 ≤ ps.length ∧ bestF (gi l') (gi (atOf n V)) (2 * V.length) (ps.drop g.1) g.2 = bestF (gi l') (gi (atOf n V)) (2 * V.length) ps (-1) ∧ (g.2 = -1 ∨ gi l' g.2 ≠ -1)) (fun g => ps.length - g.1) (0, -1) zR2 zLe (⟨qm _, rfl, .inl rfl⟩) ?_
    rintro ⟨m, best⟩ ⟨hm, hbst, hbn⟩
    try dsimp only at *
    refine zSr<|z2 (y8 rfl rfl)<|z6<|za<|zp rfl (fun cm=>?_) (fun cm=>?_)
    ·have hm2 : m < ps.length := by simp at cm; omega
     obtain ⟨p, hp⟩ : ∃ p, ps[m] = p := ⟨_, rfl⟩
     obtain ⟨hp0, hpn⟩ := hpr p (hp ▸ qn hm2)
     have hbst : bestF (gi l') (gi (atOf n V)) (2 * V.length) (ps.drop (m + 1)) (if gi (atOf n V) p = -1 ∨ gi l' p = -1 then best else if best = -1 then p else meetF (gi l') (gi (atOf n V)) (2 * V.length) best p) = bestF (gi l') (gi (atOf n V)) (2 * V.length) ps (-1) := by
      rw [← hbst, List.drop_eq_getElem_cons hm2, bestF_cons, hp]
     refine zc<|za<|zh<|zSr<|z2 (zIM m underlying23 sizeOf3 rfl rfl rfl (by rw [qj hm2, hp]))<|z2 (zLi isAgg3 rfl)<|z2 (zAi rfl)<|z6<|zh<|zSr<|z2 (zu underlying238 rfl sizeOf23 (by decide) rfl rfl)<|z2 (zy (c := .own _ _) isAgg23 rfl ⟨_, .head⟩ rfl)<|z2 (zMi rfl)<|z2 (yx (j := p.toNat) underlying23 sizeOf3 rfl rfl (by omega) ⟨_, .t1⟩ (by first | rfl | (simp [cI_len, cB_len]; done) | (simp [cI_len, cB_len]; omega)) (by omega))<|z2 (qd (j := p.toNat) isAgg3 rfl ⟨_, .t1⟩ (hatg p hp0 hpn))<|z2 (y3 rfl rfl)<|z2 (zMb rfl)<|zl (s := 67) rfl (fun c1=>?_) (fun c1=>?_)
     ·have d1 : gi (atOf n V) p = -1 := by simpa using c1
      rw [if_pos (.inl d1)] at hbst
      refine z7 rfl rfl c1<|z7 rfl rfl c1<|z7 rfl rfl c1<|z7 rfl rfl c1<|z7 rfl rfl c1<|z7 rfl rfl c1<|z2 (zPt rfl c1 rfl)<|z2 (zAb rfl)<|z6<|yr rfl rfl<|zc<|zRg<|z2 (zAd rfl rfl)<|z2 (zMi rfl)<|z6 ?_
      exact ⟨(m + 1, best), zR10, zR2, zLe, ⟨hm2, hbst, hbn⟩, by dsimp only; omega⟩
     ·have d1 : ¬ gi (atOf n V) p = -1 := by simpa using c1
      refine z8 rfl rfl c1<|z2 (zu underlying238 rfl sizeOf23 (by decide) rfl rfl)<|z8 rfl rfl c1<|z2 (zy (c := .own _ _) isAgg23 rfl ⟨_, .head⟩ rfl)<|z8 rfl rfl c1<|z2 (zMi rfl)<|z8 rfl rfl c1<|z2 (yx (j := p.toNat) underlying23 sizeOf3 rfl rfl (by omega) ⟨_, .t2⟩ (by first | rfl | (simp [cI_len, cB_len]; done) | (simp [cI_len, cB_len]; omega)) (by omega))<|z8 rfl rfl c1<|z2 (qd (j := p.toNat) isAgg3 rfl ⟨_, .t2⟩ (hgl p hp0 hpn))<|z8 rfl rfl c1<|z2 (y3 rfl rfl)<|z2 (zPf rfl c1 rfl)<|z2 (zAb rfl)<|z6<|zr rfl (fun c2=>?_) (fun c2=>?_)
      ·have d2 : gi l' p = -1 := by simpa using c2
       rw [if_pos (.inr d2)] at hbst
       refine zc<|zRg<|z2 (zAd rfl rfl)<|z2 (zMi rfl)<|z6 ?_
       exact ⟨(m + 1, best), zR10, zR2, zLe, ⟨hm2, hbst, hbn⟩, by dsimp only; omega⟩
      ·have d2 : ¬ gi l' p = -1 := by simpa using c2
       rw [if_neg (by rintro (h | h); exact d1 h; exact d2 h)] at hbst
       refine zSr<|z2 (zMi rfl)<|z2 (y3 rfl rfl)<|z2 (zAb rfl)<|z6<|zr rfl (fun c3=>?_) (fun c3=>?_)
       ·have c3 : best = -1 := by simpa using c3
        rw [if_pos c3] at hbst
        refine zRg<|z2 (zMi rfl)<|z2 (zAi rfl)<|z6<|zRg<|z2 (zAd rfl rfl)<|z2 (zMi rfl)<|z6 ?_
        exact ⟨(m + 1, p), zR10, zR2, zLe, ⟨hm2, hbst, .inr d2⟩, by dsimp only; omega⟩
       ·have c3 : ¬ best = -1 := by simpa using c3
        rw [if_neg c3] at hbst
        have hbb : gi l' best ≠ -1 := by rcases hbn with h | h; exact absurd h c3; exact h
        refine zRg<|z2 (Gv.loadWC isAgg238 sizeOf238 rfl ⟨_, .head⟩ rfl)<|z2 (zMi rfl)<|z2 (zMi rfl)<|zt rfl (zn (.r (.l (.l (.rest _))))) (meet_spec hk.ord hR'.inv hK (by omega) hl'n hatl hk.lt hbb d2) ?_
        rintro r59 O59 ⟨rfl, rfl⟩
        refine z2 (zAi rfl)<|z6<|yf (zg (zi .t2))<|zRg<|z2 (zAd rfl rfl)<|z2 (zMi rfl)<|z6 ?_
        exact ⟨(m + 1, meetF (gi l') (gi (atOf n V)) (2 * V.length) best p), zR10, zR2, zLe, ⟨hm2, hbst, .inr (meet_anc hk.ord hR'.inv _ best p hbb d2 (hK best p (hR'.inv.mem _ hbb) (hR'.inv.mem _ d2))).1⟩, by dsimp only; omega⟩
    ·have hmn : m = ps.length := by simp at cm; omega
     subst hmn
     rw [List.drop_length] at hbst
     have hbst : best = bestF (gi l') (gi (atOf n V)) (2 * V.length) ps (-1) := hbst
     have hst : stepL (atOf n V) (2 * V.length) (predsT S n) l' b = l'.set b.toNat best := by unfold stepL; rw [hps, ← hbst]
     rw [hst] at hs1 hs2 hsucc
     refine y4<|zSr<|z2 (zu underlying238 rfl sizeOf23 (by decide) rfl rfl)<|z2 (zy (c := .own _ _) isAgg23 rfl ⟨_, .head⟩ rfl)<|z2 (zMi rfl)<|z2 (yx (j := b.toNat) underlying23 sizeOf3 rfl rfl (by omega) ⟨_, .t2⟩ (by first | rfl | (simp [cI_len, cB_len]; done) | (simp [cI_len, cB_len]; omega)) (by omega))<|z2 (qd (j := b.toNat) isAgg3 rfl ⟨_, .t2⟩ (hgl b hbnn hblt))<|z2 (zMi rfl)<|z2 (yi rfl rfl)<|z6<|zr rfl (fun ce=>?_) (fun ce=>?_)
     ·have ce : ¬ gi l' b = best := by simpa using ce
      have hjl : j < V.length := Classical.byContradiction fun h => ce (by
       have h2 := hs2 (by omega)
       have h3 := gi_set (l := l') hbnn (by omega) best
       rw [h2] at h3
       have h4 := congrFun h3 b
       simpa [setN] using h4)
      refine zRg<|z2 (zu underlying238 rfl sizeOf23 (by decide) rfl rfl)<|z2 (zy (c := .own _ _) isAgg23 rfl ⟨_, .head⟩ rfl)<|z2 (zMi rfl)<|z2 (zMi rfl)<|z2 (yx (j := b.toNat) underlying23 sizeOf3 rfl rfl (by omega) ⟨_, .t2⟩ (by first | rfl | (simp [cI_len, cB_len]; done) | (simp [cI_len, cB_len]; omega)) (by omega))<|AOps.storeI (j := b.toNat) sizeOf3 rfl rfl .t2 (by first | omega | (simp; omega))<|z2 (zAb rfl)<|z6<|zRg<|z2 (zAd rfl rfl)<|z2 (zMi rfl)<|z6 ?_
      exact ⟨(q + 1, true, l'.set b.toNat best), zR5, zR2, zLe, ⟨hq2, hsucc.symm, hs1, fun _ => hjl, fun h => by cases h⟩, by dsimp only; omega⟩
     ·have ce : gi l' b = best := by simpa using ce
      rw [← ce, set_same hbnn] at hs1 hsucc
      refine zc<|zRg<|z2 (zAd rfl rfl)<|z2 (zMi rfl)<|z6 ?_
      exact ⟨(q + 1, ag, l'), zR5, zR2, zLe, ⟨hq2, hsucc.symm, hs1, hag, hsame⟩, by dsimp only; omega⟩
   ·have hqn : q = (V.drop 1).length := by have h0 : ¬ (q : Int) < ((V.drop 1).length : Int) := (by simpa using cq); omega
    subst hqn
    rw [rndTo_all] at hl'
    have hR2 : Rnd S (gi (atOf n V)) V (gi l') (j + 1) 1 := by rw [hl']; exact hk.pass hl hR
    refine y4 ?_
    exact ⟨(j + 1, ag, l'), zR3, zR1, zLe, ⟨hR2, hl'n, fun h => by have := hag h; omega, fun h => by have e := hsame h; rw [e] at hl'; have := hk.near_eq hl (hk.fixed hl hR hl'.symm); rw [e, this, hNG]⟩, by dsimp only; rw [if_pos rfl]; split <;> omega⟩
  ·have ca : again = false := by simpa using ca
   have hfin := hfin ca
   subst hfin
   refine y4<|zSr<|z2 (zu underlying238 rfl sizeOf23 (by decide) rfl rfl)<|z2 (zy (c := .own _ _) isAgg23 rfl ⟨_, .head⟩ rfl)<|z2 (yx (j := 0) underlying23 sizeOf3 rfl rfl rfl ⟨_, .t2⟩ (by rw [cI_len, nearG_len]) (by omega))<|AOps.storeI (j := 0) sizeOf3 rfl rfl .t2 (by rw [nearG_len]; omega)<|z6<|zSr<|z2 (zu underlying238 rfl sizeOf23 (by decide) rfl rfl)<|z2 (zy (c := .own _ _) isAgg23 rfl ⟨_, .head⟩ rfl)<|z2 (zAo rfl)<|z6<|yf (GStep.drop .head)<|yf (GStep.drop .head)<|zf<|zj (x := .own _ _) rfl ?_
   exact ⟨i18, rfl, rfl⟩
end Go.Proofs.YtjnpcfpecilejaaGreatDoor
namespace Go.Proofs.YtjnpcfpecilejaaGreatDoor
open Go.Proofs.Tryz
section
variable {E : World} {P : Program} {env : AEnv} {O O' O'' : OL}
theorem GStep.knowIC {j off i m : Nat} {T T' : TypeId} {cs : List AV} {l : List Int} (hO : Pick O i (.grow 1 T (cI l)) O') (hP : Put O' j (.cells T' cs) (.cells T' (cs.set off (.fro 1 (l.map fun x => [.int .i64 x])))) O'') (hc : cs[off]? = some (.own i m)) (hm : l.length = m) : GStep E env O env O'' :=
 GStep.knowC (rows := l.map fun x => [.int .i64 x]) (by rw [cI_flat]; exact hO) hP hc (fun r hr => by obtain ⟨_, _, rfl⟩ := List.mem_map.1 hr; rfl) (by decide) (by rw [qq]; exact hm)
theorem GStep.knowBC {j off i m : Nat} {T T' : TypeId} {cs : List AV} {l : List Bool} (hO : Pick O i (.grow 1 T (cB l)) O') (hP : Put O' j (.cells T' cs) (.cells T' (cs.set off (.fro 1 (l.map fun x => [.bool x])))) O'') (hc : cs[off]? = some (.own i m)) (hm : l.length = m) : GStep E env O env O'' :=
 GStep.knowC (rows := l.map fun x => [.bool x]) (by rw [cB_flat]; exact hO) hP hc (fun r hr => by obtain ⟨_, _, rfl⟩ := List.mem_map.1 hr; rfl) (by decide) (by rw [qq]; exact hm)
theorem GStep.nestBackN {α : Type} {c : Enc α} {b j m i n : Nat} {T e : TypeId} {rows : List (List α)} {r : List α} (hn : r.length = n) (hP : Pick O i (.grow c.k e (c.av r)) O') (hO : Put O' m (nestH c T e b rows j n i) (nestO c T e b (rows.set j r)) O'') : GStep E env O env O'' := by subst hn; exact GStep.nestBack hP hO
theorem ACall.weak {f : FuncId} {args : List AV} {R : AV → OL → Prop} {y : AV} (h : ACall P E f args [] R) (hr : ∀ x O, R x O → O = [] ∧ ∀ I v, RepV I x v → RepV I y v) : AFun P E f args y := fun I F w vs h1 h2 =>
 (h I F w vs h1 h2).mono fun v w' ⟨J, x, O', a, b, c, d⟩ => by
  obtain ⟨e, hv⟩ := hr x O' d
  subst e
  exact ⟨J, y, [], a, hv _ _ b, c, rfl⟩
theorem run_neq_ptr_nil {tp te : TypeId} {j : TypeInfo} (a : Addr) (hp : P.underlying tp = some (.pointer te)) (hte : P.info? te = some j) (w : World) :
  (binOp .neq tp (.pointer (some a)) (.pointer none)).run P w = .ok (.bool true) w := by
 have h : ∀ d : Nat, (Op.equalIn (d + 1) tp (.pointer (some a)) (.pointer none)).run P w = .ok false w := fun d => by
  simp [Op.equalIn, run_underlying hp, sizeOf, typeInfo, hte]
 simp only [binOp]
 simp [Op.equal, Op.maxDepth, h 9999]
variable {d ty : Nat} {pos : String} {af : Array Edge} {x y z : Operand} {t u e T : TypeId}
theorem Gv.neqPf {cs : List AV} {j : TypeInfo} (hp : P.underlying t = some (.pointer e)) (hte : P.info? e = some j) (hx : aev env x = .pf cs) : Gv P env O (Oper.mk (some d) (.binOp .neq t x (.const (.pointer none)) u) ty pos af none) (.bool true) := qe fun I ρ h => by
 have h1 := h.ev x
 rw [hx] at h1
 obtain ⟨b, off, vs, e1, _⟩ := h1
 exact ⟨_, rfl, fun w => by
  have e2 : Go.Proofs.YtjnpcfpecilejaaGreatDoor.ev ρ (.const (.pointer none)) = .pointer none := rfl
  simp only [execOp, e1, e2]; simp [eqGuard, run_neq_ptr_nil _ hp hte]⟩
end
end Go.Proofs.YtjnpcfpecilejaaGreatDoor
namespace Go.Proofs.YtjnpcfpecilejaaGreatDoor
open Go.Proofs.Tryz
open Go.Proofs
variable {E : World}
set_option maxRecDepth 20000
theorem indexO_spec (xs : List Int) (v : Int) (i : Nat) (T : TypeId) (hl : xs.length ≤ 281474976710656) : ACall prog E 99 [.own i xs.length, .int .i64 v] [(i, .grow 1 T (cI xs))] fun r O => r = .int .i64 (firstI (fun x => decide (v = x)) xs 0) ∧ O = [(i, .grow 1 T (cI xs))] := by
 refine zo func99 rfl (by decide) rfl<|zSr<|z2 (zAi rfl)<|z6<|za<|zSr<|z2 (zMo rfl)<|z2 (Gv.lenO underlying23 rfl)<|z2 (zMi rfl)<|z6<|zh<|y6 (γ := Nat) [0, 1, 7] (fun k => [(8, .int .i64 k)]) (fun k => [(i, .grow 1 T (cI xs))]) (fun k => k ≤ xs.length ∧ (xs.take k).all (fun x => !decide (v = x))) (fun k => xs.length - k) 0 zR1 zLe (⟨qm _, rfl⟩) ?_
 rintro k ⟨hk, hall⟩
 refine zSr<|z2 (y8 rfl rfl)<|z6<|za<|zp rfl (fun ck=>?_) (fun ck=>?_)
 ·have hk2 : k < xs.length := by simp at ck; omega
  refine zc<|za<|zh<|zSr<|z2 (zMi rfl)<|z2 (zAi rfl)<|z6<|zSr<|z2 (zMi rfl)<|z2 (zMo rfl)<|z2 (zMi rfl)<|z2 (yx (j := k) underlying23 sizeOf3 rfl rfl rfl ⟨_, .head⟩ (by first | rfl | (simp [cI_len, cB_len]; done) | (simp [cI_len, cB_len]; omega)) hk2)<|z2 (qd (j := k) isAgg3 rfl ⟨_, .head⟩ (qj hk2))<|z2 (y3 rfl rfl)<|z6<|zr rfl (fun cp=>?_) (fun cp=>?_)
  ·refine zSr<|z2 (zMi rfl)<|z2 (zAi rfl)<|z6<|zf<|zj (x := .int _ _) rfl ?_
   exact ⟨by rw [firstI_drop _ xs k hk hall, List.drop_eq_getElem_cons hk2, firstI, if_pos (by simpa using cp)], rfl⟩
  ·refine zc<|zRg<|z2 (zAd rfl rfl)<|z2 (zMi rfl)<|z6 ?_
   exact ⟨k + 1, zR3, zR1, zLe, ⟨hk2, by rw [qk hk2, List.all_append, hall]; simpa using cp⟩, by omega⟩
 ·have hkn : k = xs.length := by simp at ck; omega
  refine y4<|zSr<|z2 (zAi rfl)<|z6<|zf<|zj (x := .int _ _) rfl ?_
  exact ⟨by rw [firstI_drop _ xs k hk hall, hkn, List.drop_length, firstI], rfl⟩
theorem containsO_spec (xs : List Int) (v : Int) (i : Nat) (T : TypeId) (hl : xs.length ≤ 281474976710656) : ACall prog E 51 [.own i xs.length, .int .i64 v] [(i, .grow 1 T (cI xs))] fun r O => r = .bool (xs.contains v) ∧ O = [(i, .grow 1 T (cI xs))] := by
 refine zo func51 rfl (by decide) rfl<|zSr<|z2 (zAb rfl)<|z6<|zSr<|z2 (zMo rfl)<|z2 (zMi rfl)<|zt rfl (zn (.l (.rest _))) (indexO_spec xs v i T hl) ?_
 rintro r7 O7 ⟨rfl, rfl⟩
 refine z2 (q9 rfl rfl)<|z2 (zAb rfl)<|z6<|zf<|zj (x := .bool _) rfl ?_
 exact ⟨by rw [firstI_ge]; congr 1; rw [qs]; simp, rfl⟩
theorem containsE_spec (xs : List Int) (v : Int) (i : Nat) (T : TypeId) (hl : xs.length ≤ 281474976710656) : ACall prog E 51 [.own i xs.length, .int .i64 v] [(i, .grow eI.k T (eI.av xs))] fun r O => r = .bool (xs.contains v) ∧ O = [(i, .grow eI.k T (eI.av xs))] := by rw [eI_av]; exact containsO_spec xs v i T hl
theorem sortE_own (l : List Int) (i : Nat) (T : TypeId) (hl : l.length ≤ 200000) : ACall prog E 193 [.own i l.length] [(i, .grow eI.k T (eI.av l))] fun r O => r = .tup [] ∧ O = [(i, .grow eI.k T (eI.av (sortI l)))] := by rw [eI_av, eI_av]; exact sort_own l i T hl
def FrI (n : Nat) (rows : List (List Int)) : Prop := rows.length = n ∧ ∀ r ∈ rows, r.Nodup ∧ ∀ x ∈ r, 0 ≤ x ∧ x < n
theorem FrI.len {n : Nat} {rows : List (List Int)} (h : FrI n rows) {r : List Int} (hr : r ∈ rows) : r.length ≤ n := by
 have := nodup_len r (intsTo n) (h.2 r hr).1 fun x hx => mem_intsTo.2 ((h.2 r hr).2 x hx)
 rwa [intsTo_len] at this
theorem FrI.push {n : Nat} {rows : List (List Int)} (h : FrI n rows) {j : Nat} (hj : j < rows.length) {b : Int} (h0 : 0 ≤ b) (hb : b < n) (hn : b ∉ rows[j]) : FrI n (rows.set j (rows[j] ++ [b])) := by
 refine ⟨by rw [List.length_set]; exact h.1, fun r hr => ?_⟩
 rcases List.mem_or_eq_of_mem_set hr with hr | rfl
 ·exact h.2 r hr
 ·obtain ⟨g1, g2⟩ := h.2 _ (qn hj)
  refine ⟨List.nodup_append.2 ⟨g1, by simp, fun x hx y hy e => ?_⟩, fun x hx => ?_⟩
  ·simp at hy; subst hy; subst e; exact hn hx
  ·rcases List.mem_append.1 hx with hx | hx
   ·exact g2 x hx
   ·simp at hx; subst hx; exact ⟨h0, hb⟩
theorem FrI.sort {n : Nat} {rows : List (List Int)} (h : FrI n rows) {j : Nat} (hj : j < rows.length) : FrI n (rows.set j (sortI rows[j])) := by
 refine ⟨by rw [List.length_set]; exact h.1, fun r hr => ?_⟩
 rcases List.mem_or_eq_of_mem_set hr with hr | rfl
 ·exact h.2 r hr
 ·obtain ⟨g1, g2⟩ := h.2 _ (qn hj)
  exact ⟨(sortI_perm _).nodup_iff.2 g1, fun x hx => g2 x ((sortI_perm _).mem_iff.1 hx)⟩
theorem FrI.begin (n : Nat) : FrI n (List.replicate n []) := ⟨by simp, fun r hr => by rw [List.eq_of_mem_replicate hr]; exact ⟨by simp, fun x hx => by cases hx⟩⟩
section
variable {S : Int → List Int} {n : Nat} (hG : Grph S n)
include hG
theorem front_begin {c p : Int} (hc : c ∈ orderT S n) (hp : p ∈ orderT S n) (he : c ∈ S p) : c = 0 ∨ Anc (gi (nearG S n)) p (gi (nearG S n) c) := by
 by_cases h0 : c = 0
 ·exact .inl h0
 ·right
  have hX := hG.exact
  have hO := hG.gok.ord
  have hb := hX.has c hc
  obtain ⟨g1, g2, g3⟩ := hX.inv.near c h0 hb
  have hd : Dom S (gi (nearG S n) c) c := (hX.anc c _ hc).1 (.up h0 hb (.refl _))
  exact (hX.anc p _ hp).2 (hd.pred ((hO.mem p).1 hp) he (fun e => by rw [e] at g3; omega))
theorem front_step {c y : Int} (hc : c ∈ orderT S n) (hy : (y ∈ orderT S n ∧ (c = 0 ∨ Anc (gi (nearG S n)) y (gi (nearG S n) c))) ∨ (c = 0 ∧ y = -1)) (hne : y ≠ gi (nearR S n) c) :
  y ∈ orderT S n ∧ ((gi (nearR S n) y ∈ orderT S n ∧ (c = 0 ∨ Anc (gi (nearG S n)) (gi (nearR S n) y) (gi (nearG S n) c))) ∨ (c = 0 ∧ gi (nearR S n) y = -1)) ∧ 0 < (gi (levG S n) y + 1).toNat ∧ (gi (levG S n) (gi (nearR S n) y) + 1).toNat < (gi (levG S n) y + 1).toNat := by
 have hO := hG.gok.ord
 have hpos := hG.npos
 have hyV : y ∈ orderT S n := by
  rcases hy with h | ⟨h1, h2⟩
  ·exact h.1
  ·exact absurd (by rw [h2, h1, nearR_0 hpos]) hne
 have hl := hG.lev_nn hyV
 have hy0 := hO.nn y hyV
 refine ⟨hyV, ?_⟩
 by_cases h0 : y = 0
 ·subst h0
  rw [nearR_0 hpos]
  have hc0 : c = 0 := by
   rcases hy with ⟨_, h | h⟩ | h
   ·exact h
   ·rcases h.cases' with e | ⟨e, _⟩
    ·by_cases hc0 : c = 0
     ·exact hc0
     ·have := hO.nn c hc
      exact absurd (by rw [nearR_get this hc0, ← e]) hne
    ·exact absurd rfl e
   ·exact h.1
  have hm : gi (levG S n) (-1) = -1 := gi_out (.inl (by omega))
  exact ⟨.inr ⟨hc0, rfl⟩, by omega, by rw [hm]; omega⟩
 ·rw [nearR_get hy0 h0]
  obtain ⟨g1, g2⟩ := hG.near_mem hyV h0
  have g3 := hG.lev_near hyV h0
  have g4 := hG.lev_nn g1
  refine ⟨.inl ⟨g1, ?_⟩, by omega, by omega⟩
  rcases hy with ⟨_, h | h⟩ | h
  ·exact .inl h
  ·rcases h.cases' with e | ⟨_, _, h3⟩
   ·by_cases hc0 : c = 0
    ·exact .inl hc0
    ·have := hO.nn c hc
     exact absurd (by rw [nearR_get this hc0, e]) hne
   ·exact .inr h3
  ·exact .inl h.1
end
theorem fronts_spec (f : PFunc) (hE : EndsOk f) (hn : f.blocks.length ≤ 1000) (t a b fb : Nat) (T : TypeId) (x : AV) (rows : List (List Int)) (hF : FrI f.blocks.length rows) :
  ACall prog E 143 [.po t 0, .fro 1 ((orderT (EndsOf f) f.blocks.length).map encI), froN eI (predsR f f.blocks.length)]
   [(0, nestO eI 23 3 fb rows), (t, .cells 203 [.own a f.blocks.length, .own b f.blocks.length, x, nref fb f.blocks.length]), (b, .grow 1 3 (cI (levG (EndsOf f) f.blocks.length))), (a, .grow 1 3 (cI (nearR (EndsOf f) f.blocks.length)))]
   fun r O => r = .tup [] ∧ ∃ rows', FrI f.blocks.length rows' ∧ O = [(0, nestO eI 23 3 fb rows'), (t, .cells 203 [.own a f.blocks.length, .own b f.blocks.length, x, nref fb f.blocks.length]), (b, .grow 1 3 (cI (levG (EndsOf f) f.blocks.length))), (a, .grow 1 3 (cI (nearR (EndsOf f) f.blocks.length)))] := by
 have hG := hE.grph
 have hpos := hG.npos
 have hol := order_len hG
 have hrowP : ∀ k, k < f.blocks.length → (predsR f f.blocks.length)[k]? = some (predsT (EndsOf f) f.blocks.length (k : Int)) := fun k h => predsR_row f h
 have hpl : ∀ b, (predsT (EndsOf f) f.blocks.length b).length ≤ 2 * f.blocks.length := fun b => predsT_len f b _
 obtain ⟨n, hnn⟩ : ∃ n, f.blocks.length = n := ⟨_, rfl⟩
 obtain ⟨S, hS⟩ : ∃ S, EndsOf f = S := ⟨_, rfl⟩
 rw [hnn] at hG hpos hol hn hrowP hpl hF ⊢
 rw [hS] at hG hol hrowP hpl ⊢
 obtain ⟨V, hVe⟩ : ∃ V, orderT S n = V := ⟨_, rfl⟩
 have hVr : ∀ y ∈ V, 0 ≤ y ∧ y < n := fun y hy => order_rng hG.toEOk (hVe ▸ hy)
 have hX := hG.exact
 have hO := hG.gok.ord
 have hlev := hG.lev
 rw [hVe] at hX hO hol ⊢
 have hLl : (levG S n).length = n := hlev.len
 have hRl : (nearR S n).length = n := nearR_len S n
 have hLg : ∀ y : Int, 0 ≤ y → y < n → (levG S n)[y.toNat]? = some (gi (levG S n) y) := fun y h1 h2 => gi_get h1 (by omega)
 have hNg : ∀ y : Int, 0 ≤ y → y < n → (nearR S n)[y.toNat]? = some (gi (nearR S n) y) := fun y h1 h2 => gi_get h1 (by rw [nearR_len]; omega)
 refine zo func143 rfl (by decide) rfl<|za<|zSr<|z2 (zMf rfl)<|z2 (zz underlying23 rfl)<|z2 (zMi rfl)<|z6<|zh<|y6 (γ := Nat × List (List Int)) [0, 2, 12, 13] (fun g => [(14, .int .i64 g.1)]) (fun g => [(0, nestO eI 23 3 fb g.2), (t, .cells 203 [.own a n, .own b n, x, nref fb n]), (b, .grow 1 3 (cI (levG S n))), (a, .grow 1 3 (cI (nearR S n)))]) (fun g => g.1 ≤ V.length ∧ FrI n g.2) (fun g => V.length - g.1) (0, rows) zR1 zLe (⟨qm _, hF⟩) ?_
 rintro ⟨k, rows⟩ ⟨hk, hF⟩
 try dsimp only at *
 refine zSr<|z2 (y8 rfl rfl)<|z6<|za<|zp rfl (fun ck=>?_) (fun ck=>?_)
 ·have hk2 : k < V.length := by simp at ck; omega
  obtain ⟨c, hc⟩ : ∃ c, V[k] = c := ⟨_, rfl⟩
  have hcV : c ∈ V := hc ▸ qn hk2
  obtain ⟨hc0, hcn⟩ := hVr c hcV
  have hrow : (predsR f n)[c.toNat]? = some (predsT S n c) := by
   have := hrowP c.toNat (by omega)
   rwa [show ((c.toNat : Nat) : Int) = c by omega] at this
  have hpc := hpl c
  have hpr : ∀ p ∈ predsT S n c, 0 ≤ p ∧ p < n := fun p hp => preds_rng hG hp
  have hpS : ∀ p ∈ predsT S n c, c ∈ S p := fun p hp => (hG.gok.preds c (by rw [hVe]; exact hcV) p).1 hp
  obtain ⟨ps, hps⟩ : ∃ ps, predsT S n c = ps := ⟨_, rfl⟩
  rw [hps] at hrow hpc hpr hpS
  refine zc<|za<|zh<|zSr<|z2 (zIM k underlying23 sizeOf3 rfl rfl rfl (by rw [qj hk2, hc]))<|z2 (zLi isAgg3 rfl)<|z2 (zAi rfl)<|z6<|zSr<|z2 (zMf rfl)<|z2 (zMi rfl)<|z2 (zIM c.toNat underlying103 sizeOf23 rfl rfl (by omega) hrow)<|z2 (zLf isAgg23 rfl)<|z2 (zz underlying23 rfl)<|z2 (zMi rfl)<|z6<|zh<|y6 (γ := Nat × List (List Int)) [0, 2, 7, 12, 13, 14, 21, 22] (fun g => [(23, .int .i64 g.1)]) (fun g => [(0, nestO eI 23 3 fb g.2), (t, .cells 203 [.own a n, .own b n, x, nref fb n]), (b, .grow 1 3 (cI (levG S n))), (a, .grow 1 3 (cI (nearR S n)))]) (fun g => g.1 ≤ ps.length ∧ FrI n g.2) (fun g => ps.length - g.1) (0, rows) zR1 zLe (⟨qm _, hF⟩) ?_
  rintro ⟨j, rows⟩ ⟨hj, hF⟩
  try dsimp only at *
  refine zSr<|z2 (y8 rfl rfl)<|z6<|za<|zp rfl (fun cj=>?_) (fun cj=>?_)
  ·have hj2 : j < ps.length := by simp at cj; omega
   obtain ⟨p, hp⟩ : ∃ p, ps[j] = p := ⟨_, rfl⟩
   obtain ⟨hp0, hpn⟩ := hpr p (hp ▸ qn hj2)
   have hpc2 := hpS p (hp ▸ qn hj2)
   refine zc<|za<|zh<|zSr<|z2 (zIM j underlying23 sizeOf3 rfl rfl rfl (by rw [qj hj2, hp]))<|z2 (zLi isAgg3 rfl)<|z2 (zAi rfl)<|z6<|za<|zSr<|z2 (zMp rfl)<|z2 (ya rfl)<|z2 (zu underlying203 rfl sizeOf23 (by decide) rfl rfl)<|z2 (zy (c := .own _ _) isAgg23 rfl ⟨_, .t1⟩ rfl)<|z2 (zMi rfl)<|z2 (yx (j := p.toNat) underlying23 sizeOf3 rfl rfl (by omega) ⟨_, .t2⟩ (by first | rfl | (simp [cI_len, cB_len]; done) | (simp [cI_len, cB_len]; omega)) (by omega))<|z2 (qd (j := p.toNat) isAgg3 rfl ⟨_, .t2⟩ (hLg p hp0 hpn))<|z2 (y3 rfl rfl)<|z6<|zr rfl (fun cl=>?_) (fun cl=>?_)
   ·refine y4<|zRg<|z2 (zAd rfl rfl)<|z2 (zMi rfl)<|z6 ?_
    exact ⟨(j + 1, rows), zR8, zR1, zLe, ⟨hj2, hF⟩, by dsimp only; omega⟩
   ·have hpV : p ∈ V := by have h0 : ¬ gi (levG S n) p = -1 := (by simpa using cl); rw [← hVe]; exact (hG.lev_mem p).1 h0
    refine zc<|zSr<|z2 (zMi rfl)<|z2 (zAi rfl)<|z6<|zh<|y6 (γ := Int × List (List Int)) [0, 2, 7, 12, 13, 14, 21, 22, 23] (fun g => [(10, .int .i64 g.1)]) (fun g => [(0, nestO eI 23 3 fb g.2), (t, .cells 203 [.own a n, .own b n, x, nref fb n]), (b, .grow 1 3 (cI (levG S n))), (a, .grow 1 3 (cI (nearR S n)))]) (fun g => ((g.1 ∈ V ∧ (c = 0 ∨ Anc (gi (nearG S n)) g.1 (gi (nearG S n) c))) ∨ (c = 0 ∧ g.1 = -1)) ∧ FrI n g.2) (fun g => (gi (levG S n) g.1 + 1).toNat) (p, rows) zR1 zLe (⟨.inl ⟨hpV, front_begin hG (by rw [hVe]; exact hcV) (by rw [hVe]; exact hpV) hpc2⟩, hF⟩) ?_
    rintro ⟨y, rows⟩ ⟨hy, hF⟩
    try dsimp only at *
    refine za<|zSr<|z2 (zMi rfl)<|z2 (zMp rfl)<|z2 (ya rfl)<|z2 (zu underlying203 rfl sizeOf23 (by decide) rfl rfl)<|z2 (zy (c := .own _ _) isAgg23 rfl ⟨_, .t1⟩ rfl)<|z2 (zMi rfl)<|z2 (yx (j := c.toNat) underlying23 sizeOf3 rfl rfl (by omega) ⟨_, .t3⟩ (by first | rfl | (simp [cI_len, cB_len]; done) | (simp [cI_len, cB_len]; omega)) (by omega))<|z2 (qd (j := c.toNat) isAgg3 rfl ⟨_, .t3⟩ (hNg c hc0 hcn))<|z2 (yi rfl rfl)<|z6<|zr rfl (fun cy=>?_) (fun cy=>?_)
    ·have hne : y ≠ gi (nearR S n) c := by simpa using cy
     obtain ⟨hyV, hnx, hms⟩ := front_step hG (hVe ▸ hcV) (by rw [hVe]; exact hy) hne
     rw [hVe] at hyV hnx
     obtain ⟨hy0, hyn⟩ := hVr y hyV
     have hyl : y.toNat < rows.length := by rw [hF.1]; omega
     have hrl := hF.len (qn hyl)
     refine zc<|za<|zh<|zSr<|z2 (zMp rfl)<|z2 (ya rfl)<|z2 (zu underlying203 rfl sizeOf103 (by decide) rfl rfl)<|z2 (zy (c := nref _ _) isAgg103 rfl ⟨_, .t1⟩ rfl)<|z2 (zMi rfl)<|z2 (qf (j := y.toNat) underlying103 sizeOf23 rfl rfl (by omega) (by omega))<|q6 (j := y.toNat) (r := rows[y.toNat]) isAgg23 rfl (qj hyl) (fun _ => .head)<|fun i58 => z2 (zMi rfl)<|zt rfl (zn (.l (.r (.r (.r (.r (.rest _))))))) (containsE_spec rows[y.toNat] c i58 _ (by omega)) ?_
     rintro r60 O60 ⟨rfl, rfl⟩
     refine z2 (yd rfl)<|zd (GStep.nestBack (r := rows[y.toNat]) .head .head) ?_
     rw [List.set_getElem_self]
     refine z6<|zr rfl (fun cin=>?_) (fun cin=>?_)
     ·have hnin : c ∉ rows[y.toNat] := by simpa using cin
      refine yc (γ := Unit) [0, 2, 7, 10, 12, 13, 14, 21, 22, 23] (fun u => []) (fun u => [(t, .cells 203 [.own a n, .own b n, x, nref fb n]), (b, .grow 1 3 (cI (levG S n))), (a, .grow 1 3 (cI (nearR S n))), (0, nestO eI 23 3 fb (rows.set y.toNat (rows[y.toNat] ++ [c])))]) (fun u => True) ?_ (fun _ _ h => h) ?_
      ·refine y1 (fun j => Nat.beq j 16) (by kernel_rfl) rfl (zn (.l (.r (.r (.r (.rest _))))))<|zTk 0 rfl (zMp rfl)<|zTk 1 rfl (ya rfl)<|zTk 2 rfl (zu underlying203 rfl sizeOf103 (by decide) rfl rfl)<|zTk 3 rfl (zy (c := nref _ _) isAgg103 rfl ⟨_, .head⟩ rfl)<|zTk 4 rfl (zMi rfl)<|zTk 5 rfl (zMp rfl)<|zTk 6 rfl (ya rfl)<|zTk 7 rfl (zu underlying203 rfl sizeOf103 (by decide) rfl rfl)<|zTk 8 rfl (zy (c := nref _ _) isAgg103 rfl ⟨_, .head⟩ rfl)<|zTk 9 rfl (zMi rfl)<|zTk 10 rfl (qf (j := y.toNat) underlying103 sizeOf23 rfl rfl (by omega) (by omega))<|zTk 12 rfl (zMi rfl)<|yk (i := 11) (j := 13) rfl rfl (by kernel_rfl) ?_ ?_
       ·refine q6 (j := y.toNat) (r := rows[y.toNat]) isAgg23 rfl (qj hyl) (fun _ => .head)<|fun i73 => z6<|zOn 13 rfl<|zw (rows := [[_]]) ps23_1 rfl rfl rfl rfl rfl<|z6<|zOn 14 rfl<|yl (k := 1) underlying23 type3 rfl rfl rfl rfl rfl (fun _ => .head) (by rw [eI.av_len]; rfl) (by decide) rfl (by show (_ + 1) * 8 ≤ _; omega) (by show _ + 1 ≤ _; omega)<|fun i76 => z6<|zTk 15 rfl (qf (j := y.toNat) underlying103 sizeOf23 rfl rfl (by omega) (by omega))<|yw<|q4 (i := 16) rfl (by kernel_rfl) (by kernel_rfl)<|qc (j := y.toNat) (r := rows[y.toNat] ++ [c]) sizeOf23 rfl rfl (by omega) .t3 .t3 rfl (eI.av_push _ _) (by simp)<|z6<|yz (by kernel_rfl) ?_
        exact ⟨(), zR10, trivial, zLe, trivial⟩
       ·refine zw (rows := [[_]]) ps23_1 rfl rfl rfl rfl rfl<|z6<|zOn 11 rfl<|q6 (j := y.toNat) (r := rows[y.toNat]) isAgg23 rfl (qj hyl) (fun _ => .head)<|fun i73 => z6<|zOn 14 rfl<|yl (k := 1) underlying23 type3 rfl rfl rfl rfl rfl (fun _ => .head) (by rw [eI.av_len]; rfl) (by decide) rfl (by show (_ + 1) * 8 ≤ _; omega) (by show _ + 1 ≤ _; omega)<|fun i76 => z6<|zTk 15 rfl (qf (j := y.toNat) underlying103 sizeOf23 rfl rfl (by omega) (by omega))<|yw<|q4 (i := 16) rfl (by kernel_rfl) (by kernel_rfl)<|qc (j := y.toNat) (r := rows[y.toNat] ++ [c]) sizeOf23 rfl rfl (by omega) .t3 .t3 rfl (eI.av_push _ _) (by simp)<|z6<|yz (by kernel_rfl) ?_
        exact ⟨(), zR10, trivial, zLe, trivial⟩
      ·rintro _ _
       refine yf (zg (zi .t3))<|zRg<|z2 (zMp rfl)<|z2 (ya rfl)<|z2 (zu underlying203 rfl sizeOf23 (by decide) rfl rfl)<|z2 (zy (c := .own _ _) isAgg23 rfl ⟨_, .t1⟩ rfl)<|z2 (zMi rfl)<|z2 (yx (j := y.toNat) underlying23 sizeOf3 rfl rfl (by omega) ⟨_, .t3⟩ (by first | rfl | (simp [cI_len, cB_len]; done) | (simp [cI_len, cB_len]; omega)) (by omega))<|z2 (qd (j := y.toNat) isAgg3 rfl ⟨_, .t3⟩ (hNg y hy0 hyn))<|z2 (zAi rfl)<|z6 ?_
       exact ⟨(gi (nearR S n) y, rows.set y.toNat (rows[y.toNat] ++ [c])), zR9, zR1, zLe, ⟨hnx, hF.push hyl hc0 hcn hnin⟩, by dsimp only; omega⟩
     ·refine zc<|zRg<|z2 (zMp rfl)<|z2 (ya rfl)<|z2 (zu underlying203 rfl sizeOf23 (by decide) rfl rfl)<|z2 (zy (c := .own _ _) isAgg23 rfl ⟨_, .t1⟩ rfl)<|z2 (zMi rfl)<|z2 (yx (j := y.toNat) underlying23 sizeOf3 rfl rfl (by omega) ⟨_, .t3⟩ (by first | rfl | (simp [cI_len, cB_len]; done) | (simp [cI_len, cB_len]; omega)) (by omega))<|z2 (qd (j := y.toNat) isAgg3 rfl ⟨_, .t3⟩ (hNg y hy0 hyn))<|z2 (zAi rfl)<|z6 ?_
      exact ⟨(gi (nearR S n) y, rows), zR9, zR1, zLe, ⟨hnx, hF⟩, by dsimp only; omega⟩
    ·refine y4<|zRg<|z2 (zAd rfl rfl)<|z2 (zMi rfl)<|z6 ?_
     exact ⟨(j + 1, rows), zR8, zR1, zLe, ⟨hj2, hF⟩, by dsimp only; omega⟩
  ·refine y4<|zRg<|z2 (zAd rfl rfl)<|z2 (zMi rfl)<|z6 ?_
   exact ⟨(k + 1, rows), zR4, zR1, zLe, ⟨hk2, hF⟩, by dsimp only; omega⟩
 ·refine y4<|zSr<|z2 (zMp rfl)<|z2 (ya rfl)<|z2 (zu underlying203 rfl sizeOf103 (by decide) rfl rfl)<|z2 (zy (c := nref _ _) isAgg103 rfl ⟨_, .t1⟩ rfl)<|z2 (Gv.lenN underlying103 rfl)<|z2 (zMi rfl)<|z6<|zh<|y6 (γ := Nat × List (List Int)) [0, 84] (fun g => [(85, .int .i64 g.1)]) (fun g => [(0, nestO eI 23 3 fb g.2), (t, .cells 203 [.own a n, .own b n, x, nref fb n]), (b, .grow 1 3 (cI (levG S n))), (a, .grow 1 3 (cI (nearR S n)))]) (fun g => g.1 ≤ n ∧ FrI n g.2) (fun g => n - g.1) (0, rows) zR1 zLe (⟨qm _, hF⟩) ?_
  rintro ⟨m, rows⟩ ⟨hm, hF⟩
  try dsimp only at *
  refine zSr<|z2 (y8 rfl rfl)<|z6<|za<|zp rfl (fun cm=>?_) (fun cm=>?_)
  ·have hm2 : m < n := by simp at cm; omega
   have hml : m < rows.length := by rw [hF.1]; omega
   have hrl := hF.len (qn hml)
   refine zc<|za<|zh<|zSr<|z2 (zMi rfl)<|z2 (zAi rfl)<|z6<|zRg<|z2 (zMp rfl)<|z2 (ya rfl)<|z2 (zu underlying203 rfl sizeOf103 (by decide) rfl rfl)<|z2 (zy (c := nref _ _) isAgg103 rfl ⟨_, .t1⟩ rfl)<|z2 (zMi rfl)<|z2 (qf (j := m) underlying103 sizeOf23 rfl rfl rfl (by omega))<|q6 (j := m) (r := rows[m]) isAgg23 rfl (qj hml) (fun _ => .head)<|fun i94 => zt rfl (zn (.l (.r (.r (.r (.r (.rest _))))))) (sortE_own rows[m] i94 _ (by omega)) ?_
   rintro r95 O95 ⟨rfl, rfl⟩
   refine z6<|yf (GStep.nestBackN (r := sortI rows[m]) (sortI_perm _).length_eq .head .head)<|zRg<|z2 (zAd rfl rfl)<|z2 (zMi rfl)<|z6 ?_
   exact ⟨(m + 1, rows.set m (sortI rows[m])), zR2, zR1, zLe, ⟨hm2, hF.sort hml⟩, by dsimp only; omega⟩
  ·refine y4<|ym ?_
   exact ⟨rfl, rows, hF, rfl⟩
end Go.Proofs.YtjnpcfpecilejaaGreatDoor
namespace Go.Proofs.YtjnpcfpecilejaaGreatDoor
open Go.Proofs.Tryz
open Go.Proofs
variable {E : World}
set_option maxRecDepth 20000
def treeV (f : PFunc) (x y : AV) : AV := .pf [.fro 1 ((nearR (EndsOf f) f.blocks.length).map encI), .fro 1 ((levG (EndsOf f) f.blocks.length).map encI), x, y]
theorem thas_spec (lev : List Int) (b : Int) (x0 x2 x3 : AV) (hl : lev.length ≤ 1000) : AFun prog E 186 [.pf [x0, .fro 1 (lev.map encI), x2, x3], .int .i64 b] (.bool (decide (gi lev b ≠ -1))) := by
 refine zo func186 rfl (by decide) rfl<|zSr<|z2 (zAb rfl)<|z6<|zSr<|z2 (zMg rfl)<|z2 (Gv.neqPf underlying101 type203 rfl)<|z2 (zMb rfl)<|z8 rfl rfl rfl<|z2 (zMi rfl)<|z8 rfl rfl rfl<|z2 (q9 rfl rfl)<|z2 (zPt rfl rfl rfl)<|z2 (zMb rfl)<|zl (s := 11) rfl (fun c0=>?_) (fun c0=>?_)
 ·have h0 : 0 ≤ b := by simpa using c0
  refine z8 rfl rfl c0<|z2 (zMi rfl)<|z8 rfl rfl c0<|z2 (zMg rfl)<|z8 rfl rfl c0<|z2 (yq rfl)<|z8 rfl rfl c0<|z2 (zFF underlying203 rfl sizeOf23 rfl rfl)<|z8 rfl rfl c0<|z2 (zLf isAgg23 rfl)<|z8 rfl rfl c0<|z2 (zz underlying23 rfl)<|z8 rfl rfl c0<|z2 (y8 rfl rfl)<|z2 (zPt rfl c0 rfl)<|z2 (zMb rfl)<|zl (s := 20) rfl (fun c1=>?_) (fun c1=>?_)
  ·have h1 : b < lev.length := by simpa using c1
   have hg : lev[b.toNat]? = some (gi lev b) := gi_get h0 (by omega)
   refine z8 rfl rfl c1<|z2 (zMg rfl)<|z8 rfl rfl c1<|z2 (yq rfl)<|z8 rfl rfl c1<|z2 (zFF underlying203 rfl sizeOf23 rfl rfl)<|z8 rfl rfl c1<|z2 (zLf isAgg23 rfl)<|z8 rfl rfl c1<|z2 (zMi rfl)<|z8 rfl rfl c1<|z2 (zIM b.toNat underlying23 sizeOf3 rfl rfl (by omega) hg)<|z8 rfl rfl c1<|z2 (zLi isAgg3 rfl)<|z8 rfl rfl c1<|z2 (yi rfl rfl)<|z2 (zPt rfl c1 rfl)<|z2 (zAb rfl)<|z6<|zf<|zj (x := .bool _) rfl ?_
   simp
  ·have h1 : ¬ b < lev.length := by simpa using c1
   refine z7 rfl rfl c1<|z7 rfl rfl c1<|z7 rfl rfl c1<|z7 rfl rfl c1<|z7 rfl rfl c1<|z7 rfl rfl c1<|z7 rfl rfl c1<|z7 rfl rfl c1<|z2 (zPf rfl c1 rfl)<|z2 (zAb rfl)<|z6<|zf<|zj (x := .bool _) rfl ?_
   rw [gi_out (.inr (by omega))]; rfl
 ·have h0 : ¬ 0 ≤ b := by simpa using c0
  refine z7 rfl rfl c0<|z7 rfl rfl c0<|z7 rfl rfl c0<|z7 rfl rfl c0<|z7 rfl rfl c0<|z7 rfl rfl c0<|z7 rfl rfl c0<|z2 (zPf rfl c0 rfl)<|z2 (zMb rfl)<|z7 rfl rfl rfl<|z7 rfl rfl rfl<|z7 rfl rfl rfl<|z7 rfl rfl rfl<|z7 rfl rfl rfl<|z7 rfl rfl rfl<|z7 rfl rfl rfl<|z7 rfl rfl rfl<|z2 (zPf rfl rfl rfl)<|z2 (zAb rfl)<|z6<|zf<|zj (x := .bool _) rfl ?_
  rw [gi_out (.inl (by omega))]; rfl
section
variable {S : Int → List Int} {n : Nat} (hG : Grph S n)
include hG
theorem over_step {a b : Int} (ha : a ∈ orderT S n) (hb : b ∈ orderT S n) (hlt : gi (levG S n) a < gi (levG S n) b) :
  b ≠ 0 ∧ gi (nearR S n) b ∈ orderT S n ∧ gi (levG S n) b = gi (levG S n) (gi (nearR S n) b) + 1 ∧ domB S n a b = domB S n a (gi (nearR S n) b) := by
 have hO := hG.gok.ord
 have hla := hG.lev_nn ha
 have hl0 : gi (levG S n) 0 = 0 := hG.lev.zero
 have hb0 : b ≠ 0 := fun e => by rw [e, hl0] at hlt; omega
 obtain ⟨g1, g2⟩ := hG.near_mem hb hb0
 have g3 := hG.lev_near hb hb0
 rw [nearR_get (hO.nn b hb) hb0]
 refine ⟨hb0, g1, g3, ?_⟩
 rw [qs, hG.domB_iff, hG.domB_iff, hG.dom_iff hb, hG.dom_iff g1]
 constructor
 ·intro h
  rcases h.cases' with e | ⟨_, _, h3⟩
  ·rw [e] at hlt; omega
  ·exact h3
 ·intro h
  exact .up hb0 (hG.exact.has b hb) h
theorem over_end {a b : Int} (hb : b ∈ orderT S n) (hge : ¬ gi (levG S n) a < gi (levG S n) b) : domB S n a b = decide (a = b) := by
 rw [qs, hG.domB_iff, hG.dom_iff hb, w4]
 constructor
 ·intro h
  exact (hG.lev_anc hb h).2.2 (by omega)
 ·rintro rfl; exact .refl _
theorem over_none {a b : Int} (h : a ∉ orderT S n ∨ b ∉ orderT S n) : domB S n a b = false := by
 rw [Bool.eq_false_iff]
 intro hd
 have hd := (hG.domB_iff a b).1 hd
 have hb : b ∈ orderT S n := (hG.gok.ord.mem b).2 hd.1
 have ha : a ∈ orderT S n := (hG.lev_anc hb ((hG.dom_iff hb).1 hd)).1
 rcases h with h | h
 ·exact h ha
 ·exact h hb
end
theorem Over_spec (f : PFunc) (hE : EndsOk f) (hn : f.blocks.length ≤ 1000) (a b : Int) (x y : AV) : AFun prog E 130 [treeV f x y, .int .i64 a, .int .i64 b] (.bool (domB (EndsOf f) f.blocks.length a b)) := by
 have hG := hE.grph
 have hol := order_len hG
 have hO := hG.gok.ord
 have hrng : ∀ z ∈ orderT (EndsOf f) f.blocks.length, 0 ≤ z ∧ z < f.blocks.length := fun z hz => order_rng hG.toEOk hz
 have hLl : (levG (EndsOf f) f.blocks.length).length = f.blocks.length := hG.lev.len
 have hLg : ∀ z : Int, 0 ≤ z → z < f.blocks.length → (levG (EndsOf f) f.blocks.length)[z.toNat]? = some (gi (levG (EndsOf f) f.blocks.length) z) := fun z h1 h2 => gi_get h1 (by omega)
 have hNg : ∀ z : Int, 0 ≤ z → z < f.blocks.length → (nearR (EndsOf f) f.blocks.length)[z.toNat]? = some (gi (nearR (EndsOf f) f.blocks.length) z) := fun z h1 h2 => gi_get h1 (by rw [nearR_len]; omega)
 unfold treeV
 refine zo func130 rfl (by decide) rfl<|zSr<|z2 (zAb rfl)<|z6<|za<|zSr<|z2 (zMg rfl)<|z2 (zMi rfl)<|ze (thas_spec (levG (EndsOf f) f.blocks.length) a _ x y (by omega)) rfl<|z2 (yd rfl)<|z2 (zMb rfl)<|zl (s := 11) rfl (fun ca=>?_) (fun ca=>?_)
 ·have ha : a ∉ orderT (EndsOf f) f.blocks.length := by have h0 : gi (levG (EndsOf f) f.blocks.length) a = -1 := (by simpa using ca); exact fun h => (hG.lev_mem a).2 h h0
  refine z7 rfl rfl ca<|z7 rfl rfl ca<|z7 rfl rfl ca<|z7 rfl rfl ca<|z2 (zPt rfl ca rfl)<|z6<|yr rfl rfl<|zSr<|z2 (zAb rfl)<|z6<|zf<|zj (x := .bool _) rfl ?_
  rw [over_none hG (.inl ha)]
 ·have ha : a ∈ orderT (EndsOf f) f.blocks.length := by have h0 : ¬ gi (levG (EndsOf f) f.blocks.length) a = -1 := (by simpa using ca); exact (hG.lev_mem a).1 h0
  refine z8 rfl rfl ca<|z2 (zMg rfl)<|z8 rfl rfl ca<|z2 (zMi rfl)<|z8 rfl rfl ca<|ze (thas_spec (levG (EndsOf f) f.blocks.length) b _ x y (by omega)) rfl<|z8 rfl rfl ca<|z2 (yd rfl)<|z2 (zPf rfl ca rfl)<|z6<|zr rfl (fun cb=>?_) (fun cb=>?_)
  ·have hb : b ∉ orderT (EndsOf f) f.blocks.length := by have h0 : gi (levG (EndsOf f) f.blocks.length) b = -1 := (by simpa using cb); exact fun h => (hG.lev_mem b).2 h h0
   refine zSr<|z2 (zAb rfl)<|z6<|zf<|zj (x := .bool _) rfl ?_
   rw [over_none hG (.inr hb)]
  ·have hb : b ∈ orderT (EndsOf f) f.blocks.length := by have h0 : ¬ gi (levG (EndsOf f) f.blocks.length) b = -1 := (by simpa using cb); exact (hG.lev_mem b).1 h0
   obtain ⟨ha0, han⟩ := hrng a ha
   refine zc<|za<|zh<|y6 (γ := Int) [0, 1] (fun c => [(2, .int .i64 c)]) (fun c => []) (fun c => c ∈ orderT (EndsOf f) f.blocks.length ∧ domB (EndsOf f) f.blocks.length a b = domB (EndsOf f) f.blocks.length a c) (fun c => (gi (levG (EndsOf f) f.blocks.length) c).toNat) b zR1 zLe (⟨hb, rfl⟩) ?_
   rintro c ⟨hc, hd⟩
   obtain ⟨hc0, hcn⟩ := hrng c hc
   have hl := hG.lev_nn hc
   refine za<|za<|y1 (fun j => false) (by kernel_rfl) rfl (zn (.rest _))<|zTk 0 rfl (zMg rfl)<|zTk 1 rfl (yq rfl)<|zTk 2 rfl (zFF underlying203 rfl sizeOf23 rfl rfl)<|zTk 3 rfl (zLf isAgg23 rfl)<|zTk 4 rfl (zMi rfl)<|zTk 5 rfl (zIM c.toNat underlying23 sizeOf3 rfl rfl (by omega) (hLg c hc0 hcn))<|zTk 6 rfl (zLi isAgg3 rfl)<|zTk 7 rfl (zMg rfl)<|zTk 8 rfl (yq rfl)<|zTk 9 rfl (zFF underlying203 rfl sizeOf23 rfl rfl)<|zTk 10 rfl (zLf isAgg23 rfl)<|zTk 11 rfl (zMi rfl)<|zTk 12 rfl (zIM a.toNat underlying23 sizeOf3 rfl rfl (by omega) (hLg a ha0 han))<|zTk 13 rfl (zLi isAgg3 rfl)<|zTk 14 rfl (yv rfl rfl)<|zDn<|zr rfl (fun cc=>?_) (fun cc=>?_)
   ·have hlt : gi (levG (EndsOf f) f.blocks.length) a < gi (levG (EndsOf f) f.blocks.length) c := by simpa using cc
    obtain ⟨s1, s2, s3, s4⟩ := over_step hG ha hc hlt
    refine zc<|zh<|zRg<|z2 (zMg rfl)<|z2 (yq rfl)<|z2 (zFF underlying203 rfl sizeOf23 rfl rfl)<|z2 (zLf isAgg23 rfl)<|z2 (zMi rfl)<|z2 (zIM c.toNat underlying23 sizeOf3 rfl rfl (by omega) (hNg c hc0 hcn))<|z2 (zLi isAgg3 rfl)<|z2 (zAi rfl)<|z6 ?_
    exact ⟨gi (nearR (EndsOf f) f.blocks.length) c, zR2, zR1, zLe, ⟨s2, by rw [hd, s4]⟩, by have := hG.lev_nn s2; omega⟩
   ·have hge : ¬ gi (levG (EndsOf f) f.blocks.length) a < gi (levG (EndsOf f) f.blocks.length) c := by simpa using cc
    refine y4<|zSr<|z2 (zMi rfl)<|z2 (zMi rfl)<|z2 (y3 rfl rfl)<|z2 (zAb rfl)<|z6<|zf<|zj (x := .bool _) rfl ?_
    rw [hd, over_end hG hc hge]
end Go.Proofs.YtjnpcfpecilejaaGreatDoor
