/- What is asked of the program itself, of the law PreFirst, fact for fact. No conditions. -/
import Derived.Test.YtjnpcfpecilejaaGreatDoorGq
import Derived.Test.YtjnpcfpecilejaaGreatDoorGc
import Derived.Test.YtjnpcfpecilejaaGreatDoorGh
import Derived.Test.YtjnpcfpecilejaaGreatDoorGp
import Derived.Lib.LaidRTab
import Derived.Test.YtjnpcfpecilejaaGreatDoorRows
import Derived.Test.YtjnpcfpecilejaaGreatDoorChecked
import Derived.ProofKit
import Derived.JoinedOf
set_option linter.unusedVariables false
set_option linter.unusedSimpArgs false
set_option linter.unusedSectionVars false
namespace Go.Proofs.YtjnpcfpecilejaaGreatDoor
open Go.Proofs.Tryz
open Go.Proofs Go.Lib Go.Shelf Go.RowKit
variable {E : World}
set_option maxRecDepth 20000
theorem find_snoc {α : Type} (p : α → Bool) (l : List α) (x : α) : (l ++ [x]).find? p = (l.find? p).or (if p x = true then some x else none) := by
 rw [List.find?_append]
 congr 1
 by_cases h : p x = true
 ·rw [if_pos h, List.find?_cons_of_pos h]
 ·rw [if_neg h, List.find?_cons_of_neg h]; rfl
theorem toV_miss {ps : List PPhi} {p v : Int} {k : Nat} (h : k < ps.length) (hd : comesB p v ps[k] = false) : toV (ps.take (k + 1)) p v = toV (ps.take k) p v := by
 unfold toV
 rw [qd h, find_snoc, hd]
 simp
theorem toV_none {ps : List PPhi} {p v : Int} (h : ∀ q ∈ ps, q.dst ≠ v) : toV ps p v = v := by
 unfold toV
 rw [List.find?_eq_none.2 (fun q hq => by unfold comesB; rw [qo (h q hq)]; simp)]
 rfl
theorem toV_hit {ps : List PPhi} {p v : Int} {k : Nat} (h : k < ps.length) (hd : comesB p v ps[k] = true) (h0 : ∀ q ∈ ps.take k, q.dst ≠ v) : toV (ps.take (k + 1)) p v = (ps[k].args[(ixF ps[k].from_ p).toNat]?).getD v := by
 unfold toV
 rw [qd h, find_snoc, hd, List.find?_eq_none.2 (fun q hq => by unfold comesB; rw [qo (h0 q hq)]; simp)]
 simp
theorem phi_first {f : PFunc} {v : Int} (hl : (makings f v).length ≤ 1) {i : Nat} {b : PBlock} (h : f.blocks[i]? = some b) {k : Nat} (hk : k < b.phis.length) (hd : b.phis[k].dst = v) : ∀ q ∈ b.phis.take k, q.dst ≠ v := by
 intro q hq e
 have h1 := phi_one hl h (qg hk) hd
 have h2 : (b.phis.filter fun q => decide (q.dst = v)).length = 1 := by rw [h1]; rfl
 have h3 : b.phis = b.phis.take k ++ b.phis.drop k := (List.take_append_drop k b.phis).symm
 rw [h3, List.filter_append, qi] at h2
 have h4 : 0 < ((b.phis.take k).filter fun q => decide (q.dst = v)).length := List.length_pos_iff.2 (List.ne_nil_of_mem (List.mem_filter.2 ⟨hq, by simpa using e⟩))
 have h5 : 0 < ((b.phis.drop k).filter fun q => decide (q.dst = v)).length := List.length_pos_iff.2 (List.ne_nil_of_mem (List.mem_filter.2 ⟨by rw [List.drop_eq_getElem_cons hk]; exact .head _, by simpa using hd⟩))
 omega
def atP (ph : PPhi) (p v : Int) (k : Nat) : Int := if 0 ≤ ixF (ph.from_.take k) p then (ph.args[(ixF (ph.from_.take k) p).toNat]?).getD v else v
set_option maxHeartbeats 8000000 in
theorem refFrom36_spec (f : PFunc) (hf : small f) (hS : ShapedP f) (ho : OnceP f) (hJ : JoinP f) (k : Nat) (a p : Int) (B : PBlock) (hget : f.blocks[k]? = some B) (h0 : 0 ≤ a) (ha : a < B.insts.length) :
  AFun prog E 18 [.agg (encF f), .int .i64 k, .int .i64 a, .int .i64 p] (.agg (encInst (fromF f k a p))) := by
 have hmem : B ∈ f.blocks := List.mem_of_getElem? hget
 obtain ⟨hb0, hb1, hb2, hb3, hb4⟩ := hf.2.2.2.2 B hmem
 obtain ⟨hPh, hIn, hTm⟩ := hS.2.2.2.2.2 B hmem
 have hkb : k < f.blocks.length := (List.getElem?_eq_some_iff.1 hget).1
 have hBk : f.blocks[k] = B := by rw [qc hkb] at hget; exact Option.some.inj hget
 obtain ⟨x, hx⟩ : ∃ x, B.insts[a.toNat]'(by omega) = x := ⟨_, rfl⟩
 have hxg : B.insts[a.toNat]? = some x := by rw [qc (by omega), hx]
 have hxm := List.mem_of_getElem? hxg
 have hal := hb4 x hxm
 have hIF := instP_F (hIn x hxm)
 have hI : instsAt f (k : Int) = B.insts := by unfold instsAt; rw [show ((k : Int)).toNat = k from rfl, hget]; rfl
 have hP : phisAt f (k : Int) = B.phis := by unfold phisAt; rw [show ((k : Int)).toNat = k from rfl, hget]; rfl
 have hO : instOf f (k : Int) a = x := by unfold instOf; rw [hI, hxg]; rfl
 have hF : fromF f k a p = ⟨x.op, -1, x.args.map (toV B.phis p), 0⟩ := by unfold fromF; rw [hO, hP]
 rw [hF]
 refine zl func18 rfl (by decide) rfl<|zSr<|y4 (cs := _) rfl rfl rfl<|zy (cs := [.int .i64 0, .int .i64 0, .raw (.slice none 0 0), .int .i64 0]) zeroValue33 rfl rfl<|fun i8 => z6<|zSr<|z2 (zFF underlying26 rfl sizeOf24 rfl rfl)<|z2 (zLf isAgg24 rfl)<|z2 (zMi rfl)<|z2 (zIM k underlying24 sizeOf66 rfl rfl rfl hget)<|z2 (zFF underlying66 rfl sizeOf60 rfl rfl)<|z2 (zLf isAgg60 rfl)<|z2 (zMi rfl)<|z2 (zIM a.toNat underlying60 sizeOf33 rfl rfl (by omega) hxg)<|z2 (zk isAgg33 sizeOf33 rfl rfl)<|zy (cs := [.int .i64 0, .int .i64 0, .raw (.slice none 0 0), .int .i64 0]) zeroValue33 rfl rfl<|fun i9 => zo sizeOf33 rfl rfl rfl rfl rfl rfl .head rfl<|zb (y9 (t := 9) rfl .head)<|z6<|zSr<|z2 (zFF underlying33 rfl sizeOf31 rfl rfl)<|z2 (zLi isAgg31 rfl)<|z2 (zu (cps := [(0, [_]), (1, [_])]) (rs := [_, _, .raw (.slice none 0 0), .int .i64 0]) pl33 rfl rfl rfl)<|zy (cs := [.int .i64 0, .int .i64 0, .raw (.slice none 0 0), .int .i64 0]) zeroValue33 rfl rfl<|fun i10 => zo sizeOf33 rfl rfl rfl rfl rfl rfl .head rfl<|z6<|adoptC_wp (off := 2) (k := 1) (T := 3) (fun _ => .head) rfl<|fun ia => yf (zf (zi .t1))<|za<|zSr<|z2 (zFF underlying33 rfl sizeOf23 rfl rfl)<|z2 (zLf isAgg23 rfl)<|z2 (zq underlying23 rfl)<|z2 (zMi rfl)<|z6<|zd<|y1 (γ := Nat × Nat) [1, 3, 4, 8, 10, 30, 31] (fun g => [(32, .int .i64 g.1)]) (fun g => [(i10, .cells 33 [.int .i64 x.op, .int .i64 (-1), .own g.2 g.1, .int .i64 0]), (g.2, .grow 1 3 (((x.args.take g.1).map (toV B.phis p)).map encI).flatten), (i8, .cells 33 [.int .i64 0, .int .i64 0, .raw (.slice none 0 0), .int .i64 0])]) (fun g => g.1 ≤ x.args.length) (fun g => x.args.length - g.1) (0, ia) zR1 zLe (qf _) ?_
 rintro ⟨j, ia⟩ hj
 try dsimp only at *
 refine zSr<|z2 (y7 rfl rfl)<|z6<|za<|zt rfl (fun cj=>?_) (fun cj=>?_)
 ·have hj2 : j < x.args.length := by simp at cj; omega
  obtain ⟨v, hv⟩ : ∃ v, x.args[j] = v := ⟨_, rfl⟩
  obtain ⟨w, hw, hwl⟩ := hasV_nat (hIF.args v (hv ▸ qg hj2))
  have hone : (makings f v).length ≤ 1 := by rw [hw]; exact (ho w hwl).1
  have hpush : ((((x.args.take j).map (toV B.phis p)).map encI).flatten ++ [[AV.int .i64 (toV B.phis p v)]].flatten) = (((x.args.take (j + 1)).map (toV B.phis p)).map encI).flatten := by
   rw [qd hj2, hv]; simp [encI]
  have hlen : (((x.args.take j).map (toV B.phis p)).map encI).flatten.length = j * 1 := by rw [grow_len (k := 1) (fun _ => rfl), qj, qm, Nat.min_eq_left hj]
  refine ze<|za<|zd<|zSr<|z2 (zIM j underlying23 sizeOf3 rfl rfl rfl (show x.args[j]? = some v by rw [qc hj2, hv]))<|z2 (zLi isAgg3 rfl)<|z2 (zAi rfl)<|z6<|zSr<|z2 (zMi rfl)<|z2 (zAi rfl)<|z6<|za<|zSr<|z2 (zFF underlying26 rfl sizeOf24 rfl rfl)<|z2 (zLf isAgg24 rfl)<|z2 (zMi rfl)<|z2 (zIM k underlying24 sizeOf66 rfl rfl rfl hget)<|z2 (zFF underlying66 rfl sizeOf59 rfl rfl)<|z2 (zLf isAgg59 rfl)<|z2 (zq underlying59 rfl)<|z2 (zMi rfl)<|z6<|zd<|y1 (γ := Nat) [1, 3, 4, 8, 10, 12, 30, 31, 32, 42, 43] (fun q => [(44, .int .i64 q), (13, .int .i64 (toV (B.phis.take q) p v))]) (fun q => [(i10, .cells 33 [.int .i64 x.op, .int .i64 (-1), .own ia j, .int .i64 0]), (ia, .grow 1 3 (((x.args.take j).map (toV B.phis p)).map encI).flatten), (i8, .cells 33 [.int .i64 0, .int .i64 0, .raw (.slice none 0 0), .int .i64 0])]) (fun q => q ≤ B.phis.length) (fun q => B.phis.length - q) 0 zR2 zLe (qf _) ?_
  rintro q hq
  refine zSr<|z2 (y7 rfl rfl)<|z6<|za<|zt rfl (fun cq=>?_) (fun cq=>?_)
  ·have hq2 : q < B.phis.length := by simp at cq; omega
   obtain ⟨ph, hph⟩ : ∃ ph, B.phis[q] = ph := ⟨_, rfl⟩
   have hphm : ph ∈ B.phis := hph ▸ qg hq2
   obtain ⟨hpd, hpl, hpn, hpa, hpf⟩ := hPh ph hphm
   have hpb := hb3 ph hphm
   refine ze<|za<|zd<|zSr<|z2 (zIM q underlying59 sizeOf95 rfl rfl rfl (by rw [qc hq2, hph]))<|z2 (zk isAgg95 sizeOf95 rfl rfl)<|zy (cs := [.int .i64 0, .raw (.slice none 0 0), .raw (.slice none 0 0)]) zeroValue95 rfl rfl<|fun i15 => zo sizeOf95 rfl rfl rfl rfl rfl rfl .head rfl<|zb (y9 (t := 15) rfl .head)<|z6<|za<|zSr<|z2 (zFF underlying95 rfl sizeOf3 rfl rfl)<|z2 (zLi isAgg3 rfl)<|z2 (zMi rfl)<|z2 (ya rfl rfl)<|z6<|zr rfl (fun cd=>?_) (fun cd=>?_)
   ·have hd : ¬ ph.dst = v := by simpa using cd
    have ht : toV (B.phis.take (q + 1)) p v = toV (B.phis.take q) p v := toV_miss hq2 (by rw [hph]; unfold comesB; rw [qo hd]; rfl)
    refine zz<|zRg<|z2 (zAd rfl rfl)<|z2 (zMi rfl)<|z6 ?_
    exact ⟨q + 1, zR11, ⟨rfl, (by rw [ht]; rfl), trivial⟩, zLe, hq2, by omega⟩
   ·have hd : ph.dst = v := by simpa using cd
    have hbef := phi_first hone hget hq2 (by rw [hph]; exact hd)
    have hnd : ph.from_.Nodup := (hJ k hkb ph (by rw [hBk]; exact hphm)).nodup_iff.2 (predsT_nodup (EndsOf_nodup f) f.blocks.length k).1
    rw [toV_none hbef]
    refine ze<|zSr<|z2 (zFF underlying95 rfl sizeOf23 rfl rfl)<|z2 (zLf isAgg23 rfl)<|z2 (zq underlying23 rfl)<|z2 (zMi rfl)<|z6<|zd<|y1 (γ := Nat) [1, 3, 4, 8, 10, 12, 15, 30, 31, 32, 42, 43, 44, 54] (fun i => [(55, .int .i64 i), (13, .int .i64 (atP ph p v i))]) (fun i => [(i10, .cells 33 [.int .i64 x.op, .int .i64 (-1), .own ia j, .int .i64 0]), (ia, .grow 1 3 (((x.args.take j).map (toV B.phis p)).map encI).flatten), (i8, .cells 33 [.int .i64 0, .int .i64 0, .raw (.slice none 0 0), .int .i64 0])]) (fun i => i ≤ ph.from_.length) (fun i => ph.from_.length - i) 0 zR2 zLe (qf _) ?_
    rintro i hi
    refine zSr<|z2 (y7 rfl rfl)<|z6<|za<|zt rfl (fun ci=>?_) (fun ci=>?_)
    ·have hi2 : i < ph.from_.length := by simp at ci; omega
     obtain ⟨c, hc⟩ : ∃ c, ph.from_[i] = c := ⟨_, rfl⟩
     have hix := ixF_take (p := p) hi2
     refine ze<|za<|zd<|zSr<|z2 (zMi rfl)<|z2 (zAi rfl)<|z6<|zSr<|z2 (zFF underlying95 rfl sizeOf23 rfl rfl)<|z2 (zLf isAgg23 rfl)<|z2 (zMi rfl)<|z2 (zIM i underlying23 sizeOf3 rfl rfl rfl (by rw [qc hi2, hc]))<|z2 (zLi isAgg3 rfl)<|z2 (zMi rfl)<|z2 (y6 rfl rfl)<|z6<|zr rfl (fun cp=>?_) (fun cp=>?_)
     ·have hcp : c = p := by simpa using cp
      have hni : p ∉ ph.from_.take i := by rw [← hcp, ← hc]; exact nodup_take.1 hnd i hi2
      obtain ⟨y, hy⟩ : ∃ y, ph.args[i]'(by omega) = y := ⟨_, rfl⟩
      have hyg : ph.args[i]? = some y := by rw [qc (by omega), hy]
      rw [if_neg hni, hc, if_pos hcp.symm] at hix
      have hv2 : atP ph p v (i + 1) = y := by unfold atP; rw [hix, if_pos (by omega), show ((i : Int)).toNat = i from rfl, hyg]; rfl
      refine zRg<|z2 (zFF underlying95 rfl sizeOf23 rfl rfl)<|z2 (zLf isAgg23 rfl)<|z2 (zMi rfl)<|z2 (zIM i underlying23 sizeOf3 rfl rfl rfl hyg)<|z2 (zLi isAgg3 rfl)<|z2 (zAi rfl)<|z6<|zRg<|z2 (zAd rfl rfl)<|z2 (zMi rfl)<|z6 ?_
      exact ⟨i + 1, zR14, ⟨rfl, (by rw [hv2]; rfl), trivial⟩, zLe, hi2, by omega⟩
     ·have hcp : ¬ c = p := by simpa using cp
      have hix2 : ixF (ph.from_.take (i + 1)) p = ixF (ph.from_.take i) p := by
       by_cases hm : p ∈ ph.from_.take i
       ·rw [hix, if_pos hm]
       ·rw [hix, if_neg hm, hc, if_neg (fun e => hcp e.symm), ixF_neg hm]
      refine ze<|zRg<|z2 (zAd rfl rfl)<|z2 (zMi rfl)<|z6 ?_
      exact ⟨i + 1, zR14, ⟨rfl, (by rw [show atP ph p v (i + 1) = atP ph p v i by unfold atP; rw [hix2]]; rfl), trivial⟩, zLe, hi2, by omega⟩
    ·have hin : i = ph.from_.length := by simp at ci; omega
     subst hin
     have ht : atP ph p v ph.from_.length = toV (B.phis.take (q + 1)) p v := by
      unfold atP
      rw [qh]
      by_cases h : 0 ≤ ixF ph.from_ p
      ·rw [if_pos h, toV_hit hq2 (by rw [hph]; unfold comesB; rw [qn hd, qn h]; rfl) hbef, hph]
      ·rw [if_neg h, toV_miss hq2 (by rw [hph]; unfold comesB; rw [qo h, Bool.and_false]), toV_none hbef]
     refine zz<|zRg<|z2 (zAd rfl rfl)<|z2 (zMi rfl)<|z6 ?_
     exact ⟨q + 1, zR11, ⟨rfl, (by rw [ht]; rfl), trivial⟩, zLe, hq2, by omega⟩
  ·have hqn : q = B.phis.length := by simp at cq; omega
   subst hqn
   rw [qh]
   refine zz<|zRg<|z2 (zm underlying33 rfl sizeOf23 (by decide) rfl rfl)<|z2 (zp (c := .own _ _) isAgg23 rfl ⟨_, .head⟩ rfl)<|z2 (zMi rfl)<|zw (rows := [[_]]) ps23_1 rfl rfl rfl rfl rfl<|yd (k := 1) underlying23 type3 rfl rfl rfl rfl rfl (fun _ => .t1) hlen (by decide) rfl (by show (_ + 1) * 8 ≤ _; omega) (by show _ + 1 ≤ _; omega)<|fun i76 => z2 (zm underlying33 rfl sizeOf23 (by decide) rfl rfl)<|q7 (l := [_]) (new := [_, _, _, _]) sizeOf23 rfl rfl rfl rfl rfl rfl .head rfl rfl<|z6<|zRg<|z2 (zAd rfl rfl)<|z2 (zMi rfl)<|z6 ?_
   exact ⟨(j + 1, i76), zR7, zR1, ⟨_, (.refl _), by rw [← hpush]; rfl⟩, hj2, by dsimp only; omega⟩
 ·have hjn : j = x.args.length := by simp at cj; omega
  subst hjn
  rw [qh]
  refine zz<|yf (GStep.knowC (off := 2) (rows := (x.args.map (toV B.phis p)).map encI) .t1 .head rfl (by simp [encI, encVar, encPhi, encInst, encBlk]) (by decide) (by simp))<|zSr<|z2 (q6 isAgg33 sizeOf33 rfl ⟨_, .head⟩ rfl)<|zo sizeOf33 rfl rfl rfl rfl rfl rfl .t1 rfl<|z6<|zg<|afin.c1 rfl ⟨_, .t1⟩ isAgg33 sizeOf33 rfl ?_
  rfl
set_option maxHeartbeats 8000000 in
theorem refPassed36_spec (f : PFunc) (hf : small f) (hE : EndsOk f) (hA : AllRP f) (x : PInst) (hx : x.args.length ≤ 1000) (p bb aa : Int) (C : PBlock) (h0 : 0 ≤ p) (hpC : f.blocks[p.toNat]? = some C) :
  AFun prog E 20 [.agg (encF f), .agg (encInst x), .int .i64 p, .int .i64 bb, .int .i64 aa] (.bool (passF f x p (bb, aa))) := by
 have hn := hf.2.2.1
 have hpn : p.toNat < f.blocks.length := (List.getElem?_eq_some_iff.1 hpC).1
 have hla : lenAt f p = C.insts.length := by unfold lenAt; rw [hpC]; rfl
 have hRp : Rch (EndsOf f) p := by have := hA p.toNat hpn; rwa [show ((p.toNat : Nat) : Int) = p by omega] at this
 refine zl func20 rfl (by decide) rfl<|zSr<|y4 (cs := _) rfl rfl rfl<|y4 (cs := _) rfl rfl rfl<|z2 (zAb rfl)<|z6<|za<|zSr<|z2 (zFF underlying26 rfl sizeOf24 rfl rfl)<|z2 (zLf isAgg24 rfl)<|z2 (zq underlying24 rfl)<|z2 (zMi rfl)<|z6<|zd<|y1 (γ := Nat) [2, 3, 4, 5, 6, 16, 17] (fun i => [(18, .int .i64 i)]) (fun i => []) (fun i => i ≤ f.blocks.length ∧ (List.range i).any (passI f x p (bb, aa)) = false) (fun i => f.blocks.length - i) 0 zR1 zLe (⟨qf _, rfl⟩) ?_
 rintro i ⟨hi, hno⟩
 refine zSr<|z2 (y7 rfl rfl)<|z6<|za<|zt rfl (fun ci=>?_) (fun ci=>?_)
 ·have hi2 : i < f.blocks.length := by simp at ci; omega
  obtain ⟨b, hbi⟩ : ∃ b, f.blocks[i] = b := ⟨_, rfl⟩
  have hget : f.blocks[i]? = some b := by rw [qc hi2, hbi]
  obtain ⟨hb0, hb1, hb2, hb3, hb4⟩ := hf.2.2.2.2 b (hbi ▸ qg hi2)
  have hth0 := reachT_get (E := EndsOf f) (n := f.blocks.length) (k := p.toNat) (shut := (i : Int)) hpn
  rw [show ((p.toNat : Nat) : Int) = p by omega] at hth0
  obtain ⟨w, hth, hwW⟩ : ∃ w : Bool, (reachT (EndsOf f) f.blocks.length (i : Int))[p.toNat]? = some w ∧ (w = true ↔ Way (EndsOf f) (fun x => x ≠ (i : Int)) 0 p) := ⟨_, hth0, @decide_eq_true_iff _ (Classical.propDecidable _)⟩
  refine ze<|za<|zd<|zSr<|z2 (zMi rfl)<|z2 (zIM i underlying24 sizeOf66 rfl rfl rfl hget)<|z2 (zk isAgg66 sizeOf66 rfl rfl)<|zy (cs := [.str ⟨#[]⟩, .raw (.slice none 0 0), .raw (.slice none 0 0), .int .i64 0, .int .i64 0, .int .i64 0, .int .i64 0]) zeroValue66 rfl rfl<|fun i12 => z2 (zAi rfl)<|zo sizeOf66 rfl rfl rfl rfl rfl rfl .head rfl<|zb (y9 (t := 12) rfl .head)<|z6<|zSr<|z2 (zFF underlying66 rfl sizeOf60 rfl rfl)<|z2 (zLf isAgg60 rfl)<|z2 (zq underlying60 rfl)<|z2 (zMi rfl)<|z6<|zd<|y1 (γ := Nat) [2, 3, 4, 5, 6, 11, 16, 17, 18, 24, 25] (fun k => [(26, .int .i64 k)]) (fun k => []) (fun k => k ≤ b.insts.length ∧ (b.insts.take k).zipIdx.any (passQ f x i p (bb, aa)) = false) (fun k => b.insts.length - k) 0 zR1 zLe (⟨qf _, rfl⟩) ?_
  rintro k ⟨hk, hkno⟩
  refine zSr<|z2 (y7 rfl rfl)<|z6<|za<|zt rfl (fun ck=>?_) (fun ck=>?_)
  ·have hk2 : k < b.insts.length := by simp at ck; omega
   obtain ⟨y, hy⟩ : ∃ y, b.insts[k] = y := ⟨_, rfl⟩
   have hyl := hb4 y (hy ▸ qg hk2)
   have hQ : passQ f x i p (bb, aa) (b.insts[k], k) = (decide (y.op = x.op) && (decide (y.args = x.args) && (!decide (((i : Int), (k : Int)) = (bb, aa)) && aheadB f ((i : Int), (k : Int)) p (C.insts.length : Int)))) := by rw [hy]; unfold passQ; rw [hla]
   have hah : aheadB f ((i : Int), (k : Int)) p (C.insts.length : Int) = (decide ((i : Int) = p) || !w) := by
    rw [← aheadR_eq hE _ _ hRp]
    unfold aheadR
    rw [if_neg (by dsimp only; omega)]
    by_cases e : (i : Int) = p
    ·have : C = b := by rw [← e, show ((i : Int)).toNat = i from rfl, hget] at hpC; exact (Option.some.inj hpC).symm
     rw [if_pos (by exact e), qn e, this, qn (by dsimp only; omega)]; rfl
    ·rw [if_neg (by exact e), qo e, Bool.false_or]
     congr 1
     rw [ql, @decide_eq_true_iff _ (Classical.propDecidable _), hwW]
   refine ze<|za<|zd<|zSr<|z2 (zMi rfl)<|z2 (zIM k underlying60 sizeOf33 rfl rfl rfl (by rw [qc hk2, hy]))<|z2 (zk isAgg33 sizeOf33 rfl rfl)<|zy (cs := [.int .i64 0, .int .i64 0, .raw (.slice none 0 0), .int .i64 0]) zeroValue33 rfl rfl<|fun i14 => z2 (zAi rfl)<|zo sizeOf33 rfl rfl rfl rfl rfl rfl .head rfl<|zb (y9 (t := 14) rfl .head)<|z6<|za<|za<|yh (γ := Bool) [2, 3, 4, 5, 6, 11, 16, 17, 18, 24, 25, 26] (fun u => [(47, .bool u)]) (fun u => []) (fun u => u = !(decide (y.op = x.op) && (decide (y.args = x.args) && !decide (((i : Int), (k : Int)) = (bb, aa))))) ?_ (fun _ _ h => h) ?_
   ·refine zRg<|z2 (zMi rfl)<|z2 (zMi rfl)<|z2 (y6 rfl rfl)<|z2 (zMb rfl)<|zn (s := 34) rfl (fun c1=>?_) (fun c1=>?_)
    ·refine z8 rfl rfl c1<|z2 (zMi rfl)<|z8 rfl rfl c1<|z2 (zMi rfl)<|z8 rfl rfl c1<|z2 (y6 rfl rfl)<|z2 (zPt rfl c1 rfl)<|z2 (zMb rfl)<|zn (s := 39) rfl (fun c2=>?_) (fun c2=>?_)
     ·refine z7 rfl rfl c2<|z7 rfl rfl c2<|z7 rfl rfl c2<|z7 rfl rfl c2<|z7 rfl rfl c2<|z7 rfl rfl c2<|z7 rfl rfl c2<|z2 (zPt rfl c2 rfl)<|z6 ?_
      exact ⟨_, zR12, zR1, zLe, by simp_all⟩
     ·refine z8 rfl rfl c2<|z2 (zk isAgg33 sizeOf33 rfl rfl)<|z8 rfl rfl c2<|z2 (zFF underlying33 rfl sizeOf31 rfl rfl)<|z8 rfl rfl c2<|z2 (zLi isAgg31 rfl)<|z8 rfl rfl c2<|z2 (zFF underlying33 rfl sizeOf23 rfl rfl)<|z8 rfl rfl c2<|z2 (zLf isAgg23 rfl)<|z8 rfl rfl c2<|zc (preIs_spec y x.op x.args (by omega) (by omega)) rfl<|z8 rfl rfl c2<|z2 (yc rfl)<|z2 (zPf rfl c2 rfl)<|z6 ?_
      exact ⟨_, zR12, zR1, zLe, by simp_all⟩
    ·refine z7 rfl rfl c1<|z7 rfl rfl c1<|z7 rfl rfl c1<|z2 (zPf rfl c1 rfl)<|z2 (zMb rfl)<|z8 rfl rfl rfl<|z2 (zk isAgg33 sizeOf33 rfl rfl)<|z8 rfl rfl rfl<|z2 (zFF underlying33 rfl sizeOf31 rfl rfl)<|z8 rfl rfl rfl<|z2 (zLi isAgg31 rfl)<|z8 rfl rfl rfl<|z2 (zFF underlying33 rfl sizeOf23 rfl rfl)<|z8 rfl rfl rfl<|z2 (zLf isAgg23 rfl)<|z8 rfl rfl rfl<|zc (preIs_spec y x.op x.args (by omega) (by omega)) rfl<|z8 rfl rfl rfl<|z2 (yc rfl)<|z2 (zPf rfl rfl rfl)<|z6 ?_
     exact ⟨_, zR12, zR1, zLe, by simp_all⟩
   ·rintro u hu
    subst hu
    refine zr rfl (fun cs=>?_) (fun cs=>?_)
    ·refine zz<|zRg<|z2 (zAd rfl rfl)<|z2 (zMi rfl)<|z6 ?_
     exact ⟨k + 1, zR11, zR1, zLe, ⟨hk2, pass_take hk2 hkno (by rw [hQ]; cases h1 : decide (y.op = x.op) <;> cases h2 : decide (y.args = x.args) <;> cases h3 : decide (((i : Int), (k : Int)) = (bb, aa)) <;> simp_all)⟩, by omega⟩
    ·have hQ2 : passQ f x i p (bb, aa) (b.insts[k], k) = (decide ((i : Int) = p) || !w) := by
      rw [hQ, ← hah]; cases h1 : decide (y.op = x.op) <;> cases h2 : decide (y.args = x.args) <;> cases h3 : decide (((i : Int), (k : Int)) = (bb, aa)) <;> simp_all
     refine ze<|za<|yh (γ := Bool) [2, 3, 4, 5, 6, 11, 16, 17, 18, 24, 25, 26] (fun u => [(59, .bool u)]) (fun u => []) (fun u => u = passQ f x i p (bb, aa) (b.insts[k], k)) ?_ (fun _ _ h => h) ?_
     ·refine zRg<|z2 (zMi rfl)<|z2 (zMi rfl)<|z2 (y6 rfl rfl)<|z2 (zMb rfl)<|zn (s := 51) rfl (fun c1=>?_) (fun c1=>?_)
      ·have h1 : (i : Int) = p := by simpa using c1
       refine z7 rfl rfl c1<|z7 rfl rfl c1<|z7 rfl rfl c1<|z7 rfl rfl c1<|z7 rfl rfl c1<|z7 rfl rfl c1<|z7 rfl rfl c1<|z2 (zPt rfl c1 rfl)<|z6 ?_
       exact ⟨_, zR12, zR1, zLe, by rw [hQ2, qn h1]; rfl⟩
      ·have h1 : ¬ (i : Int) = p := by simpa using c1
       refine z8 rfl rfl c1<|z2 (zk isAgg26 sizeOf26 rfl rfl)<|z8 rfl rfl c1<|z2 (zMi rfl)<|z8 rfl rfl c1<|zc (reached_spec f hE hn (i : Int)) rfl<|z8 rfl rfl c1<|z2 (zMi rfl)<|z8 rfl rfl c1<|z2 (zIM p.toNat underlying111 sizeOf4 rfl rfl (by omega) hth)<|z8 rfl rfl c1<|z2 (yw (c := .bool _) isAgg4 rfl)<|z8 rfl rfl c1<|z2 (yc rfl)<|z2 (zPf rfl c1 rfl)<|z6 ?_
       exact ⟨_, zR12, zR1, zLe, by rw [hQ2, qo h1]; rfl⟩
     ·rintro u hu
      subst hu
      refine zr rfl (fun ch=>?_) (fun ch=>?_)
      ·refine zSr<|z2 (zAb rfl)<|z6<|zg<|zj (x := .bool _) rfl ?_
       rw [passF, range_any_hit hi2 (by rw [passI_at hget]; exact pass_hit hk2 ch)]
      ·refine ze<|zRg<|z2 (zAd rfl rfl)<|z2 (zMi rfl)<|z6 ?_
       exact ⟨k + 1, zR11, zR1, zLe, ⟨hk2, pass_take hk2 hkno (by simpa using ch)⟩, by omega⟩
  ·have hkn : k = b.insts.length := by simp at ck; omega
   subst hkn
   rw [qh] at hkno
   refine zz<|zRg<|z2 (zAd rfl rfl)<|z2 (zMi rfl)<|z6 ?_
   exact ⟨i + 1, zR7, zR1, zLe, ⟨hi2, range_any_succ hno (by rw [passI_at hget]; exact hkno)⟩, by omega⟩
 ·have hin : i = f.blocks.length := by simp at ci; omega
  subst hin
  refine zz<|zSr<|z2 (zAb rfl)<|z6<|zg<|zj (x := .bool _) rfl ?_
  rw [passF, hno]
end Go.Proofs.YtjnpcfpecilejaaGreatDoor
namespace Go.Proofs.YtjnpcfpecilejaaGreatDoor
open Go.Proofs.Tryz
open Go.Proofs
def Imp (x y : AV) : Prop := ∀ I v, RepV I x v → RepV I y v
def ImpL (xs ys : List AV) : Prop := ∀ I vs, RepL I xs vs → RepL I ys vs
theorem Imp.refl (x : AV) : Imp x x := fun _ _ h => h
theorem Imp.nil (k : Nat) : Imp (.raw (.slice none 0 0)) (.fro k []) := fun _ _ h => ⟨none, 0, 0, h, rfl, Nat.le_refl _, fun _ => rfl, trivial⟩
theorem ImpL.nil : ImpL [] [] := fun _ _ h => h
theorem ImpL.cons {x y : AV} {xs ys : List AV} (h : Imp x y) (hs : ImpL xs ys) : ImpL (x :: xs) (y :: ys) := fun I _ ⟨v, us, e, h1, h2⟩ => ⟨v, us, e, h I v h1, hs I us h2⟩
theorem Imp.agg {xs ys : List AV} (h : ImpL xs ys) : Imp (.agg xs) (.agg ys) := fun I _ ⟨vs, e, h1⟩ => ⟨vs, e, h I vs h1⟩
end Go.Proofs.YtjnpcfpecilejaaGreatDoor
namespace Go.Proofs.YtjnpcfpecilejaaGreatDoor
open Go.Proofs.Tryz
open Go.Proofs Go.Lib Go.Shelf Go.RowKit
variable {E : World}
set_option maxRecDepth 20000
def wantF (f : PFunc) (b : Int) : Int := if plB f = true then firstF f b else -1
theorem pFirst_ok (f : PFunc) (hf : small f) (hL : Letters E) (hp : plB f = true) (b : Int) : AFun prog E 13 [.agg (encF f), .int .i64 b] (.tup [.int .i64 (max (firstF f b) 0), .bool (decide (0 ≤ firstF f b))]) := by
 have hS := typedB_shaped (and3 hp).1
 refine zl func13 rfl (by decide) rfl<|zSr<|y4 (cs := _) rfl rfl rfl<|z2 (zAi rfl)<|z2 (zAb rfl)<|z6<|zSr<|z2 (zk isAgg26 sizeOf26 rfl rfl)<|zc (plook_ok f hf hL hp) rfl<|z2 (zMu rfl)<|z2 (q9 (v := .pf _) rfl rfl)<|z2 (zXi rfl rfl)<|z2 (yv (v := .pf _) rfl)<|z2 (zAi rfl)<|z6<|za<|zSr<|z2 (zMi rfl)<|z2 (ya rfl rfl)<|z6<|yb rfl rfl<|ze<|zSr<|z2 (zMg rfl)<|z2 (zMi rfl)<|zc (pfirst_spec f hf hS b) rfl<|z2 (zXi rfl rfl)<|z2 (zXb rfl rfl)<|z2 (zAi rfl)<|z2 (zAb rfl)<|z6<|zg<|afin.t2 (x := .int _ _) (y := .bool _) rfl rfl ?_
 rfl
theorem pFirst_bad (f : PFunc) (hf : small f) (hL : Letters E) (hp : plB f = false) (b : Int) : AFun prog E 13 [.agg (encF f), .int .i64 b] (.tup [.int .i64 0, .bool false]) := by
 refine zl func13 rfl (by decide) rfl<|zSr<|y4 (cs := _) rfl rfl rfl<|z2 (zAi rfl)<|z2 (zAb rfl)<|z6<|zSr<|z2 (zk isAgg26 sizeOf26 rfl rfl)<|zc (plook_bad f hf hL hp) rfl<|z2 (zMu rfl)<|z2 (q9 (v := .raw _) rfl rfl)<|z2 (zXi rfl rfl)<|z2 (zAr rfl)<|z2 (zAi rfl)<|z6<|za<|zSr<|z2 (zMi rfl)<|z2 (ya rfl rfl)<|z6<|yg rfl rfl<|zSr<|z2 (zAi rfl)<|z2 (zAb rfl)<|z6<|zg<|afin.t2 (x := .int _ _) (y := .bool _) rfl rfl ?_
 rfl
theorem pFirst_spec (f : PFunc) (hf : small f) (hL : Letters E) (b : Int) : AFun prog E 13 [.agg (encF f), .int .i64 b] (.tup [.int .i64 (max (wantF f b) 0), .bool (decide (0 ≤ wantF f b))]) := by
 cases hp : plB f with
 | true => rw [show wantF f b = firstF f b by unfold wantF; rw [if_pos hp]]; exact pFirst_ok f hf hL hp b
 | false => rw [show wantF f b = -1 by unfold wantF; rw [if_neg (by rw [hp]; decide)]]; exact pFirst_bad f hf hL hp b
def gotF (f : PFunc) (b p : Int) : PInst × Bool := if 0 ≤ wantF f b ∧ p ∈ inTo f b then (fromF f b (firstF f b) p, passF f (fromF f b (firstF f b) p) p (b, firstF f b)) else (⟨0, 0, [], 0⟩, false)
set_option maxHeartbeats 4000000 in
theorem pFrom_ok (f : PFunc) (hf : small f) (hL : Letters E) (hp : plB f = true) (b p : Int) : AFun prog E 14 [.agg (encF f), .int .i64 b, .int .i64 p] (.tup [.agg (encInst (gotF f b p).1), .bool (gotF f b p).2]) := by
 have hS := typedB_shaped (and3 hp).1
 have hE := typedB_ends (and3 hp).1
 have hw : wantF f b = firstF f b := by unfold wantF; rw [if_pos hp]
 refine zl func14 rfl (by decide) rfl<|zSr<|y4 (cs := _) rfl rfl rfl<|zy (cs := [.int .i64 0, .int .i64 0, .raw (.slice none 0 0), .int .i64 0]) zeroValue33 rfl rfl<|fun i6 => z2 (zAb rfl)<|z6<|zSr<|z2 (zk isAgg26 sizeOf26 rfl rfl)<|zc (plook_ok f hf hL hp) rfl<|z2 (zMu rfl)<|z2 (q9 (v := .pf _) rfl rfl)<|z2 (zXi rfl rfl)<|z2 (yv (v := .pf _) rfl)<|z2 (zAi rfl)<|z6<|za<|zSr<|z2 (zMi rfl)<|z2 (ya rfl rfl)<|z6<|yb rfl rfl<|ze<|zSr<|z2 (zMg rfl)<|z2 (zMi rfl)<|zc (pfirst_spec f hf hS b) rfl<|z2 (zMu rfl)<|z2 (zXi rfl rfl)<|z2 (zXb rfl rfl)<|z2 (zAi rfl)<|z2 (zAb rfl)<|z6<|za<|zSr<|z2 (zMb rfl)<|z2 (yc rfl)<|z2 (zMb rfl)<|zn (s := 29) rfl (fun c1=>?_) (fun c1=>?_)
 ·have h1 : ¬ 0 ≤ firstF f b := by simpa using c1
  refine z7 rfl rfl c1<|z7 rfl rfl c1<|z7 rfl rfl c1<|z7 rfl rfl c1<|z7 rfl rfl c1<|z7 rfl rfl c1<|z7 rfl rfl c1<|z7 rfl rfl c1<|z7 rfl rfl c1<|z7 rfl rfl c1<|z2 (zPt rfl c1 rfl)<|z6<|yg rfl rfl<|zSr<|z2 (zu (cps := []) (rs := [.int .i64 0, .int .i64 0, .raw (.slice none 0 0), .int .i64 0]) pl33 rfl rfl rfl)<|zb (GStep.slot (t := 41) rfl (Imp.agg (.cons (.refl _) (.cons (.refl _) (.cons (.nil 1) (.cons (.refl _) .nil))))))<|zo sizeOf33 rfl rfl rfl rfl rfl rfl .head rfl<|z2 (zAb rfl)<|z6<|zg<|afin.c1t (y := .bool _) rfl rfl ⟨_, .head⟩ isAgg33 sizeOf33 rfl ?_
  unfold gotF; rw [if_neg (fun h => h1 (hw ▸ h.1))]; rfl
 ·have h1 : 0 ≤ firstF f b := by simpa using c1
  obtain ⟨k, B, rfl, hget, hm, hlt, hIB⟩ := first_ge h1
  obtain ⟨a, ha⟩ : ∃ a, firstF f (k : Int) = a := ⟨_, rfl⟩
  rw [ha] at h1 hlt c1
  rw [ha, Int.max_eq_left h1]
  have hk : k < f.blocks.length := (List.getElem?_eq_some_iff.1 hget).1
  have hpl := inTo_len hf (k : Int)
  have hrow : (predsR f f.blocks.length)[k]? = some (inTo f (k : Int)) := predsR_row f hk
  refine z8 rfl rfl c1<|z2 (zMg rfl)<|z8 rfl rfl c1<|z2 (yn rfl)<|z8 rfl rfl c1<|z2 (zFF underlying105 rfl sizeOf103 rfl rfl)<|z8 rfl rfl c1<|z2 (zLf isAgg103 rfl)<|z8 rfl rfl c1<|z2 (zMi rfl)<|z8 rfl rfl c1<|z2 (zIM k underlying103 sizeOf23 rfl rfl rfl hrow)<|z8 rfl rfl c1<|z2 (zLf isAgg23 rfl)<|z8 rfl rfl c1<|z2 (zMi rfl)<|z8 rfl rfl c1<|zc (containsZ_spec (inTo f (k : Int)) p (by omega)) rfl<|z8 rfl rfl c1<|z2 (yc rfl)<|z2 (zPf rfl c1 rfl)<|z6<|zr rfl (fun c2=>?_) (fun c2=>?_)
  ·have h2 : p ∉ inTo f (k : Int) := by simpa using c2
   refine zSr<|z2 (zu (cps := []) (rs := [.int .i64 0, .int .i64 0, .raw (.slice none 0 0), .int .i64 0]) pl33 rfl rfl rfl)<|zb (GStep.slot (t := 41) rfl (Imp.agg (.cons (.refl _) (.cons (.refl _) (.cons (.nil 1) (.cons (.refl _) .nil))))))<|zo sizeOf33 rfl rfl rfl rfl rfl rfl .head rfl<|z2 (zAb rfl)<|z6<|zg<|afin.c1t (y := .bool _) rfl rfl ⟨_, .head⟩ isAgg33 sizeOf33 rfl ?_
   unfold gotF; rw [if_neg (fun h => h2 h.2)]; rfl
  ·have h2 : p ∈ inTo f (k : Int) := by simpa using c2
   obtain ⟨hp0, hpn⟩ := inTo_rng hE h2
   have hC : f.blocks[p.toNat]? = some (f.blocks[p.toNat]'(by omega)) := qc (by omega)
   obtain ⟨x, hx⟩ : ∃ x, fromF f k a p = x := ⟨_, rfl⟩
   have hfr := pfrom_spec (E := E) f hf hS k a p B hget h1 hlt
   rw [hx] at hfr
   obtain ⟨hb0, hb1, hb2, hb3, hb4⟩ := hf.2.2.2.2 B (List.mem_of_getElem? hget)
   have hxl : x.args.length ≤ 1000 := by
    rw [← hx]; unfold fromF instOf; rw [hIB, qc (by omega)]; simp; exact hb4 _ (qg _)
   refine ze<|zSr<|z2 (zMg rfl)<|z2 (zMi rfl)<|z2 (zMi rfl)<|z2 (zMi rfl)<|zc (hfr) rfl<|zy (cs := [.int .i64 0, .int .i64 0, .raw (.slice none 0 0), .int .i64 0]) zeroValue33 rfl rfl<|fun i12 => zo sizeOf33 rfl rfl rfl rfl rfl rfl .head rfl<|zb (y9 (t := 12) rfl .head)<|z6<|za<|y8 (fun j => Nat.beq j 8) (by kernel_rfl) rfl (zx (.rest _))<|zTk 0 rfl (zk isAgg33 sizeOf33 rfl rfl)<|AAny.takeK (i := 1) rfl (by kernel_rfl) (by kernel_rfl) (by kernel_rfl) (by kernel_rfl) (zMg rfl)<|AAny.takeK (i := 2) rfl (by kernel_rfl) (by kernel_rfl) (by kernel_rfl) (by kernel_rfl) (zk isAgg33 sizeOf33 rfl rfl)<|AAny.takeK (i := 3) rfl (by kernel_rfl) (by kernel_rfl) (by kernel_rfl) (by kernel_rfl) (zMi rfl)<|AAny.takeK (i := 4) rfl (by kernel_rfl) (by kernel_rfl) (by kernel_rfl) (by kernel_rfl) (zMi rfl)<|AAny.takeK (i := 5) rfl (by kernel_rfl) (by kernel_rfl) (by kernel_rfl) (by kernel_rfl) (zMi rfl)<|AAny.takeK (i := 6) rfl (by kernel_rfl) (by kernel_rfl) (by kernel_rfl) (by kernel_rfl) (zu (cps := [(0, [_]), (1, [_])]) (rs := [_, _]) pl109 rfl rfl rfl)<|zOn 7 rfl<|zc (ppassed_spec f hf hE x hxl p ((k : Int), a) _ hp0 hC) rfl<|z6<|yk<|yo (i := 8) rfl (by kernel_rfl) (by kernel_rfl)<|zo sizeOf33 rfl rfl rfl rfl rfl rfl .head rfl<|z6<|yo (i := 9) rfl (by kernel_rfl) (by kernel_rfl)<|z2 (zAb rfl)<|z6<|ym (by kernel_rfl)<|zg<|afin.c1t (y := .bool _) rfl rfl ⟨_, .head⟩ isAgg33 sizeOf33 rfl ?_
   unfold gotF; rw [hw, ha, if_pos ⟨h1, h2⟩, hx]; rfl
theorem pFrom_bad (f : PFunc) (hf : small f) (hL : Letters E) (hp : plB f = false) (b p : Int) : AFun prog E 14 [.agg (encF f), .int .i64 b, .int .i64 p] (.tup [.agg (encInst ⟨0, 0, [], 0⟩), .bool false]) := by
 refine zl func14 rfl (by decide) rfl<|zSr<|y4 (cs := _) rfl rfl rfl<|zy (cs := [.int .i64 0, .int .i64 0, .raw (.slice none 0 0), .int .i64 0]) zeroValue33 rfl rfl<|fun i6 => z2 (zAb rfl)<|z6<|zSr<|z2 (zk isAgg26 sizeOf26 rfl rfl)<|zc (plook_bad f hf hL hp) rfl<|z2 (zMu rfl)<|z2 (q9 (v := .raw _) rfl rfl)<|z2 (zXi rfl rfl)<|z2 (zAr rfl)<|z2 (zAi rfl)<|z6<|za<|zSr<|z2 (zMi rfl)<|z2 (ya rfl rfl)<|z6<|yg rfl rfl<|zSr<|z2 (zu (cps := []) (rs := [.int .i64 0, .int .i64 0, .raw (.slice none 0 0), .int .i64 0]) pl33 rfl rfl rfl)<|zb (GStep.slot (t := 20) rfl (Imp.agg (.cons (.refl _) (.cons (.refl _) (.cons (.nil 1) (.cons (.refl _) .nil))))))<|zo sizeOf33 rfl rfl rfl rfl rfl rfl .head rfl<|z2 (zAb rfl)<|z6<|zg<|afin.c1t (y := .bool _) rfl rfl ⟨_, .head⟩ isAgg33 sizeOf33 rfl ?_
 rfl
theorem pFrom_spec (f : PFunc) (hf : small f) (hL : Letters E) (b p : Int) : AFun prog E 14 [.agg (encF f), .int .i64 b, .int .i64 p] (.tup [.agg (encInst (gotF f b p).1), .bool (gotF f b p).2]) := by
 cases hp : plB f with
 | true => exact pFrom_ok f hf hL hp b p
 | false =>
  rw [show gotF f b p = (⟨0, 0, [], 0⟩, false) by unfold gotF wantF; rw [if_neg (fun h => by rw [if_neg (by rw [hp]; decide)] at h; omega)]]
  exact pFrom_bad f hf hL hp b p
end Go.Proofs.YtjnpcfpecilejaaGreatDoor
namespace Go.Proofs.YtjnpcfpecilejaaGreatDoor
open Go.Proofs.Tryz
open Go.Proofs Go.Lib Go.Shelf Go.RowKit
theorem pl56 : Places prog 56 #[(0, 1), (1, 1)] [.str ⟨#[]⟩, .int .i64 0] := ⟨_, _, underlying56, zeroValue56, fun w => by kernel_rfl, rfl⟩
theorem ps22_2 : PlacesS prog 22 56 2 2 [.str ⟨#[]⟩, .int .i64 0, .str ⟨#[]⟩, .int .i64 0] := ⟨_, underlying22, sizeOf56, zeroValue56, by decide, by decide, by kernel_rfl⟩
theorem pl64 : Places prog 64 #[(0, 1), (1, 1), (2, 2)] [.int .i64 0, .int .i64 0, .int .i64 0, .int .i64 0] := ⟨_, _, underlying64, zeroValue64, fun w => by kernel_rfl, rfl⟩
theorem ps24_4 : PlacesS prog 24 66 4 7 [.str ⟨#[]⟩, .raw (.slice none 0 0), .raw (.slice none 0 0), .int .i64 0, .int .i64 0, .int .i64 0, .int .i64 0, .str ⟨#[]⟩, .raw (.slice none 0 0), .raw (.slice none 0 0), .int .i64 0, .int .i64 0, .int .i64 0, .int .i64 0, .str ⟨#[]⟩, .raw (.slice none 0 0), .raw (.slice none 0 0), .int .i64 0, .int .i64 0, .int .i64 0, .int .i64 0, .str ⟨#[]⟩, .raw (.slice none 0 0), .raw (.slice none 0 0), .int .i64 0, .int .i64 0, .int .i64 0, .int .i64 0] := ⟨_, underlying24, sizeOf66, zeroValue66, by decide, by decide, by kernel_rfl⟩
variable {E : World}
set_option maxRecDepth 20000
def chk36 : PInst := ⟨20, -1, [0], 0⟩
def diaF (l r z : List PInst) : PFunc := ⟨[⟨⟨#[110]⟩, 0⟩, ⟨⟨#[99]⟩, 1⟩], [0, 1], [⟨⟨#[97]⟩, [], [], ⟨1, 1, 1, 2⟩⟩, ⟨⟨#[108]⟩, [], l, ⟨0, 0, 3, 0⟩⟩, ⟨⟨#[114]⟩, [], r, ⟨0, 0, 3, 0⟩⟩, ⟨⟨#[122]⟩, [], z, ⟨2, 0, 0, 0⟩⟩]⟩
theorem diamond_TF : AFun prog E 48 [.bool true, .bool false] (.agg (encF (diaF [chk36] [] [chk36]))) := by
 refine zl func48 rfl (by decide) rfl<|zSr<|zy (cs := [.raw (.slice none 0 0), .raw (.slice none 0 0), .raw (.slice none 0 0)]) zeroValue26 rfl rfl<|fun i4 => z6<|zSr<|zw (rows := [[_]]) ps23_1 rfl rfl rfl rfl rfl<|z2 (zu (cps := [(0, [_]), (1, [_]), (2, [_])]) (rs := [_, _, _, .int .i64 0]) pl33 rfl rfl rfl)<|zw (rows := [[_, _, _, _]]) ps60_1 rfl rfl rfl rfl rfl<|z2 (zAf rfl)<|z6<|zSr<|z2 (zu (cps := [(0, [_])]) (rs := [_, .int .i64 0]) pl56 rfl rfl rfl)<|z2 (zu (cps := [(0, [_]), (1, [_])]) (rs := [_, _]) pl56 rfl rfl rfl)<|zw (rows := [[_, _], [_, _]]) ps22_2 rfl rfl rfl rfl rfl<|zw (rows := [[_], [_]]) ps23_2 rfl rfl rfl rfl rfl<|z2 (Gv.buildA (cps := [(0, [_]), (1, [_])]) (rs := [_, _]) pl62 rfl rfl rfl)<|z2 (zu (cps := [(0, [_]), (1, [_]), (2, [_, _])]) (rs := [_, _, _, _]) pl64 rfl rfl rfl)<|z2 (zu (cps := [(0, [_]), (3, [_, _, _, _])]) (rs := [_, .raw (.slice none 0 0), .raw (.slice none 0 0), _, _, _, _]) pl66 rfl rfl rfl)<|zb (GStep.slot (t := 16) rfl (Imp.agg (.cons (.refl _) (.cons (.nil 3) (.cons (.nil 4) (.cons (.refl _) (.cons (.refl _) (.cons (.refl _) (.cons (.refl _) .nil)))))))))<|z2 (Gv.buildA (cps := [(0, [_]), (1, [_])]) (rs := [_, _]) pl62 rfl rfl rfl)<|z2 (zu (cps := [(2, [_, _])]) (rs := [.int .i64 0, .int .i64 0, _, _]) pl64 rfl rfl rfl)<|z2 (zu (cps := [(0, [_]), (3, [_, _, _, _])]) (rs := [_, .raw (.slice none 0 0), .raw (.slice none 0 0), _, _, _, _]) pl66 rfl rfl rfl)<|zb (GStep.slot (t := 19) rfl (Imp.agg (.cons (.refl _) (.cons (.nil 3) (.cons (.nil 4) (.cons (.refl _) (.cons (.refl _) (.cons (.refl _) (.cons (.refl _) .nil)))))))))<|z2 (Gv.buildA (cps := [(0, [_]), (1, [_])]) (rs := [_, _]) pl62 rfl rfl rfl)<|z2 (zu (cps := [(2, [_, _])]) (rs := [.int .i64 0, .int .i64 0, _, _]) pl64 rfl rfl rfl)<|z2 (zu (cps := [(0, [_]), (3, [_, _, _, _])]) (rs := [_, .raw (.slice none 0 0), .raw (.slice none 0 0), _, _, _, _]) pl66 rfl rfl rfl)<|zb (GStep.slot (t := 22) rfl (Imp.agg (.cons (.refl _) (.cons (.nil 3) (.cons (.nil 4) (.cons (.refl _) (.cons (.refl _) (.cons (.refl _) (.cons (.refl _) .nil)))))))))<|z2 (zMf rfl)<|z2 (zu (cps := [(0, [_])]) (rs := [_, .int .i64 0, .int .i64 0, .int .i64 0]) pl64 rfl rfl rfl)<|z2 (zu (cps := [(0, [_]), (2, [_]), (3, [_, _, _, _])]) (rs := [_, .raw (.slice none 0 0), _, _, _, _, _]) pl66 rfl rfl rfl)<|zb (GStep.slot (t := 25) rfl (Imp.agg (.cons (.refl _) (.cons (.nil 3) (.cons (.refl _) (.cons (.refl _) (.cons (.refl _) (.cons (.refl _) (.cons (.refl _) .nil)))))))))<|AOps.buildSliceO (cps := [(0, [_, _, _, _, _, _, _]), (1, [_, _, _, _, _, _, _]), (2, [_, _, _, _, _, _, _]), (3, [_, _, _, _, _, _, _])]) (rs := [_, _, _, _, _, _, _, _, _, _, _, _, _, _, _, _, _, _, _, _, _, _, _, _, _, _, _, _]) ps24_4 rfl rfl rfl rfl rfl<|fun i26 => z2 (zu (cps := [(0, [_]), (1, [_]), (2, [_])]) (rs := [_, _, _]) pl26 rfl rfl rfl)<|zy (cs := [.raw (.slice none 0 0), .raw (.slice none 0 0), .raw (.slice none 0 0)]) zeroValue26 rfl rfl<|fun i6 => zo sizeOf26 rfl rfl rfl rfl rfl rfl .head rfl<|z6<|za<|zSr ?_
 refine z2 (zMb rfl)<|z6<|yg rfl rfl<|zRg<|z2 (zm underlying26 rfl sizeOf24 (by decide) rfl rfl)<|z2 (zp (c := .own _ _) isAgg24 rfl ⟨_, .head⟩ rfl)<|z2 (zMf rfl)<|z2 (Gv.idxO (j := 1) underlying24 sizeOf66 rfl rfl rfl ⟨_, .t1⟩ (by intro h; cases h) (by omega))<|z2 (zm underlying66 rfl sizeOf60 (by decide) rfl rfl)<|AOps.storeGN (new := _) sizeOf60 rfl rfl rfl rfl rfl .t1 (by show 9 < 28; omega) rfl<|z6<|za<|zSr<|z2 (zMb rfl)<|z6<|yb rfl rfl<|yf (GStep.knowC (off := 2) (rows := (diaF [chk36] [] [chk36]).blocks.map encBlk) .t1 .head rfl (by decide) (by decide) (by rfl))<|ze<|zSr<|z2 (q6 isAgg26 sizeOf26 rfl ⟨_, .head⟩ rfl)<|zo sizeOf26 rfl rfl rfl rfl rfl rfl .t1 rfl<|z6<|zg<|afin.c1 rfl ⟨_, .t1⟩ isAgg26 sizeOf26 rfl ?_
 rfl
def preF : PFunc := diaF [chk36] [] [chk36]
def preG : PFunc := diaF [chk36] [chk36] []
theorem small_pre : small preF ∧ small preG := by unfold small preF preG diaF chk36; simp [smallBlk]; decide
theorem lastP_of {f : PFunc} (h : ∀ k, k < f.blocks.length → 0 ≤ firstF f (k : Int) → (instsAt f (k : Int)).length = (firstF f (k : Int)).toNat + 1) : lastP f := fun b hb => by
 obtain ⟨k, B, rfl, hget, _⟩ := first_ge hb
 exact h k (List.getElem?_eq_some_iff.1 hget).1 hb
theorem last_F : lastP preF := lastP_of (by decide +kernel)
theorem last_G : lastP preG := lastP_of (by decide +kernel)
theorem pl_F : plB preF = true := by decide +kernel
theorem pl_G : plB preG = true := by decide +kernel
theorem step_0 : (stepF preF true 0).2 = false ∧ (stepF preF true 1).2 = false ∧ (stepF preF true 2).2 = false := by decide +kernel
theorem step_3 : stepF preF true 3 = (preG, true) := by decide +kernel
theorem step_4 : (stepF preG true 3).2 = false := by decide +kernel
def trF (b : Nat) : PFunc := if b ≤ 3 then preF else preG
theorem tr_ok (b : Nat) (h : b < preF.blocks.length) : ∃ n, Mv (trF b) b n (trF (b + 1)) := by
 have h : b < 4 := h
 have hF : OkM preF := ⟨small_pre.1, last_F⟩
 have hG : OkM preG := ⟨small_pre.2, last_G⟩
 obtain rfl | rfl | rfl | rfl : b = 0 ∨ b = 1 ∨ b = 2 ∨ b = 3 := by omega
 ·exact ⟨0, .stop hF (by show (stepF preF (plB preF) 0).2 = false; rw [pl_F]; exact step_0.1)⟩
 ·exact ⟨0, .stop hF (by show (stepF preF (plB preF) 1).2 = false; rw [pl_F]; exact step_0.2.1)⟩
 ·exact ⟨0, .stop hF (by show (stepF preF (plB preF) 2).2 = false; rw [pl_F]; exact step_0.2.2)⟩
 ·refine ⟨1, .go hF (by show (stepF preF (plB preF) 3).2 = true; rw [pl_F, step_3]) ?_⟩
  show Mv (stepF preF (plB preF) 3).1 3 0 preG
  rw [pl_F, step_3]
  exact .stop hG (by rw [pl_G]; exact step_4)
theorem lives36_spec (hL : Letters E) : AFun prog E 11 [] (.bool true) := by
 have hM := Move_spec (E := E) preF small_pre.1 hL pl_F trF rfl tr_ok
 refine zl func11 rfl (by decide) rfl<|zSr<|z2 (zAb rfl)<|z6<|zSr<|zc (diamond_TF) rfl<|zc (hM) rfl<|z2 (zMu rfl)<|z2 (q9 (v := .agg _) rfl rfl)<|z2 (zXi rfl rfl)<|zy (cs := [.raw (.slice none 0 0), .raw (.slice none 0 0), .raw (.slice none 0 0)]) zeroValue26 rfl rfl<|fun i1 => zo sizeOf26 rfl rfl rfl rfl rfl rfl .head rfl<|zb (y9 (t := 1) rfl .head)<|z2 (zAi rfl)<|z6<|zSr<|z2 (zMi rfl)<|z2 (y6 rfl rfl)<|z2 (zMb rfl)<|z8 rfl rfl rfl<|z2 (zFF underlying26 rfl sizeOf24 rfl rfl)<|z8 rfl rfl rfl<|z2 (zLf isAgg24 rfl)<|z8 rfl rfl rfl<|z2 (zq underlying24 rfl)<|z8 rfl rfl rfl<|z2 (y6 rfl rfl)<|z2 (zPt rfl rfl rfl)<|z2 (zMb rfl)<|z8 rfl rfl rfl<|z2 (zFF underlying26 rfl sizeOf24 rfl rfl)<|z8 rfl rfl rfl<|z2 (zLf isAgg24 rfl)<|z8 rfl rfl rfl<|z2 (zIM 2 underlying24 sizeOf66 rfl rfl rfl rfl)<|z8 rfl rfl rfl<|z2 (zFF underlying66 rfl sizeOf60 rfl rfl)<|z8 rfl rfl rfl<|z2 (zLf isAgg60 rfl)<|z8 rfl rfl rfl ?_
 refine z2 (zq underlying60 rfl)<|z8 rfl rfl rfl<|z2 (y6 rfl rfl)<|z2 (zPt rfl rfl rfl)<|z2 (zMb rfl)<|z8 rfl rfl rfl<|z2 (zFF underlying26 rfl sizeOf24 rfl rfl)<|z8 rfl rfl rfl<|z2 (zLf isAgg24 rfl)<|z8 rfl rfl rfl<|z2 (zIM 3 underlying24 sizeOf66 rfl rfl rfl rfl)<|z8 rfl rfl rfl<|z2 (zFF underlying66 rfl sizeOf60 rfl rfl)<|z8 rfl rfl rfl<|z2 (zLf isAgg60 rfl)<|z8 rfl rfl rfl<|z2 (zq underlying60 rfl)<|z8 rfl rfl rfl<|z2 (y6 rfl rfl)<|z2 (zPt rfl rfl rfl)<|z2 (zMb rfl)<|z8 rfl rfl rfl<|z2 (zFF underlying26 rfl sizeOf24 rfl rfl)<|z8 rfl rfl rfl<|z2 (zLf isAgg24 rfl)<|z8 rfl rfl rfl<|z2 (zIM 2 underlying24 sizeOf66 rfl rfl rfl rfl)<|z8 rfl rfl rfl<|z2 (zFF underlying66 rfl sizeOf60 rfl rfl)<|z8 rfl rfl rfl<|z2 (zLf isAgg60 rfl)<|z8 rfl rfl rfl<|z2 (zIM 0 underlying60 sizeOf33 rfl rfl rfl rfl)<|z8 rfl rfl rfl<|z2 (zFF underlying33 rfl sizeOf31 rfl rfl)<|z8 rfl rfl rfl<|z2 (zLi isAgg31 rfl)<|z8 rfl rfl rfl<|z2 (y6 rfl rfl)<|z2 (zPt rfl rfl rfl)<|z2 (zAb rfl) ?_
 refine z6<|zg<|zj (x := .bool _) rfl ?_
 rfl
set_option maxHeartbeats 4000000 in
theorem preFirst_law (f : PFunc) (hw : wFunc f) (hL : Letters E) (b p : Int) : AFun prog E 3 [.agg (encF f), .int .i64 b, .int .i64 p] (.bool true) := by
 have hlv := lives36_spec (E := E) hL
 refine zl func3 rfl (by decide) rfl<|zSr<|y4 (cs := _) rfl rfl rfl<|z2 (zAb rfl)<|z6<|za<|zSr<|zc (hlv) rfl<|z2 (yc rfl)<|z2 (zMb rfl)<|z8 rfl rfl rfl<|z2 (zk isAgg26 sizeOf26 rfl rfl)<|z8 rfl rfl rfl<|zc (fewT_spec f hw) rfl<|z8 rfl rfl rfl<|z2 (yc rfl)<|z2 (zPf rfl rfl rfl)<|z6<|zr rfl (fun cf=>?_) (fun cf=>?_)
 ·refine zSr<|zc (hlv) rfl<|z2 (zAb rfl)<|z6<|zg<|zj (x := .bool _) rfl ?_
  rfl
 ·have hfew : fewB f = true := by cases h : fewB f; rw [h] at cf; simp at cf; rfl
  have hsm := ((fewB_iff f).1 hfew).small
  have hn := hsm.2.2.1
  have hlp : lawPlain f = plB f := by unfold lawPlain plB; rw [hfew, Bool.true_and]
  obtain ⟨G, hG⟩ : ∃ G, gotF f b p = G := ⟨_, rfl⟩
  have hfrom := pFrom_spec (E := E) f hsm hL b p
  rw [hG] at hfrom
  have hlpS := lawPlain_spec (E := E) f hw hL
  rw [hlp] at hlpS
  refine ze<|zSr<|z2 (zk isAgg26 sizeOf26 rfl rfl)<|z2 (zMi rfl)<|zc (pFirst_spec f hsm hL b) rfl<|z2 (zMu rfl)<|z2 (zXi rfl rfl)<|z2 (zXb rfl rfl)<|z2 (zAi rfl)<|z2 (zAb rfl)<|z6<|zSr<|z2 (zk isAgg26 sizeOf26 rfl rfl)<|z2 (zMi rfl)<|z2 (zMi rfl)<|zc (hfrom) rfl<|z2 (zMu rfl)<|z2 (q9 (v := .agg _) rfl rfl)<|z2 (zXb rfl rfl)<|zy (cs := [.int .i64 0, .int .i64 0, .raw (.slice none 0 0), .int .i64 0]) zeroValue33 rfl rfl<|fun i9 => zo sizeOf33 rfl rfl rfl rfl rfl rfl .head rfl<|zb (y9 (t := 9) rfl .head)<|z2 (zAb rfl)<|z6<|zSr<|z2 (zFF underlying26 rfl sizeOf24 rfl rfl)<|z2 (zLf isAgg24 rfl)<|z2 (zq underlying24 rfl)<|z2 (zAi rfl)<|z6<|zSr<|z2 (zAi rfl)<|z6<|za<|za<|yh (γ := Bool) [1, 2, 3, 7, 8, 9, 10, 11, 12] (fun v => [(48, .bool v)]) (fun v => []) (fun v => v = decide (plB f = true ∧ 0 ≤ b ∧ b < f.blocks.length)) ?_ (fun _ _ h => h) ?_
  ·refine zRg<|z2 (zk isAgg26 sizeOf26 rfl rfl)<|zc (hlpS) rfl<|z2 (zMb rfl)<|zn (s := 40) rfl (fun c1=>?_) (fun c1=>?_)
   ·have h1 : plB f = true := c1
    refine z8 rfl rfl c1<|z2 (zMi rfl)<|z8 rfl rfl c1<|z2 (yz rfl rfl)<|z2 (zPt rfl c1 rfl)<|z2 (zMb rfl)<|zn (s := 44) rfl (fun c2=>?_) (fun c2=>?_)
    ·have h2 : 0 ≤ b := by simpa using c2
     refine z8 rfl rfl c2<|z2 (zMi rfl)<|z8 rfl rfl c2<|z2 (zMi rfl)<|z8 rfl rfl c2<|z2 (y7 rfl rfl)<|z2 (zPt rfl c2 rfl)<|z6 ?_
     exact ⟨_, zR9, zR1, zLe, by rw [ql]; simp [h1, h2]⟩
    ·have h2 : ¬ 0 ≤ b := by simpa using c2
     refine z7 rfl rfl c2<|z7 rfl rfl c2<|z7 rfl rfl c2<|z2 (zPf rfl c2 rfl)<|z6 ?_
     exact ⟨_, zR9, zR1, zLe, by rw [qo (fun h => h2 h.2.1)]⟩
   ·have h1 : plB f = false := c1
    refine z7 rfl rfl c1<|z7 rfl rfl c1<|z2 (zPf rfl c1 rfl)<|z2 (zMb rfl)<|z7 rfl rfl rfl<|z7 rfl rfl rfl<|z7 rfl rfl rfl<|z2 (zPf rfl rfl rfl)<|z6 ?_
    exact ⟨_, zR9, zR1, zLe, by rw [qo (fun h => by rw [h1] at h; cases h.1)]⟩
  ·rintro v hv
   subst hv
   refine yh (γ := Int) [1, 2, 3, 7, 8, 9, 10, 11] (fun u => [(12, .int .i64 u)]) (fun u => []) (fun u => u = wantF f b) ?_ (fun _ _ h => h) ?_
   ·refine zr rfl (fun cw=>?_) (fun cw=>?_)
    ·obtain ⟨h1, h2, h3⟩ := of_decide_eq_true cw
     obtain ⟨k, rfl⟩ : ∃ k : Nat, b = (k : Int) := ⟨b.toNat, by omega⟩
     refine zRg<|z2 (zk isAgg26 sizeOf26 rfl rfl)<|z2 (zMi rfl)<|zc (refFirst36_spec f hsm (typedB_shaped (and3 h1).1) k (by omega)) rfl<|z2 (zAi rfl)<|z6 ?_
     exact ⟨_, zR8, zR1, zLe, by unfold wantF; rw [if_pos h1]⟩
    ·have hcw := of_decide_eq_false cw
     refine ze ?_
     exact ⟨_, zR8, zR1, zLe, by unfold wantF; split; (rename_i hp; unfold firstF; rw [if_neg (fun h => hcw ⟨hp, h.1⟩)]); rfl⟩
   ·rintro u hu
    subst hu
    refine za<|za<|yh (γ := Bool) [1, 2, 3, 9, 10, 11, 12] (fun v => [(61, .bool v)]) (fun v => []) (fun v => v = false) ?_ (fun _ _ h => h) ?_
    ·refine zRg<|z2 (zMb rfl)<|z2 (zMi rfl)<|z2 (yz rfl rfl)<|z2 (Gv.neqB underlying4 rfl rfl)<|z2 (zMb rfl)<|zn (s := 56) rfl (fun c1=>?_) (fun c1=>?_)
     ·exfalso; simp at c1
     ·refine z8 rfl rfl c1<|z2 (zMi rfl)<|z8 rfl rfl c1<|z2 (zMi rfl)<|z8 rfl rfl c1<|z2 (Gv.maxI rfl rfl)<|z8 rfl rfl c1<|z2 (ya rfl rfl)<|z2 (zPf rfl c1 rfl)<|z6 ?_
      exact ⟨_, zR7, zR1, zLe, by simp; split <;> omega⟩
    ·rintro v hv
     subst hv
     refine yb rfl rfl<|ze<|za<|za<|yh (γ := Bool) [1, 2, 3, 9, 10, 12] (fun v => [(79, .bool v)]) (fun v => []) (fun v => v = !decide (0 ≤ wantF f b ∧ p ∈ inTo f b)) ?_ (fun _ _ h => h) ?_
     ·refine zRg<|z2 (zMi rfl)<|z2 (y7 rfl rfl)<|z2 (zMb rfl)<|zn (s := 64) rfl (fun c1=>?_) (fun c1=>?_)
      ·have h1 : wantF f b < 0 := by simpa using c1
       refine z7 rfl rfl c1<|z7 rfl rfl c1<|z2 (zPt rfl c1 rfl)<|z2 (zMb rfl)<|z7 rfl rfl rfl<|z7 rfl rfl rfl<|z7 rfl rfl rfl<|z2 (zPt rfl rfl rfl)<|z2 (zMb rfl)<|z7 rfl rfl rfl<|z7 rfl rfl rfl<|z7 rfl rfl rfl<|z7 rfl rfl rfl<|z7 rfl rfl rfl<|z2 (zPt rfl rfl rfl)<|z6 ?_
       exact ⟨_, zR6, zR1, zLe, by rw [qo (fun h => by omega)]; rfl⟩
      ·have h1 : ¬ wantF f b < 0 := by simpa using c1
       refine z8 rfl rfl c1<|z2 (zMi rfl)<|z8 rfl rfl c1<|z2 (y7 rfl rfl)<|z2 (zPf rfl c1 rfl)<|z2 (zMb rfl)<|zn (s := 68) rfl (fun c2=>?_) (fun c2=>?_)
       ·have h2 : p < 0 := by simpa using c2
        refine z7 rfl rfl c2<|z7 rfl rfl c2<|z7 rfl rfl c2<|z2 (zPt rfl c2 rfl)<|z2 (zMb rfl)<|z7 rfl rfl rfl<|z7 rfl rfl rfl<|z7 rfl rfl rfl<|z7 rfl rfl rfl<|z7 rfl rfl rfl<|z2 (zPt rfl rfl rfl)<|z6 ?_
        exact ⟨_, zR6, zR1, zLe, by rw [qo (fun h => by have := (inTo_mem.1 h.2).1; omega)]; rfl⟩
       ·have h2 : ¬ p < 0 := by simpa using c2
        refine z8 rfl rfl c2<|z2 (zMi rfl)<|z8 rfl rfl c2<|z2 (zMi rfl)<|z8 rfl rfl c2<|z2 (yz rfl rfl)<|z2 (zPf rfl c2 rfl)<|z2 (zMb rfl)<|zn (s := 73) rfl (fun c3=>?_) (fun c3=>?_)
        ·have h3 : (f.blocks.length : Int) ≤ p := by simpa using c3
         refine z7 rfl rfl c3<|z7 rfl rfl c3<|z7 rfl rfl c3<|z7 rfl rfl c3<|z7 rfl rfl c3<|z2 (zPt rfl c3 rfl)<|z6 ?_
         exact ⟨_, zR6, zR1, zLe, by rw [qo (fun h => by have := (inTo_mem.1 h.2).1; omega)]; rfl⟩
        ·have h3 : ¬ (f.blocks.length : Int) ≤ p := by simpa using c3
         refine z8 rfl rfl c3<|z2 (zk isAgg26 sizeOf26 rfl rfl)<|z8 rfl rfl c3<|z2 (zMi rfl)<|z8 rfl rfl c3<|z2 (zMi rfl)<|z8 rfl rfl c3<|zc (leads_spec f hn p b (by omega) (by omega)) rfl<|z8 rfl rfl c3<|z2 (yc rfl)<|z2 (zPf rfl c3 rfl)<|z6 ?_
         exact ⟨_, zR6, zR1, zLe, by congr 1; rw [ql, qr, qr, inTo_mem]; exact ⟨fun h => ⟨by omega, ⟨by omega, by omega⟩, h⟩, fun h => h.2.2⟩⟩
     ·rintro v hv
      subst hv
      refine zr rfl (fun ce=>?_) (fun ce=>?_)
      ·have hno := ndT ce
       obtain rfl : G = (⟨0, 0, [], 0⟩, false) := by rw [← hG]; unfold gotF; rw [if_neg hno]
       refine zSr<|z2 (zMb rfl)<|z2 (yc rfl)<|z2 (zMb rfl)<|z8 rfl rfl rfl<|z2 (zFF underlying33 rfl sizeOf31 rfl rfl)<|z8 rfl rfl rfl<|z2 (zLi isAgg31 rfl)<|z8 rfl rfl rfl<|z2 (y6 rfl rfl)<|z2 (zPt rfl rfl rfl)<|z2 (zMb rfl)<|z8 rfl rfl rfl<|z2 (zFF underlying33 rfl sizeOf3 rfl rfl)<|z8 rfl rfl rfl<|z2 (zLi isAgg3 rfl)<|z8 rfl rfl rfl<|z2 (y6 rfl rfl)<|z2 (zPt rfl rfl rfl)<|z2 (zMb rfl)<|z8 rfl rfl rfl<|z2 (zFF underlying33 rfl sizeOf23 rfl rfl)<|z8 rfl rfl rfl<|z2 (zLf isAgg23 rfl)<|z8 rfl rfl rfl<|z2 (zq underlying23 rfl)<|z8 rfl rfl rfl<|z2 (y6 rfl rfl)<|z2 (zPt rfl rfl rfl)<|z2 (zAb rfl)<|z6<|zg<|zj (x := .bool _) rfl ?_
       rfl
      ·obtain ⟨h1, h2⟩ := ndF ce
       have hp : plB f = true := by
        cases hp : plB f with
        | true => rfl
        | false => unfold wantF at h1; rw [if_neg (by rw [hp]; decide)] at h1; omega
       have hwe : wantF f b = firstF f b := by unfold wantF; rw [if_pos hp]
       have ht := (and3 hp).1
       have hS := typedB_shaped ht
       have hE := typedB_ends ht
       obtain ⟨hJ, hA, ho, hBe⟩ := (singB_iff hE).1 (and3 (and3 hp).2).1
       have hGe : G = (fromF f b (firstF f b) p, passF f (fromF f b (firstF f b) p) p (b, firstF f b)) := by rw [← hG]; unfold gotF; rw [if_pos ⟨h1, h2⟩]
       rw [hwe] at h1
       obtain ⟨k, B, rfl, hget, hm, hlt, hIB⟩ := first_ge h1
       obtain ⟨a, ha⟩ : ∃ a, firstF f (k : Int) = a := ⟨_, rfl⟩
       obtain ⟨x, hx⟩ : ∃ x, fromF f k a p = x := ⟨_, rfl⟩
       rw [ha] at h1 hlt
       rw [ha, hx] at hGe
       rw [ha] at hwe
       have hfr := refFrom36_spec (E := E) f hsm hS ho hJ k a p B hget h1 hlt
       rw [hx] at hfr
       obtain ⟨hp0, hpn⟩ := inTo_rng hE h2
       have hC : f.blocks[p.toNat]? = some (f.blocks[p.toNat]'(by omega)) := qc (by omega)
       obtain ⟨hb0, hb1, hb2, hb3, hb4⟩ := hsm.2.2.2.2 B (List.mem_of_getElem? hget)
       have hxl : x.args.length ≤ 1000 := by
        rw [← hx]; unfold fromF instOf; rw [hIB, qc (by omega)]; simp; exact hb4 _ (qg _)
       have hxd : x.dst = -1 ∧ x.num = 0 := by rw [← hx]; exact ⟨rfl, rfl⟩
       have hIs := preIs_spec (E := E) x x.op x.args (by omega) (by omega)
       rw [qn rfl, qn rfl] at hIs
       subst hGe
       rw [hwe]
       refine ze<|zSr<|z2 (zk isAgg26 sizeOf26 rfl rfl)<|z2 (zMi rfl)<|z2 (zMi rfl)<|z2 (zMi rfl)<|zc (hfr) rfl<|zy (cs := [.int .i64 0, .int .i64 0, .raw (.slice none 0 0), .int .i64 0]) zeroValue33 rfl rfl<|fun i13 => zo sizeOf33 rfl rfl rfl rfl rfl rfl .head rfl<|zb (y9 (t := 13) rfl .head)<|z6<|zSr<|z2 (zk isAgg33 sizeOf33 rfl rfl)<|z2 (zFF underlying33 rfl sizeOf31 rfl rfl)<|z2 (zLi isAgg31 rfl)<|z2 (zFF underlying33 rfl sizeOf23 rfl rfl)<|z2 (zLf isAgg23 rfl)<|zc (hIs) rfl<|z2 (zMb rfl)<|z8 rfl rfl rfl<|z2 (zFF underlying33 rfl sizeOf3 rfl rfl)<|z8 rfl rfl rfl<|z2 (zLi isAgg3 rfl)<|z8 rfl rfl rfl<|z2 (y6 rfl rfl)<|z2 (zPt rfl rfl rfl)<|z2 (zMb rfl)<|z8 rfl rfl (by dsimp only; rw [hxd.1]; rfl)<|z2 (zFF underlying33 rfl sizeOf2 rfl rfl)<|z8 rfl rfl (by dsimp only; rw [hxd.1]; rfl)<|z2 (zLi isAgg2 rfl)<|z8 rfl rfl (by dsimp only; rw [hxd.1]; rfl)<|z2 (y6 rfl rfl)<|z2 (zPt rfl (by dsimp only; rw [hxd.1]; rfl) rfl)<|z2 (zMb rfl)<|z8 rfl rfl (by dsimp only; rw [hxd.2]; rfl)<|z2 (zMb rfl)<|z8 rfl rfl (by dsimp only; rw [hxd.2]; rfl)<|z2 (zk isAgg26 sizeOf26 rfl rfl)<|z8 rfl rfl (by dsimp only; rw [hxd.2]; rfl) ?_
       refine z2 (zk isAgg33 sizeOf33 rfl rfl)<|z8 rfl rfl (by dsimp only; rw [hxd.2]; rfl)<|z2 (zMi rfl)<|z8 rfl rfl (by dsimp only; rw [hxd.2]; rfl)<|z2 (zMi rfl)<|z8 rfl rfl (by dsimp only; rw [hxd.2]; rfl)<|z2 (zMi rfl)<|z8 rfl rfl (by dsimp only; rw [hxd.2]; rfl)<|zc (refPassed36_spec f hsm hE hA x hxl p k a _ hp0 hC) rfl<|z8 rfl rfl (by dsimp only; rw [hxd.2]; rfl)<|z2 (Gv.eqlB underlying4 rfl rfl)<|z2 (zPt rfl (by dsimp only; rw [hxd.2]; rfl) rfl)<|z2 (zAb rfl)<|z6<|zg<|zj (x := .bool _) rfl ?_
       exact jb (by simp)
end Go.Proofs.YtjnpcfpecilejaaGreatDoor
namespace Go.Proofs.YtjnpcfpecilejaaGreatDoor
open Go.Proofs.Tryz
open Go.Proofs Go.Lib Go.Shelf Go.RowKit Go.WideShapes
set_option maxRecDepth 20000
variable {W : World}
theorem decI : Dec prog W 3 encI (fun x => (Lit.int .i64 x).wf = true) := Dec.int underlying3
theorem decIs : Dec prog W 23 (fun l : List Int => [.fro 1 (l.map encI)]) wL := fun en held fuel cs x h => by
 obtain ⟨l, hl, r⟩ := Dec.slice (k := 1) underlying23 decI (by kernel_rfl) (by decide) en held fuel cs x h
 exact ⟨l, hl.2, r⟩
theorem decVar : Dec prog W 56 encVar (fun _ => True) := fun en held fuel cs x h => by
 obtain ⟨xs, n, _, _, hl, hxl, hf⟩ := DataW.trod_struct underlying56 h
 have hl : cs.length = 2 := hl.trans (by kernel_rfl)
 have hxl : xs.length = 2 := hxl
 obtain ⟨a, _, ra⟩ := Dec.at (o := 0) (k := 1) (hf 0 _ rfl) (Dec.str underlying9) (by omega) rfl (by kernel_rfl)
 obtain ⟨b, _, rb⟩ := Dec.at (o := 1) (k := 1) (hf 1 _ rfl) (Dec.int underlying54) (by omega) rfl (by kernel_rfl)
 exact ⟨⟨a, b⟩, trivial, yy (o := 0) ra (yy rb (RepL.fin hl))⟩
theorem decPhi : Dec prog W 95 encPhi wPhi := fun en held fuel cs x h => by
 obtain ⟨xs, n, _, _, hl, hxl, hf⟩ := DataW.trod_struct underlying95 h
 have hl : cs.length = 3 := hl.trans (by kernel_rfl)
 have hxl : xs.length = 3 := hxl
 obtain ⟨a, _, ra⟩ := Dec.at (o := 0) (k := 1) (hf 0 _ rfl) decI (by omega) rfl (by kernel_rfl)
 obtain ⟨b, hb, rb⟩ := Dec.at (o := 1) (k := 1) (hf 1 _ rfl) decIs (by omega) rfl (by kernel_rfl)
 obtain ⟨c, hc, rc⟩ := Dec.at (o := 2) (k := 1) (hf 2 _ rfl) decIs (by omega) rfl (by kernel_rfl)
 exact ⟨⟨a, b, c⟩, ⟨hb, hc⟩, yy (o := 0) ra (yy rb (yy rc (RepL.fin hl)))⟩
def wInst (x : PInst) : Prop := wL x.args ∧ (Lit.int .i64 x.num).wf = true
theorem decInst : Dec prog W 33 encInst wInst := fun en held fuel cs x h => by
 obtain ⟨xs, n, _, _, hl, hxl, hf⟩ := DataW.trod_struct underlying33 h
 have hl : cs.length = 4 := hl.trans (by kernel_rfl)
 have hxl : xs.length = 4 := hxl
 obtain ⟨a, _, ra⟩ := Dec.at (o := 0) (k := 1) (hf 0 _ rfl) (Dec.int underlying31) (by omega) rfl (by kernel_rfl)
 obtain ⟨b, _, rb⟩ := Dec.at (o := 1) (k := 1) (hf 1 _ rfl) decI (by omega) rfl (by kernel_rfl)
 obtain ⟨c, hc, rc⟩ := Dec.at (o := 2) (k := 1) (hf 2 _ rfl) decIs (by omega) rfl (by kernel_rfl)
 obtain ⟨d, hd, rd⟩ := Dec.at (o := 3) (k := 1) (hf 3 _ rfl) (Dec.int underlying2) (by omega) rfl (by kernel_rfl)
 exact ⟨⟨a, b, c, d⟩, ⟨hc, hd⟩, yy (o := 0) ra (yy rb (yy rc (yy rd (RepL.fin hl))))⟩
theorem decTerm : Dec prog W 64 encTerm (fun _ => True) := fun en held fuel cs x h => by
 obtain ⟨xs, n, _, _, hl, hxl, hf⟩ := DataW.trod_struct underlying64 h
 have hl : cs.length = 4 := hl.trans (by kernel_rfl)
 have hxl : xs.length = 3 := hxl
 obtain ⟨a, _, ra⟩ := Dec.at (o := 0) (k := 1) (hf 0 _ rfl) (Dec.int underlying61) (by omega) rfl (by kernel_rfl)
 obtain ⟨b, _, rb⟩ := Dec.at (o := 1) (k := 1) (hf 1 _ rfl) decI (by omega) rfl (by kernel_rfl)
 obtain ⟨c, _, rc⟩ := Dec.at (o := 2) (k := 2) (hf 2 _ rfl) (Dec.pair (k := 1) underlying62 decI (by kernel_rfl) (by kernel_rfl)) (by omega) rfl (by kernel_rfl)
 exact ⟨⟨a, b, c.1, c.2⟩, trivial, yy (o := 0) ra (yy rb (yy rc (RepL.fin hl)))⟩
def NumsI (f : PFunc) : Prop := ∀ b ∈ f.blocks, ∀ x ∈ b.insts, is64 x.num
def wBlkN (b : PBlock) : Prop := wBlk b ∧ ∀ x ∈ b.insts, -9223372036854775808 ≤ x.num ∧ x.num ≤ 9223372036854775807
theorem decBlkN : Dec prog W 66 encBlk wBlkN := fun en held fuel cs x h => by
 obtain ⟨xs, n, _, _, hl, hxl, hf⟩ := DataW.trod_struct underlying66 h
 have hl : cs.length = 7 := hl.trans (by kernel_rfl)
 have hxl : xs.length = 4 := hxl
 obtain ⟨a, _, ra⟩ := Dec.at (o := 0) (k := 1) (hf 0 _ rfl) (Dec.str underlying9) (by omega) rfl (by kernel_rfl)
 obtain ⟨b, hb, rb⟩ := Dec.at (o := 1) (k := 1) (hf 1 _ rfl) (Dec.slice (k := 3) underlying59 decPhi (by kernel_rfl) (by decide)) (by omega) rfl (by kernel_rfl)
 obtain ⟨c, hc, rc⟩ := Dec.at (o := 2) (k := 1) (hf 2 _ rfl) (Dec.slice (k := 4) underlying60 decInst (by kernel_rfl) (by decide)) (by omega) rfl (by kernel_rfl)
 obtain ⟨d, _, rd⟩ := Dec.at (o := 3) (k := 4) (hf 3 _ rfl) decTerm (by omega) rfl (by kernel_rfl)
 exact ⟨⟨a, b, c, d⟩, ⟨⟨hb.2, hc.2, hb.1, fun x hx => (hc.1 x hx).1⟩, fun x hx => by simpa [Lit.wf, IntKind.min, IntKind.max, IntKind.signed, IntKind.bits] using (hc.1 x hx).2⟩, yy (o := 0) ra (yy rb (yy rc (yy rd (RepL.fin hl))))⟩
theorem decFN : Dec prog W 26 encF (fun f => wFunc f ∧ NumsI f) := fun en held fuel cs x h => by
 obtain ⟨xs, n, _, _, hl, hxl, hf⟩ := DataW.trod_struct underlying26 h
 have hl : cs.length = 3 := hl.trans (by kernel_rfl)
 have hxl : xs.length = 3 := hxl
 obtain ⟨a, ha, ra⟩ := Dec.at (o := 0) (k := 1) (hf 0 _ rfl) (Dec.slice (k := 2) underlying22 decVar (by kernel_rfl) (by decide)) (by omega) rfl (by kernel_rfl)
 obtain ⟨b, hb, rb⟩ := Dec.at (o := 1) (k := 1) (hf 1 _ rfl) decIs (by omega) rfl (by kernel_rfl)
 obtain ⟨c, hc, rc⟩ := Dec.at (o := 2) (k := 1) (hf 2 _ rfl) (Dec.slice (k := 7) underlying24 decBlkN (by kernel_rfl) (by decide)) (by omega) rfl (by kernel_rfl)
 exact ⟨⟨a, b, c⟩, ⟨⟨ha.2, hb, hc.2, fun x hx => (hc.1 x hx).1⟩, fun x hx => (hc.1 x hx).2⟩, yy (o := 0) ra (yy rb (yy rc (RepL.fin hl)))⟩
theorem of_num {H : Type} {enc : TypeId × Value → H} {held : Bool} {T : TypeId} {base : Nat} {v : Value} {d : DataW H} {p : List MemPlace} (ht : prog.underlying T = some (.int .i64))
  (hv : Value.okWide prog W .any base T v) (h : DataW.Trod enc prog W 0 (fun _ => true) held T v d p) : ∃ n : Int, is64 n ∧ v = .int .i64 n := by
 obtain ⟨n, rfl⟩ := okWide_int ht hv
 obtain ⟨fuel, h⟩ := h
 obtain ⟨m, h1, h2⟩ := Dec.int ht enc held fuel _ _ h
 obtain ⟨v, _, e, h2, h3⟩ := h2
 cases e
 cases h2
 exact ⟨n, by simpa [is64, Lit.wf, IntKind.min, IntKind.max, IntKind.signed, IntKind.bits] using h1, rfl⟩
theorem of_struct {H : Type} {enc : TypeId × Value → H} {held : Bool} {α : Type} {T : TypeId} {e : α → List AV} {ok : α → Prop} {fs : Array Field} {base : Nat} {v : Value} {d : DataW H} {p : List MemPlace} (hd : Dec prog W T e ok) (ht : prog.underlying T = some (.struct fs))
  (hv : Value.okWide prog W .any base T v) (h : DataW.Trod enc prog W 0 (fun _ => true) held T v d p) : ∃ a, ok a ∧ RepV (I0 W) (.agg (e a)) v := by
 obtain ⟨cs, rfl, _⟩ := okWide_struct ht hv
 obtain ⟨fuel, h⟩ := h
 obtain ⟨a, h1, h2⟩ := hd enc held fuel _ _ h
 exact ⟨a, h1, cs.toList, by simp, h2⟩
theorem xTab : RExtra prog Tryz.lays200_ren := ⟨by kernel_rfl, by kernel_rfl, by kernel_rfl, by kernel_rfl, by kernel_rfl, by kernel_rfl, by kernel_rfl, by kernel_rfl⟩
theorem letters_of (h : Lib.VarReads prog W "unicode.properties" (Lib.tabData .u8 Lib.propertiesTab)) (h2 : Lib.VarReads prog W "unicode.Letter" (Lib.rtabData letterT)) : Letters W :=
 ⟨tabIs_of_reads (g := 0) (by kernel_rfl) (by kernel_rfl) underlying296 underlying5 (by kernel_rfl) (by kernel_rfl) h,
  rvar_of_reads { Tryz.lays200 with } xTab (name := "unicode.Letter") (g := 1) (by kernel_rfl) (by kernel_rfl) h2⟩
end Go.Proofs.YtjnpcfpecilejaaGreatDoor
namespace Go.Proofs.YtjnpcfpecilejaaGreatDoor
open Go.Proofs.Tryz
open Go.Proofs
theorem fMay : prog.mayEnter = true := by kernel_rfl
theorem fLift : (Rows.preFirstRow.lifted == prog.liftsFinal) = true := by kernel_rfl
theorem fMake : (prog.make == some Rows.preFirstRow.make) = true := by kernel_rfl
theorem fLaid : laidOutB prog = true := by kernel_rfl
theorem fRow : mapsRowed prog = true := by kernel_rfl
theorem fStop : (prog.stops == []) = true := by kernel_rfl
theorem fKnob : (prog.stopKnobs == []) = true := by kernel_rfl
theorem fKeys : (Rows.preFirstRow.plainKeys == prog.plainKeys) = true := by kernel_rfl
theorem fHeard : prog.stopsHeard = true := by kernel_rfl
theorem gIn : (Rows.preFirstRow.inPlace == prog.inPlace 3) = true := by kernel_rfl
theorem gUn : (Rows.preFirstRow.unfollowed == prog.unfollowed 3) = true := by kernel_rfl
theorem gRec : (Rows.preFirstRow.recurses == prog.recurses 3) = true := by kernel_rfl
theorem gNam : (Rows.preFirstRow.named == prog.varsNamed 3) = true := by kernel_rfl
theorem closed : joinedFacts prog 3 Tryz.f3 Rows.preFirstSpec Rows.preFirstRow = true := by
 unfold joinedFacts
 rw [fLaid, fRow, fStop, fKnob, gIn, gUn, gRec, gNam, fKeys, fHeard, fMay, fLift, fMake]
 kernel_rfl
end Go.Proofs.YtjnpcfpecilejaaGreatDoor
