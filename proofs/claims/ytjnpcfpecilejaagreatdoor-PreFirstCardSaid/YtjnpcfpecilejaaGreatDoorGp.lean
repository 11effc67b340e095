/- The last row of a slice of one's own is cut off, and cleared. No conditions but bounds. -/
import Derived.Test.YtjnpcfpecilejaaGreatDoorGo
import Derived.Test.YtjnpcfpecilejaaGreatDoorGe
import Derived.Test.YtjnpcfpecilejaaGreatDoorGc
import Derived.Test.YtjnpcfpecilejaaGreatDoorGh
set_option linter.unusedVariables false
set_option linter.unusedSimpArgs false
set_option linter.unusedSectionVars false
namespace Go.Proofs.YtjnpcfpecilejaaGreatDoor
open Go.Proofs.Tryz
open Go.Proofs Go.Lib Go.Shelf Go.RowKit
theorem pl33 : Places prog 33 #[(0, 1), (1, 1), (2, 1), (3, 1)] [.int .i64 0, .int .i64 0, .raw (.slice none 0 0), .int .i64 0] := ⟨_, _, underlying33, zeroValue33, fun w => by kernel_rfl, rfl⟩
variable {E : World}
set_option maxRecDepth 20000
theorem eq_plc (a b c d : Int) (w : World) : (Op.equalIn 10000 109 (.agg [.int .i64 a, .int .i64 b].toArray) (.agg [.int .i64 c, .int .i64 d].toArray)).run prog w = .ok (decide (a = c ∧ b = d)) w := by
 have hS : prog.underlying 109 = some (.struct (prog.fieldsOf 109)) := by kernel_rfl
 have hp : prog.stoodInHeld 109 = false := by kernel_rfl
 rw [show (10000 : Nat) = 9999 + 1 from rfl, run_equalIn_agg w 9999 _ _ _ hS hp]
 simp only [Program.fieldsOf, underlying109]
 simp [Op.eqFields, part, isAgg3, run_equalIn_int, underlying3]
 by_cases h1 : a = c <;> by_cases h2 : b = d <;> simp [h1, h2]
theorem find_none {α : Type} {p : α → Bool} {l : List α} (h : l.any p = false) : l.find? p = none := by
 rw [List.find?_eq_none]; intro x hx; rw [List.any_eq_false] at h; exact h x hx
theorem find_first {α : Type} {p : α → Bool} : ∀ {l : List α} {k : Nat} (h : k < l.length), (l.take k).any p = false → p l[k] = true → l.find? p = some l[k]
 | [], k, h, _, _ => by simp at h
 | x :: l, 0, _, _, h2 => by rw [List.find?_cons]; simp at h2; rw [h2]; rfl
 | x :: l, k + 1, h, h1, h2 => by
  simp only [List.take_succ_cons, List.any_cons, Bool.or_eq_false_iff] at h1
  rw [List.find?_cons, h1.1]
  exact find_first (by simpa using h) h1.2 (by simpa using h2)
set_option maxHeartbeats 4000000 in
theorem pfrom_spec (f : PFunc) (hf : small f) (hS : ShapedP f) (k : Nat) (a p : Int) (B : PBlock) (hget : f.blocks[k]? = some B) (h0 : 0 ≤ a) (ha : a < B.insts.length) :
  AFun prog E 52 [.pf (workL f), .int .i64 k, .int .i64 a, .int .i64 p] (.agg (encInst (fromF f k a p))) := by
 have hmem : B ∈ f.blocks := List.mem_of_getElem? hget
 obtain ⟨hb0, hb1, hb2, hb3, hb4⟩ := hf.2.2.2.2 B hmem
 obtain ⟨hPh, hIn, hTm⟩ := hS.2.2.2.2.2 B hmem
 obtain ⟨x, hx⟩ : ∃ x, B.insts[a.toNat]'(by omega) = x := ⟨_, rfl⟩
 have hxg : B.insts[a.toNat]? = some x := by rw [qc (by omega), hx]
 have hal := hb4 x (List.mem_of_getElem? hxg)
 have hI : instsAt f (k : Int) = B.insts := by unfold instsAt; rw [show ((k : Int)).toNat = k from rfl, hget]; rfl
 have hP : phisAt f (k : Int) = B.phis := by unfold phisAt; rw [show ((k : Int)).toNat = k from rfl, hget]; rfl
 have hO : instOf f (k : Int) a = x := by unfold instOf; rw [hI, hxg]; rfl
 have hF : fromF f k a p = ⟨x.op, -1, x.args.map (toV B.phis p), 0⟩ := by unfold fromF; rw [hO, hP]
 rw [hF]
 refine zl func52 rfl (by decide) rfl<|zSr<|zy (cs := [.int .i64 0, .int .i64 0, .raw (.slice none 0 0), .int .i64 0]) zeroValue33 rfl rfl<|fun i8 => z6<|zSr<|z2 (zMg rfl)<|z2 (yn rfl)<|z2 (zFF underlying105 rfl sizeOf26 rfl rfl)<|z2 (zFF underlying26 rfl sizeOf24 rfl rfl)<|z2 (zLf isAgg24 rfl)<|z2 (zMi rfl)<|z2 (zIM k underlying24 sizeOf66 rfl rfl rfl hget)<|z2 (zFF underlying66 rfl sizeOf60 rfl rfl)<|z2 (zLf isAgg60 rfl)<|z2 (zMi rfl)<|z2 (zIM a.toNat underlying60 sizeOf33 rfl rfl (by omega) hxg)<|z2 (zk isAgg33 sizeOf33 rfl rfl)<|zy (cs := [.int .i64 0, .int .i64 0, .raw (.slice none 0 0), .int .i64 0]) zeroValue33 rfl rfl<|fun i9 => zo sizeOf33 rfl rfl rfl rfl rfl rfl .head rfl<|zb (y9 (t := 9) rfl .head)<|z6<|zSr<|z2 (zFF underlying33 rfl sizeOf31 rfl rfl)<|z2 (zLi isAgg31 rfl)<|z2 (zu (cps := [(0, [_]), (1, [_])]) (rs := [_, _, .raw (.slice none 0 0), .int .i64 0]) pl33 rfl rfl rfl)<|zy (cs := [.int .i64 0, .int .i64 0, .raw (.slice none 0 0), .int .i64 0]) zeroValue33 rfl rfl<|fun i10 => zo sizeOf33 rfl rfl rfl rfl rfl rfl .head rfl<|z6<|adoptC_wp (off := 2) (k := 1) (T := 3) (fun _ => .head) rfl<|fun ia => yf (zf (zi .t1))<|za<|zSr<|z2 (zFF underlying33 rfl sizeOf23 rfl rfl)<|z2 (zLf isAgg23 rfl)<|z2 (zq underlying23 rfl)<|z2 (zMi rfl)<|z6 ?_
 refine zd<|y1 (γ := Nat × Nat) [0, 1, 3, 8, 10, 32, 33] (fun g => [(34, .int .i64 g.1)]) (fun g => [(i10, .cells 33 [.int .i64 x.op, .int .i64 (-1), .own g.2 g.1, .int .i64 0]), (g.2, .grow 1 3 (((x.args.take g.1).map (toV B.phis p)).map encI).flatten), (i8, .cells 33 [.int .i64 0, .int .i64 0, .raw (.slice none 0 0), .int .i64 0])]) (fun g => g.1 ≤ x.args.length) (fun g => x.args.length - g.1) (0, ia) zR1 zLe (qf _) ?_
 rintro ⟨j, ia⟩ hj
 try dsimp only at *
 refine zSr<|z2 (y7 rfl rfl)<|z6<|za<|zt rfl (fun cj=>?_) (fun cj=>?_)
 ·have hj2 : j < x.args.length := by simp at cj; omega
  obtain ⟨v, hv⟩ : ∃ v, x.args[j] = v := ⟨_, rfl⟩
  have hpush : ((((x.args.take j).map (toV B.phis p)).map encI).flatten ++ [[AV.int .i64 (toV B.phis p v)]].flatten) = (((x.args.take (j + 1)).map (toV B.phis p)).map encI).flatten := by
   rw [qd hj2, hv]; simp [encI]
  have hlen : (((x.args.take j).map (toV B.phis p)).map encI).flatten.length = j * 1 := by rw [grow_len (k := 1) (fun _ => rfl), qj, qm, Nat.min_eq_left hj]
  refine ze<|za<|zd<|zSr<|z2 (zIM j underlying23 sizeOf3 rfl rfl rfl (by rw [qc hj2, hv]))<|z2 (zLi isAgg3 rfl)<|z2 (zAi rfl)<|z6<|za<|zSr<|z2 (zMg rfl)<|z2 (yn rfl)<|z2 (zFF underlying105 rfl sizeOf26 rfl rfl)<|z2 (zFF underlying26 rfl sizeOf24 rfl rfl)<|z2 (zLf isAgg24 rfl)<|z2 (zMi rfl)<|z2 (zIM k underlying24 sizeOf66 rfl rfl rfl hget)<|z2 (zFF underlying66 rfl sizeOf59 rfl rfl)<|z2 (zLf isAgg59 rfl)<|z2 (zq underlying59 rfl)<|z2 (zMi rfl)<|z6<|yh (γ := Int) [0, 1, 3, 8, 10, 32, 33, 34] (fun y => [(12, .int .i64 y)]) (fun y => [(i10, .cells 33 [.int .i64 x.op, .int .i64 (-1), .own ia j, .int .i64 0]), (ia, .grow 1 3 (((x.args.take j).map (toV B.phis p)).map encI).flatten), (i8, .cells 33 [.int .i64 0, .int .i64 0, .raw (.slice none 0 0), .int .i64 0])]) (fun y => y = toV B.phis p v) ?_ (fun _ _ h => h) ?_
  ·refine zd<|y1 (γ := Nat) [0, 1, 3, 8, 10, 32, 33, 34, 46, 47] (fun q => [(48, .int .i64 q), (12, .int .i64 v)]) (fun q => [(i10, .cells 33 [.int .i64 x.op, .int .i64 (-1), .own ia j, .int .i64 0]), (ia, .grow 1 3 (((x.args.take j).map (toV B.phis p)).map encI).flatten), (i8, .cells 33 [.int .i64 0, .int .i64 0, .raw (.slice none 0 0), .int .i64 0])]) (fun q => q ≤ B.phis.length ∧ (B.phis.take q).any (comesB p v) = false) (fun q => B.phis.length - q) 0 zR2 zLe (⟨qf _, rfl⟩) ?_
   rintro q ⟨hq, hno⟩
   refine zSr<|z2 (y7 rfl rfl)<|z6<|za<|zt rfl (fun cq=>?_) (fun cq=>?_)
   ·have hq2 : q < B.phis.length := by simp at cq; omega
    obtain ⟨ph, hph⟩ : ∃ ph, B.phis[q] = ph := ⟨_, rfl⟩
    have hphm : ph ∈ B.phis := hph ▸ qg hq2
    obtain ⟨hpd, hpl, hpn, hpa, hpf⟩ := hPh ph hphm
    have hpb := hb3 ph hphm
    have hix := firstI_rng (fun x => decide (p = x)) ph.from_ 0
    obtain ⟨ix, hixe⟩ : ∃ ix, ixF ph.from_ p = ix := ⟨_, rfl⟩
    have hixe2 : firstI (fun x => decide (p = x)) ph.from_ 0 = ix := hixe
    rw [hixe2] at hix
    refine ze<|za<|zd<|zSr<|z2 (zIM q underlying59 sizeOf95 rfl rfl rfl (by rw [qc hq2, hph]))<|z2 (zk isAgg95 sizeOf95 rfl rfl)<|zy (cs := [.int .i64 0, .raw (.slice none 0 0), .raw (.slice none 0 0)]) zeroValue95 rfl rfl<|fun i14 => zo sizeOf95 rfl rfl rfl rfl rfl rfl .head rfl<|zb (y9 (t := 14) rfl .head)<|z6<|zSr<|z2 (zFF underlying95 rfl sizeOf23 rfl rfl)<|z2 (zLf isAgg23 rfl)<|z2 (zMi rfl)<|zc ((hixe2 ▸ indexZ_spec ph.from_ p (by omega))) rfl<|z2 (zAi rfl)<|z6<|zSr<|z2 (zFF underlying95 rfl sizeOf3 rfl rfl)<|z2 (zLi isAgg3 rfl)<|z2 (zMi rfl)<|z2 (y6 rfl rfl)<|z2 (zMb rfl)<|zn (s := 60) rfl (fun c1=>?_) (fun c1=>?_)
    ·have d1 : ph.dst = v := by simpa using c1
     refine z8 rfl rfl c1<|z2 (zMi rfl)<|z8 rfl rfl c1<|z2 (yz rfl rfl)<|z2 (zPt rfl c1 rfl)<|z6<|zr rfl (fun c2=>?_) (fun c2=>?_)
     ·have d2 : 0 ≤ ix := by simpa using c2
      obtain ⟨y, hy⟩ : ∃ y, ph.args[ix.toNat]'(by omega) = y := ⟨_, rfl⟩
      refine zSr<|z2 (zFF underlying95 rfl sizeOf23 rfl rfl)<|z2 (zLf isAgg23 rfl)<|z2 (zMi rfl)<|z2 (zIM ix.toNat underlying23 sizeOf3 rfl rfl (by omega) (by rw [qc (by omega), hy]))<|z2 (zLi isAgg3 rfl)<|z2 (zAi rfl)<|z6<|zz ?_
      exact ⟨y, zR8, zR1, zLe, by unfold toV; rw [find_first hq2 hno (by rw [hph]; unfold comesB; rw [hixe, qn d1, qn d2]; rfl), hph]; show y = (ph.args[(ixF ph.from_ p).toNat]?).getD v; rw [hixe, qc (by omega), hy]; rfl⟩
     ·have d2 : ¬ 0 ≤ ix := by simpa using c2
      refine ze<|zRg<|z2 (zAd rfl rfl)<|z2 (zMi rfl)<|z6 ?_
      exact ⟨q + 1, zR10, zR2, zLe, ⟨hq2, any_take hq2 hno (by rw [hph]; unfold comesB; rw [hixe, qo d2, Bool.and_false])⟩, by omega⟩
    ·have d1 : ¬ ph.dst = v := by simpa using c1
     refine z7 rfl rfl c1<|z7 rfl rfl c1<|z2 (zPf rfl c1 rfl)<|z6<|yb rfl rfl<|ze<|zRg<|z2 (zAd rfl rfl)<|z2 (zMi rfl)<|z6 ?_
     exact ⟨q + 1, zR10, zR2, zLe, ⟨hq2, any_take hq2 hno (by rw [hph]; unfold comesB; rw [qo d1]; rfl)⟩, by omega⟩
   ·have hqn : q = B.phis.length := by simp at cq; omega
    subst hqn
    rw [qh] at hno
    refine zz ?_
    exact ⟨v, zR8, zR1, zLe, by unfold toV; rw [find_none hno]; rfl⟩
  ·rintro y hy
   subst hy
   refine zRg<|z2 (zm underlying33 rfl sizeOf23 (by decide) rfl rfl)<|z2 (zp (c := .own _ _) isAgg23 rfl ⟨_, .head⟩ rfl)<|z2 (zMi rfl)<|zw (rows := [[_]]) ps23_1 rfl rfl rfl rfl rfl<|yd (k := 1) underlying23 type3 rfl rfl rfl rfl rfl (fun _ => .t1) hlen (by decide) rfl (by show (_ + 1) * 8 ≤ _; omega) (by show _ + 1 ≤ _; omega)<|fun i74 => z2 (zm underlying33 rfl sizeOf23 (by decide) rfl rfl)<|q7 (l := [_]) (new := [_, _, _, _]) sizeOf23 rfl rfl rfl rfl rfl rfl .head rfl rfl<|z6<|zRg<|z2 (zAd rfl rfl)<|z2 (zMi rfl)<|z6 ?_
   exact ⟨(j + 1, i74), zR7, zR1, ⟨_, (.refl _), by rw [← hpush]; rfl⟩, hj2, by dsimp only; omega⟩
 ·have hjn : j = x.args.length := by simp at cj; omega
  subst hjn
  rw [qh]
  refine zz<|yf (GStep.knowC (off := 2) (rows := (x.args.map (toV B.phis p)).map encI) .t1 .head rfl (by simp [encI, encVar, encPhi, encInst, encBlk]) (by decide) (by simp))<|zSr<|z2 (q6 isAgg33 sizeOf33 rfl ⟨_, .head⟩ rfl)<|zo sizeOf33 rfl rfl rfl rfl rfl rfl .t1 rfl<|z6<|zg<|afin.c1 rfl ⟨_, .t1⟩ isAgg33 sizeOf33 rfl ?_
  rfl
theorem pass_take {f : PFunc} {x : PInst} {i : Nat} {p : Int} {own : Plc} {l : List PInst} {k : Nat} (h : k < l.length) (h1 : (l.take k).zipIdx.any (passQ f x i p own) = false) (h2 : passQ f x i p own (l[k], k) = false) : (l.take (k + 1)).zipIdx.any (passQ f x i p own) = false := by
 rw [zipTake h, List.any_append, h1]; simp [h2]
theorem pass_hit {f : PFunc} {x : PInst} {i : Nat} {p : Int} {own : Plc} {l : List PInst} {k : Nat} (h : k < l.length) (h2 : passQ f x i p own (l[k], k) = true) : l.zipIdx.any (passQ f x i p own) = true :=
 List.any_eq_true.2 ⟨(l[k], k), List.mem_zipIdx_iff_getElem?.2 (qc h), h2⟩
set_option maxHeartbeats 4000000 in
theorem ppassed_spec (f : PFunc) (hf : small f) (hE : EndsOk f) (x : PInst) (hx : x.args.length ≤ 1000) (p : Int) (own : Plc) (C : PBlock) (h0 : 0 ≤ p) (hpC : f.blocks[p.toNat]? = some C) :
  AFun prog E 53 [.pf (workL f), .agg (encInst x), .int .i64 p, .agg [.int .i64 own.1, .int .i64 own.2]] (.bool (passF f x p own)) := by
 obtain ⟨o1, o2⟩ := own
 dsimp only
 have hn := hf.2.2.1
 have hla : lenAt f p = C.insts.length := by unfold lenAt; rw [hpC]; rfl
 have hCl := (hf.2.2.2.2 C (List.mem_of_getElem? hpC)).2.2.1
 refine zl func53 rfl (by decide) rfl<|zSr<|y4 (cs := _) rfl rfl rfl<|y4 (cs := _) rfl rfl rfl<|z2 (zAb rfl)<|z6<|za<|zSr<|z2 (zMg rfl)<|z2 (yn rfl)<|z2 (zFF underlying105 rfl sizeOf26 rfl rfl)<|z2 (zFF underlying26 rfl sizeOf24 rfl rfl)<|z2 (zLf isAgg24 rfl)<|z2 (zq underlying24 rfl)<|z2 (zMi rfl)<|z6<|zd<|y1 (γ := Nat) [0, 2, 5, 7, 18, 19] (fun i => [(20, .int .i64 i)]) (fun i => []) (fun i => i ≤ f.blocks.length ∧ (List.range i).any (passI f x p (o1, o2)) = false) (fun i => f.blocks.length - i) 0 zR1 zLe (⟨qf _, rfl⟩) ?_
 rintro i ⟨hi, hno⟩
 refine zSr<|z2 (y7 rfl rfl)<|z6<|za<|zt rfl (fun ci=>?_) (fun ci=>?_)
 ·have hi2 : i < f.blocks.length := by simp at ci; omega
  obtain ⟨b, hbi⟩ : ∃ b, f.blocks[i] = b := ⟨_, rfl⟩
  have hget : f.blocks[i]? = some b := by rw [qc hi2, hbi]
  obtain ⟨hb0, hb1, hb2, hb3, hb4⟩ := hf.2.2.2.2 b (hbi ▸ qg hi2)
  refine ze<|za<|zd<|zSr<|z2 (zMi rfl)<|z2 (zIM i underlying24 sizeOf66 rfl rfl rfl hget)<|z2 (zk isAgg66 sizeOf66 rfl rfl)<|zy (cs := [.str ⟨#[]⟩, .raw (.slice none 0 0), .raw (.slice none 0 0), .int .i64 0, .int .i64 0, .int .i64 0, .int .i64 0]) zeroValue66 rfl rfl<|fun i10 => z2 (zAi rfl)<|zo sizeOf66 rfl rfl rfl rfl rfl rfl .head rfl<|zb (y9 (t := 10) rfl .head)<|z6<|zSr<|z2 (zFF underlying66 rfl sizeOf60 rfl rfl)<|z2 (zLf isAgg60 rfl)<|z2 (zq underlying60 rfl)<|z2 (zMi rfl)<|z6<|zd<|y1 (γ := Nat) [0, 2, 5, 7, 9, 18, 19, 20, 26, 27] (fun k => [(28, .int .i64 k)]) (fun k => []) (fun k => k ≤ b.insts.length ∧ (b.insts.take k).zipIdx.any (passQ f x i p (o1, o2)) = false) (fun k => b.insts.length - k) 0 zR1 zLe (⟨qf _, rfl⟩) ?_
  rintro k ⟨hk, hkno⟩
  refine zSr<|z2 (y7 rfl rfl)<|z6<|za<|zt rfl (fun ck=>?_) (fun ck=>?_)
  ·have hk2 : k < b.insts.length := by simp at ck; omega
   obtain ⟨y, hy⟩ : ∃ y, b.insts[k] = y := ⟨_, rfl⟩
   have hyl := hb4 y (hy ▸ qg hk2)
   have hQ : passQ f x i p (o1, o2) (b.insts[k], k) = (decide (y.op = x.op) && (decide (y.args = x.args) && (!decide (((i : Int), (k : Int)) = (o1, o2)) && aheadB f ((i : Int), (k : Int)) p (C.insts.length : Int)))) := by rw [hy]; unfold passQ; rw [hla]
   refine ze<|za<|zd<|zSr<|z2 (zMi rfl)<|z2 (zIM k underlying60 sizeOf33 rfl rfl rfl (by rw [qc hk2, hy]))<|z2 (zk isAgg33 sizeOf33 rfl rfl)<|zy (cs := [.int .i64 0, .int .i64 0, .raw (.slice none 0 0), .int .i64 0]) zeroValue33 rfl rfl<|fun i12 => z2 (zAi rfl)<|zo sizeOf33 rfl rfl rfl rfl rfl rfl .head rfl<|zb (y9 (t := 12) rfl .head)<|z6<|zSr<|z2 (zMi rfl)<|z2 (zMi rfl)<|z2 (zu (cps := [(0, [_]), (1, [_])]) (rs := [_, _]) pl109 rfl rfl rfl)<|zy (cs := [.int .i64 0, .int .i64 0]) zeroValue109 rfl rfl<|fun i13 => zo sizeOf109 rfl rfl rfl rfl rfl rfl .head rfl<|zb (y9 (t := 13) rfl .head)<|z6<|za<|yh (γ := Bool) [0, 2, 5, 7, 9, 18, 19, 20, 26, 27, 28] (fun u => [(71, .bool u)]) (fun u => []) (fun u => u = passQ f x i p (o1, o2) (b.insts[k], k)) ?_ (fun _ _ h => h) ?_
   ·refine y8 (fun j => false) (by kernel_rfl) rfl (zx (.rest _))<|zTk 0 rfl (zFF underlying33 rfl sizeOf31 rfl rfl)<|zTk 1 rfl (zLi isAgg31 rfl)<|zTk 2 rfl (zFF underlying33 rfl sizeOf31 rfl rfl)<|zTk 3 rfl (zLi isAgg31 rfl)<|zTk 4 rfl (y6 rfl rfl)<|zTk 5 rfl (zMb rfl)<|qb (s := 41) rfl (fun c1=>?_) (fun c1=>?_)
    ·refine zTt 6 rfl rfl rfl c1 (zFF underlying33 rfl sizeOf23 rfl rfl)<|zTt 7 rfl rfl rfl c1 (zLf isAgg23 rfl)<|zTt 8 rfl rfl rfl c1 (zFF underlying33 rfl sizeOf23 rfl rfl)<|zTt 9 rfl rfl rfl c1 (zLf isAgg23 rfl)<|zOn 10 rfl<|z8 rfl rfl c1<|zc (equalI_spec y.args x.args (by unfold okL; omega)) rfl<|z6<|zTk 11 rfl (zPt rfl c1 rfl)<|zTk 12 rfl (zMb rfl)<|qb (s := 48) rfl (fun c2=>?_) (fun c2=>?_)
     ·refine zTt 13 rfl rfl rfl c2 (zk isAgg109 sizeOf109 rfl rfl)<|zTt 14 rfl rfl rfl c2 (zk isAgg109 sizeOf109 rfl rfl)<|zTt 15 rfl rfl rfl c2 (Gv.neqP (xs := [.int _ _, .int _ _]) (ys := [.int _ _, .int _ _]) (by kernel_rfl) rfl rfl (fun w => eq_plc _ _ _ _ w))<|zTk 16 rfl (zPt rfl c2 rfl)<|zTk 17 rfl (zMb rfl)<|qb (s := 53) rfl (fun c3=>?_) (fun c3=>?_)
      ·refine zTt 18 rfl rfl rfl c3 (zMg rfl)<|zTt 19 rfl rfl rfl c3 (yn rfl)<|zTt 20 rfl rfl rfl c3 (zFF underlying105 rfl sizeOf101 rfl rfl)<|zTt 21 rfl rfl rfl c3 (yw (c := .pf _) isAgg101 rfl)<|zTt 22 rfl rfl rfl c3 (zk isAgg109 sizeOf109 rfl rfl)<|zTt 23 rfl rfl rfl c3 (zMi rfl)<|zTt 24 rfl rfl rfl c3 (zMg rfl)<|zTt 25 rfl rfl rfl c3 (yn rfl)<|zTt 26 rfl rfl rfl c3 (zFF underlying105 rfl sizeOf26 rfl rfl)<|zTt 27 rfl rfl rfl c3 (zFF underlying26 rfl sizeOf24 rfl rfl)<|zTt 28 rfl rfl rfl c3 (zLf isAgg24 rfl)<|zTt 29 rfl rfl rfl c3 (zMi rfl)<|zTt 30 rfl rfl rfl c3 (zIM p.toNat underlying24 sizeOf66 rfl rfl (by omega) hpC)<|zTt 31 rfl rfl rfl c3 (zFF underlying66 rfl sizeOf60 rfl rfl)<|zTt 32 rfl rfl rfl c3 (zLf isAgg60 rfl)<|zTt 33 rfl rfl rfl c3 (zq underlying60 rfl)<|zOn 34 rfl<|z8 rfl rfl c3<|zc (ahead_spec f hE hn ((i : Int), (k : Int)) p C.insts.length (froN eI (kidsR f)) .any) rfl<|z6<|zTk 35 rfl (zPt rfl c3 rfl)<|zDn ?_
       exact ⟨_, zR11, zR1, zLe, by rw [hQ]; simp_all⟩
      ·refine zTf 18 rfl rfl rfl c3<|zTf 19 rfl rfl rfl c3<|zTf 20 rfl rfl rfl c3<|zTf 21 rfl rfl rfl c3<|zTf 22 rfl rfl rfl c3<|zTf 23 rfl rfl rfl c3<|zTf 24 rfl rfl rfl c3<|zTf 25 rfl rfl rfl c3<|zTf 26 rfl rfl rfl c3<|zTf 27 rfl rfl rfl c3<|zTf 28 rfl rfl rfl c3<|zTf 29 rfl rfl rfl c3<|zTf 30 rfl rfl rfl c3<|zTf 31 rfl rfl rfl c3<|zTf 32 rfl rfl rfl c3<|zTf 33 rfl rfl rfl c3<|zTf 34 rfl rfl rfl c3<|zTk 35 rfl (zPf rfl c3 rfl)<|zDn ?_
       exact ⟨_, zR11, zR1, zLe, by rw [hQ]; simp_all⟩
     ·refine zTf 13 rfl rfl rfl c2<|zTf 14 rfl rfl rfl c2<|zTf 15 rfl rfl rfl c2<|zTk 16 rfl (zPf rfl c2 rfl)<|zTk 17 rfl (zMb rfl)<|zTf 18 rfl rfl rfl rfl<|zTf 19 rfl rfl rfl rfl<|zTf 20 rfl rfl rfl rfl<|zTf 21 rfl rfl rfl rfl<|zTf 22 rfl rfl rfl rfl<|zTf 23 rfl rfl rfl rfl<|zTf 24 rfl rfl rfl rfl<|zTf 25 rfl rfl rfl rfl<|zTf 26 rfl rfl rfl rfl<|zTf 27 rfl rfl rfl rfl<|zTf 28 rfl rfl rfl rfl<|zTf 29 rfl rfl rfl rfl<|zTf 30 rfl rfl rfl rfl<|zTf 31 rfl rfl rfl rfl<|zTf 32 rfl rfl rfl rfl<|zTf 33 rfl rfl rfl rfl<|zTf 34 rfl rfl rfl rfl<|zTk 35 rfl (zPf rfl rfl rfl)<|zDn ?_
      exact ⟨_, zR11, zR1, zLe, by rw [hQ]; simp_all⟩
    ·refine zTf 6 rfl rfl rfl c1<|zTf 7 rfl rfl rfl c1<|zTf 8 rfl rfl rfl c1<|zTf 9 rfl rfl rfl c1<|zTf 10 rfl rfl rfl c1<|zTk 11 rfl (zPf rfl c1 rfl)<|zTk 12 rfl (zMb rfl)<|zTf 13 rfl rfl rfl rfl<|zTf 14 rfl rfl rfl rfl<|zTf 15 rfl rfl rfl rfl<|zTk 16 rfl (zPf rfl rfl rfl)<|zTk 17 rfl (zMb rfl)<|zTf 18 rfl rfl rfl rfl<|zTf 19 rfl rfl rfl rfl<|zTf 20 rfl rfl rfl rfl<|zTf 21 rfl rfl rfl rfl<|zTf 22 rfl rfl rfl rfl<|zTf 23 rfl rfl rfl rfl<|zTf 24 rfl rfl rfl rfl<|zTf 25 rfl rfl rfl rfl<|zTf 26 rfl rfl rfl rfl<|zTf 27 rfl rfl rfl rfl<|zTf 28 rfl rfl rfl rfl<|zTf 29 rfl rfl rfl rfl<|zTf 30 rfl rfl rfl rfl<|zTf 31 rfl rfl rfl rfl<|zTf 32 rfl rfl rfl rfl<|zTf 33 rfl rfl rfl rfl<|zTf 34 rfl rfl rfl rfl<|zTk 35 rfl (zPf rfl rfl rfl)<|zDn ?_
     exact ⟨_, zR11, zR1, zLe, by rw [hQ]; simp_all⟩
   ·rintro u hu
    subst hu
    refine zr rfl (fun ch=>?_) (fun ch=>?_)
    ·refine zSr<|z2 (zAb rfl)<|z6<|zg<|zj (x := .bool _) rfl ?_
     rw [passF, range_any_hit hi2 (by rw [passI_at hget]; exact pass_hit hk2 ch)]
    ·refine ze<|zRg<|z2 (zAd rfl rfl)<|z2 (zMi rfl)<|z6 ?_
     exact ⟨k + 1, zR10, zR1, zLe, ⟨hk2, pass_take hk2 hkno (by simpa using ch)⟩, by omega⟩
  ·have hkn : k = b.insts.length := by simp at ck; omega
   subst hkn
   rw [qh] at hkno
   refine zz<|zRg<|z2 (zAd rfl rfl)<|z2 (zMi rfl)<|z6 ?_
   exact ⟨i + 1, zR6, zR1, zLe, ⟨hi2, range_any_succ hno (by rw [passI_at hget]; exact hkno)⟩, by omega⟩
 ·have hin : i = f.blocks.length := by simp at ci; omega
  subst hin
  refine zz<|zSr<|z2 (zAb rfl)<|z6<|zg<|zj (x := .bool _) rfl ?_
  rw [passF, hno]
end Go.Proofs.YtjnpcfpecilejaaGreatDoor
namespace Go.Proofs.YtjnpcfpecilejaaGreatDoor
open Go.Proofs.Tryz
variable {α : Type}
def mg (k : Int) : List (Int × List α) → List α
 | [] => []
 | (k', r) :: es => if k = k' then r else mg k es
def ms (k : Int) (r : List α) : List (Int × List α) → List (Int × List α)
 | [] => [(k, r)]
 | (k', r') :: es => if k = k' then (k, r) :: es else (k', r') :: ms k r es
def kv (k : Int) : Value := .int .i64 k
theorem kv_now (k k' : Int) : Instr.sameNow (.int .i64) (kv k) (kv k') = some (decide (k = k')) := by
 simp [Instr.sameNow, kv]; by_cases h : k = k' <;> simp [h]
inductive MapR (c : Enc α) (e : TypeId) : List (Int × List α) → List (Value × Value) → List (Nat × Obj) → Prop
 | nil : MapR c e [] [] []
 | cons {k r es a n cap hs A B} : OwnS c.k e a n cap (c.vs r) A → MapR c e es hs B → MapR c e ((k, r) :: es) ((kv k, .slice a n cap) :: hs) (A ++ B)
theorem MapR.get {c : Enc α} {e : TypeId} {k : Int} : ∀ {l : List MapEntry} {es : List (Int × List α)} {L : List (Nat × Obj)} (i : Nat), MapR c e es (l.map fun e => (e.key, e.val)) L →
  (Instr.findNow (.int .i64) (kv k) l i = some none ∧ mg k es = [] ∧ ∀ r' a' n' c' A', OwnS c.k e a' n' c' (c.vs r') A' → ∃ L', MapR c e (ms k r' es) (l.map (fun e => (e.key, e.val)) ++ [(kv k, .slice a' n' c')]) L' ∧ L'.Perm (A' ++ L)) ∨
  (∃ j e0 a n cap A B, Instr.findNow (.int .i64) (kv k) l i = some (some (i + j, .slice a n cap)) ∧ l[j]? = some e0 ∧ e0.key = kv k ∧ OwnS c.k e a n cap (c.vs (mg k es)) A ∧ L.Perm (A ++ B) ∧
   ∀ r' a' n' c' A', OwnS c.k e a' n' c' (c.vs r') A' → ∃ L', MapR c e (ms k r' es) ((l.map fun e => (e.key, e.val)).set j (kv k, .slice a' n' c')) L' ∧ L'.Perm (A' ++ B))
 | [], es, L, i, h => by
  cases h
  exact .inl ⟨rfl, rfl, fun r' a' n' c' A' h => ⟨_, by simpa [ms] using MapR.cons (k := k) h .nil, by simp⟩⟩
 | x :: l, es, L, i, h => by
  generalize hl : ((x :: l).map fun e => (e.key, e.val)) = hs0 at h
  cases h with
  | nil => simp at hl
  | @cons k1 r es a n cap hs A B h1 h2 =>
   simp only [List.map_cons, List.cons.injEq, Prod.mk.injEq] at hl
   obtain ⟨⟨hk, hv⟩, rfl⟩ := hl
   by_cases e1 : k = k1
   ·subst e1
    right
    refine ⟨0, x, a, n, cap, A, B, ?_, rfl, hk, by simpa [mg] using h1, .refl _, fun r' a' n' c' A' h => ⟨A' ++ B, ?_, .refl _⟩⟩
    ·unfold Instr.findNow; rw [hk, kv_now, qn rfl]; simp [hv]
    ·simp only [ms, if_pos, List.map_cons, List.set_cons_zero]
     exact .cons h h2
   ·have hf : Instr.findNow (.int .i64) (kv k) (x :: l) i = Instr.findNow (.int .i64) (kv k) l (i + 1) := by
     rw [Instr.findNow, hk, kv_now, qo e1]
    have hg : mg k ((k1, r) :: es) = mg k es := by simp [mg, e1]
    have hms : ∀ r', ms k r' ((k1, r) :: es) = (k1, r) :: ms k r' es := fun r' => by simp [ms, e1]
    rw [hf, hg]
    rcases MapR.get (k := k) (i + 1) h2 with ⟨g1, g2, g3⟩ | ⟨j, e0, a1, n1, c1, A1, B1, g1, g2, g3, g4, g5, g6⟩
    ·left
     refine ⟨g1, g2, fun r' a' n' c' A' h => ?_⟩
     obtain ⟨L', q1, q2⟩ := g3 r' a' n' c' A' h
     refine ⟨A ++ L', ?_, ?_⟩
     ·rw [hms, List.cons_append]; exact .cons h1 q1
     ·refine (q2.append_left A).trans ?_
      rw [← qe, ← qe]
      exact List.perm_append_comm.append_right B
    ·right
     refine ⟨j + 1, e0, a1, n1, c1, A1, A ++ B1, by rw [g1]; congr 3; omega, by simpa using g2, g3, g4, ?_, fun r' a' n' c' A' h => ?_⟩
     ·refine (g5.append_left A).trans ?_
      rw [← qe, ← qe]
      exact List.perm_append_comm.append_right B1
     ·obtain ⟨L', q1, q2⟩ := g6 r' a' n' c' A' h
      refine ⟨A ++ L', ?_, ?_⟩
      ·rw [hms, List.set_cons_succ]; exact .cons h1 q1
      ·refine (q2.append_left A).trans ?_
       rw [← qe, ← qe]
       exact List.perm_append_comm.append_right B1
section
variable {E : World} {P : Program} {ops : Array Oper} {K : AEnv → OL → Prop} {env : AEnv} {O O' O'' : OL} {rest : List Oper} {n : Nat}
variable {d ty : Nat} {pos : String} {af : Array Edge} {x y z : Operand} {t u e T kt : TypeId} {b : Nat}
def FroM (c : Enc α) (I : G) : List (Int × List α) → List (Value × Value) → Prop
 | [], hs => hs = []
 | (k, r) :: es, hs => ∃ v hs', hs = (kv k, v) :: hs' ∧ RepV I (.fro c.k (r.map c.row)) v ∧ FroM c I es hs'
theorem FroM.mono {c : Enc α} {I J : G} (h : I.le J) : ∀ {es : List (Int × List α)} {hs : List (Value × Value)}, FroM c I es hs → FroM c J es hs
 | [], _, e => e
 | (_, _) :: _, _, ⟨v, hs', e, h1, h2⟩ => ⟨v, hs', e, q4 h _ _ h1, FroM.mono h h2⟩
theorem MapR.fro {c : Enc α} {I : G} {e : TypeId} {es : List (Int × List α)} {hs : List (Value × Value)} {B : List (Nat × Obj)} (h : MapR c e es hs B) (hI : ∀ x ∈ B, I.k x.1 = some x.2) : FroM c I es hs := by
 induction h with
 | nil => rfl
 | cons h1 _ ih => exact ⟨_, _, rfl, h1.fro fun x hx => hI x (List.mem_append_left _ hx), ih fun x hx => hI x (List.mem_append_right _ hx)⟩
theorem FroM.get {c : Enc α} {I : G} {k : Int} : ∀ {l : List MapEntry} {es : List (Int × List α)} (i : Nat), FroM c I es (l.map fun e => (e.key, e.val)) →
  (Instr.findNow (.int .i64) (kv k) l i = some none ∧ mg k es = []) ∨ (∃ j v, Instr.findNow (.int .i64) (kv k) l i = some (some (j, v)) ∧ RepV I (.fro c.k ((mg k es).map c.row)) v)
 | [], [], i, _ => .inl ⟨rfl, rfl⟩
 | _ :: _, [], _, h => by cases h
 | [], (_, _) :: _, _, ⟨_, _, e, _⟩ => by cases e
 | x :: l, (k1, r) :: es, i, ⟨v, hs', e, h1, h2⟩ => by
  simp only [List.map_cons, List.cons.injEq, Prod.mk.injEq] at e
  obtain ⟨⟨hk, hv⟩, rfl⟩ := e
  by_cases e1 : k = k1
  ·subst e1
   right
   refine ⟨i, v, ?_, by simpa [mg] using h1⟩
   unfold Instr.findNow; rw [hk, kv_now, qn rfl]; simp [hv]
  ·have hf : Instr.findNow (.int .i64) (kv k) (x :: l) i = Instr.findNow (.int .i64) (kv k) l (i + 1) := by
    rw [Instr.findNow, hk, kv_now, qo e1]
   rw [hf, show mg k ((k1, r) :: es) = mg k es by simp [mg, e1]]
   exact FroM.get (i + 1) h2
end
end Go.Proofs.YtjnpcfpecilejaaGreatDoor
namespace Go.Proofs.YtjnpcfpecilejaaGreatDoor
open Go.Proofs.Tryz
def hAdd (h : Rng × Bool) (n : Int) (fits : Bool) (e : Int) : Rng × Bool := (rJoin h.1 (rOf (if fits then n else e)), h.2 || !fits)
def h4 (h : Rng × Bool) (a b : Rng) (n : Int → Int → Int) (fit : Int → Int → Bool) (e : Int → Int → Int) : Rng × Bool :=
 hAdd (hAdd (hAdd (hAdd h (n a.1 b.1) (fit a.1 b.1) (e a.1 b.1)) (n a.1 b.2) (fit a.1 b.2) (e a.1 b.2)) (n a.2 b.1) (fit a.2 b.1) (e a.2 b.1)) (n a.2 b.2) (fit a.2 b.2) (e a.2 b.2)
instance (k : Nat) (x y : Int) : Decidable (fit3 k x y) := by unfold fit3 is64; infer_instance
instance (k : Nat) (a b : Rng) : Decidable (cornF k a b) := by unfold cornF; infer_instance
end Go.Proofs.YtjnpcfpecilejaaGreatDoor
namespace Go.Proofs.YtjnpcfpecilejaaGreatDoor
open Go.Proofs.Tryz
open Go.Proofs
def encZ (r : Rng) : List AV := [.int .i64 r.1, .int .i64 r.2]
end Go.Proofs.YtjnpcfpecilejaaGreatDoor
namespace Go.Proofs.YtjnpcfpecilejaaGreatDoor
open Go.Proofs.Tryz
open Go.Proofs
end Go.Proofs.YtjnpcfpecilejaaGreatDoor
namespace Go.Proofs.YtjnpcfpecilejaaGreatDoor
open Go.Proofs.Tryz
open Go.Proofs
def lC (l : List Rng) : List AV := eP.av l
theorem lC_len (l : List Rng) : (lC l).length = l.length * 2 := eP.av_len l
theorem lC_cons (r : Rng) (l : List Rng) : lC (r :: l) = .int .i64 r.1 :: .int .i64 r.2 :: lC l := rfl
theorem lC_drop : ∀ (l : List Rng) (j : Nat), (lC l).drop (j * 2) = lC (l.drop j)
 | l, 0 => by simp
 | [], j + 1 => by simp [lC, Enc.av]
 | r :: l, j + 1 => by
  rw [show (j + 1) * 2 = j * 2 + 1 + 1 by omega, lC_cons, List.drop_succ_cons, List.drop_succ_cons, lC_drop l j, List.drop_succ_cons]
theorem lC_get {l : List Rng} {j : Nat} {r : Rng} (h : l[j]? = some r) : (lC l).drop (j * 2) = .int .i64 r.1 :: .int .i64 r.2 :: lC (l.drop (j + 1)) := by
 obtain ⟨hj, e⟩ := List.getElem?_eq_some_iff.1 h
 rw [lC_drop, List.drop_eq_getElem_cons hj, e, lC_cons]
theorem lC_ne {l : List Rng} {j : Nat} (h : j < l.length) : lC l ≠ [] := fun e => by have := lC_len l; rw [e] at this; simp at this; omega
section
variable {E : World} {P : Program} {ops : Array Oper} {K : AEnv → OL → Prop} {env : AEnv} {O O' O'' : OL} {rest : List Oper} {n : Nat}
variable {d ty : Nat} {pos : String} {af : Array Edge} {x y z : Operand} {t u e T : TypeId}
theorem Gv.idxR {i n j : Nat} {a : Int} {T : TypeId} {l : List Rng} (ht : P.underlying t = some (.slice e)) (hs : ∀ w, (sizeOf e).run P w = .ok 2 w) (hx : aev env x = .own i n) (hy : aev env y = .int .i64 a) (hi : a = (j : Int)) (hO : Has O i (.grow 2 T (lC l))) (hn : l.length = n) (hj : j < n) :
  Gv P env O (Oper.mk (some d) (.indexAddr t x y) ty pos af none) (.po i (j * 2)) := Gv.idxO ht hs hx hy hi hO (lC_ne (j := j) (by omega)) hj
theorem Gv.loadR {i j : Nat} {T : TypeId} {l : List Rng} {r : Rng} (ha : ∀ w, (isAgg t).run P w = .ok true w) (hs : ∀ w, (sizeOf t).run P w = .ok 2 w) (hx : aev env x = .po i (j * 2)) (hO : Has O i (.grow 2 T (lC l))) (hv : l[j]? = some r) :
  Gv P env O (Oper.mk (some d) (.load t x) ty pos af none) (.agg (encZ r)) := by
 have hj := (List.getElem?_eq_some_iff.1 hv).1
 exact Gv.loadAG ha hs hx hO (lC_ne hj) (by rw [lC_len]; omega) (by rw [lC_get hv]; rfl)
end
structure RdL (P : Program) (te ee : TypeId) (Lv : AV) (ptr : Nat → AV) (i : Nat) (HL : AObj) (l : List Rng) : Prop where
 idx : ∀ {env : AEnv} {O : OL} {d ty : Nat} {pos : String} {af : Array Edge} {x y : Operand} {a : Int} {j : Nat}, aev env x = Lv → aev env y = .int .i64 a → a = (j : Int) → j < l.length → Has O i HL → Gv P env O (Oper.mk (some d) (.indexAddr te x y) ty pos af none) (ptr j)
 load : ∀ {env : AEnv} {O : OL} {d ty : Nat} {pos : String} {af : Array Edge} {x : Operand} {j : Nat} {r : Rng}, aev env x = ptr j → l[j]? = some r → Has O i HL → Gv P env O (Oper.mk (some d) (.load ee x) ty pos af none) (.agg (encZ r))
def ptrF (l : List Rng) (j : Nat) : AV := .pf (encZ ((l[j]?).getD noR))
def ptrO (i : Nat) (j : Nat) : AV := .po i (j * 2)
theorem RdL.fro {P : Program} {te ee : TypeId} (ht : P.underlying te = some (.slice ee)) (hs : ∀ w, (sizeOf ee).run P w = .ok 2 w) (ha : ∀ w, (isAgg ee).run P w = .ok true w) (i : Nat) (HL : AObj) (l : List Rng) : RdL P te ee (.fro 2 (l.map encZ)) (ptrF l) i HL l where
 idx hx hy hi hj _ := yr ht hs hx hy hi (by rw [qc hj]; rfl)
 load hx hv _ := zk ha hs (cs := encZ _) (by rw [hx]; unfold ptrF; rw [hv]; rfl) rfl
theorem RdL.own {P : Program} {te ee : TypeId} (ht : P.underlying te = some (.slice ee)) (hs : ∀ w, (sizeOf ee).run P w = .ok 2 w) (ha : ∀ w, (isAgg ee).run P w = .ok true w) (i : Nat) (T : TypeId) (l : List Rng) (n : Nat) (hn : l.length = n) : RdL P te ee (.own i n) (ptrO i) i (.grow 2 T (lC l)) l where
 idx hx hy hi hj hO := Gv.idxR ht hs hx hy hi hO hn (by omega)
 load hx hv hO := Gv.loadR ha hs hx hO hv
end Go.Proofs.YtjnpcfpecilejaaGreatDoor
namespace Go.Proofs.YtjnpcfpecilejaaGreatDoor
open Go.Proofs.Tryz
open Go.Proofs
end Go.Proofs.YtjnpcfpecilejaaGreatDoor
namespace Go.Proofs.YtjnpcfpecilejaaGreatDoor
open Go.Proofs.Tryz
open Go.Proofs
end Go.Proofs.YtjnpcfpecilejaaGreatDoor
namespace Go.Proofs.YtjnpcfpecilejaaGreatDoor
open Go.Proofs.Tryz
def bag (X : OL) : AObj := .heapG (fun I L => ∃ L', RepOs I X L' ∧ L.Perm L') fun I J L h hp => by obtain ⟨L', h1, h2⟩ := hp; exact ⟨L', h1.mono h, h2⟩
section
variable {E : World} {env : AEnv} {O O1 O' : OL} {m i : Nat} {o : AObj} {X X' : OL}
theorem GStep.bagNew : GStep E env O env ((0, bag []) :: O) := fun I F ρ w h1 ⟨ht, L, hL, hS⟩ => ⟨I, .refl _, h1, ht, L, ⟨[], L, rfl, ⟨[], rfl, .refl _⟩, hL⟩, hS⟩
theorem GStep.bagOut (hX : X.Perm ((i, o) :: X')) (hO : Put O m (bag X) (bag X') O') : GStep E env O env ((i, o) :: O') := fun I F ρ w h1 ⟨ht, L, hL, hS⟩ => by
 obtain ⟨A, B, hp, ⟨L', hA, hpA⟩, hback⟩ := hO.rep hL
 obtain ⟨L2, h2, h3⟩ := hA.perm hX
 obtain ⟨C, D, rfl, h4, h5⟩ := h2
 obtain ⟨L3, h6, h7⟩ := hback (q3 I) (A' := D) ⟨D, h5, .refl _⟩
 refine ⟨I, .refl _, h1, ht, C ++ L3, ⟨C, L3, rfl, h4, h6⟩, hS.perm (List.Perm.append_right F ?_)⟩
 refine (h7.append_left C).trans ?_
 rw [← qe]
 exact (((hpA.trans h3).append_right B).symm).trans hp.symm
theorem GStep.bagIn (hP : Pick O i o O1) (hX : ((i, o) :: X).Perm X') (hO : Put O1 m (bag X) (bag X') O') : GStep E env O env O' := fun I F ρ w h1 ⟨ht, L, hL, hS⟩ => by
 obtain ⟨A, B, hp, hA, hB⟩ := hP.rep hL
 obtain ⟨A2, B2, hp2, ⟨L', h3, h4⟩, hback⟩ := hO.rep hB
 obtain ⟨L4, h5, h6⟩ := (show RepOs I ((i, o) :: X) (A ++ L') from ⟨A, L', rfl, hA, h3⟩).perm hX
 obtain ⟨L5, h7, h8⟩ := hback (q3 I) (A' := A ++ A2) ⟨L4, h5, (h4.append_left A).trans h6⟩
 refine ⟨I, .refl _, h1, ht, L5, h7, hS.perm (List.Perm.append_right F ?_)⟩
 refine h8.trans ?_
 rw [qe]
 exact ((hp2.append_left A).symm).trans hp.symm
end
theorem zip_out {α β γ : Type} (g : α → β → γ) : ∀ (xs : List α) (ys : List β) (j : Nat) {a : α} {b : β}, xs[j]? = some a → ys[j]? = some b → ∃ X, (List.zipWith g xs ys).Perm (g a b :: X) ∧ ∀ a' b', (g a' b' :: X).Perm (List.zipWith g (xs.set j a') (ys.set j b'))
 | [], _, j, _, _, h, _ => by simp at h
 | _ :: _, [], j, _, _, _, h => by simp at h
 | x :: xs, y :: ys, 0, a, b, h1, h2 => by
  simp at h1 h2
  subst h1 h2
  exact ⟨List.zipWith g xs ys, .refl _, fun _ _ => .refl _⟩
 | x :: xs, y :: ys, j + 1, a, b, h1, h2 => by
  obtain ⟨X, h3, h4⟩ := zip_out g xs ys j (by simpa using h1) (by simpa using h2)
  refine ⟨g x y :: X, (h3.cons _).trans (.swap _ _ _), fun a' b' => ?_⟩
  exact (List.Perm.swap _ _ _).trans ((h4 a' b').cons _)
theorem own_fro {I J : G} {id k : Nat} {T : TypeId} {rows : List (List AV)} {L : List (Nat × Obj)} (hk : ∀ r ∈ rows, r.length = k) (hk0 : 0 < k) (h : RepO I (id, .grow k T rows.flatten) L) (hle : I.le J) (hJ : ∀ x ∈ L, J.k x.1 = some x.2) {v : Value} (hv : RepV I (.own id rows.length) v) : RepV J (.fro k rows) v := by
 obtain ⟨b, c, n, vs, e1, hvs, hvc, hown⟩ := h
 simp only at e1
 have hflat := flat_len hk
 have hnm : n = rows.length := by
  have h5 := hown.1
  have h6 := hvs.length
  have : n * k = rows.length * k := by omega
  exact Nat.eq_of_mul_eq_mul_right hk0 this
 obtain ⟨b2, c2, e2, rfl⟩ := hv
 rw [e1] at e2
 simp only [Option.some.injEq, Prod.mk.injEq] at e2
 obtain ⟨rfl, rfl⟩ := e2
 obtain ⟨h5, h6, h7⟩ := hown
 rcases h7 with ⟨ea, rfl, rfl⟩ | ⟨b', junk, ea, rfl, hj⟩
 ·have h0 : rows = [] := List.eq_nil_of_length_eq_zero (by omega)
  subst h0
  exact ⟨adr b, 0, 0, rfl, rfl, Nat.le_refl _, fun _ => rfl, trivial⟩
 ·cases b with
  | none => simp [adr] at ea
  | some b =>
   simp [adr] at ea
   subst ea
   have hb := hJ _ (.head _)
   simp only at hb
   refine ⟨adr (some b), rows.length, c, rfl, rfl, by omega, fun h => by simp [adr] at h, RepR.of_flat hb rows vs 0 hk (q5 hle _ _ hvs) fun i u hu => ?_⟩
   rw [Nat.zero_mul, Nat.zero_add, List.getElem?_toArray, List.getElem?_append_left (List.getElem?_eq_some_iff.1 hu).1]
   exact hu
section
variable {E : World} {env : AEnv} {O O1 O' : OL} {m i k : Nat} {T : TypeId} {cs cs' : List AV} {X : OL}
theorem GStep.bagKnow (hB : Pick O m (bag X) O1) (hP : Put O1 i (.grow k T cs) (.grow k T cs') O')
  (hc : ∀ (I J : G) L vs, I.le J → RepOs I X L → (∀ x ∈ L, J.k x.1 = some x.2) → RepL I cs vs → RepL J cs' vs) : GStep E env O env O' := fun I F ρ w h1 ⟨ht, L, hL, hS⟩ => by
 obtain ⟨A, B, hp, ⟨L', hX, hA⟩, hB2⟩ := hB.rep hL
 have hS2 : SL I.k (A ++ (B ++ F)) E w := hS.perm (by rw [← qe]; exact (hp.append_right F).symm)
 obtain ⟨J, j1, j2, j3⟩ := SL.freezeAllN hS2
 have hle : I.le ⟨J, I.h⟩ := ⟨j1, fun _ _ h => h⟩
 obtain ⟨A2, B2, hp2, ⟨b, c, n, vs, e1, hvs, hvc, hown⟩, hback⟩ := hP.rep hB2
 obtain ⟨L3, h4, h5⟩ := hback hle (A' := A2) ⟨b, c, n, vs, e1, hc I ⟨J, I.h⟩ L' vs hle hX (fun x hx => j3 x (hA.mem_iff.2 hx)) hvs, hvc, hown⟩
 exact ⟨⟨J, I.h⟩, hle, h1.mono hle, ht, L3, h4, j2.perm ((h5.trans hp2.symm).append_right F)⟩
end
theorem RepL.cut {I : G} {xs ys : List AV} {vs : List Value} (h : RepL I (xs ++ ys) vs) : ∃ a b, vs = a ++ b ∧ RepL I xs a ∧ RepL I ys b := by
 have e1 := h.take xs.length
 have e2 := h.drop xs.length
 rw [List.take_left] at e1
 rw [List.drop_left] at e2
 exact ⟨_, _, (List.take_append_drop _ _).symm, e1, e2⟩
end Go.Proofs.YtjnpcfpecilejaaGreatDoor
namespace Go.Proofs.YtjnpcfpecilejaaGreatDoor
open Go.Proofs.Tryz
open Go.Proofs Go.Lib Go.Shelf Go.RowKit
set_option maxRecDepth 20000
variable {E : World}
def blkI (i : Nat) (b : PBlock) : List AV := [.str b.name, .fro 3 (b.phis.map encPhi), .own i b.insts.length, .int .i64 b.term.kind, .int .i64 b.term.var, .int .i64 b.term.to0, .int .i64 b.term.to1]
def blkIs (ids : List Nat) (bs : List PBlock) : List AV := (List.zipWith blkI ids bs).flatten
def insO (i : Nat) (b : PBlock) : Nat × AObj := (i, .grow 4 33 (b.insts.map encInst).flatten)
def bagIs (ids : List Nat) (bs : List PBlock) : OL := List.zipWith insO ids bs
theorem zip_push {α β γ : Type} (g : α → β → γ) {xs : List α} {ys : List β} {k : Nat} (a : α) (h : xs.length = k) (hk : k < ys.length) : List.zipWith g (xs ++ [a]) (ys.take (k + 1)) = List.zipWith g xs (ys.take k) ++ [g a ys[k]] := by
 rw [qd hk, List.zipWith_append (by rw [qm]; omega)]; rfl
theorem blkIs_push {ids : List Nat} {bs : List PBlock} {k : Nat} (a : Nat) (h : ids.length = k) (hk : k < bs.length) : blkIs ids (bs.take k) ++ [blkI a bs[k]].flatten = blkIs (ids ++ [a]) (bs.take (k + 1)) := by
 unfold blkIs; rw [zip_push blkI a h hk, List.flatten_append]
theorem bagIs_push {ids : List Nat} {bs : List PBlock} {k : Nat} (a : Nat) (h : ids.length = k) (hk : k < bs.length) : (insO a bs[k] :: bagIs ids (bs.take k)).Perm (bagIs (ids ++ [a]) (bs.take (k + 1))) := by
 unfold bagIs; rw [zip_push insO a h hk]; exact (List.perm_append_comm (l₁ := [_])) 
theorem blkIs_len : ∀ {ids : List Nat} {bs : List PBlock}, ids.length = bs.length → (blkIs ids bs).length = bs.length * 7
 | [], [], _ => rfl
 | i :: ids, b :: bs, h => by
  have := blkIs_len (ids := ids) (bs := bs) (by simpa using h)
  unfold blkIs at this ⊢
  rw [List.zipWith_cons_cons, List.flatten_cons, qi, this, List.length_cons, Nat.add_mul]
  show 7 + _ = _
  omega
theorem blkIs_cons (i : Nat) (ids : List Nat) (b : PBlock) (bs : List PBlock) : blkIs (i :: ids) (b :: bs) = blkI i b ++ blkIs ids bs := by unfold blkIs; rw [List.zipWith_cons_cons, List.flatten_cons]
theorem blkIs_drop : ∀ {ids : List Nat} {bs : List PBlock} {p i : Nat} {b : PBlock}, ids[p]? = some i → bs[p]? = some b → (blkIs ids bs).drop (p * 7 + 2) = .own i b.insts.length :: (blkIs ids bs).drop (p * 7 + 3)
 | [], _, p, _, _, h, _ => by simp at h
 | _ :: _, [], p, _, _, _, h => by simp at h
 | j :: ids, c :: bs, 0, i, b, h1, h2 => by
  simp at h1 h2
  subst h1 h2
  rw [blkIs_cons]; rfl
 | j :: ids, c :: bs, p + 1, i, b, h1, h2 => by
  have h := blkIs_drop (ids := ids) (bs := bs) (p := p) (i := i) (b := b) (by simpa using h1) (by simpa using h2)
  rw [blkIs_cons, show (p + 1) * 7 + 2 = (p * 7 + 2) + 7 by omega, show (p + 1) * 7 + 3 = (p * 7 + 3) + 7 by omega]
  exact h
theorem blkIs_row : ∀ {ids : List Nat} {bs : List PBlock} {p i : Nat} {b : PBlock}, ids[p]? = some i → bs[p]? = some b → ((blkIs ids bs).drop (p * 7)).take 7 = blkI i b
 | [], _, p, _, _, h, _ => by simp at h
 | _ :: _, [], p, _, _, _, h => by simp at h
 | j :: ids, c :: bs, 0, i, b, h1, h2 => by
  simp at h1 h2
  subst h1 h2
  rw [blkIs_cons]; rfl
 | j :: ids, c :: bs, p + 1, i, b, h1, h2 => by
  have h := blkIs_row (ids := ids) (bs := bs) (p := p) (i := i) (b := b) (by simpa using h1) (by simpa using h2)
  rw [blkIs_cons, show (p + 1) * 7 = (p * 7) + 7 by omega]
  exact h
theorem blkIs_set : ∀ {ids : List Nat} {bs : List PBlock} {p : Nat} {b : PBlock} (i : Nat) (l : List PInst), p < ids.length → bs[p]? = some b → (blkIs ids bs).set (p * 7 + 2) (.own i l.length) = blkIs (ids.set p i) (bs.set p { b with insts := l })
 | [], _, p, _, _, _, h, _ => by simp at h
 | _ :: _, [], p, _, _, _, _, h => by simp at h
 | j :: ids, c :: bs, 0, b, i, l, h1, h2 => by
  simp at h2
  subst h2
  rw [blkIs_cons]
  show _ = blkIs (i :: ids) (_ :: bs)
  rw [blkIs_cons]; rfl
 | j :: ids, c :: bs, p + 1, b, i, l, h1, h2 => by
  have h := blkIs_set (ids := ids) (bs := bs) (p := p) (b := b) i l (by simpa using h1) (by simpa using h2)
  show _ = blkIs (j :: ids.set p i) (c :: bs.set p _)
  rw [blkIs_cons, blkIs_cons, show (p + 1) * 7 + 2 = (p * 7 + 2) + 7 by omega, ← h]
  rfl
theorem blkIs_know : ∀ {ids : List Nat} {bs : List PBlock} {I J : G} {L : List (Nat × Obj)} {vs : List Value}, ids.length = bs.length → I.le J → RepOs I (bagIs ids bs) L → (∀ x ∈ L, J.k x.1 = some x.2) → RepL I (blkIs ids bs) vs → RepL J (bs.map encBlk).flatten vs
 | [], [], _, _, _, _, _, _, _, _, h => h
 | i :: ids, b :: bs, I, J, L, vs, hl, hle, hL, hJ, h => by
  obtain ⟨A, B, rfl, hA, hB⟩ := hL
  rw [blkIs_cons] at h
  obtain ⟨v1, v2, rfl, h1, h2⟩ := h.cut
  have h3 := blkIs_know (by simpa using hl) hle hB (fun x hx => hJ x (List.mem_append_right _ hx)) h2
  rw [List.map_cons, List.flatten_cons]
  refine RepL.append ?_ h3
  obtain ⟨a1, u1, e1, r1, a2, u2, e2, r2, a3, u3, e3, r3, r4⟩ := h1
  have h4 := own_fro (J := J) (rows := b.insts.map encInst) (fun r hr => by obtain ⟨z, _, rfl⟩ := List.mem_map.1 hr; rfl) (by decide) hA hle (fun x hx => hJ x (List.mem_append_left _ hx)) (v := a3) (by rw [qj]; exact r3)
  exact ⟨a1, u1, e1, q4 hle _ _ r1, a2, u2, e2, q4 hle _ _ r2, a3, u3, e3, h4, q5 hle _ _ r4⟩
theorem AOps.storeGN {P : Program} {ops : Array Oper} {K : AEnv → OL → Prop} {env : AEnv} {O O' : OL} {rest : List Oper} {ty : Nat} {pos : String} {af : Array Edge} {x y : Operand} {t : TypeId} {i off k : Nat} {T : TypeId} {v : AV} {cs new : List AV} (hs : ∀ w, (sizeOf t).run P w = .ok 1 w) (hx : aev env x = .po i off) (hy : aev env y = v) (hv : v.sto = true) (hl : v.cs = [v]) (hl1 : v.cell = true)
  (hO : Put O i (.grow k T cs) (.grow k T new) O') (hb : off < cs.length) (hnew : cs.set off v = new) (kk : AOps P E ops K rest env O') : AOps P E ops K (Oper.mk none (.store t x y) ty pos af none :: rest) env O := by
 subst hnew; exact AOps.storeG1 hs hx hy hv hl hl1 hO hb kk
set_option maxHeartbeats 4000000 in
theorem copyI_own (f : PFunc) (hf : small f) : ACall prog E 88 [.agg (encF f)] [] (fun x O' => ∃ g : Nat × List Nat, x = .agg [.fro 2 (f.vars.map encVar), .fro 1 (f.params.map encI), .own g.1 f.blocks.length] ∧ O' = [(g.1, .grow 7 66 (blkIs g.2 f.blocks)), (0, bag (bagIs g.2 f.blocks))] ∧ g.2.length = f.blocks.length) := by
 refine ACall.exact (γ := Nat × List Nat) (x := fun g => .agg [.fro 2 (f.vars.map encVar), .fro 1 (f.params.map encI), .own g.1 f.blocks.length]) (M := fun g => [(g.1, .grow 7 66 (blkIs g.2 f.blocks)), (0, bag (bagIs g.2 f.blocks))]) (p := fun g => g.2.length = f.blocks.length) ?_
 obtain ⟨hf1, hf2, hf3, hf4, hf5⟩ := hf
 refine zl func88 rfl (by decide) rfl<|zSr<|y4 (cs := _) rfl rfl rfl<|zy (cs := [.raw (.slice none 0 0), .raw (.slice none 0 0), .raw (.slice none 0 0)]) zeroValue26 rfl rfl<|fun i2 => z6<|za<|yh (γ := Nat) [1, 2] (fun i => [(3, .po i 0)]) (fun i => [(i, .cells 26 [.fro 2 (f.vars.map encVar), .fro 1 (f.params.map encI), .raw (.slice none 0 0)]), (i2, .cells 26 [.raw (.slice none 0 0), .raw (.slice none 0 0), .raw (.slice none 0 0)])]) (fun i => True) ?_ (fun _ _ h => h) ?_
 ·refine y8 (fun j => Nat.beq j 8) (by kernel_rfl) rfl (zx (.rest _))<|zTk 0 rfl (zFF underlying26 rfl sizeOf22 rfl rfl)<|zTk 1 rfl (zLf isAgg22 rfl)<|zTk 3 rfl (zFF underlying26 rfl sizeOf23 rfl rfl)<|zTk 4 rfl (zLf isAgg23 rfl)<|yj (i := 2) (j := 7) rfl rfl (by kernel_rfl) ?_ ?_
  ·refine zc (cloneV_spec _ (by omega)) rfl<|z6<|yj (i := 5) (j := 7) rfl rfl (by kernel_rfl) ?_ ?_
   ·refine zc (cloneI_spec _ (by omega)) rfl<|z6<|zTk 6 rfl (zu (cps := [(0, [_]), (1, [_])]) (rs := [_, _, .raw (.slice none 0 0)]) pl26 rfl rfl rfl)<|zOn 7 rfl<|zy (cs := [.raw (.slice none 0 0), .raw (.slice none 0 0), .raw (.slice none 0 0)]) zeroValue26 rfl rfl<|fun i3 => z6<|yk<|yo (i := 8) rfl (by kernel_rfl) (by kernel_rfl)<|zo sizeOf26 rfl rfl rfl rfl rfl rfl .head rfl<|z6<|ym (by kernel_rfl) ?_
    exact ⟨i3, zR2, zR1, zLe, trivial⟩
   ·refine zy (cs := [.raw (.slice none 0 0), .raw (.slice none 0 0), .raw (.slice none 0 0)]) zeroValue26 rfl rfl<|fun i3 => z6<|zOn 5 rfl<|zc (cloneI_spec _ (by omega)) rfl<|z6<|zTk 6 rfl (zu (cps := [(0, [_]), (1, [_])]) (rs := [_, _, .raw (.slice none 0 0)]) pl26 rfl rfl rfl)<|yk<|yo (i := 8) rfl (by kernel_rfl) (by kernel_rfl)<|zo sizeOf26 rfl rfl rfl rfl rfl rfl .head rfl<|z6<|ym (by kernel_rfl) ?_
    exact ⟨i3, zR2, zR1, zLe, trivial⟩
  ·refine zy (cs := [.raw (.slice none 0 0), .raw (.slice none 0 0), .raw (.slice none 0 0)]) zeroValue26 rfl rfl<|fun i3 => z6<|zOn 2 rfl<|zc (cloneV_spec _ (by omega)) rfl<|z6<|zOn 5 rfl<|zc (cloneI_spec _ (by omega)) rfl<|z6<|zTk 6 rfl (zu (cps := [(0, [_]), (1, [_])]) (rs := [_, _, .raw (.slice none 0 0)]) pl26 rfl rfl rfl)<|yk<|yo (i := 8) rfl (by kernel_rfl) (by kernel_rfl)<|zo sizeOf26 rfl rfl rfl rfl rfl rfl .head rfl<|z6<|ym (by kernel_rfl) ?_
   exact ⟨i3, zR2, zR1, zLe, trivial⟩
 ·rintro i3 _
  refine za<|zSr<|z2 (zFF underlying26 rfl sizeOf24 rfl rfl)<|z2 (zLf isAgg24 rfl)<|z2 (zq underlying24 rfl)<|z2 (zMi rfl)<|z6<|adoptC_wp (off := 2) (k := 7) (T := 66) (fun _ => .head) rfl<|fun ib => yf GStep.bagNew<|yf (zf (zi .t1))<|zd<|y1 (γ := Nat × Nat × List Nat) [2, 3, 19, 20] (fun g => [(21, .int .i64 g.1)]) (fun g => [(g.2.1, .grow 7 66 (blkIs g.2.2 (f.blocks.take g.1))), (0, bag (bagIs g.2.2 (f.blocks.take g.1))), (i3, .cells 26 [.fro 2 (f.vars.map encVar), .fro 1 (f.params.map encI), .own g.2.1 g.1]), (i2, .cells 26 [.raw (.slice none 0 0), .raw (.slice none 0 0), .raw (.slice none 0 0)])]) (fun g => g.1 ≤ f.blocks.length ∧ g.2.2.length = g.1) (fun g => f.blocks.length - g.1) (0, ib, []) zR1 zLe (⟨qf _, rfl⟩) ?_
  rintro ⟨k, ib, ids⟩ ⟨hk, hids⟩
  try dsimp only at *
  refine zSr<|z2 (y7 rfl rfl)<|z6<|za<|zt rfl (fun ck=>?_) (fun ck=>?_)
  ·have hk2 : k < f.blocks.length := by omega
   obtain ⟨hb0, hb1, hb2, hb3, hb4⟩ := hf5 _ (qg hk2)
   refine ze<|za<|zd<|zSr<|z2 (yr underlying24 sizeOf66 rfl rfl rfl (qc (by omega)))<|z2 (zk isAgg66 sizeOf66 rfl rfl)<|zy (cs := [.str ⟨#[]⟩, .raw (.slice none 0 0), .raw (.slice none 0 0), .int .i64 0, .int .i64 0, .int .i64 0, .int .i64 0]) zeroValue66 rfl rfl<|fun i5 => zo sizeOf66 rfl rfl rfl rfl rfl rfl .head rfl<|z6<|zSr<|z2 (zm underlying66 rfl sizeOf9 (by decide) rfl rfl)<|z2 (zp (c := .str _) isAgg9 rfl ⟨_, .head⟩ rfl)<|z2 (zm underlying66 rfl sizeOf64 (by decide) rfl rfl)<|z2 (Gv.loadAC (l := [_, _, _, _]) isAgg64 sizeOf64 rfl ⟨_, .head⟩ rfl rfl)<|z2 (zu (cps := [(0, [_]), (3, [_, _, _, _])]) (rs := [_, .raw (.slice none 0 0), .raw (.slice none 0 0), _, _, _, _]) pl66 rfl rfl rfl)<|zy (cs := [.str ⟨#[]⟩, .raw (.slice none 0 0), .raw (.slice none 0 0), .int .i64 0, .int .i64 0, .int .i64 0, .int .i64 0]) zeroValue66 rfl rfl<|fun i6 => zo sizeOf66 rfl rfl rfl rfl rfl rfl .head rfl<|z6<|za<|zSr<|z2 (zm underlying66 rfl sizeOf59 (by decide) rfl rfl)<|z2 (zp (c := .fro _ _) isAgg59 rfl ⟨_, .t1⟩ rfl)<|z2 (zq underlying59 rfl)<|z2 (zMi rfl)<|z6<|adoptC_wp (off := 1) (k := 3) (T := 95) (fun _ => .head) rfl<|fun ip => yf (zf (zi .t1))<|zd<|y1 (γ := Nat × Nat) [2, 3, 5, 6, 19, 20, 21, 31, 32] (fun g => [(33, .int .i64 g.1)]) (fun g => [(i6, .cells 66 [.str f.blocks[k].name, .own g.2 g.1, .raw (.slice none 0 0), .int .i64 f.blocks[k].term.kind, .int .i64 f.blocks[k].term.var, .int .i64 f.blocks[k].term.to0, .int .i64 f.blocks[k].term.to1]), (g.2, .grow 3 95 ((f.blocks[k].phis.take g.1).map encPhi).flatten), (i5, .cells 66 (encBlk f.blocks[k])), (ib, .grow 7 66 (blkIs ids (f.blocks.take k))), (0, bag (bagIs ids (f.blocks.take k))), (i3, .cells 26 [.fro 2 (f.vars.map encVar), .fro 1 (f.params.map encI), .own ib k]), (i2, .cells 26 [.raw (.slice none 0 0), .raw (.slice none 0 0), .raw (.slice none 0 0)])]) (fun g => g.1 ≤ f.blocks[k].phis.length) (fun g => f.blocks[k].phis.length - g.1) (0, ip) zR1 zLe (qf _) ?_
   rintro ⟨m, ip⟩ hm
   try dsimp only at *
   refine zSr<|z2 (y7 rfl rfl)<|z6<|za<|zt rfl (fun cm=>?_) (fun cm=>?_)
   ·have hm2 : m < f.blocks[k].phis.length := by omega
    obtain ⟨hp1, hp2⟩ := hb3 _ (qg hm2)
    refine ze<|za<|zd<|zSr<|z2 (yr underlying59 sizeOf95 rfl rfl rfl (qc (by omega)))<|z2 (zk isAgg95 sizeOf95 rfl rfl)<|zy (cs := [.int .i64 0, .raw (.slice none 0 0), .raw (.slice none 0 0)]) zeroValue95 rfl rfl<|fun i8 => zo sizeOf95 rfl rfl rfl rfl rfl rfl .head rfl<|z6<|y8 (fun j => Nat.beq j 14) (by kernel_rfl) rfl (zx (.r (.r (.rest _))))<|zTk 0 rfl (zm underlying66 rfl sizeOf59 (by decide) rfl rfl)<|zTk 1 rfl (zp (c := .own _ _) isAgg59 rfl ⟨_, .t1⟩ rfl)<|zTk 2 rfl (zm underlying95 rfl sizeOf3 (by decide) rfl rfl)<|zTk 3 rfl (zp (c := .int _ _) isAgg3 rfl ⟨_, .head⟩ rfl)<|zTk 4 rfl (zm underlying95 rfl sizeOf23 (by decide) rfl rfl)<|zTk 5 rfl (zp (c := .fro _ _) isAgg23 rfl ⟨_, .head⟩ rfl)<|zTk 7 rfl (zm underlying95 rfl sizeOf23 (by decide) rfl rfl)<|zTk 8 rfl (zp (c := .fro _ _) isAgg23 rfl ⟨_, .head⟩ rfl)<|zOn 6 rfl<|zc (cloneI_spec _ (by omega)) rfl<|z6<|zOn 9 rfl<|zc (cloneI_spec _ (by omega)) rfl<|z6<|zTk 10 rfl (zu (cps := [(0, [_]), (1, [_]), (2, [_])]) (rs := [_, _, _]) pl95 rfl rfl rfl)<|zOn 11 rfl<|zw (rows := [[_, _, _]]) ps59_1 rfl rfl rfl rfl rfl<|z6<|zOn 12 rfl<|yd (k := 3) underlying59 type95 rfl rfl rfl rfl rfl (fun _ => .head) (by rw [grow_len (k := 3) (fun _ => rfl), qm, Nat.min_eq_left hm]) (by decide) rfl (by show (_ + _) * 56 ≤ _; simp <;> omega) (by simp <;> omega)<|fun i49 => z6<|zTk 13 rfl (zm underlying66 rfl sizeOf59 (by decide) rfl rfl)<|yk<|yo (i := 14) rfl (by kernel_rfl) (by kernel_rfl)<|q7 (l := [_]) (new := [_, _, _, _, _, _, _]) sizeOf59 rfl rfl rfl rfl rfl rfl .t1 rfl rfl<|z6<|ym (by kernel_rfl)<|zRg<|z2 (zAd rfl rfl) ?_
    refine z2 (zMi rfl)<|z6 ?_
    exact ⟨(m + 1, i49), zR9, zR1, ⟨_, (.drop (.refl _)), by rw [← grow_push (qd hm2)]; rfl⟩, hm2, by dsimp only; omega⟩
   ·obtain rfl : m = f.blocks[k].phis.length := by omega
    refine zz<|za<|zSr<|z2 (zm underlying66 rfl sizeOf60 (by decide) rfl rfl)<|z2 (zp (c := .fro _ _) isAgg60 rfl ⟨_, .t2⟩ rfl)<|z2 (zq underlying60 rfl)<|z2 (zMi rfl)<|z6<|adoptC_wp (off := 2) (k := 4) (T := 33) (fun _ => .head) rfl<|fun ii => zd<|y1 (γ := Nat × Nat) [2, 3, 6, 19, 20, 21, 53, 54] (fun g => [(55, .int .i64 g.1)]) (fun g => [(g.2, .grow 4 33 ((f.blocks[k].insts.take g.1).map encInst).flatten), (i6, .cells 66 [.str f.blocks[k].name, .own ip f.blocks[k].phis.length, .own g.2 g.1, .int .i64 f.blocks[k].term.kind, .int .i64 f.blocks[k].term.var, .int .i64 f.blocks[k].term.to0, .int .i64 f.blocks[k].term.to1]), (ip, .grow 3 95 (f.blocks[k].phis.map encPhi).flatten), (i5, .cells 66 (encBlk f.blocks[k])), (ib, .grow 7 66 (blkIs ids (f.blocks.take k))), (0, bag (bagIs ids (f.blocks.take k))), (i3, .cells 26 [.fro 2 (f.vars.map encVar), .fro 1 (f.params.map encI), .own ib k]), (i2, .cells 26 [.raw (.slice none 0 0), .raw (.slice none 0 0), .raw (.slice none 0 0)])]) (fun g => g.1 ≤ f.blocks[k].insts.length) (fun g => f.blocks[k].insts.length - g.1) (0, ii) zR1 ⟨_, (.refl _), by rw [qh]; rfl⟩ (qf _) ?_
    rintro ⟨m, ii⟩ hm
    try dsimp only at *
    refine zSr<|z2 (y7 rfl rfl)<|z6<|za<|zt rfl (fun cm=>?_) (fun cm=>?_)
    ·have hm2 : m < f.blocks[k].insts.length := by omega
     have hp1 := hb4 _ (qg hm2)
     refine ze<|za<|zd<|zSr<|z2 (yr underlying60 sizeOf33 rfl rfl rfl (qc (by omega)))<|z2 (zk isAgg33 sizeOf33 rfl rfl)<|zy (cs := [.int .i64 0, .int .i64 0, .raw (.slice none 0 0), .int .i64 0]) zeroValue33 rfl rfl<|fun i10 => zo sizeOf33 rfl rfl rfl rfl rfl rfl .head rfl<|z6<|zSr<|z2 (zm underlying33 rfl sizeOf23 (by decide) rfl rfl)<|z2 (zp (c := .fro _ _) isAgg23 rfl ⟨_, .head⟩ rfl)<|zc (cloneI_spec _ (by omega)) rfl<|z2 (zm underlying33 rfl sizeOf23 (by decide) rfl rfl)<|q7 (l := [_]) (new := [_, _, _, _]) sizeOf23 rfl rfl rfl rfl rfl rfl .head rfl rfl<|z6<|zRg<|z2 (zm underlying66 rfl sizeOf60 (by decide) rfl rfl)<|z2 (zp (c := .own _ _) isAgg60 rfl ⟨_, .t2⟩ rfl)<|z2 (q6 isAgg33 sizeOf33 rfl ⟨_, .head⟩ rfl)<|zw (rows := [[_, _, _, _]]) ps60_1 rfl rfl rfl rfl rfl<|yd (k := 4) underlying60 type33 rfl rfl rfl rfl rfl (fun _ => .t1) (by rw [grow_len (k := 4) (fun _ => rfl), qm, Nat.min_eq_left hm]) (by decide) rfl (by show (_ + _) * 48 ≤ _; simp <;> omega) (by simp <;> omega)<|fun i67 => z2 (zm underlying66 rfl sizeOf60 (by decide) rfl rfl)<|q7 (l := [_]) (new := [_, _, _, _, _, _, _]) sizeOf60 rfl rfl rfl rfl rfl rfl .t2 rfl rfl<|z6<|zRg<|z2 (zAd rfl rfl)<|z2 (zMi rfl)<|z6 ?_
     exact ⟨(m + 1, i67), zR8, zR1, ⟨_, (.drop (.refl _)), by rw [← grow_push (qd hm2)]; rfl⟩, hm2, by dsimp only; omega⟩
    ·obtain rfl : m = f.blocks[k].insts.length := by omega
     rw [qh]
     refine zz<|yf (GStep.knowC (off := 1) (rows := f.blocks[k].phis.map encPhi) .t2 .t1 rfl (by simp [encI, encVar, encPhi, encInst, encBlk]) (by decide) (by simp))<|zRg<|z2 (zm underlying26 rfl sizeOf24 (by decide) rfl rfl)<|z2 (zp (c := .own _ _) isAgg24 rfl ⟨_, .t5⟩ rfl)<|z2 (q6 isAgg66 sizeOf66 rfl ⟨_, .t1⟩ rfl)<|zw (rows := [[_, _, _, _, _, _, _]]) ps24_1 rfl rfl rfl rfl rfl<|yd (k := 7) underlying24 type66 rfl rfl rfl rfl rfl (fun _ => .t3) (by rw [blkIs_len (by rw [qm]; omega), qm, Nat.min_eq_left hk]) (by decide) rfl (by show (_ + _) * 96 ≤ _; simp <;> omega) (by simp <;> omega)<|fun i74 => z2 (zm underlying26 rfl sizeOf24 (by decide) rfl rfl)<|q7 (l := [_]) (new := [_, _, _]) sizeOf24 rfl rfl rfl rfl rfl rfl .t5 rfl rfl<|z6<|yf (GStep.bagIn (X' := bagIs (ids ++ [ii]) (f.blocks.take (k + 1))) .head (bagIs_push ii hids hk2) .t3)<|zRg<|z2 (zAd rfl rfl)<|z2 (zMi rfl)<|z6 ?_
     exact ⟨(k + 1, i74, ids ++ [ii]), zR4, zR1, ⟨_, (.drop (.drop (.refl _))), by rw [← blkIs_push ii hids hk2]; rfl⟩, ⟨hk2, by simp [hids]⟩, by dsimp only; omega⟩
  ·obtain rfl : k = f.blocks.length := by omega
   rw [qh]
   refine zz<|zSr<|z2 (q6 isAgg26 sizeOf26 rfl ⟨_, .t2⟩ rfl)<|zo sizeOf26 rfl rfl rfl rfl rfl rfl .t3 rfl<|z6<|zg<|afin.c1 rfl ⟨_, .t3⟩ isAgg26 sizeOf26 rfl ?_
   exact ⟨(ib, ids), rfl, ⟨_, .keep (.keep (.drop (.drop (.refl _)))), rfl⟩, hids⟩
end Go.Proofs.YtjnpcfpecilejaaGreatDoor
namespace Go.Proofs.YtjnpcfpecilejaaGreatDoor
open Go.Proofs.Tryz
def cutO (b c k : Nat) (T : TypeId) (cs : List AV) : AObj := .heapG (fun I L => ∃ vs js : List Value, RepL I cs vs ∧ (∀ u ∈ vs, u.oneCell' = true) ∧ (vs ++ js).length = c * k ∧ L = [(b, .cells (vs ++ js).toArray T (0, 0))]) fun I J L h hp => by
 obtain ⟨vs, js, h1, h2⟩ := hp; exact ⟨vs, js, q5 h _ _ h1, h2⟩
section
variable {E : World} {P : Program} {ops : Array Oper} {K : AEnv → OL → Prop} {env : AEnv} {O O' O1 : OL} {rest : List Oper} {n : Nat}
variable {d ty : Nat} {pos : String} {af : Array Edge} {x y z q : Operand} {t u e T : TypeId}
theorem AWP.ownCut {s i m k : Nat} {cs : List AV} {c0 : Code} {Q : Exit → AEnv → OL → Prop} (hv : env s = .own i m) (hO : Pick O i (.grow k T cs) O1) (hk : 0 < k) (hm : cs.length = m * k) (hm0 : 0 < m)
  (h : ∀ b c, m ≤ c → AWP P E n c0 Q (aupd env s (rsl b 0 m c)) ((0, cutO b c k T cs) :: O1)) : AWP P E n c0 Q env O := fun I F ρ w h1 h2 => by
 obtain ⟨htop, L, hL, hS⟩ := h2
 obtain ⟨A, B, hp, ⟨b, c, n', vs, e1, hvs, hvc, h5, h6, h7⟩, hB⟩ := hO.rep hL
 have h3 := h1 s
 rw [hv] at h3
 obtain ⟨b2, c2, e2, e3⟩ := h3
 simp only at e1
 rw [e1] at e2
 simp only [Option.some.injEq, Prod.mk.injEq] at e2
 obtain ⟨rfl, rfl⟩ := e2
 have hl := hvs.length
 have hnm : n' = m := Nat.eq_of_mul_eq_mul_right hk (by omega)
 subst hnm
 rcases h7 with ⟨ea, rfl, rfl⟩ | ⟨b', junk, ea, rfl, hj⟩
 ·omega
 ·rw [ea] at e3
  refine h b' c h6 I F ρ w (fun r=>?_) ⟨htop, _, ⟨[(b', .cells (vs ++ junk).toArray T (0, 0))], B, rfl, ⟨vs, junk, hvs, hvc, hj, rfl⟩, hB⟩, hS.perm (hp.symm.append_right F)⟩
  unfold aupd
  cases hb : Nat.beq r s with
  | false => exact h1 r
  | true =>
   have : r = s := Nat.eq_of_beq_eq_true hb
   subst this
   exact e3
theorem AWP.cutOwn {s b c m k : Nat} {cs : List AV} {c0 : Code} {Q : Exit → AEnv → OL → Prop} (hv : env s = rsl b 0 m c) (hO : Pick O 0 (cutO b c k T cs) O1) (hm : cs.length = m * k) (hmc : m ≤ c)
  (h : ∀ i, AWP P E n c0 Q (aupd env s (.own i m)) ((i, .grow k T cs) :: O1)) : AWP P E n c0 Q env O := fun I F ρ w h1 h2 => by
 obtain ⟨i, hi⟩ := h2.name
 obtain ⟨J, e1, hle, e2, htop⟩ := hi (some b, c)
 obtain ⟨_, L, hL, hS⟩ := h2
 obtain ⟨A, B, hp, ⟨vs, js, hvs, hvc, hlen, rfl⟩, hB⟩ := hO.rep hL
 have hl := hvs.length
 refine (h i J F ρ w (fun r=>?_) ⟨htop, _, ⟨_, B, rfl, ⟨some b, c, m, vs, e2, q5 hle _ _ hvs, hvc, by omega, hmc, .inr ⟨b, js, rfl, rfl, hlen⟩⟩, hB.mono hle⟩, by rw [e1]; exact hS.perm (hp.symm.append_right F)⟩).mono fun _ _ _ => postE.up hle
 unfold aupd
 cases hb : Nat.beq r s with
 | false => exact q4 hle _ _ (h1 r)
 | true =>
  have : r = s := Nat.eq_of_beq_eq_true hb
  subst this
  have h4 := h1 r
  rw [hv] at h4
  exact ⟨some b, c, e2, h4⟩
theorem Gv.rowHiK {b m c j k : Nat} {a : Int} (ht : P.underlying t = some (.slice e)) (hs : ∀ w, (sizeOf e).run P w = .ok k w) (hx : aev env x = rsl b 0 m c) (hy : aev env y = .int .i64 a) (hi : a = (j : Int)) (hc : j ≤ c) :
  Gv P env O (Oper.mk (some d) (.slice t x none (some y) none) ty pos af none) (rsl b 0 j c) := Gv.ofEv fun I ρ h => by
 have h1 := evRaw h hx
 have h2 := evI h hy
 subst hi
 refine ⟨_, rfl, fun w=>?_⟩
 simp [execOp, Instr.sliceAt, Instr.slice, Instr.sliceBounds, Instr.sliceBound, asIntOf, Sem.run_bind, run_underlying ht, hs, h1, h2, hc, addr_add]
theorem Gv.cutNil {b m c j k : Nat} {a : Int} (ht : P.underlying t = some (.slice e)) (hs : ∀ w, (sizeOf e).run P w = .ok k w) (hx : aev env x = rsl b 0 m c) (hy : aev env y = .int .i64 a) (hi : a = (m : Int)) (hc : m ≤ c) :
  Gv P env O (Oper.mk (some d) (.slice t x (some y) none none) ty pos af none) (.fro j []) := Gv.ofEv fun I ρ h => by
 have h1 := evRaw h hx
 have h2 := evI h hy
 subst hi
 refine ⟨.slice (some (if c - m = 0 then ⟨b, 0, none⟩ else ⟨b, m * k, none⟩)) 0 (c - m), ⟨_, _, _, rfl, rfl, qf _, (fun h => by cases h), trivial⟩, fun w=>?_⟩
 by_cases hcm : c = m
 ·subst hcm
  simp [execOp, Instr.sliceAt, Instr.slice, Instr.sliceBounds, Instr.sliceBound, asIntOf, Sem.run_bind, run_underlying ht, hs, h1, h2, addr_add]
 ·have : ¬ c - m = 0 := by omega
  simp [execOp, Instr.sliceAt, Instr.slice, Instr.sliceBounds, Instr.sliceBound, asIntOf, Sem.run_bind, run_underlying ht, hs, h1, h2, addr_add, hcm, this]
theorem Gv.cutTail {b m c j k : Nat} {a a2 : Int} (ht : P.underlying t = some (.slice e)) (hs : ∀ w, (sizeOf e).run P w = .ok k w) (hx : aev env x = rsl b 0 j c) (hy : aev env y = .int .i64 a) (hz : aev env z = .int .i64 a2) (hi : a = (j : Int)) (hi2 : a2 = (m : Int)) (hj : j < m) (hc : m ≤ c) :
  Gv P env O (Oper.mk (some d) (.slice t x (some y) (some z) none) ty pos af none) (rsl b (j * k) (m - j) (c - j)) := Gv.ofEv fun I ρ h => by
 have h1 := evRaw h hx
 have h2 := evI h hy
 have h3 := evI h hz
 subst hi hi2
 refine ⟨_, rfl, fun w=>?_⟩
 have hcj : ¬ c = j := by omega
 have hcj2 : ¬ c - j = 0 := by omega
 have h4 : j ≤ m := by omega
 simp [execOp, Instr.sliceAt, Instr.slice, Instr.sliceBounds, Instr.sliceBound, asIntOf, Sem.run_bind, run_underlying ht, hs, h1, h2, h3, hc, hcj, hcj2, h4, addr_add]
theorem Gv.cut3 {b m c j l k : Nat} {a a2 a3 : Int} (ht : P.underlying t = some (.slice e)) (hs : ∀ w, (sizeOf e).run P w = .ok k w) (hx : aev env x = rsl b 0 m c) (hy : aev env y = .int .i64 a) (hz : aev env z = .int .i64 a2) (hq : aev env q = .int .i64 a3) (hi : a = (j : Int)) (hi2 : a2 = (l : Int)) (hi3 : a3 = (m : Int)) (hj : j < m) (hl : j ≤ l) (hl2 : l ≤ m) (hc : m ≤ c) :
  Gv P env O (Oper.mk (some d) (.slice t x (some y) (some z) (some q)) ty pos af none) (rsl b (j * k) (l - j) (m - j)) := Gv.ofEv fun I ρ h => by
 have h1 := evRaw h hx
 have h2 := evI h hy
 have h3 := evI h hz
 have h4 := evI h hq
 subst hi hi2 hi3
 refine ⟨_, rfl, fun w=>?_⟩
 have hcj : ¬ m = j := by omega
 have hcj2 : ¬ m - j = 0 := by omega
 simp [execOp, Instr.sliceAt, Instr.slice, Instr.sliceBounds, Instr.sliceBound, asIntOf, Sem.run_bind, run_underlying ht, hs, h1, h2, h3, h4, hc, hcj, hcj2, hl, hl2, addr_add]
theorem Gv.appendNil {ti : TypeInfo} {b m c k : Nat} (ht : P.underlying t = some (.slice e)) (hi : P.info? e = some ti) (hx : aev env x = rsl b 0 m c) (hy : aev env y = .fro k []) (hc : m ≤ c) :
  Gv P env O (Oper.mk (some d) (.call { callee := .builtin .append, args := #[x, y], argTypes := #[t, t] }) ty pos af none) (rsl b 0 m c) := Gv.ofEv fun I ρ h => by
 have h1 := evRaw h hx
 have h2 := h.ev y
 rw [hy] at h2
 obtain ⟨a, n0, c0, e2, h3, _⟩ := h2
 have h3 : n0 = 0 := h3
 subst h3
 refine ⟨_, rfl, fun w=>?_⟩
 cases a <;> simp [execOp, resolve, invoke, builtin, h1, e2, Builtin.append_, run_underlying ht, sizeOf, typeInfo, hi, Builtin.lenOf, Builtin.firstCells, hc, storeCells, loadCells, loadCellsFrom]
theorem AOps.clearCut {b c k n' c' off : Nat} {A row : List AV} {zv : Value} {dd : Option Nat} (ht : P.underlying t = some (.slice e)) (hv : ∀ w, (zeroValue e).run P w = .ok zv w) (hzk : zv.cells.size = k) (hz1 : zv.cells.all (fun v => v.oneCell') = true) (hk : 0 < k)
  (hx : aev env x = rsl b off (n' + 1) c') (hoff : A.length = off) (hrow : row.length = (n' + 1) * k) (hO : Put O 0 (cutO b c k T (A ++ row)) (cutO b c k T A) O')
  (kk : ∀ r, r = .tup [] → AOps P E ops K rest (aupdO env dd r) O') :
  AOps P E ops K (Oper.mk dd (.call { callee := .builtin .clear, args := #[x], argTypes := #[t] }) ty pos af none :: rest) env O := fun I F ρ w h1 h2 => by
 obtain ⟨htop, L, hL, hS⟩ := h2
 have ex := evRaw h1 hx
 obtain ⟨A2, B, hp, ⟨vs, js, hvs, hvc, hlen, rfl⟩, hback⟩ := hO.rep hL
 have hS2 : SL I.k ((b, .cells (vs ++ js).toArray T (0, 0)) :: (B ++ F)) E w := hS.perm ((hp.append_right F).symm)
 have hl := hvs.length
 rw [qi] at hl
 let zs := (Builtin.zeroCells zv.cells (n' + 1)).toList
 have hzl : zs.length = (n' + 1) * k := by simp [zs, size_zeroCells, hzk]
 have hzo : ∀ v ∈ zs, v.oneCell' = true := fun v hv => by
  simp only [zs, Builtin.zeroCells, Array.toList_map, Array.toList_range, List.mem_map, List.mem_range] at hv
  obtain ⟨i, _, rfl⟩ := hv
  have hlt : i % zv.cells.size < zv.cells.size := Nat.mod_lt _ (by omega)
  rw [getElem!_pos zv.cells _ hlt]
  exact (Array.all_eq_true.1 hz1) _ hlt
 have hfit : off + 0 + zs.length ≤ (vs ++ js).toArray.size := by
  rw [hzl]; simp; omega
 have hst := run_storeCells_at (P := P) b off T zs 0 (vs ++ js).toArray w (hS2.own _ (.head _)) hfit hzo
 have hexec : (execOp (Go.Proofs.YtjnpcfpecilejaaGreatDoor.ev ρ) (Oper.mk dd (.call { callee := .builtin .clear, args := #[x], argTypes := #[t] }) ty pos af none)).run P w = .ok (.value (.tuple #[])) (w.setRow b ((vs ++ js).toArray.toList.take (off + 0) ++ zs ++ (vs ++ js).toArray.toList.drop (off + 0 + zs.length)).toArray) := by
  have hst' : (storeCells ⟨b, off, none⟩ zs 0).run P w = _ := hst
  simp [execOp, resolve, invoke, builtin, ex, Builtin.clear_, run_underlying ht, hv, zs] at hst' ⊢
  simp [hst']
 have hshape : (vs ++ js).toArray.toList.take (off + 0) ++ zs ++ (vs ++ js).toArray.toList.drop (off + 0 + zs.length) = vs.take off ++ (zs ++ (vs ++ js).drop (off + zs.length)) := by
  rw [Nat.add_zero, List.toList_toArray, List.take_append_of_le_length (by omega), qe]
 rw [hshape] at hexec
 have hA : RepL I A (vs.take off) := by have := hvs.take off; rwa [← hoff, List.take_left, hoff] at this
 obtain ⟨L', h5, h6⟩ := hback (q3 I) (A' := [(b, .cells (vs.take off ++ (zs ++ (vs ++ js).drop (off + zs.length))).toArray T (0, 0))]) ⟨vs.take off, _, hA, fun u hu => hvc u (List.mem_of_mem_take hu), (by
  rw [← hlen]
  simp only [qi, qm, List.length_drop]; omega), rfl⟩
 refine Ops.step rfl ?_
 unfold OpW
 rw [hexec]
 refine kk _ rfl I F _ _ ?_ ⟨htop, L', h5, (hS2.turn1).perm (h6.append_right F)⟩
 exact h1.updO dd ⟨[], rfl, rfl⟩
end
end Go.Proofs.YtjnpcfpecilejaaGreatDoor
