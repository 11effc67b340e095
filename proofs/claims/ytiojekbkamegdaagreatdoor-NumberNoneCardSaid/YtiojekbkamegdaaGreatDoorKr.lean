/- The numbered program is shaped, typed, single, plain, little as the program is. Plain law. No conditions. -/
import Derived.Test.YtiojekbkamegdaaGreatDoorKq
import Derived.Test.YtiojekbkamegdaaGreatDoorKo
import Derived.Test.YtiojekbkamegdaaGreatDoorKh
import Derived.Test.YtiojekbkamegdaaGreatDoorKj
import Derived.Test.YtiojekbkamegdaaGreatDoorKd
import Derived.Test.YtiojekbkamegdaaGreatDoorKi
set_option linter.unusedVariables false
set_option linter.unusedSimpArgs false
set_option linter.unusedSectionVars false
namespace Go.Proofs.YtiojekbkamegdaaGreatDoor
open Go.Proofs.Tryz
open Go.Proofs Go.Lib Go.Shelf Go.RowKit
theorem pl89 : Places prog 89 #[(0, 3), (3, 1), (4, 1), (5, 1)] [.raw (.slice none 0 0), .raw (.slice none 0 0), .raw (.slice none 0 0), .raw (.pointer none), .raw (.slice none 0 0), .raw (.map none)] := ⟨_, _, Ze, zeroValue89, fun w => by kernel_rfl, rfl⟩
variable {E : World}
set_option maxRecDepth 20000
theorem own_int {I J : G} {id : Nat} {T : TypeId} {l : List Int} {L : List (Nat × Obj)} (h : RepO I (id, .grow 1 T (cI l)) L) (hle : I.le J) (hJ : ∀ x ∈ L, J.k x.1 = some x.2) {v : Value} (hv : RepV I (.own id l.length) v) : RepV J (.fro 1 (l.map encI)) v :=
 own_fro (rows := l.map encI) (fun r hr => by obtain ⟨z, _, rfl⟩ := List.mem_map.1 hr; rfl) (by decide) (T := T) (L := L) (by rw [show (l.map encI).flatten = cI l from cI_flat l]; exact h) hle hJ (by rw [qk]; exact hv)
theorem ins_know {k : Nat} {ad : Option Addr} {I J : G} (hle : I.le J) : ∀ {ids : List Nat} {xs : List PInst} {L : List (Nat × Obj)} {j : Nat}, ids.length = xs.length → RepOs I (List.zipWith argX ids xs) L → (∀ x ∈ L, J.k x.1 = some x.2) → RepR I k ad j (List.zipWith inW ids xs) → RepR J k ad j (xs.map encInst)
 | [], [], _, _, _, _, _, _ => trivial
 | a :: ids, x :: xs, _, j, hl, ⟨A, B, e, hA, hB⟩, hJ, ⟨⟨b, off, vs, h1, h2, h3, h4⟩, h5⟩ => by
  subst e
  refine ⟨⟨b, off, vs, h1, h2, ?_, fun i u hi => (h4 i u hi).mono hle.k⟩, ins_know hle (by simpa using hl) hB (fun x hx => hJ x (List.mem_append_right _ hx)) h5⟩
  obtain ⟨v1, u1, e1, r1, v2, u2, e2, r2, v3, u3, e3, r3, r4⟩ := h3
  exact ⟨v1, u1, e1, q6 hle _ _ r1, v2, u2, e2, q6 hle _ _ r2, v3, u3, e3, own_int hA hle (fun x hx => hJ x (List.mem_append_left _ hx)) r3, RepL.mono hle _ _ r4⟩
theorem ph_know {k : Nat} {ad : Option Addr} {I J : G} (hle : I.le J) : ∀ {ids : List Nat} {xs : List PPhi} {L : List (Nat × Obj)} {j : Nat}, ids.length = xs.length → RepOs I (List.zipWith argP ids xs) L → (∀ x ∈ L, J.k x.1 = some x.2) → RepR I k ad j (List.zipWith phW ids xs) → RepR J k ad j (xs.map encPhi)
 | [], [], _, _, _, _, _, _ => trivial
 | a :: ids, x :: xs, _, j, hl, ⟨A, B, e, hA, hB⟩, hJ, ⟨⟨b, off, vs, h1, h2, h3, h4⟩, h5⟩ => by
  subst e
  refine ⟨⟨b, off, vs, h1, h2, ?_, fun i u hi => (h4 i u hi).mono hle.k⟩, ph_know hle (by simpa using hl) hB (fun x hx => hJ x (List.mem_append_right _ hx)) h5⟩
  obtain ⟨v1, u1, e1, r1, v3, u3, e3, r3, r4⟩ := h3
  exact ⟨v1, u1, e1, q6 hle _ _ r1, v3, u3, e3, own_int hA hle (fun x hx => hJ x (List.mem_append_left _ hx)) r3, RepL.mono hle _ _ r4⟩
theorem nb_know {I J : G} (hle : I.le J) : ∀ {ns : List NBk} {L : List (Nat × Obj)} {vs : List Value}, (∀ q ∈ ns, okNB q) → RepOs I (ns.flatMap nbO) L → (∀ x ∈ L, J.k x.1 = some x.2) → RepL I (ns.flatMap nbC) vs → RepL J ((ns.map (·.1)).map encBlk).flatten vs
 | [], _, _, _, _, _, h => h
 | q :: ns, L, vs, hok, hL, hJ, h => by
  rw [List.flatMap_cons] at hL h
  obtain ⟨A, B, rfl, hA, hB⟩ := RepOs.append.1 hL
  obtain ⟨v1, v2, rfl, h1, h2⟩ := h.cut
  have h3 := nb_know hle (fun q hq => hok q (.tail _ hq)) hB (fun x hx => hJ x (List.mem_append_right _ hx)) h2
  rw [List.map_cons, List.map_cons, List.flatten_cons]
  refine RepL.append ?_ h3
  obtain ⟨A1, A2, rfl, hA1, hA2⟩ := RepOs.append.1 hA
  have hJ1 : ∀ x ∈ A1, J.k x.1 = some x.2 := fun x hx => hJ x (List.mem_append_left _ (List.mem_append_left _ hx))
  have hJ2 : ∀ x ∈ A2, J.k x.1 = some x.2 := fun x hx => hJ x (List.mem_append_left _ (List.mem_append_right _ hx))
  obtain ⟨o1, o2⟩ := hok q (.head _)
  obtain ⟨a1, u1, e1, r1, a2, u2, e2, ⟨p1, p2, p3, p4, p5, p6, p7, p8⟩, a3, u3, e3, ⟨s1, s2, s3, s4, s5, s6, s7, s8⟩, r4⟩ := h1
  exact ⟨a1, u1, e1, q6 hle _ _ r1, a2, u2, e2, ⟨p1, p2, p3, p4, by rw [p5, List.length_zipWith, qk, o1, Nat.min_self], p6, p7, ph_know hle o1 hA2 hJ2 p8⟩, a3, u3, e3, ⟨s1, s2, s3, s4, by rw [s5, List.length_zipWith, qk, o2, Nat.min_self], s6, s7, ins_know hle o2 hA1 hJ1 s8⟩, RepL.mono hle _ _ r4⟩
def nbP (r : Int → Int) (q : NBk) : NBk := (⟨q.1.name, q.1.phis.map (numPh r), q.1.insts, q.1.term⟩, q.2)
theorem nbP_cells (r : Int → Int) (ns : List NBk) : (ns.map (nbP r)).flatMap nbC = ns.flatMap nbC := by
 rw [List.flatMap_map]
 congr 1
 funext q
 have : List.zipWith phW q.2.1 (q.1.phis.map (numPh r)) = List.zipWith phW q.2.1 q.1.phis := by
  rw [List.zipWith_map_right]
  congr 1
  funext a p
  unfold phW numPh; simp
 unfold nbC nbP
 dsimp only
 rw [this]
theorem root_none (f : PFunc) (r : Int → Int) : rootL f r (fun _ => false) = (List.range f.vars.length).map fun (v : Nat) => (v : Int) := by
 unfold rootL; simp
theorem blksV_none (f : PFunc) (r : Int → Int) : blksV f r (fun _ => false) = f.blocks := by
 refine List.ext_getElem? fun j=>?_
 by_cases hj : j < f.blocks.length
 ·rw [blksV_get (qd hj), if_neg (by decide), qd hj]
 ·rw [List.getElem?_eq_none (by rw [blksV_len]; omega), List.getElem?_eq_none (by omega)]
theorem blksV_full {f : PFunc} {r : Int → Int} {V : Int → Bool} (h : ∀ j : Nat, j < f.blocks.length → V (j : Int) = true) : blksV f r V = f.blocks.map (halfB r) := by
 refine List.ext_getElem? fun j=>?_
 by_cases hj : j < f.blocks.length
 ·rw [blksV_get (qd hj), if_pos (h j hj), ql, qd hj]; rfl
 ·rw [List.getElem?_eq_none (by rw [blksV_len]; omega), List.getElem?_eq_none (by rw [qk]; omega)]
theorem bag_phi (A D : List NBk) (b : PBlock) (phn isn : List Nat) : ((A ++ (b, phn, isn) :: D).flatMap nbO).Perm (List.zipWith argP phn b.phis ++ (List.zipWith argX isn b.insts ++ (A.flatMap nbO ++ D.flatMap nbO))) :=
 (bag_split A D b phn isn).trans (List.perm_append_comm_assoc _ _ _)
theorem set_self {α : Type} : ∀ {l : List α} {j : Nat} {a : α}, l[j]? = some a → l.set j a = l
 | [], _, _, h => by simp at h
 | _ :: _, 0, _, h => by simp at h; subst h; rfl
 | _ :: l, j + 1, a, h => by rw [List.set_cons_succ, set_self (l := l) (by simpa using h)]
theorem put_gen {α : Type} {g : α → α} {l : List α} {k : Nat} (h : k < l.length) : ((l.take k).map g ++ l.drop k).set k (g l[k]) = (l.take (k + 1)).map g ++ l.drop (k + 1) := by
 rw [List.set_append_right _ _ (by simp; omega), qk, qo, Nat.min_eq_left (by omega), Nat.sub_self, List.drop_eq_getElem_cons h, List.set_cons_zero, qe h, qn, qf]; rfl
set_option maxHeartbeats 32000000 in
theorem numF_spec {r : Int → Int} {rk : Nat → Nat → Nat} (f : PFunc) (hL : Letters E) (ht : typedB f = true) (hs : singB f = true) (hN : NumA f r rk) (hpa : ∀ b ∈ f.blocks, ∀ p ∈ b.phis, ∀ v ∈ p.args, 0 ≤ v ∧ v < f.vars.length) : AFun prog E 12 [.agg (encF f)] (.tup [.agg (encF (numF f r)), .int .i64 0]) := by
 have hf := hN.hf
 have hE := hN.hE
 have hA := hN.hA
 have hW := hN.hW
 have hG := hE.grph
 have hpos := hE.pos
 obtain ⟨hf1, hf2, hf3, hf4, hf5⟩ := id hf
 have hright := SingRight_spec (E := E) f hf hL
 rw [ht, hs] at hright
 have hall : ∀ j : Nat, j < f.blocks.length → (j : Int) ∈ orderT (EndsOf f) f.blocks.length := fun j hj => (order_mem hG.toEOk _).2 (hA j hj)
 have hd0 : ∀ j, Dom (EndsOf f) j 0 → j = 0 := fun j hj => dom_anti hG hj (.root hj.rch)
 refine zo func12 Z (by decide) Z<|zSr<|y9 (cs := _) Z Z Z<|zz (cs := [.raw (.slice none 0 0), .raw (.slice none 0 0), .raw (.slice none 0 0)]) Zt Z Z<|fun i2 => zVzAi Z<|z6<|za<|zSr<|zVGvloadWF ji je Z Z<|zk (hright) Z<|zVzAi Z<|z6<|zSr<|zVzMi Z<|zVGvneqI Z Z<|z6<|yg Z Z<|ze<|zSr<|zVGvloadWF ji je Z Z<|zk (New_spec f hf hL ht) Z<|z8 (zMu Z)<|z8 (q5 (v := .pf _) Z Z)<|z8 (zXi Z Z)<|z8 (yc (v := .pf _) Z)<|zVzAi Z<|z6<|za<|zSr<|zVzMi Z<|zVGvneqI Z Z<|z6<|yg Z Z<|ze<|zSr<|zVGvloadWF ji je Z Z<|y4 Z (zp (.r (.rest _))) (copyN_own f hf) ?_
 rintro r29 O29 ⟨⟨ib, ns⟩, rfl, rfl, hns, hok⟩
 refine z8 (zMg Z)<|AOps.makeMapK<|fun b31 => z8 (y7 (cps := [(0, [_, _, _]), (1, [_]), (3, [_])]) (rs := [_, _, _, _, .raw (.slice none 0 0), _]) pl89 Z Z Z)<|yh (cs := _) Z Z Z Z<|fun i33 => z8 (zAp Z)<|z6<|za<|zSr<|zVzFF j9 Z Zm Z Z<|zVzLf Zv Z<|zVGvlenM js Z<|zVzMi Z<|z6<|adoptC_wp (off := 4) (k := 1) (T := 3) (fun _ => .head) Z<|fun jr => zy (zb (zc .t4))<|zy (zb (zc .t3))<|zy (zb (zc .t4))<|zy (zb (zc .t4))<|zy (zb (zc .t4))<|zg<|zx (γ := Nat × Nat) [2, 7, 36] (fun g => [(37, .int .i64 g.1)]) (fun g => [(g.2, .grow 1 3 (cI ((List.range g.1).map fun (v : Nat) => (v : Int)))), (i33, .cells 89 [.fro 2 (f.vars.map encVar), .fro 1 (f.params.map encI), .own ib f.blocks.length, treeT f, .own g.2 g.1, mref b31]), (ib, .grow 7 58 (ns.flatMap nbC)), (0, mapK b31 []), (0, bag (ns.flatMap nbO)), (i2, .cells 26 [.raw (.slice none 0 0), .raw (.slice none 0 0), .raw (.slice none 0 0)])]) (fun g => g.1 ≤ f.vars.length) (fun g => f.vars.length - g.1) (0, jr) zR1 zLe (qg _) ?_
 rintro ⟨k, jr⟩ hk
 try dsimp only at *
 refine zSr<|zVGvlss Z Z<|z6<|za<|zq Z (fun ck=>?_) (fun ck=>?_)
 ·have hk2 : k < f.vars.length := by omega
  refine ze<|za<|zg<|zSr<|zVzMi Z<|zVzAi Z<|z6<|zRg<|z8 (zMp Z)<|z8 (zMp Z)<|z8 (yd Z)<|z8 (zl Ze Z j8 (by decide) Z Z)<|z8 (zm (c := .own _ _) jg Z ⟨_, .t1⟩ Z)<|zVzMi Z<|zt (rows := [[_]]) ps23_1 Z Z Z Z Z<|yj (k := 1) j4 type3 Z Z Z Z Z (fun _ => .head) (by rw [cI_len, qk, List.length_range]; omega) (by decide) Z (by show (_ + _) * 8 ≤ _; simp <;> omega) (by simp <;> omega)<|fun i47 => z8 (yd Z)<|z8 (zl Ze Z j8 (by decide) Z Z)<|q8 (l := [_]) (new := [_, _, _, _, _, _]) j8 Z Z Z Z Z Z .t1 Z Z<|z6<|zRg<|zVzAd Z Z<|zVzMi Z<|z6 ?_
  exact ⟨(k + 1, i47), zR3, zR1, ⟨_, (.refl _), by rw [List.range_succ, qn, ← cI_app]; rfl⟩, hk2, by dsimp only; omega⟩
 ·obtain rfl : k = f.vars.length := by omega
  rw [← root_none f r]
  refine zy (zb (zc .t4))<|zy (zb (zc .t4))<|zy (zb (zc .t2))<|zy (zb (zc .t4))<|zy (zb (zc .t4)) ?_
  have hT0 : TAt f r 0 0 [] := ⟨List.nodup_nil, fun key d => by
   constructor
   ·intro h; cases h
   ·rintro ⟨j, q, x, hx, ha, _⟩
    exfalso
    rcases ha with ha | ⟨_, ha⟩ | ⟨_, ha, hb⟩
    ·dsimp only at ha; omega
    ·dsimp only at ha; omega
    ·exact ha (hd0 _ hb)⟩
  have hV0 : VisB f (fun _ => false) ((0 : Nat) : Int) := ⟨fun j hj hne => absurd (hd0 j hj) hne, fun _ _ => rfl⟩
  have hlev0 := hG.lev_nn (hall 0 hpos)
  have hblk := block_all (E := E) f hN i33 jr b31 (f.blocks.length + 1) 0 f.blocks[0] (fun _ => false) ib ns [] (qd hpos) (by omega) hV0 (by rw [hns, blksV_none]) hok hT0
  refine zw<|zSr<|z8 (zMp Z)<|y4 Z (zp (.l (.l (.l (.l (.l (.r (.rest _)))))))) (hblk) ?_
  rintro r52 O52 ⟨⟨n1, T1⟩, rfl, rfl, h1, h2, h3⟩
  refine z6 ?_
  have hdom : ∀ j : Nat, j < f.blocks.length → domB (EndsOf f) f.blocks.length ((0 : Nat) : Int) (j : Int) = true := fun j hj => (hG.domB_iff _ _).2 (.root (hA j hj))
  have hn1 : n1.map (·.1) = f.blocks.map (halfB r) := by
   rw [h1]; exact blksV_full fun j hj => by rw [hdom j hj]; rfl
  have hn1l : n1.length = f.blocks.length := by have := congrArg List.length hn1; simpa using this
  obtain ⟨R, hR⟩ : ∃ R, (rootL f r fun m => false || domB (EndsOf f) f.blocks.length ((0 : Nat) : Int) m.1) = R := ⟨_, rfl⟩
  have hRl : R.length = f.vars.length := by rw [← hR, rootL_len]
  have hRv : ∀ v : Int, 0 ≤ v → v < f.vars.length → vi R v = r v := fun v v0 v1 => by
   unfold vi
   rw [← hR, rootL_get (by omega), show ((v.toNat : Nat) : Int) = v by omega]
   show (if _ then _ else _) = _
   split
   ·rfl
   ·rename_i hne
    by_cases hv : ∃ j q x, NumI f j q x ∧ x.dst = v
    ·obtain ⟨j, q, x, hx, e⟩ := hv
     have hm := hW.hM.made j q x hx
     rw [e] at hm
     have hj := (List.getElem?_eq_some_iff.1 hx.1.choose_spec.1).1
     rw [hm] at hne
     dsimp only at hne
     rw [hdom j hj] at hne
     exact absurd rfl hne
    ·exact (hW.hr.id v fun i k x hx e => hv ⟨i, k, x, hx, e⟩).symm
  rw [hR]
  refine zy (GStep.eq (show _ = ([(i33, .cells 89 (wkC f ib jr b31)), (ib, .grow 7 58 (n1.flatMap nbC)), (jr, .grow 1 3 (cI R)), (0, mapK b31 T1), (0, bag (n1.flatMap nbO)), (i2, .cells 26 [.raw (.slice none 0 0), .raw (.slice none 0 0), .raw (.slice none 0 0)])] : OL) from Z))<|za<|zSr<|z8 (zMp Z)<|z8 (yd Z)<|z8 (zl Ze Z je (by decide) Z Z)<|z8 (zl j9 Z jp (by decide) Z Z)<|z8 (zm (c := .own _ _) jt Z ⟨_, .head⟩ Z)<|z8 (Gv.lenO jf Z)<|zVzMi Z<|z6 ?_
  have hC : ∀ q ∈ n1, okNB q := h2
  refine zg<|zx (γ := Nat) [2, 7, 57, 58] (fun g => [(59, .int .i64 g)]) (fun g => [(i33, .cells 89 (wkC f ib jr b31)), (ib, .grow 7 58 (n1.flatMap nbC)), (jr, .grow 1 3 (cI R)), (0, mapK b31 T1), (0, bag (((n1.take g).map (nbP r) ++ n1.drop g).flatMap nbO)), (i2, .cells 26 [.raw (.slice none 0 0), .raw (.slice none 0 0), .raw (.slice none 0 0)])]) (fun g => g ≤ f.blocks.length) (fun g => f.blocks.length - g) 0 zR1 zLe (qg _) ?_
  rintro k hk
  refine zSr<|zVGvlss Z Z<|z6<|za<|zq Z (fun ck=>?_) (fun ck=>?_)
  ·have hk2 : k < f.blocks.length := by omega
   have hk3 : k < n1.length := by omega
   obtain ⟨⟨b1, phn, isn⟩, hq⟩ : ∃ q, n1[k] = q := ⟨_, rfl⟩
   have hqm : (b1, phn, isn) ∈ n1 := hq ▸ qh hk3
   obtain ⟨ok1, ok2⟩ : phn.length = b1.phis.length ∧ isn.length = b1.insts.length := h2 _ hqm
   obtain ⟨b, hbm, hb1⟩ : ∃ b ∈ f.blocks, b1 = halfB r b := by
    have : b1 ∈ n1.map (·.1) := List.mem_map.2 ⟨_, hqm, rfl⟩
    rw [hn1] at this
    obtain ⟨b, h4, h5⟩ := List.mem_map.1 this
    exact ⟨b, h4, h5.symm⟩
   have hphi : b1.phis = b.phis := by rw [hb1]; rfl
   obtain ⟨hb0, hbp, hb2, hb3, hb4⟩ := hf5 b hbm
   have hbp1 : b1.phis.length ≤ 1000 := by rw [hphi]; exact hbp
   have hrow : (n1.flatMap nbC).drop (k * 7) = nbC (b1, phn, isn) ++ (n1.drop (k + 1)).flatMap nbC := by
    have e : n1 = n1.take k ++ (b1, phn, isn) :: n1.drop (k + 1) := by rw [← hq, ← List.drop_eq_getElem_cons hk3, List.take_append_drop]
    conv => lhs; rw [e]
    rw [List.flatMap_append, List.flatMap_cons]
    have := drop_at (P := (n1.take k).flatMap nbC) (R := nbC (b1, phn, isn) ++ (n1.drop (k + 1)).flatMap nbC) (n := k * 7) (by rw [nbC_len, qo]; congr 1; omega) 0
    exact this
   have hne : n1.flatMap nbC ≠ [] := fun h => by have := congrArg List.length h; rw [nbC_len] at this; simp at this; omega
   have hcl : (n1.flatMap nbC).length = f.blocks.length * 7 := by rw [nbC_len, hn1l]
   have hdk : n1.drop k = (b1, phn, isn) :: n1.drop (k + 1) := by rw [← hq]; exact List.drop_eq_getElem_cons hk3
   have htk : n1.take (k + 1) = n1.take k ++ [(b1, phn, isn)] := by rw [← hq]; exact qe hk3
   obtain ⟨Y, hY⟩ : ∃ Y, List.zipWith argX isn b1.insts ++ (((n1.take k).map (nbP r)).flatMap nbO ++ (n1.drop (k + 1)).flatMap nbO) = Y := ⟨_, rfl⟩
   have hperm : (((n1.take k).map (nbP r) ++ n1.drop k).flatMap nbO).Perm (List.zipWith argP phn b1.phis ++ Y) := by
    rw [hdk, ← hY]; exact bag_phi _ _ _ _ _
   have hback : (List.zipWith argP phn (b1.phis.map (numPh r)) ++ Y).Perm (((n1.take (k + 1)).map (nbP r) ++ n1.drop (k + 1)).flatMap nbO) := by
    rw [htk, qn, qf, ← hY]
    exact (bag_phi ((n1.take k).map (nbP r)) (n1.drop (k + 1)) (nbP r (b1, phn, isn)).1 phn isn).symm
   have hzl : (List.zipWith phW phn b1.phis).length = b1.phis.length := by rw [List.length_zipWith, ok1, Nat.min_self]
   refine ze<|za<|zg<|zSr<|z8 (Gv.idxO (j := k) jf jk Z Z Z ⟨_, .t1⟩ hne hk2)<|z8 (Gv.loadAG (l := [_, _, _, _, _, _, _]) Zk jk Z ⟨_, .t1⟩ hne (by rw [hcl]; show k * 7 + 7 ≤ _; omega) (show (_ : List AV).take 7 = nbC (b1, phn, isn) by rw [hrow]; rfl))<|zz (cs := [.str ⟨#[]⟩, .raw (.slice none 0 0), .raw (.slice none 0 0), .int .i64 0, .int .i64 0, .int .i64 0, .int .i64 0]) ju Z Z<|fun i10 => zu jk Z Z Z Z Z Z .head Z<|zd (ye (t := 10) Z .head)<|z6<|zSr<|zVzFF j7 Z Z4 Z Z<|zVzLf Zj Z<|z8 (Gv.lenF jl Z)<|zVzMi Z<|z6<|zy (GStep.bagPerm (X' := List.zipWith argP phn b1.phis ++ Y) (hperm) .t4)<|zg<|zx (γ := Nat) [2, 7, 57, 58, 59, 64, 65] (fun g => [(66, .int .i64 g)]) (fun g => [(i33, .cells 89 (wkC f ib jr b31)), (ib, .grow 7 58 (n1.flatMap nbC)), (jr, .grow 1 3 (cI R)), (0, mapK b31 T1), (0, bag (List.zipWith argP phn ((b1.phis.take g).map (numPh r) ++ b1.phis.drop g) ++ Y)), (i2, .cells 26 [.raw (.slice none 0 0), .raw (.slice none 0 0), .raw (.slice none 0 0)])]) (fun g => g ≤ b1.phis.length) (fun g => b1.phis.length - g) 0 zR1 zLe (qg _) ?_
   rintro m hm
   refine zSr<|zVGvlss Z Z<|z6<|za<|zq Z (fun cm=>?_) (fun cm=>?_)
   ·have hm2 : m < b1.phis.length := by
     have cm : (m : Int) < ((List.zipWith phW phn b1.phis).length : Nat) := cm
     rw [hzl] at cm; omega
    obtain ⟨p, hp⟩ : ∃ p, b1.phis[m] = p := ⟨_, rfl⟩
    have hpb : p ∈ b.phis := by rw [← hphi, ← hp]; exact qh hm2
    have hpl := (hb3 p hpb).1
    have hpr := hpa b hbm p hpb
    obtain ⟨a, ha⟩ : ∃ a, phn[m]? = some a := ⟨_, qd (by omega)⟩
    have hget : b1.phis[m]? = some p := by rw [qd hm2, hp]
    have hrw : (List.zipWith phW phn b1.phis)[m]? = some (phW a p) := by rw [List.getElem?_zipWith, ha, hget]
    have hLm : ((b1.phis.take m).map (numPh r) ++ b1.phis.drop m)[m]? = some p := by
     rw [List.getElem?_append_right (by simp; omega)]
     simp [Nat.min_eq_left (Nat.le_of_lt hm2), hm2, hp]
    obtain ⟨X, hX1, hX2⟩ := zip_out argP phn _ m ha hLm
    have hX3 := (hX2 a (numPh r p)).append_right Y
    rw [set_self ha, ← hp, put_gen hm2, hp] at hX3
    have hmap : p.args.map (vi R) = p.args.map r := List.map_congr_left fun v hv => hRv v (hpr v hv).1 (hpr v hv).2
    refine ze<|za<|zg<|zSr<|z8 (Gv.idxF (j := m) jl jo Z Z Z hrw)<|zVGvloadWF Zs jo Z Z<|zz (cs := [.int .i64 0, .raw (.slice none 0 0), .raw (.slice none 0 0)]) Z3 Z Z<|fun i12 => zu jo Z Z Z Z Z Z .head Z<|zd (ye (t := 12) Z .head)<|z6<|zy (GStep.bagOut (i := a) (o := .grow 1 3 (cI p.args)) (X' := X ++ Y) (hX1.append_right Y) .t4)<|zRg<|z8 (zMp Z)<|zVzFF jj Z j8 Z Z<|z8 (yv (c := .own _ _) jg Z)<|y4 Z (zp (.l (.l (.r (.l (.r (.r (.r (.rest _))))))))) (put_spec i33 jr a _ _ _ _ _ f.vars.length R p.args hRl (fun v hv => ⟨(hpr v hv).2, (hpr v hv).1⟩) hpl) ?_
    rintro r73 O73 ⟨rfl, rfl⟩
    refine z6 ?_
    rw [hmap]
    refine zy (GStep.bagIn (X' := List.zipWith argP phn ((b1.phis.take (m + 1)).map (numPh r) ++ b1.phis.drop (m + 1)) ++ Y) .head (hX3) .t4)<|zy (zb (zc .t5))<|zy (zb (zc .t5))<|zy (zb (zc .t5))<|zy (zb (zc .t4))<|zy (zb (zc .t5))<|zy (zb (zc .t5))<|zRg<|zVzAd Z Z<|zVzMi Z<|z6 ?_
    exact ⟨m + 1, zR7, zR1, zLe, hm2, by omega⟩
   ·obtain rfl : m = b1.phis.length := by
     have cm : ¬ (m : Int) < ((List.zipWith phW phn b1.phis).length : Nat) := cm
     rw [hzl] at cm; omega
    rw [qi, List.drop_length, List.append_nil]
    refine zy (GStep.bagPerm (X' := ((n1.take (k + 1)).map (nbP r) ++ n1.drop (k + 1)).flatMap nbO) (hback) .t4)<|zw<|zRg<|zVzAd Z Z<|zVzMi Z<|z6 ?_
    exact ⟨k + 1, zR4, zR1, zLe, hk2, by omega⟩
  ·obtain rfl : k = f.blocks.length := by omega
   rw [← hn1l, qi, List.drop_length, List.append_nil]
   have hn2 : (n1.map (nbP r)).map (·.1) = f.blocks.map (numB r) := by
    have e1 : (n1.map (nbP r)).map (·.1) = (n1.map (·.1)).map fun c => ⟨c.name, c.phis.map (numPh r), c.insts, c.term⟩ := by
     rw [List.map_map, List.map_map]; rfl
    rw [e1, hn1, List.map_map]; rfl
   have hok2 : ∀ q ∈ n1.map (nbP r), okNB q := fun q hq => by
    obtain ⟨q0, hq0, rfl⟩ := List.mem_map.1 hq
    have := h2 q0 hq0
    exact ⟨by rw [show (nbP r q0).1.phis = q0.1.phis.map (numPh r) from rfl, qk]; exact this.1, this.2⟩
   rw [← nbP_cells r n1]
   refine zy (GStep.bagKnow (cs' := ((f.blocks.map (numB r)).map encBlk).flatten) .t4 .t1 (fun I J L vs hle hX hJ h => by rw [← hn2]; exact nb_know hle hok2 hX hJ h))<|zy (GStep.knowC (off := 2) (rows := (f.blocks.map (numB r)).map encBlk) .t1 .head Z (by simp [encI, encVar, encPhi, encInst, encBlk]) (by decide) (by simp))<|zw<|zSr<|z8 (zMp Z)<|z8 (yd Z)<|z8 (zl Ze Z je (by decide) Z Z)<|z8 (Gv.loadAC (l := [_, _, _]) ji je Z ⟨_, .head⟩ Z Z)<|zu je Z Z Z Z Z Z .t3 Z<|zVzAi Z<|z6<|zi<|afin.c1t (y := .int _ _) Z Z ⟨_, .t3⟩ ji je Z ?_
   rfl
end Go.Proofs.YtiojekbkamegdaaGreatDoor
namespace Go.Proofs.YtiojekbkamegdaaGreatDoor
open Go.Proofs.Tryz
open Go.Proofs Go.Lib Go.Shelf Go.RowKit
variable {E : World}
set_option maxRecDepth 20000
end Go.Proofs.YtiojekbkamegdaaGreatDoor
namespace Go.Proofs.YtiojekbkamegdaaGreatDoor
open Go.Proofs.Tryz
open Go.Proofs
variable {E : World}
set_option maxRecDepth 20000
end Go.Proofs.YtiojekbkamegdaaGreatDoor
namespace Go.Proofs.YtiojekbkamegdaaGreatDoor
open Go.Proofs.Tryz
open Go.Proofs
variable {E : World}
set_option maxRecDepth 20000
end Go.Proofs.YtiojekbkamegdaaGreatDoor
namespace Go.Proofs.YtiojekbkamegdaaGreatDoor
open Go.Proofs.Tryz
def AAnyR (P : Program) (E : World) (l : List Oper) (Q : AEnv → OL → Prop) (fuel : Nat) (listed : Array Bool) (env : AEnv) (R Om : OL) : Prop :=
 ∀ I F ρ w Lr, RepE I env ρ → RepOs I R Lr → SLA I Om (Lr ++ F) E w → AnyV P l.toArray (stays I.k Lr E) (stays I.k Lr E) (fun _ => false) (postK I F E Q) fuel listed ρ w
section
variable {E : World} {P : Program} {n : Nat} {l : List Oper} {Q : AEnv → OL → Prop} {fuel : Nat} {listed : Array Bool} {env : AEnv} {O R Om : OL}
variable {d ty : Nat} {op : Op} {pos : String} {af : Array Edge}
theorem AAnyR.takeK {i : Nat} {x : AV} (hi : l[i]? = some (Oper.mk (some d) op ty pos af none)) (hs : Region.noSelect l.toArray = true) (hf : Region.free .any l.toArray listed i = true)
  (hr : (Region.ready .any l.toArray listed).contains i = true) (hg : Gv P env R (Oper.mk (some d) op ty pos af none) x)
  (h : AAnyR P E l Q fuel (listed.setIfInBounds i true) (aupd env d x) R Om) : AAnyR P E l Q (fuel + 1) listed env R Om := fun I F ρ w Lr h1 hLr h2 => by
 obtain ⟨v, hv, hrun⟩ := hg I Lr E ρ h1 hLr
 exact AnyV.takeK hi hs hf hr rfl h2.here (.inr h2.here) (fun w ⟨J, L', a, b, c⟩ => hrun w J L' a b c) (h I F _ w Lr (h1.upd d hv) hLr h2)
theorem AAnyR.one {i : Nat} {o : Oper} (hi : l[i]? = some o) (hr : Region.ready .any l.toArray listed = [i])
  (h : AOps P E l.toArray (fun env' Om' => AAnyR P E l Q fuel (listed.setIfInBounds i true) env' R Om') [o] env Om) : AAnyR P E l Q (fuel + 1) listed env R Om := fun I F ρ w Lr h1 hLr h2 =>
 AnyV.one hi hr (yq (fun ρ' w' ⟨J, env', Om', a, b, c, d⟩ => by
  have hst : stays I.k Lr E w' := by
   obtain ⟨J', L', h3, h4, h5⟩ := c.here
   exact ⟨J', L', a.k.trans h3, h4, h5⟩
  refine ⟨⟨hst, .inr hst⟩, AnyV.mono ?_ ?_ (fun _ _ => yz a) _ _ _ _ (d J F ρ' w' Lr b (hLr.mono a) c)⟩
  ·rintro w ⟨J', L', h3, h4⟩; exact ⟨J', L', a.k.trans h3, h4⟩
  ·rintro w ⟨J', L', h3, h4⟩; exact ⟨J', L', a.k.trans h3, h4⟩) _ _ _ (h I (Lr ++ F) ρ w h1 h2))
theorem AAnyR.done (hr : Region.ready .any l.toArray listed = []) (h : Q env (R ++ Om)) : AAnyR P E l Q fuel listed env R Om := fun I F ρ w Lr h1 hLr h2 =>
 AnyV.done hr ⟨I, env, R ++ Om, .refl _, h1, SLA.together hLr h2, h⟩
end
end Go.Proofs.YtiojekbkamegdaaGreatDoor
namespace Go.Proofs.YtiojekbkamegdaaGreatDoor
open Go.Proofs.Tryz
open Go.Proofs
def Imp (x y : AV) : Prop := ∀ I v, RepV I x v → RepV I y v
def ImpL (xs ys : List AV) : Prop := ∀ I vs, RepL I xs vs → RepL I ys vs
theorem Imp.refl (x : AV) : Imp x x := fun _ _ h => h
theorem Imp.nil (k : Nat) : Imp (.raw (.slice none 0 0)) (.fro k []) := fun _ _ h => ⟨none, 0, 0, h, rfl, Nat.le_refl _, fun _ => rfl, trivial⟩
theorem ImpL.nil : ImpL [] [] := fun _ _ h => h
theorem ImpL.cons {x y : AV} {xs ys : List AV} (h : Imp x y) (hs : ImpL xs ys) : ImpL (x :: xs) (y :: ys) := fun I _ ⟨v, us, e, h1, h2⟩ => ⟨v, us, e, h I v h1, hs I us h2⟩
theorem Imp.agg {xs ys : List AV} (h : ImpL xs ys) : Imp (.agg xs) (.agg ys) := fun I _ ⟨vs, e, h1⟩ => ⟨vs, e, h I vs h1⟩
end Go.Proofs.YtiojekbkamegdaaGreatDoor
namespace Go.Proofs.YtiojekbkamegdaaGreatDoor
open Go.Proofs.Tryz
open Go.Proofs Go.Lib Go.Shelf Go.RowKit
variable {E : World}
set_option maxRecDepth 20000
end Go.Proofs.YtiojekbkamegdaaGreatDoor
namespace Go.Proofs.YtiojekbkamegdaaGreatDoor
open Go.Proofs.Tryz
open Go.Proofs Go.Lib Go.Shelf Go.RowKit
variable {E : World}
set_option maxRecDepth 20000
theorem nT {p : Prop} [Decidable p] (h : (!decide p) = true) : ¬ p := by simpa using h
theorem nF {p : Prop} [Decidable p] (h : (!decide p) = false) : p := by simpa using h
end Go.Proofs.YtiojekbkamegdaaGreatDoor
namespace Go.Proofs.YtiojekbkamegdaaGreatDoor
open Go.Proofs.Tryz
open Go.Proofs Go.Lib Go.Shelf Go.RowKit
variable {E : World}
set_option maxRecDepth 20000
theorem hit_ahead {g : PFunc} (hE : EndsOk g) (hA : AllRP g) {i k : Nat} {b : PBlock} (hb : g.blocks[i]? = some b) {v : Int} : aheadR g (makerT g v) i k = true ↔ AheadP g (makerT g v) i k := by
 rw [aheadR_eq hE _ _ (hA i (List.getElem?_eq_some_iff.1 hb).1), aheadB_iff hE]
end Go.Proofs.YtiojekbkamegdaaGreatDoor
namespace Go.Proofs.YtiojekbkamegdaaGreatDoor
open Go.Proofs.Tryz
open Go.Proofs Go.Lib Go.Shelf Go.RowKit
theorem pl79 : Places prog 79 #[(0, 1), (1, 1)] [.str ⟨#[]⟩, .int .i64 0] := ⟨_, _, Z9, zeroValue79, fun w => by kernel_rfl, rfl⟩
theorem ps22_4 : PlacesS prog 22 79 4 2 [.str ⟨#[]⟩, .int .i64 0, .str ⟨#[]⟩, .int .i64 0, .str ⟨#[]⟩, .int .i64 0, .str ⟨#[]⟩, .int .i64 0] := ⟨_, js, Zn, zeroValue79, by decide, by decide, by kernel_rfl⟩
theorem ps52_2 : PlacesS prog 52 61 2 4 [.int .i64 0, .int .i64 0, .raw (.slice none 0 0), .int .i64 0, .int .i64 0, .int .i64 0, .raw (.slice none 0 0), .int .i64 0] := ⟨_, jh, jm, jz, by decide, by decide, by kernel_rfl⟩
theorem pl56 : Places prog 56 #[(0, 1), (1, 1), (2, 2)] [.int .i64 0, .int .i64 0, .int .i64 0, .int .i64 0] := ⟨_, _, jc, zeroValue56, fun w => by kernel_rfl, rfl⟩
variable {E : World}
set_option maxRecDepth 20000
theorem inst_F {f : PFunc} (hS : ShapedP f) {b : PBlock} (hb : b ∈ f.blocks) {x : PInst} (hx : x ∈ b.insts) : InstF f x := instP_F ((hS.2.2.2.2.2 b hb).2.1 x hx)
theorem inst_dst {f : PFunc} (hS : ShapedP f) {b : PBlock} (hb : b ∈ f.blocks) {x : PInst} (hx : x ∈ b.insts) : x.dst < f.vars.length ∧ (cntB x.op = true → 0 ≤ x.dst) := by
 have hF := inst_F hS hb hx
 rcases hF.dst with ⟨h1, h2⟩ | ⟨_, _, h3⟩
 ·refine ⟨by omega, fun hc=>?_⟩
  unfold cntB at hc
  have hop := hF.op
  have : makesB x.op = true := by
   obtain ⟨j, hj⟩ : ∃ j : Nat, x.op = (j : Int) := ⟨x.op.toNat, by omega⟩
   rw [hj, makesN j (by omega)]
   have hc := of_decide_eq_true hc
   have : j = 0 ∨ j = 2 ∨ j = 3 ∨ j = 4 ∨ j = 5 ∨ j = 6 ∨ j = 7 ∨ j = 8 ∨ j = 9 ∨ j = 10 ∨ j = 11 ∨ j = 12 ∨ j = 16 := by omega
   rcases this with h | h | h | h | h | h | h | h | h | h | h | h | h <;> (rw [h]; decide)
  rw [this] at h1; cases h1
 ·exact ⟨(has_lt h3).1, fun _ => (has_lt h3).2⟩
theorem inst_cnt {f : PFunc} {x : PInst} (hF : InstF f x) (hc : cntB x.op = true) : x.args.length ≤ 2 ∧ (trnB x.op = true → x.args.length = 2) := by
 have hop := hF.op
 obtain ⟨j, hj⟩ : ∃ j : Nat, x.op = (j : Int) := ⟨x.op.toNat, by omega⟩
 rw [hF.argc, hj]
 unfold cntB at hc
 unfold trnB
 rw [hj] at hc
 have hc := of_decide_eq_true hc
 have : j = 0 ∨ j = 2 ∨ j = 3 ∨ j = 4 ∨ j = 5 ∨ j = 6 ∨ j = 7 ∨ j = 8 ∨ j = 9 ∨ j = 10 ∨ j = 11 ∨ j = 12 ∨ j = 16 := by omega
 rcases this with h | h | h | h | h | h | h | h | h | h | h | h | h <;> (subst h; decide)
theorem num_all {f : PFunc} (hf : small f) (hS : ShapedP f) (hE : EndsOk f) (hs : SingP f) : ∃ rk, NumOk f rk ∧ ∀ r, Roots f r → NumA f r rk := by
 obtain ⟨hJ, hA, ho, hB⟩ := hs
 have hat : ∀ i k x, AtI f i k x → ∃ b ∈ f.blocks, x ∈ b.insts := fun i k x ⟨b, h1, h2⟩ => ⟨b, qm h1, qm h2⟩
 have hd : ∀ i k x, NumI f i k x → 0 ≤ x.dst ∧ x.dst < f.vars.length := fun i k x h => by
  obtain ⟨b, hb, hx⟩ := hat i k x h.1
  have := inst_dst hS hb hx
  exact ⟨this.2 h.2, this.1⟩
 have hd2 : ∀ i k x, AtI f i k x → x.dst < f.vars.length := fun i k x h => by
  obtain ⟨b, hb, hx⟩ := hat i k x h
  exact (inst_dst hS hb hx).1
 have hH := numH_of (M := 1000) hE hA ho hB hd fun b hb => (hf.2.2.2.2 b hb).2.2.1
 have hO := oneM_of ho hd2
 have hok : NumOk f _ := ⟨hH, hO, hd⟩
 have hV := oneV_of ho (fun b hb x hx => (inst_dst hS hb hx).1) fun b hb p hp => by
  have := has_lt ((hS.2.2.2.2.2 b hb).1 p hp).1
  exact ⟨this.2, this.1⟩
 refine ⟨_, hok, fun r hr => ⟨hf, hE, hA, hB, fun b hb x hx v hv => ?_, fun b hb hk => ?_, ⟨hok, hr, ?_, ?_⟩⟩⟩
 ·have := has_lt ((inst_F hS hb hx).args v hv)
  exact ⟨this.2, this.1⟩
 ·have h := (hS.2.2.2.2.2 b hb).2.2
  unfold termOK at h
  rw [if_neg hk] at h
  have h2 : hasV f b.term.var = true := by
   split at h
   ·simp only [qr] at h; exact h.1.1
   ·split at h
    ·simp only [qr] at h; exact h.1
    ·cases h
  have := has_lt h2
  exact ⟨this.2, this.1⟩
 ·exact keyI_of (fun b hb x hx hc => inst_cnt (inst_F hS hb hx) hc) (fun b hb x hx c hc y hy e => by rw [(inst_F hS hb hx).argc, (inst_F hS hc hy).argc, e]) r
 ·exact ⟨fun i k x ⟨⟨b, h1, h2⟩, hc⟩ => hV.inst i k b x h1 h2 (hd i k x ⟨⟨b, h1, h2⟩, hc⟩).1, hd⟩
theorem phi_args {f : PFunc} (hS : ShapedP f) : ∀ b ∈ f.blocks, ∀ p ∈ b.phis, ∀ v ∈ p.args, 0 ≤ v ∧ v < f.vars.length := fun b hb p hp v hv => by
 have := has_lt (List.all_eq_true.1 ((hS.2.2.2.2.2 b hb).1 p hp).2.2.2.1 v hv)
 exact ⟨this.2, this.1⟩
def exF : PFunc := ⟨[⟨⟨#[110]⟩, 0⟩, ⟨⟨#[107]⟩, 0⟩, ⟨⟨#[109]⟩, 0⟩, ⟨⟨#[108]⟩, 0⟩], [0, 1], [⟨⟨#[97]⟩, [], [⟨2, 2, [0, 1], 0⟩, ⟨2, 3, [1, 0], 0⟩], ⟨2, 3, 0, 0⟩⟩]⟩
def exR (v : Int) : Int := if v = 3 then 2 else v
theorem ex_small : small exF := by unfold small exF; simp [smallBlk]; decide
theorem ex_typed : typedB exF = true := by decide +kernel
theorem ex_sing : singB exF = true := by decide +kernel
theorem ex_at {i k : Nat} {x : PInst} (h : NumI exF i k x) : i = 0 ∧ ((k = 0 ∧ x = ⟨2, 2, [0, 1], 0⟩) ∨ (k = 1 ∧ x = ⟨2, 3, [1, 0], 0⟩)) := by
 obtain ⟨⟨b, h1, h2⟩, _⟩ := h
 match i, h1 with
 | 0, h1 =>
  cases h1
  match k, h2 with
  | 0, h2 => cases h2; exact ⟨rfl, .inl ⟨rfl, rfl⟩⟩
  | 1, h2 => cases h2; exact ⟨rfl, .inr ⟨rfl, rfl⟩⟩
  | k + 2, h2 => exact absurd h2 (by simp)
 | i + 1, h1 => exact absurd h1 (by simp [exF])
theorem ex_roots : Roots exF exR := by
 have hno : ∀ {k : Nat}, ¬ AheadI exF 0 k 0 0 := fun {k} h => by
  rcases h with h | ⟨_, h⟩ | ⟨_, h, _⟩
  ·dsimp only at h; omega
  ·dsimp only at h; omega
  ·exact h rfl
 refine ⟨fun v hv => ?_, fun i k y hy => ?_, fun i k y i' k' x hy hx ha rx ry => ?_⟩
 ·unfold exR
  split
  ·rename_i e
   exact absurd e.symm (hv 0 1 ⟨2, 3, [1, 0], 0⟩ ⟨⟨_, rfl, rfl⟩, rfl⟩)
  ·rfl
 ·obtain ⟨rfl, ⟨rfl, rfl⟩ | ⟨rfl, rfl⟩⟩ := ex_at hy
  ·exact .inl rfl
  ·exact .inr ⟨0, 0, ⟨2, 2, [0, 1], 0⟩, ⟨⟨_, rfl, rfl⟩, rfl⟩, .inr (.inl ⟨rfl, by decide⟩), rfl, rfl, by decide⟩
 ·obtain ⟨rfl, ⟨rfl, rfl⟩ | ⟨rfl, rfl⟩⟩ := ex_at hy
  ·obtain ⟨rfl, _⟩ := ex_at hx
   exact absurd ha hno
  ·exact absurd ry (by decide)
theorem lives31_spec (hL : Letters E) : AFun prog E 10 [] (.bool true) := by
 have hS := typedB_shaped ex_typed
 have hE := typedB_ends ex_typed
 obtain ⟨rk, _, hN⟩ := num_all ex_small hS hE ((singB_iff hE).1 ex_sing)
 have hnum := numF_spec (E := E) exF hL ex_typed ex_sing (hN exR ex_roots) fun b hb p hp => by
  cases hb with
  | head => cases hp
  | tail _ hb => cases hb
 rw [show numF exF exR = ⟨[⟨⟨#[110]⟩, 0⟩, ⟨⟨#[107]⟩, 0⟩, ⟨⟨#[109]⟩, 0⟩, ⟨⟨#[108]⟩, 0⟩], [0, 1], [⟨⟨#[97]⟩, [], [⟨2, 2, [0, 1], 0⟩], ⟨2, 2, 0, 0⟩⟩]⟩ from by decide +kernel] at hnum
 refine zo func10 Z (by decide) Z<|zSr<|zVzAb Z<|z6<|zSr<|z8 (y7 (cps := [(0, [_])]) (rs := [_, .int .i64 0]) pl79 Z Z Z)<|z8 (y7 (cps := [(0, [_])]) (rs := [_, .int .i64 0]) pl79 Z Z Z)<|z8 (y7 (cps := [(0, [_])]) (rs := [_, .int .i64 0]) pl79 Z Z Z)<|z8 (y7 (cps := [(0, [_])]) (rs := [_, .int .i64 0]) pl79 Z Z Z)<|zt (rows := [[_, _], [_, _], [_, _], [_, _]]) ps22_4 Z Z Z Z Z<|zt (rows := [[_], [_]]) ps23_2 Z Z Z Z Z<|zt (rows := [[_], [_]]) ps23_2 Z Z Z Z Z<|z8 (y7 (cps := [(0, [_]), (1, [_]), (2, [_])]) (rs := [_, _, _, .int .i64 0]) pl61 Z Z Z)<|zt (rows := [[_], [_]]) ps23_2 Z Z Z Z Z<|z8 (y7 (cps := [(0, [_]), (1, [_]), (2, [_])]) (rs := [_, _, _, .int .i64 0]) pl61 Z Z Z)<|zt (rows := [[_, _, _, _], [_, _, _, _]]) ps52_2 Z Z Z Z Z<|z8 (y7 (cps := [(0, [_]), (1, [_])]) (rs := [_, _, .int .i64 0, .int .i64 0]) pl56 Z Z Z)<|z8 (y7 (cps := [(0, [_]), (2, [_]), (3, [_, _, _, _])]) (rs := [_, .raw (.slice none 0 0), _, _, _, _, _]) pl58 Z Z Z)<|zd (GStep.slot (t := 16) Z (Imp.agg (.cons (.refl _) (.cons (.nil 3) (.cons (.refl _) (.cons (.refl _) (.cons (.refl _) (.cons (.refl _) (.cons (.refl _) .nil)))))))))<|zt (rows := [[_, _, _, _, _, _, _]]) ps24_1 Z Z Z Z Z<|z8 (y7 (cps := [(0, [_]), (1, [_]), (2, [_])]) (rs := [_, _, _]) pl26 Z Z Z)<|zz (cs := [.raw (.slice none 0 0), .raw (.slice none 0 0), .raw (.slice none 0 0)]) Zt Z Z<|fun i1 => zu je Z Z Z Z Z Z .head Z<|zd (ye (t := 1) Z .head)<|z6<|zSr<|zVGvloadWF ji je Z Z<|zk (hnum) Z<|z8 (zMu Z)<|z8 (q5 (v := .agg _) Z Z)<|z8 (zXi Z Z)<|zz (cs := [.raw (.slice none 0 0), .raw (.slice none 0 0), .raw (.slice none 0 0)]) Zt Z Z<|fun i2 => zu je Z Z Z Z Z Z .head Z<|zd (ye (t := 2) Z .head)<|zVzAi Z<|z6<|zSr<|zVzMi Z<|zVGveqlI Z Z ?_
 refine zVzMb Z<|z7 Z Z Z<|zVzFF j9 Z jp Z Z<|z7 Z Z Z<|zVzLf jt Z<|z7 Z Z Z<|zVGvlenM jf Z<|z7 Z Z Z<|zVGveqlI Z Z<|zVzPt Z Z Z<|zVzMb Z<|z7 Z Z Z<|zVzFF j9 Z jp Z Z<|z7 Z Z Z<|zVzLf jt Z<|z7 Z Z Z<|z8 (zIM 0 jf jk Z Z Z Z)<|z7 Z Z Z<|zVzFF j7 Z jv Z Z<|z7 Z Z Z<|zVzLf Z5 Z<|z7 Z Z Z<|zVGvlenM jh Z<|z7 Z Z Z<|zVGveqlI Z Z<|zVzPt Z Z Z<|zVzMb Z<|z7 Z Z Z<|zVzFF j9 Z jp Z Z<|z7 Z Z Z<|zVzLf jt Z<|z7 Z Z Z<|z8 (zIM 0 jf jk Z Z Z Z)<|z7 Z Z Z<|zVzFF j7 Z jy Z Z<|z7 Z Z Z<|zVzFF jc Z j5 Z Z<|z7 Z Z Z<|zVzLi jd Z<|z7 Z Z Z<|zVGveqlI Z Z ?_
 refine zVzPt Z Z Z<|zVzAb Z<|z6<|zi<|zj (x := .bool _) Z ?_
 rfl
end Go.Proofs.YtiojekbkamegdaaGreatDoor
namespace Go.Proofs.YtiojekbkamegdaaGreatDoor
open Go.Proofs.Tryz
theorem made_kind {f : PFunc} {x : PInst} (ht : instT f x = true) (hm : makesB x.op = true) (h1 : x.op ≠ 1) : kindV f x.dst = makesT x.op := by
 unfold instT at ht
 rw [if_neg h1, hm] at ht
 simp at ht
 exact ht.2
theorem cnt_makes {f : PFunc} {x : PInst} (hF : InstF f x) (hc : cntB x.op = true) : makesB x.op = true ∧ x.op ≠ 1 := by
 have hop := hF.op
 obtain ⟨j, hj⟩ : ∃ j : Nat, x.op = (j : Int) := ⟨x.op.toNat, by omega⟩
 rw [hj, makesN j (by omega)]
 unfold cntB at hc
 rw [hj] at hc
 have hc := of_decide_eq_true hc
 have : j = 0 ∨ j = 2 ∨ j = 3 ∨ j = 4 ∨ j = 5 ∨ j = 6 ∨ j = 7 ∨ j = 8 ∨ j = 9 ∨ j = 10 ∨ j = 11 ∨ j = 12 ∨ j = 16 := by omega
 rcases this with h | h | h | h | h | h | h | h | h | h | h | h | h <;> (subst h; decide)
theorem typed_inst {f : PFunc} (ht : typedB f = true) {b : PBlock} (hb : b ∈ f.blocks) {x : PInst} (hx : x ∈ b.insts) : instT f x = true := by
 unfold typedB at ht
 have h1 := List.all_eq_true.1 (and3 ht).2 b hb
 unfold blkT at h1
 simp only [qr] at h1
 exact List.all_eq_true.1 h1.1.2 x hx
structure RootK (f : PFunc) (r : Int → Int) : Prop where
 kind : ∀ v : Int, 0 ≤ v → v < f.vars.length → (0 ≤ r v ∧ r v < f.vars.length) ∧ kindV f (r v) = kindV f v
 keep : ∀ v : Int, (∀ i k x, NumI f i k x → x.dst ≠ v) → r v = v
theorem root_kind {f : PFunc} {r : Int → Int} (ht : typedB f = true) (hr : Roots f r) : RootK f r := by
 have hS := typedB_shaped ht
 refine ⟨fun v h0 h1 => ?_, hr.id⟩
 by_cases hv : ∃ i k x, NumI f i k x ∧ x.dst = v
 ·obtain ⟨i, k, y, hy, rfl⟩ := hv
  rcases hr.rt i k y hy with e | ⟨i', k', x, hx, _, _, e, hs⟩
  ·rw [e]; exact ⟨⟨h0, h1⟩, rfl⟩
  ·rw [e]
   obtain ⟨b, b1, b2⟩ := hy.1
   obtain ⟨c, c1, c2⟩ := hx.1
   have mb := qm b1
   have mc := qm c1
   have my := qm b2
   have mx := qm c2
   have hd := inst_dst hS mc mx
   have eo : x.op = y.op := (sameI_iff.1 hs).2.1.1
   obtain ⟨m1, n1⟩ := cnt_makes (inst_F hS mc mx) hx.2
   obtain ⟨m2, n2⟩ := cnt_makes (inst_F hS mb my) hy.2
   refine ⟨⟨hd.2 hx.2, hd.1⟩, ?_⟩
   rw [made_kind (typed_inst ht mc mx) m1 n1, made_kind (typed_inst ht mb my) m2 n2, eo]
 ·rw [hr.id v fun i k x hx e => hv ⟨i, k, x, hx, e⟩]
  exact ⟨⟨h0, h1⟩, rfl⟩
section
variable {f : PFunc} {r : Int → Int} (hK : RootK f r)
include hK
theorem hasV_root {v : Int} (h : hasV f v = true) : hasV (numF f r) (r v) = true := by
 have h1 := has_lt h
 have := (hK.kind v h1.2 h1.1).1
 show (decide (0 ≤ r v) && decide (r v < f.vars.length)) = true
 simp [this]
theorem kind_root {v : Int} (h : hasV f v = true) : kindV (numF f r) (r v) = kindV f v := (hK.kind v (has_lt h).2 (has_lt h).1).2
theorem all_root {l : List Int} (h : l.all (hasV f) = true) : (l.map r).all (hasV (numF f r)) = true := by
 rw [qs] at h ⊢
 intro v hv
 obtain ⟨a, ha, rfl⟩ := List.mem_map.1 hv
 exact hasV_root hK (h a ha)
theorem map_root {l : List Int} (h : l.all (hasV f) = true) : (l.map r).map (kindV (numF f r)) = l.map (kindV f) := by
 rw [List.map_map]
 exact List.map_congr_left fun v hv => kind_root hK (List.all_eq_true.1 h v hv)
omit hK in
theorem hasB_num (b : Int) : hasB (numF f r) b = hasB f b := by
 unfold hasB
 rw [show (numF f r).blocks.length = f.blocks.length from qk ..]
omit hK in
theorem hasV_num (v : Int) : hasV (numF f r) v = hasV f v := rfl
theorem shaped_num (hS : ShapedP f) : ShapedP (numF f r) := by
 obtain ⟨h1, h2, h3, h4, h5, h6⟩ := hS
 have hl : (numF f r).blocks.length = f.blocks.length := qk ..
 refine ⟨?_, h2, h3, fun i hi => ?_, ?_, fun c hc => ?_⟩
 ·have : bad1 (numF f r) = bad1 f := by unfold bad1; rw [hl]; rfl
  rw [this]; exact h1
 ·have hi2 : i < f.blocks.length := by omega
  have e : (numF f r).blocks[i] = numB r f.blocks[i] := List.getElem_map ..
  obtain ⟨g1, g2⟩ := h4 i hi2
  unfold NamP
  rw [e]
  refine ⟨g1, ?_⟩
  show ∀ s ∈ (((f.blocks.map (numB r)).take i).map (·.name)), s ≠ f.blocks[i].name
  rw [← List.map_take, List.map_map]
  exact g2
 ·refine Nat.le_trans ?_ h5
  unfold sumTo
  show ((f.blocks.map (numB r)).map _).sum ≤ _
  rw [List.map_map]
  have : ∀ l : List PBlock, (l.map ((fun b : PBlock => b.phis.length + b.insts.length) ∘ numB r)).sum ≤ (l.map fun b => b.phis.length + b.insts.length).sum := by
   intro l
   induction l with
   | nil => exact Nat.le_refl _
   | cons b l ih =>
    rw [List.map_cons, List.map_cons, List.sum_cons, List.sum_cons]
    have e1 : (numB r b).phis.length = b.phis.length := qk ..
    have e2 : (numB r b).insts.length ≤ b.insts.length := by
     show ((b.insts.filter _).map _).length ≤ _
     rw [qk]; exact List.length_filter_le _ _
    show (numB r b).phis.length + (numB r b).insts.length + _ ≤ _
    omega
  exact this _
 ·obtain ⟨b, hb, rfl⟩ := List.mem_map.1 hc
  obtain ⟨g1, g2, g3⟩ := h6 b hb
  refine ⟨fun q hq => ?_, fun z hz => ?_, ?_⟩
  ·obtain ⟨p, hp, rfl⟩ := List.mem_map.1 hq
   obtain ⟨p1, p2, p3, p4, p5⟩ := g1 p hp
   refine ⟨p1, by show (p.args.map r).length = _; rw [qk]; exact p2, by show 1 ≤ (p.args.map r).length; rw [qk]; exact p3, all_root hK p4, ?_⟩
   rw [qs] at p5 ⊢
   exact fun b hb => by rw [hasB_num]; exact p5 b hb
  ·obtain ⟨x, hx, rfl⟩ := List.mem_map.1 hz
   obtain ⟨x1, x2, x3, x4⟩ := g2 x (List.mem_filter.1 hx).1
   refine ⟨x1, x2, ?_, all_root hK x4⟩
   have : bad2 (numF f r) (mapI r x) = bad2 f x := by
    unfold bad2
    rw [show (mapI r x).args.length = x.args.length from qk ..]; rfl
   rw [this]; exact x3
  ·show termOK (numF f r) (numTm r b.term) = true
   unfold termOK numTm at *
   simp only [hasB_num, hasV_num]
   by_cases k0 : b.term.kind = 0
   ·simp only [k0, if_true] at g3 ⊢; exact g3
   ·by_cases k1 : b.term.kind = 1
    ·simp only [k1, if_neg (show ¬ (1 : Int) = 0 by decide), if_true, qr] at g3 ⊢
     exact ⟨⟨hasV_root hK g3.1.1, g3.1.2⟩, g3.2⟩
    ·rw [if_neg k0, if_neg k1] at g3
     rw [if_neg k0, if_neg k1, if_neg k0]
     by_cases k2 : b.term.kind = 2
     ·simp only [k2, if_true, qr] at g3 ⊢
      exact ⟨hasV_root hK g3.1, g3.2⟩
     ·rw [if_neg k2] at g3; cases g3
theorem typed_num (ht : typedB f = true) : typedB (numF f r) = true := by
 have hS := typedB_shaped ht
 unfold typedB
 rw [shapedB_eq, qp (shaped_num hK hS), Bool.true_and, qs]
 intro c hc
 obtain ⟨b, hb, rfl⟩ := List.mem_map.1 hc
 have h1 := List.all_eq_true.1 (and3 (show (_ && _) = true from ht)).2 b hb
 obtain ⟨s1, s2, s3⟩ := hS.2.2.2.2.2 b hb
 unfold blkT at h1 ⊢
 simp only [qr] at h1 ⊢
 obtain ⟨⟨t1, t2⟩, t3⟩ := h1
 refine ⟨⟨?_, ?_⟩, ?_⟩
 ·rw [qs] at t1 ⊢
  intro q hq
  obtain ⟨p, hp, rfl⟩ := List.mem_map.1 hq
  have g := t1 p hp
  unfold phiT at g ⊢
  rw [Bool.not_eq_true', List.any_eq_false] at g ⊢
  intro v hv
  obtain ⟨a, ha, rfl⟩ := List.mem_map.1 hv
  rw [kind_root hK (List.all_eq_true.1 (s1 p hp).2.2.2.1 a ha)]
  exact g a ha
 ·rw [qs] at t2 ⊢
  intro z hz
  obtain ⟨x, hx, rfl⟩ := List.mem_map.1 hz
  have hxm := (List.mem_filter.1 hx).1
  have g := t2 x hxm
  have ha := (s2 x hxm).2.2.2
  unfold instT at g ⊢
  show (if x.op = 1 then decide (kindV f x.dst = kindV f ((x.args.map r).headD 0)) else decide ((x.args.map r).map (kindV (numF f r)) = takesL x.op) && (!makesB x.op || decide (kindV f x.dst = makesT x.op))) = true
  rw [map_root hK ha]
  split
  ·rename_i e
   rw [if_pos e] at g
   have hl := (inst_F hS hb hxm).argc
   rw [e] at hl
   match hx : x.args, hl with
   | [a], _ =>
    rw [hx] at g ha
    show decide (kindV f x.dst = kindV f (r a)) = true
    rw [show kindV f (r a) = kindV f a from kind_root hK (List.all_eq_true.1 ha a (.head _))]
    exact g
   | [], hl => simp at hl
   | _ :: _ :: _, hl => simp at hl
  ·rename_i e
   rw [if_neg e] at g
   exact g
 ·unfold termT at t3 ⊢
  show (if b.term.kind = 0 then !decide (b.term.to0 = 0) else if b.term.kind = 1 then decide (kindV (numF f r) (numTm r b.term).var = 1) && !decide (b.term.to0 = 0) && !decide (b.term.to1 = 0) else decide (kindV (numF f r) (numTm r b.term).var = 0)) = true
  by_cases k0 : b.term.kind = 0
  ·rw [if_pos k0] at t3 ⊢; exact t3
  ·have hv : hasV f b.term.var = true := by
    unfold termOK at s3
    rw [if_neg k0] at s3
    split at s3
    ·simp only [qr] at s3; exact s3.1.1
    ·split at s3
     ·simp only [qr] at s3; exact s3.1
     ·cases s3
   have e : kindV (numF f r) (numTm r b.term).var = kindV f b.term.var := by
    unfold numTm; dsimp only; rw [if_neg k0]; exact kind_root hK hv
   rw [if_neg k0, e]
   rw [if_neg k0] at t3
   exact t3
end
theorem plain_num {f : PFunc} {r : Int → Int} (h : plainB f = true) : plainB (numF f r) = true := by
 unfold plainB at *
 rw [qs] at h ⊢
 intro c hc
 obtain ⟨b, hb, rfl⟩ := List.mem_map.1 hc
 have := h b hb
 rw [Bool.not_eq_true', List.any_eq_false] at this ⊢
 intro z hz
 obtain ⟨x, hx, rfl⟩ := List.mem_map.1 hz
 exact this x (List.mem_filter.1 hx).1
theorem mkBlk_num (f : PFunc) (r : Int → Int) (v i : Int) (b : PBlock) : (mkBlk v i (numB r b)).length ≤ (mkBlk v i b).length := by
 unfold mkBlk
 rw [qj, qj, qk, qk, qk, qk]
 have e1 : ((numB r b).phis.filter fun p => decide (p.dst = v)).length = (b.phis.filter fun p => decide (p.dst = v)).length := by
  show ((b.phis.map (numPh r)).filter _).length = _
  rw [List.filter_map, qk]; rfl
 have zf : ∀ l : List PInst, (l.zipIdx.filter fun x => decide (x.1.dst = v)).length = (l.filter fun x => decide (x.dst = v)).length := fun l => by
  rw [← qk (f := Prod.fst), show ((l.zipIdx.filter fun x => decide (x.1.dst = v)).map Prod.fst) = (l.zipIdx.map Prod.fst).filter fun x => decide (x.dst = v) by rw [List.filter_map]; rfl, List.zipIdx_map_fst]
 rw [e1, zf, zf]
 have : (((b.insts.filter (keepI r)).map (mapI r)).filter fun x => decide (x.dst = v)).length ≤ (b.insts.filter fun x => decide (x.dst = v)).length := by
  rw [List.filter_map, qk]
  exact (List.filter_sublist.filter _).length_le
 exact Nat.add_le_add_left this _
theorem once_num {f : PFunc} (r : Int → Int) (h : OnceP f) : OnceP (numF f r) := fun v hv => by
 have hle : (makings (numF f r) v).length ≤ (makings f v).length := by
  unfold makings
  rw [List.length_flatMap, List.length_flatMap]
  show (((f.blocks.map (numB r)).zipIdx).map _).sum ≤ _
  rw [List.zipIdx_map, List.map_map]
  have : ∀ l : List (PBlock × Nat), (l.map ((fun b : PBlock × Nat => (mkBlk v b.2 b.1).length) ∘ Prod.map (numB r) _root_.id)).sum ≤ (l.map fun b => (mkBlk v b.2 b.1).length).sum := by
   intro l
   induction l with
   | nil => exact Nat.le_refl _
   | cons b l ih =>
    rw [List.map_cons, List.map_cons, List.sum_cons, List.sum_cons]
    exact Nat.add_le_add (mkBlk_num f r v b.2 b.1) ih
  exact this _
 obtain ⟨h1, h2⟩ := h v hv
 refine ⟨by omega, fun hne => h2 fun e => hne ?_⟩
 rw [e] at hle
 exact List.eq_nil_of_length_eq_zero (by simpa using hle)
theorem num_maker_phi {f : PFunc} (hO : OneV f) {r : Int → Int} {i : Nat} {b : PBlock} {p : PPhi} (hb : f.blocks[i]? = some b) (hp : p ∈ b.phis) (hp0 : 0 ≤ p.dst) : makerT (numF f r) p.dst = ((i : Int), -1) := by
 have hm : ((i : Int), (-1 : Int)) ∈ makings (numF f r) p.dst := mem_makings.2 ⟨i, numB r b, by rw [num_blk, hb]; rfl, mem_mkBlk.2 (.inl ⟨numPh r p, List.mem_map.2 ⟨p, hp, rfl⟩, rfl, rfl⟩)⟩
 have h0 := hO.phi i b p hb hp
 have all : ∀ m ∈ makings (numF f r) p.dst, m = ((i : Int), (-1 : Int)) := fun m hm => by
  obtain ⟨j, c, h1, h2⟩ := mem_makings.1 hm
  rw [num_blk] at h1
  cases hc : f.blocks[j]? with
  | none => rw [hc] at h1; cases h1
  | some d =>
   rw [hc] at h1
   cases h1
   rcases mem_mkBlk.1 h2 with ⟨q, hq, e, rfl⟩ | ⟨q2, y, hy, e, rfl⟩
   ·obtain ⟨q0, hq0, rfl⟩ := List.mem_map.1 hq
    have := hO.phi j d q0 hc hq0
    rw [show q0.dst = p.dst from e, h0] at this
    exact this.symm ▸ rfl
   ·exfalso
    obtain ⟨c2, k2, x2, g1, g2, g3, g4, rfl⟩ := num_at.1 ⟨_, by rw [num_blk, hc]; rfl, hy⟩
    have e : x2.dst = p.dst := e
    have := hO.inst j k2 c2 x2 g1 g2 (by omega)
    rw [e, h0] at this
    simp only [Prod.mk.injEq] at this
    omega
 unfold makerT
 cases hl : makings (numF f r) p.dst with
 | nil => rw [hl] at hm; cases hm
 | cons m l =>
  rw [List.head?_cons, Option.getD_some]
  exact all m (by rw [hl]; exact .head _)
theorem ahead_num {f : PFunc} {r : Int → Int} {i j k : Nat} {b : PBlock} {m : Int} (hm : m < 0) (h : AheadP f ((j : Int), m) i k) : AheadP (numF f r) ((j : Int), m) i (cq (keepI r) b.insts k : Nat) := by
 unfold AheadP at *
 rw [num_ends]
 refine h.imp _root_.id (Or.imp (fun ⟨h1, _⟩ => ⟨h1, ?_⟩) _root_.id)
 dsimp only; omega
theorem av_num {f : PFunc} {r : Int → Int} {rk : Nat → Nat → Nat} (hE : EndsOk f) (hO : OneV f) (hF : NumOk f rk) (hr : Roots f r) {i k : Nat} {b : PBlock} (hb : f.blocks[i]? = some b) {v : Int} (h0 : 0 ≤ v) (h : Av f i k v) :
  AheadP (numF f r) (makerT (numF f r) (r v)) i (cq (keepI r) b.insts k : Nat) := by
 have kept : ∀ {j q : Nat} {c : PBlock} {z : PInst}, f.blocks[j]? = some c → c.insts[q]? = some z → keepI r z = true → 0 ≤ z.dst → AheadP f ((j : Int), (q : Int)) i k → AheadP (numF f r) (makerT (numF f r) z.dst) i (cq (keepI r) b.insts k : Nat) := fun {j q c z} h1 h2 h3 h4 h5 => by
  have hmk : makerT (numF f r) z.dst = ((j : Int), ((cq (keepI r) c.insts q : Nat) : Int)) := num_maker (z := mapI r z) hF.hO (num_at.2 ⟨c, q, z, h1, h2, h3, rfl, rfl⟩) h4
  rw [hmk]
  exact (num_ahead hb h1 h2 h3).2 h5
 by_cases hv : ∃ j q y, NumI f j q y ∧ y.dst = v
 ·obtain ⟨j, q, y, hy, rfl⟩ := hv
  obtain ⟨c, c1, c2⟩ := hy.1
  unfold Av at h
  rw [hO.inst j q c y c1 c2 h0] at h
  have root : r y.dst = y.dst → AheadP (numF f r) (makerT (numF f r) (r y.dst)) i (cq (keepI r) b.insts k : Nat) := fun e => by
   rw [e]
   exact kept c1 c2 (by unfold keepI; simp [e]) h0 h
  rcases hr.rt j q y hy with e | ⟨j', q', x, hx, ha, rx, e, _⟩
  ·exact root e
  ·rw [e]
   obtain ⟨d, d1, d2⟩ := hx.1
   exact kept d1 d2 (by unfold keepI; simp [rx]) (hF.hD _ _ _ hx).1 (ahead_trans hE (p := ((j : Int), (q : Int))) ha h (by dsimp only; omega))
 ·rw [hr.id v fun i k x hx e => hv ⟨i, k, x, hx, e⟩]
  by_cases hm : 0 ≤ (makerT f v).1
  ·obtain ⟨j, c, c1, e1, hc⟩ := maker_shape hm
   unfold Av at h
   rcases hc with ⟨p, p1, p2, e2⟩ | ⟨q, x, x1, x2, e2⟩
   ·rw [show makerT f v = ((j : Int), -1) from Prod.ext e1 e2] at h
    rw [← p2, num_maker_phi hO c1 p1 (by omega)]
    exact ahead_num (by decide) h
   ·rw [show makerT f v = ((j : Int), (q : Int)) from Prod.ext e1 e2] at h
    rw [← x2]
    refine kept c1 x1 ?_ (by omega) h
    unfold keepI
    cases hc : cntB x.op with
    | false => rfl
    | true => exact absurd ⟨j, q, x, ⟨⟨c, c1, x1⟩, hc⟩, x2⟩ hv
  ·refine .inl ?_
   rcases Int.lt_or_le (makerT (numF f r) v).1 0 with hl | hl
   ·exact hl
   ·exfalso
    obtain ⟨j, c, c1, e1, hc⟩ := maker_shape hl
    rw [num_blk] at c1
    cases hd : f.blocks[j]? with
    | none => rw [hd] at c1; cases c1
    | some d =>
     rw [hd] at c1
     cases c1
     rcases hc with ⟨p, p1, p2, e2⟩ | ⟨q, x, x1, x2, e2⟩
     ·obtain ⟨p0, hp0, rfl⟩ := List.mem_map.1 p1
      have := hO.phi j d p0 hd hp0
      rw [show p0.dst = v from p2] at this
      rw [this] at hm; exact hm (Int.natCast_nonneg j)
     ·obtain ⟨c2, k2, x2', g1, g2, g3, g4, rfl⟩ := num_at.1 ⟨_, by rw [num_blk, hd]; rfl, x1⟩
      have e : x2'.dst = v := x2
      have := hO.inst j k2 c2 x2' g1 g2 (by omega)
      rw [e] at this
      rw [this] at hm; exact hm (Int.natCast_nonneg j)
theorem cq_all (r : Int → Int) (b : PBlock) : ((cq (keepI r) b.insts b.insts.length : Nat) : Int) = (numB r b).insts.length := by
 unfold cq
 rw [qi]
 show _ = ((((b.insts.filter (keepI r)).map (mapI r)).length : Nat) : Int)
 rw [qk]
theorem sing_num {f : PFunc} {r : Int → Int} {rk : Nat → Nat → Nat} (hS : ShapedP f) (hE : EndsOk f) (hs : SingP f) (hO : OneV f) (hF : NumOk f rk) (hr : Roots f r) : SingP (numF f r) := by
 obtain ⟨hJ, hA, ho, hB⟩ := hs
 have hl : (numF f r).blocks.length = f.blocks.length := qk ..
 refine ⟨fun i hi p hp => ?_, fun i hi => by rw [num_ends]; exact hA i (by omega), once_num r ho, fun i hi => ?_⟩
 ·have hi2 : i < f.blocks.length := by omega
  rw [show (numF f r).blocks[i] = numB r f.blocks[i] from List.getElem_map ..] at hp
  obtain ⟨q, hq, rfl⟩ := List.mem_map.1 hp
  rw [num_ends, hl]
  exact hJ i hi2 q hq
 ·have hi2 : i < f.blocks.length := by omega
  rw [show (numF f r).blocks[i] = numB r f.blocks[i] from List.getElem_map ..]
  obtain ⟨b, hbe⟩ : ∃ b, f.blocks[i] = b := ⟨_, rfl⟩
  have hb : f.blocks[i]? = some b := by rw [qd hi2, hbe]
  have hbm := qm hb
  have hbeh := hB i hi2
  rw [hbe] at hbeh ⊢
  obtain ⟨b1, b2, b3⟩ := hbeh
  obtain ⟨s1, s2, s3⟩ := hS.2.2.2.2.2 b hbm
  refine ⟨fun p' hp' q hq => ?_, fun k hk v hv => ?_, ?_⟩
  ·obtain ⟨p, hp, rfl⟩ := List.mem_map.1 hp'
   rw [show (numPh r p).args.zip (numPh r p).from_ = (p.args.zip p.from_).map (Prod.map r _root_.id) from List.zip_map_left ..] at hq
   obtain ⟨⟨a, c⟩, hac, rfl⟩ := List.mem_map.1 hq
   have h1 := b1 p hp (a, c) hac
   obtain ⟨ma, mc⟩ := List.of_mem_zip hac
   have hc := List.all_eq_true.1 (s1 p hp).2.2.2.2 c mc
   have ha := has_lt (List.all_eq_true.1 (s1 p hp).2.2.2.1 a ma)
   have hc : 0 ≤ c ∧ c < f.blocks.length := by simpa [hasB] using hc
   obtain ⟨j, rfl⟩ : ∃ j : Nat, c = (j : Int) := ⟨c.toNat, by omega⟩
   have hj : j < f.blocks.length := by omega
   have hjb : f.blocks[j]? = some f.blocks[j] := qd hj
   have hjn : (numF f r).blocks[j]? = some (numB r f.blocks[j]) := by rw [num_blk, hjb]; rfl
   have := av_num hE hO hF hr (k := f.blocks[j].insts.length) hjb (v := a) ha.2 (by dsimp only at h1; rw [lenAt_get hjb] at h1; exact h1)
   rw [cq_all] at this
   show AheadP _ (makerT _ (r a)) (j : Int) (lenAt _ (j : Int))
   rw [lenAt_get hjn]; exact this
  ·obtain ⟨c, q, x, h1, h2, h3, h4, h5⟩ := num_at.1 (⟨numB r b, by rw [num_blk, hb]; rfl, qd hk⟩ : AtI (numF f r) i k _)
   rw [hb] at h1
   cases h1
   rw [h5] at hv
   obtain ⟨a, ha, rfl⟩ := List.mem_map.1 hv
   obtain ⟨hq, e⟩ := List.getElem?_eq_some_iff.1 h2
   have hin := has_lt ((inst_F hS hbm (qm h2)).args a ha)
   have := av_num hE hO hF hr (k := q) hb (v := a) hin.2 (b2 q hq a (by rw [e]; exact ha))
   rw [h4] at this; exact this
  ·rcases b3 with h | h
   ·exact .inl h
   ·by_cases hk : b.term.kind = 0
    ·exact .inl hk
    ·right
     have hv : 0 ≤ b.term.var := by
      unfold termOK at s3
      rw [if_neg hk] at s3
      split at s3
      ·simp only [qr] at s3; exact (has_lt s3.1.1).2
      ·split at s3
       ·simp only [qr] at s3; exact (has_lt s3.1).2
       ·cases s3
     have := av_num hE hO hF hr (k := b.insts.length) hb (v := b.term.var) hv h
     rw [cq_all] at this
     have e : (numB r b).term.var = r b.term.var := by show (numTm r b.term).var = _; unfold numTm; dsimp only; rw [if_neg hk]
     rw [e]; exact this
theorem little_num {f : PFunc} (r : Int → Int) (h : little f) : little (numF f r) := by
 obtain ⟨h1, h2, h3, h4, h5, h6⟩ := h
 refine ⟨h1, by show (f.blocks.map _).length ≤ _; rw [qk]; exact h2, h3, h4, fun c hc => ?_, fun hne=>?_⟩
 ·obtain ⟨b, hb, rfl⟩ := List.mem_map.1 hc
  obtain ⟨g0, g1, g2, g3, g4⟩ := h5 b hb
  refine ⟨g0, by show (b.phis.map _).length ≤ _; rw [qk]; exact g1, ?_, fun p hp => ?_, fun x hx => ?_⟩
  ·show ((b.insts.filter _).map _).length ≤ _
   rw [qk]; exact Nat.le_trans (List.length_filter_le _ _) g2
  ·obtain ⟨q, hq, rfl⟩ := List.mem_map.1 hp
   exact ⟨by show (q.args.map _).length ≤ _; rw [qk]; exact (g3 q hq).1, (g3 q hq).2⟩
  ·obtain ⟨z, hz, rfl⟩ := List.mem_map.1 hx
   show (z.args.map _).length ≤ _
   rw [qk]; exact g4 z (List.mem_filter.1 hz).1
 ·have hne2 : f.blocks ≠ [] := fun e => hne (by show f.blocks.map _ = []; rw [e]; rfl)
  refine Nat.le_trans (Nat.add_le_add_left ?_ _) (h6 hne2)
  have ex : ∀ l : List PInst, wX ((l.filter (keepI r)).map (mapI r)) ≤ wX l := fun l => by
   unfold wX
   rw [List.map_map]
   induction l with
   | nil => exact Nat.le_refl _
   | cons x l ih =>
    have e : ((fun x : PInst => x.args.length) ∘ mapI r) x = x.args.length := qk ..
    rw [List.map_cons, List.sum_cons]
    by_cases hk : keepI r x = true
    ·rw [List.filter_cons_of_pos hk, List.map_cons, List.sum_cons, e]; omega
    ·rw [List.filter_cons_of_neg hk]; omega
  have ep : ∀ l : List PPhi, wP (l.map (numPh r)) = wP l := fun l => by
   unfold wP
   rw [List.map_map]
   congr 1
   refine List.map_congr_left fun p _ => ?_
   show (p.args.map r).length + p.from_.length = _
   rw [qk]
  have eb : ∀ b : PBlock, wB (numB r b) ≤ wB b := fun b => by
   unfold wB
   have e1 : (numB r b).phis.length = b.phis.length := qk ..
   have e2 : (numB r b).insts.length ≤ b.insts.length := by
    show ((b.insts.filter _).map _).length ≤ _
    rw [qk]; exact List.length_filter_le _ _
   have e3 : wP (numB r b).phis = wP b.phis := ep b.phis
   have e4 : wX (numB r b).insts ≤ wX b.insts := ex b.insts
   show b.name.size + _ + _ + _ ≤ _
   omega
  unfold wBs
  show ((f.blocks.map (numB r)).map wB).sum ≤ _
  rw [List.map_map]
  induction f.blocks with
  | nil => exact Nat.le_refl _
  | cons b l ih =>
   rw [List.map_cons, List.map_cons, List.sum_cons, List.sum_cons]
   exact Nat.add_le_add (eb b) ih
theorem no_hit {f : PFunc} {rk : Nat → Nat → Nat} (hF : NumOk f rk) {r : Int → Int} (hr : Roots f r) (y x : PInst) : ¬ HitN (numF f r) y x := fun h => by
 obtain ⟨i, k, y0, i', k', x0, hy, hx, ha, rx, ry, hs, _⟩ := hit_of hF h
 rw [hr.no _ _ _ _ _ _ hy hx ha rx ry] at hs; cases hs
end Go.Proofs.YtiojekbkamegdaaGreatDoor
