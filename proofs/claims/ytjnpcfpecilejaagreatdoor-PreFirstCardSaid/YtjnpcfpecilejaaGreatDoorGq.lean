/- The document's first check of a block, how it comes from another one, whether it was passed. Of programs that are little. -/
import Derived.Test.YtjnpcfpecilejaaGreatDoorGp
import Derived.Test.YtjnpcfpecilejaaGreatDoorGh
import Derived.Test.YtjnpcfpecilejaaGreatDoorGo
import Derived.Test.YtjnpcfpecilejaaGreatDoorGm
set_option linter.unusedVariables false
set_option linter.unusedSimpArgs false
set_option linter.unusedSectionVars false
namespace Go.Proofs.YtjnpcfpecilejaaGreatDoor
open Go.Proofs.Tryz
open Go.Proofs Go.Lib Go.Shelf Go.RowKit
set_option maxRecDepth 20000
variable {E : World}
theorem insts_len (l : List PInst) : ((l.map encInst).flatten).length = l.length * 4 := grow_len (k := 4) (fun _ => rfl) l
set_option maxHeartbeats 4000000 in
theorem delLast_own (l : List PInst) (x : PInst) (i : Nat) (a a2 : Int) (ha : a = l.length) (ha2 : a2 = (l.length + 1 : Nat)) (hl : l.length ≤ 100000) : ACall prog E 139 [.own i (l.length + 1), .int .i64 a, .int .i64 a2] [(i, .grow 4 33 ((l ++ [x]).map encInst).flatten)]
  (fun r O => ∃ j : Nat, r = .own j l.length ∧ O = [(j, .grow 4 33 (l.map encInst).flatten)]) := by
 have hlen : ((l ++ [x]).map encInst).flatten.length = (l.length + 1) * 4 := by rw [insts_len]; simp
 have hl4 := insts_len l
 have happ : ((l ++ [x]).map encInst).flatten = (l.map encInst).flatten ++ encInst x := by simp
 refine zl func139 rfl (by decide) rfl<|zSr<|z2 (zAr rfl)<|z6<|AWP.ownCut (s := 0) rfl .head (by decide) hlen (by omega) ?_
 intro bb cc hcc
 rw [happ]
 refine zSr<|z2 (yl (v := .raw _) rfl)<|z2 (zMi rfl)<|z2 (zMi rfl)<|z2 (yl (v := .raw _) rfl)<|z2 (Gv.lenRow underlying60 rfl)<|z2 (Gv.cut3 (j := l.length) (l := l.length + 1) (m := l.length + 1) underlying60 sizeOf33 rfl rfl rfl rfl ha ha2 rfl (by omega) (by omega) (by omega) hcc)<|z6<|za<|zSr<|z2 (zMi rfl)<|z2 (zMi rfl)<|z2 (y6 rfl rfl)<|z6<|yb rfl (qo (by omega))<|ze<|zSr<|z2 (yl (v := .raw _) rfl)<|z2 (Gv.lenRow underlying60 rfl)<|z2 (zAi rfl)<|z6<|za<|y8 (fun j => false) (by kernel_rfl) rfl (zx (.rest _))<|zTk 0 rfl (yl (v := .raw _) rfl)<|zTk 1 rfl (zMi rfl)<|zTk 2 rfl (Gv.rowHiK (j := l.length) underlying60 sizeOf33 rfl rfl ha (by omega))<|zTk 3 rfl (yl (v := .raw _) rfl)<|zTk 4 rfl (zMi rfl)<|zTk 5 rfl (Gv.cutNil (m := l.length + 1) (j := 4) underlying60 sizeOf33 rfl rfl ha2 hcc)<|zTk 6 rfl (Gv.appendNil underlying60 type33 rfl rfl (by omega))<|zTk 7 rfl (zAr rfl)<|zDn<|zSr<|z2 (yl (v := .raw _) rfl)<|z2 (yl (v := .raw _) rfl)<|z2 (Gv.lenRow underlying60 rfl)<|z2 (zMi rfl)<|z2 (Gv.cutTail (j := l.length) (m := l.length + 1) underlying60 sizeOf33 rfl rfl rfl rfl rfl (by omega) hcc)<|AOps.clearCut (k := 4) (n' := 0) (off := l.length * 4) (A := (l.map encInst).flatten) (row := encInst x) underlying60 zeroValue33 (by kernel_rfl) (by kernel_rfl) (by decide) (by show rsl _ _ _ _ = rsl _ _ _ _; congr 1; congr 1; omega) hl4 rfl .head ?_
 intro r_ hr_
 refine z6<|AWP.cutOwn (s := 0) rfl .head hl4 (by omega)<|fun jj => zSr<|z2 (zMo rfl)<|z2 (zAo rfl)<|z6<|zg<|zj (x := .own _ _) rfl ?_
 exact ⟨jj, rfl, rfl⟩
theorem fold_take {f : PFunc} {b a : Int} {l : List Int} {k : Nat} (st : List PBlock × Bool) (h : k < l.length) : (l.take (k + 1)).foldl (addX f b a) st = addX f b a ((l.take k).foldl (addX f b a) st) l[k] := by
 rw [qd h, List.foldl_append]; rfl
theorem setI_mem {bs : List PBlock} {p : Nat} {g : List PInst → List PInst} {c : PBlock} (h : c ∈ setI bs p g) : c ∈ bs ∨ ∃ d ∈ bs, c = { d with insts := g d.insts } := by
 unfold setI at h
 cases hb : bs[p]? with
 | none => rw [hb] at h; exact .inl h
 | some d =>
  rw [hb] at h
  rcases List.mem_or_eq_of_mem_set h with h | h
  ·exact .inl h
  ·exact .inr ⟨d, List.mem_of_getElem? hb, h⟩
theorem fold_bd {f : PFunc} {b a : Int} : ∀ (l : List Int) (st : List PBlock × Bool) (M : Nat), (∀ c ∈ st.1, c.insts.length ≤ M ∧ c.phis.length ≤ 1000) → ∀ c ∈ (l.foldl (addX f b a) st).1, c.insts.length ≤ M + l.length ∧ c.phis.length ≤ 1000
 | [], _, _, h => h
 | p :: l, st, M, h => fun c hc => by
  have := fold_bd l (addX f b a st p) (M + 1) (fun c hc => by
   unfold addX at hc
   split at hc
   ·have := h c hc; omega
   ·rcases setI_mem (bs := st.1) (p := p.toNat) (g := fun x => x ++ [fromF f b a p]) hc with h1 | ⟨d, h1, rfl⟩
    ·have := h c h1; omega
    ·have := h d h1; simp; omega) c hc
  rw [List.length_cons]; omega
theorem fold_keep {f : PFunc} {b a : Int} {q : Nat} : ∀ (l : List Int) (st : List PBlock × Bool), (∀ p ∈ l, p.toNat ≠ q) → (l.foldl (addX f b a) st).1[q]? = st.1[q]?
 | [], _, _ => rfl
 | p :: l, st, h => by
  rw [List.foldl_cons, fold_keep l _ (fun p hp => h p (List.mem_cons_of_mem _ hp))]
  unfold addX
  split
  ·rfl
  ·have hp := h p (.head _)
   unfold setI
   cases st.1[p.toNat]? with
   | none => rfl
   | some d => exact List.getElem?_set_ne hp
theorem first_ge {f : PFunc} {b : Int} (h : 0 ≤ firstF f b) : ∃ (k : Nat) (B : PBlock), b = (k : Int) ∧ f.blocks[k]? = some B ∧ mayB f b = true ∧ firstF f b < B.insts.length ∧ instsAt f b = B.insts := by
 unfold firstF at h ⊢
 split at h
 ·rename_i hc
  rw [if_pos hc]
  obtain ⟨⟨h0, h1⟩, hm⟩ := hc
  obtain ⟨k, rfl⟩ : ∃ k : Nat, b = (k : Int) := ⟨b.toNat, by omega⟩
  have hk : k < f.blocks.length := by omega
  have hI : instsAt f (k : Int) = f.blocks[k].insts := by unfold instsAt; rw [show ((k : Int)).toNat = k from rfl, qc hk]; rfl
  refine ⟨k, f.blocks[k], rfl, qc hk, hm, ?_, hI⟩
  have hr := firstI_rng (fun x : PInst => stopB x.op) (instsAt f (k : Int)) 0
  rw [hI] at hr h ⊢
  unfold firstJ at h ⊢
  split
  ·omega
  ·split <;> omega
 ·omega
theorem inTo_rng {f : PFunc} (hE : EndsOk f) {b p : Int} (h : p ∈ inTo f b) : 0 ≤ p ∧ p < f.blocks.length := by
 unfold inTo predsT at h
 obtain ⟨i, hi, h2⟩ := List.mem_flatMap.1 h
 obtain ⟨_, _, rfl⟩ := List.mem_map.1 h2
 unfold intsTo at hi
 obtain ⟨n, hn, rfl⟩ := List.mem_map.1 hi
 have := List.mem_range.1 hn
 exact ⟨Int.natCast_nonneg n, by show (n : Int) < _; omega⟩
theorem sumI_succ {bs : List PBlock} {i : Nat} (h : i < bs.length) : sumI (bs.take (i + 1)) = sumI (bs.take i) + (bs[i].phis.length + bs[i].insts.length) := by
 unfold sumI; rw [qd h, List.map_append, List.sum_append]; simp
theorem sumI_bd {M : Nat} : ∀ (bs : List PBlock), (∀ c ∈ bs, c.phis.length + c.insts.length ≤ M) → sumI bs ≤ bs.length * M
 | [], _ => by simp [sumI]
 | c :: bs, h => by
  have h1 := sumI_bd bs (fun c hc => h c (List.mem_cons_of_mem _ hc))
  have h2 := h c (.head _)
  unfold sumI at h1 ⊢
  rw [List.map_cons, List.sum_cons, List.length_cons, Nat.add_mul]; omega
theorem mayB_not {f : PFunc} {b p : Int} (h : mayB f b = true) (hp : p ∈ inTo f b) : p ≠ b := by
 unfold mayB at h
 simp only [qp, Bool.not_eq_true'] at h
 rintro rfl
 have h2 := h.2
 rw [List.contains_eq_mem] at h2
 simp at h2
 exact h2 hp
def lastP (f : PFunc) : Prop := ∀ b, 0 ≤ firstF f b → (instsAt f b).length = (firstF f b).toNat + 1
set_option maxHeartbeats 16000000 in
theorem step_ok (f : PFunc) (hf : small f) (hL : Letters E) (hp : plB f = true) (hl : lastP f) (b : Int) : AFun prog E 89 [.agg (encF f), .int .i64 b] (.tup [.agg (encF (stepF f true b).1), .bool (stepF f true b).2]) := by
 have ht : typedB f = true := (and3 hp).1
 have hS := typedB_shaped ht
 have hE := typedB_ends ht
 have hn := hf.2.2.1
 refine zl func89 rfl (by decide) rfl<|zSr<|y4 (cs := _) rfl rfl rfl<|zy (cs := [.raw (.slice none 0 0), .raw (.slice none 0 0), .raw (.slice none 0 0)]) zeroValue26 rfl rfl<|fun i4 => z2 (zAb rfl)<|z6<|zSr<|z2 (zk isAgg26 sizeOf26 rfl rfl)<|zc (plook_ok f hf hL hp) rfl<|z2 (zMu rfl)<|z2 (q9 (v := .pf _) rfl rfl)<|z2 (zXi rfl rfl)<|z2 (yv (v := .pf _) rfl)<|z2 (zAi rfl)<|z6<|za<|zSr<|z2 (zMi rfl)<|z2 (ya rfl rfl)<|z6<|yb rfl rfl<|ze<|zSr<|z2 (zMg rfl)<|z2 (zMi rfl)<|zc (pfirst_spec f hf hS b) rfl<|z2 (zMu rfl)<|z2 (zXi rfl rfl)<|z2 (zXb rfl rfl)<|z2 (zAi rfl)<|z2 (zAb rfl)<|z6<|za<|zSr<|z2 (zMb rfl)<|z2 (yc rfl)<|z6<|zr rfl (fun c1=>?_) (fun c1=>?_)
 ·have h1 : ¬ 0 ≤ firstF f b := by simpa using c1
  refine zSr<|z2 (zk isAgg26 sizeOf26 rfl rfl)<|zo sizeOf26 rfl rfl rfl rfl rfl rfl .head rfl<|z2 (zAb rfl)<|z6<|zg<|afin.c1t (y := .bool _) rfl rfl ⟨_, .head⟩ isAgg26 sizeOf26 rfl ?_
  unfold stepF; rw [if_neg (fun h => h1 h.2.1)]; rfl
 ·have h1 : 0 ≤ firstF f b := by simpa using c1
  obtain ⟨k, B, rfl, hget, hm, hlt, hIB⟩ := first_ge h1
  obtain ⟨a, ha⟩ : ∃ a, firstF f (k : Int) = a := ⟨_, rfl⟩
  rw [ha] at h1 hlt
  rw [ha, Int.max_eq_left h1]
  have hk : k < f.blocks.length := (List.getElem?_eq_some_iff.1 hget).1
  obtain ⟨hb0, hb1, hb2, hb3, hb4⟩ := hf.2.2.2.2 B (List.mem_of_getElem? hget)
  have hBl := hl (k : Int) (by rw [ha]; exact h1)
  rw [ha, hIB] at hBl
  have hpl := inTo_len hf (k : Int)
  obtain ⟨P, hP⟩ : ∃ P, inTo f (k : Int) = P := ⟨_, rfl⟩
  have hrow : (predsR f f.blocks.length)[k]? = some P := by rw [← hP]; exact predsR_row f hk
  have hrng : ∀ p ∈ P, 0 ≤ p ∧ p < f.blocks.length := fun p hp => inTo_rng hE (hP ▸ hp)
  rw [hP] at hpl
  have hbig : ∀ c ∈ (f.blocks, false).1, c.insts.length ≤ 1000 ∧ c.phis.length ≤ 1000 := fun c hc => ⟨(hf.2.2.2.2 c hc).2.2.1, (hf.2.2.2.2 c hc).2.1⟩
  refine ze<|zSr<|z2 (zk isAgg26 sizeOf26 rfl rfl)<|y5 rfl (zx (.r (.rest _))) (copyI_own f hf) ?_
  rintro r36 O36 ⟨⟨ib, ids⟩, rfl, rfl, hids⟩
  refine zy (cs := [.raw (.slice none 0 0), .raw (.slice none 0 0), .raw (.slice none 0 0)]) zeroValue26 rfl rfl<|fun i10 => zo sizeOf26 rfl rfl rfl rfl rfl rfl .head rfl<|z2 (zAb rfl)<|z6<|za<|zSr<|z2 (zMg rfl)<|z2 (yn rfl)<|z2 (zFF underlying105 rfl sizeOf103 rfl rfl)<|z2 (zLf isAgg103 rfl)<|z2 (zMi rfl)<|z2 (zIM k underlying103 sizeOf23 rfl rfl rfl hrow)<|z2 (zLf isAgg23 rfl)<|z2 (zq underlying23 rfl)<|z2 (zMi rfl)<|z6<|zd<|y1 (γ := Nat × List Nat) [1, 2, 4, 6, 8, 10, 43, 44] (fun g => [(45, .int .i64 g.1), (11, .bool ((P.take g.1).foldl (addX f k a) (f.blocks, false)).2)]) (fun g => [(i10, .cells 26 [.fro 2 (f.vars.map encVar), .fro 1 (f.params.map encI), .own ib f.blocks.length]), (ib, .grow 7 66 (blkIs g.2 ((P.take g.1).foldl (addX f k a) (f.blocks, false)).1)), (0, bag (bagIs g.2 ((P.take g.1).foldl (addX f k a) (f.blocks, false)).1)), (i4, .cells 26 [.raw (.slice none 0 0), .raw (.slice none 0 0), .raw (.slice none 0 0)])]) (fun g => g.1 ≤ P.length ∧ g.2.length = f.blocks.length ∧ (P.take g.1).any (shutB f k a) = false) (fun g => P.length - g.1) (0, ids) zR2 zLe (⟨qf _, hids, rfl⟩) ?_
  rintro ⟨q, ids⟩ ⟨hq, hids, hsh⟩
  try dsimp only at *
  refine zSr<|z2 (y7 rfl rfl)<|z6<|za<|zt rfl (fun cq=>?_) (fun cq=>?_)
  ·have hq2 : q < P.length := by simp at cq; omega
   obtain ⟨p, hpq⟩ : ∃ p, P[q] = p := ⟨_, rfl⟩
   obtain ⟨hp0, hpn⟩ := hrng p (hpq ▸ qg hq2)
   obtain ⟨st, hst⟩ : ∃ st, (P.take q).foldl (addX f k a) (f.blocks, false) = st := ⟨_, rfl⟩
   have hsucc : (P.take (q + 1)).foldl (addX f k a) (f.blocks, false) = addX f k a st p := by rw [fold_take _ hq2, hst, hpq]
   have hstl : st.1.length = f.blocks.length := by rw [← hst, addX_fold_len]
   have hbd : ∀ c ∈ st.1, c.insts.length ≤ 1000 + q ∧ c.phis.length ≤ 1000 := fun c hc => by
    have := fold_bd (f := f) (b := k) (a := a) (P.take q) (f.blocks, false) 1000 hbig c (by rw [hst]; exact hc)
    rw [qm] at this; omega
   obtain ⟨C, hC⟩ : ∃ C, f.blocks[p.toNat]? = some C := ⟨_, qc (by omega)⟩
   have hEn : EndsOf f p = endsL C.term := by rw [EndsOf_get hp0 (by omega)]; rw [qc (by omega)] at hC; rw [Option.some.inj hC]
   obtain ⟨x, hx⟩ : ∃ x, fromF f k a p = x := ⟨_, rfl⟩
   have hfr := pfrom_spec (E := E) f hf hS k a p B hget h1 hlt
   rw [hx] at hfr
   have hxl : x.args.length ≤ 1000 := by
    rw [← hx]; unfold fromF instOf; rw [hIB, qc (by omega)]; simp; exact hb4 _ (qg _)
   have hen := endsL_len C.term
   rw [hst]
   refine ze<|za<|zd<|zSr<|z2 (zIM q underlying23 sizeOf3 rfl rfl rfl (by rw [qc hq2, hpq]))<|z2 (zLi isAgg3 rfl)<|z2 (zAi rfl)<|z6<|zSr<|z2 (zMg rfl)<|z2 (zMi rfl)<|z2 (zMi rfl)<|z2 (zMi rfl)<|zc (hfr) rfl<|zy (cs := [.int .i64 0, .int .i64 0, .raw (.slice none 0 0), .int .i64 0]) zeroValue33 rfl rfl<|fun i14 => zo sizeOf33 rfl rfl rfl rfl rfl rfl .head rfl<|zb (y9 (t := 14) rfl .head)<|z6<|zd<|zSr<|z2 (zMg rfl)<|z2 (zk isAgg33 sizeOf33 rfl rfl)<|z2 (zMi rfl)<|z2 (zMi rfl)<|z2 (zMi rfl)<|z2 (zu (cps := [(0, [_]), (1, [_])]) (rs := [_, _]) pl109 rfl rfl rfl)<|zc (ppassed_spec f hf hE x hxl p ((k : Int), a) C hp0 hC) rfl<|z2 (zAb rfl)<|z6<|zr rfl (fun cp=>?_) (fun cp=>?_)
   ·have hps : passF f x p ((k : Int), a) = true := cp
    have hadd : addX f k a st p = (st.1, true) := by unfold addX; rw [hx, if_pos hps]
    refine zRg<|z2 (zAb rfl)<|z6<|zRg<|z2 (zAd rfl rfl)<|z2 (zMi rfl)<|z6 ?_
    exact ⟨(q + 1, ids), zR8, ⟨rfl, (by rw [hsucc, hadd]; rfl), trivial⟩, ⟨_, (.refl _), by rw [hsucc, hadd]⟩, ⟨hq2, hids, any_take hq2 hsh (by rw [hpq]; unfold shutB; rw [hx, hps]; rfl)⟩, by dsimp only; omega⟩
   ·have hps : passF f x p ((k : Int), a) = false := cp
    refine zSr<|z2 (zFF underlying26 rfl sizeOf24 rfl rfl)<|z2 (zLf isAgg24 rfl)<|z2 (zMi rfl)<|z2 (zIM p.toNat underlying24 sizeOf66 rfl rfl (by omega) hC)<|z2 (zFF underlying66 rfl sizeOf64 rfl rfl)<|z2 (zk isAgg64 sizeOf64 rfl rfl)<|zc (ends_spec C.term) rfl<|z2 (zq underlying23 rfl)<|z2 (yt rfl rfl)<|z2 (zAb rfl)<|z6<|zr rfl (fun ce=>?_) (fun ce=>?_)
    ·have hsb : shutB f k a p = true := by unfold shutB; rw [hx, hps, hEn, qn (by have h0 : (1 : Int) < ((endsL C.term).length : Int) := (by simpa using ce); omega)]; rfl
     refine zSr<|z2 (zk isAgg26 sizeOf26 rfl rfl)<|zo sizeOf26 rfl rfl rfl rfl rfl rfl .t3 rfl<|z2 (zAb rfl)<|z6<|zg<|afin.c1t (y := .bool _) rfl rfl ⟨_, .t3⟩ isAgg26 sizeOf26 rfl ?_
     unfold stepF; rw [if_neg (fun h => by have h3 := h.2.2.1; rw [ha, hP, List.any_eq_false] at h3; exact h3 p (hpq ▸ qg hq2) hsb)]; rfl
    ·have hsb : shutB f k a p = false := by unfold shutB; rw [hx, hps, hEn, qo (by have h0 : ¬ (1 : Int) < ((endsL C.term).length : Int) := (by simpa using ce); omega)]; rfl
     have hadd : addX f k a st p = (setI st.1 p.toNat (· ++ [x]), st.2) := by unfold addX; rw [hx, if_neg (by rw [hps]; decide)]
     obtain ⟨D, hD⟩ : ∃ D, st.1[p.toNat]? = some D := ⟨_, qc (by omega)⟩
     obtain ⟨ip, hip⟩ : ∃ ip, ids[p.toNat]? = some ip := ⟨_, qc (by omega)⟩
     have hDb := hbd D (List.mem_of_getElem? hD)
     have hset : setI st.1 p.toNat (· ++ [x]) = st.1.set p.toNat { D with insts := D.insts ++ [x] } := by unfold setI; rw [hD]; rfl
     have hbl := blkIs_len (ids := ids) (bs := st.1) (by omega)
     obtain ⟨X, hX1, hX2⟩ := zip_out insO ids st.1 p.toNat hip hD
     have hX3 : ∀ i', ((i', AObj.grow 4 33 ((D.insts.map encInst).flatten ++ [encInst x].flatten)) :: X).Perm (bagIs (ids.set p.toNat i') (setI st.1 p.toNat (· ++ [x]))) := fun i' => by
      have h := hX2 i' { D with insts := D.insts ++ [x] }
      unfold insO at h
      rw [← grow_push (enc := encInst) (xs := D.insts) (x := x) (ys := D.insts ++ [x]) rfl] at h
      rw [hset]; exact h
     refine yf (GStep.bagOut (i := ip) (o := .grow 4 33 (D.insts.map encInst).flatten) (X' := X) (hX1) .t2)<|yh (γ := Nat) [1, 2, 4, 6, 8, 10, 11, 43, 44, 45] (fun u => []) (fun u => [(i10, .cells 26 [.fro 2 (f.vars.map encVar), .fro 1 (f.params.map encI), .own ib f.blocks.length]), (u, .grow 4 33 ((D.insts.map encInst).flatten ++ [encInst x].flatten)), (ib, .grow 7 66 (blkIs (ids.set p.toNat u) (setI st.1 p.toNat (· ++ [x])))), (0, bag X), (i4, .cells 26 [.raw (.slice none 0 0), .raw (.slice none 0 0), .raw (.slice none 0 0)])]) (fun u => True) ?_ (fun _ _ h => h) ?_
     ·refine y8 (fun j => Nat.beq j 14) (by kernel_rfl) rfl (zx (.l (.r (.rest _))))<|zTk 0 rfl (zm underlying26 rfl sizeOf24 (by decide) rfl rfl)<|zTk 1 rfl (zp (c := .own _ _) isAgg24 rfl ⟨_, .head⟩ rfl)<|zTk 2 rfl (zMi rfl)<|zTk 3 rfl (zm underlying26 rfl sizeOf24 (by decide) rfl rfl)<|zTk 4 rfl (zp (c := .own _ _) isAgg24 rfl ⟨_, .head⟩ rfl)<|zTk 5 rfl (zMi rfl)<|zTk 9 rfl (zk isAgg33 sizeOf33 rfl rfl)<|yj (i := 6) (j := 10) rfl rfl (by kernel_rfl) ?_ ?_
      ·refine z2 (Gv.idxO (j := p.toNat) underlying24 sizeOf66 rfl rfl (by omega) ⟨_, .t1⟩ (by intro h; rw [h] at hbl; simp at hbl; omega) (by omega))<|z6<|zTk 7 rfl (zm underlying66 rfl sizeOf60 (by decide) rfl rfl)<|yj (i := 8) (j := 10) rfl rfl (by kernel_rfl) ?_ ?_
       ·refine z2 (Gv.load1G (c := _) isAgg60 rfl ⟨_, .t1⟩ (blkIs_drop hip hD))<|z6<|zOn 10 rfl<|zw (rows := [[_, _, _, _]]) ps60_1 rfl rfl rfl rfl rfl<|z6<|zOn 11 rfl<|yd (k := 4) underlying60 type33 rfl rfl rfl rfl rfl (fun _ => .head) (insts_len D.insts) (by decide) rfl (by show (_ + 1) * 48 ≤ _; omega) (by show _ + 1 ≤ _; omega)<|fun i65 => z6<|zOn 12 rfl<|z2 (Gv.idxO (j := p.toNat) underlying24 sizeOf66 rfl rfl (by omega) ⟨_, .t1⟩ (by intro h; rw [h] at hbl; simp at hbl; omega) (by omega))<|z6<|zTk 13 rfl (zm underlying66 rfl sizeOf60 (by decide) rfl rfl)<|yk<|yo (i := 14) rfl (by kernel_rfl) (by kernel_rfl)<|AOps.storeGN (new := blkIs (ids.set p.toNat i65) (setI st.1 p.toNat (· ++ [x]))) sizeOf60 rfl rfl rfl rfl rfl .t2 (by show p.toNat * 7 + 2 < _; omega) (by rw [hset, ← blkIs_set i65 (D.insts ++ [x]) (by omega) hD, qi]; rfl)<|z6<|ym (by kernel_rfl) ?_
        exact ⟨i65, zR10, trivial, zLe, trivial⟩
       ·refine zw (rows := [[_, _, _, _]]) ps60_1 rfl rfl rfl rfl rfl<|z6<|zOn 8 rfl<|z2 (Gv.load1G (c := _) isAgg60 rfl ⟨_, .t1⟩ (blkIs_drop hip hD))<|z6<|zOn 11 rfl<|yd (k := 4) underlying60 type33 rfl rfl rfl rfl rfl (fun _ => .head) (insts_len D.insts) (by decide) rfl (by show (_ + 1) * 48 ≤ _; omega) (by show _ + 1 ≤ _; omega)<|fun i65 => z6<|zOn 12 rfl<|z2 (Gv.idxO (j := p.toNat) underlying24 sizeOf66 rfl rfl (by omega) ⟨_, .t1⟩ (by intro h; rw [h] at hbl; simp at hbl; omega) (by omega))<|z6<|zTk 13 rfl (zm underlying66 rfl sizeOf60 (by decide) rfl rfl)<|yk<|yo (i := 14) rfl (by kernel_rfl) (by kernel_rfl)<|AOps.storeGN (new := blkIs (ids.set p.toNat i65) (setI st.1 p.toNat (· ++ [x]))) sizeOf60 rfl rfl rfl rfl rfl .t2 (by show p.toNat * 7 + 2 < _; omega) (by rw [hset, ← blkIs_set i65 (D.insts ++ [x]) (by omega) hD, qi]; rfl)<|z6<|ym (by kernel_rfl) ?_
        exact ⟨i65, zR10, trivial, zLe, trivial⟩
      ·refine zw (rows := [[_, _, _, _]]) ps60_1 rfl rfl rfl rfl rfl<|z6<|zOn 6 rfl<|z2 (Gv.idxO (j := p.toNat) underlying24 sizeOf66 rfl rfl (by omega) ⟨_, .t1⟩ (by intro h; rw [h] at hbl; simp at hbl; omega) (by omega))<|z6<|zTk 7 rfl (zm underlying66 rfl sizeOf60 (by decide) rfl rfl)<|zOn 8 rfl<|z2 (Gv.load1G (c := _) isAgg60 rfl ⟨_, .t1⟩ (blkIs_drop hip hD))<|z6<|zOn 11 rfl<|yd (k := 4) underlying60 type33 rfl rfl rfl rfl rfl (fun _ => .head) (insts_len D.insts) (by decide) rfl (by show (_ + 1) * 48 ≤ _; omega) (by show _ + 1 ≤ _; omega)<|fun i65 => z6<|zOn 12 rfl<|z2 (Gv.idxO (j := p.toNat) underlying24 sizeOf66 rfl rfl (by omega) ⟨_, .t1⟩ (by intro h; rw [h] at hbl; simp at hbl; omega) (by omega))<|z6<|zTk 13 rfl (zm underlying66 rfl sizeOf60 (by decide) rfl rfl)<|yk<|yo (i := 14) rfl (by kernel_rfl) (by kernel_rfl)<|AOps.storeGN (new := blkIs (ids.set p.toNat i65) (setI st.1 p.toNat (· ++ [x]))) sizeOf60 rfl rfl rfl rfl rfl .t2 (by show p.toNat * 7 + 2 < _; omega) (by rw [hset, ← blkIs_set i65 (D.insts ++ [x]) (by omega) hD, qi]; rfl)<|z6<|ym (by kernel_rfl) ?_
       exact ⟨i65, zR10, trivial, zLe, trivial⟩
     ·rintro i65 _
      refine yf (GStep.bagIn (X' := bagIs (ids.set p.toNat i65) (setI st.1 p.toNat (· ++ [x]))) .t1 ((hX3 i65)) .t2)<|zRg<|z2 (zAd rfl rfl)<|z2 (zMi rfl)<|z6 ?_
      exact ⟨(q + 1, ids.set p.toNat i65), zR8, ⟨rfl, (by rw [hsucc, hadd]; rfl), trivial⟩, ⟨_, (.refl _), by rw [hsucc, hadd]⟩, ⟨hq2, by rw [List.length_set]; exact hids, any_take hq2 hsh (by rw [hpq]; exact hsb)⟩, by dsimp only; omega⟩
  ·have hqn : q = P.length := by simp at cq; omega
   subst hqn
   rw [qh] at hsh ⊢
   obtain ⟨st, hst⟩ : ∃ st, P.foldl (addX f k a) (f.blocks, false) = st := ⟨_, rfl⟩
   have hstl : st.1.length = f.blocks.length := by rw [← hst, addX_fold_len]
   rw [hst]
   refine zz<|za<|zSr<|z2 (zMb rfl)<|z2 (yc rfl)<|z6<|zr rfl (fun cs=>?_) (fun cs=>?_)
   ·have hs0 : st.2 = false := by simpa using cs
    refine zSr<|z2 (zk isAgg26 sizeOf26 rfl rfl)<|zo sizeOf26 rfl rfl rfl rfl rfl rfl .t3 rfl<|z2 (zAb rfl)<|z6<|zg<|afin.c1t (y := .bool _) rfl rfl ⟨_, .t3⟩ isAgg26 sizeOf26 rfl ?_
    unfold stepF; rw [if_neg (fun h => by have h3 := h.2.2.2.1; rw [ha, hP, hst, hs0] at h3; cases h3)]; rfl
   ·have hs1 : st.2 = true := by simpa using cs
    have hkeep : st.1[k]? = some B := by
     rw [← hst, fold_keep P (f.blocks, false) (fun p hp he => mayB_not hm (hP ▸ hp) (by have := (hrng p hp).1; omega))]; exact hget
    obtain ⟨ik, hik⟩ : ∃ ik, ids[k]? = some ik := ⟨_, qc (by omega)⟩
    obtain ⟨l0, x0, hl0⟩ : ∃ l0 x0, B.insts = l0 ++ [x0] := ⟨B.insts.dropLast, B.insts.getLast (by intro e; rw [e] at hBl; simp at hBl), (List.dropLast_concat_getLast _).symm⟩
    have hl1 : l0.length = a.toNat := by rw [hl0] at hBl; simp at hBl; omega
    have her : B.insts.eraseIdx a.toNat = l0 := by rw [hl0, ← hl1, List.eraseIdx_append_of_length_le (Nat.le_refl _)]; simp
    have hset : setI st.1 k (fun l => l.eraseIdx a.toNat) = st.1.set k { B with insts := l0 } := by unfold setI; rw [hkeep]; show st.1.set k { B with insts := B.insts.eraseIdx a.toNat } = _; rw [her]
    obtain ⟨M, hM⟩ : ∃ M, setI st.1 k (fun l => l.eraseIdx a.toNat) = M := ⟨_, rfl⟩
    have hMm : movedB f k a = M := by unfold movedB; rw [hP, hst]; exact hM
    rw [hM] at hset
    have hMl : M.length = f.blocks.length := by rw [hset, List.length_set, hstl]
    have hMb : ∀ c ∈ M, c.phis.length + c.insts.length ≤ 4000 := fun c hc => by
     have hb := fold_bd (f := f) (b := k) (a := a) P (f.blocks, false) 1000 hbig
     rw [hst] at hb
     rw [hset] at hc
     rcases List.mem_or_eq_of_mem_set hc with h | rfl
     ·have := hb c h; omega
     ·have : l0.length ≤ B.insts.length := by rw [hl0]; simp
      show B.phis.length + l0.length ≤ 4000
      omega
    have hbl := blkIs_len (ids := ids) (bs := st.1) (by omega)
    have hdrop : (blkIs ids st.1).drop (k * 7 + 2) = .own ik (l0.length + 1) :: (blkIs ids st.1).drop (k * 7 + 3) := by rw [blkIs_drop hik hkeep, hl0]; simp
    obtain ⟨X, hX1, hX2⟩ := zip_out insO ids st.1 k hik hkeep
    have hX0 : (bagIs ids st.1).Perm ((ik, AObj.grow 4 33 ((l0 ++ [x0]).map encInst).flatten) :: X) := by rw [← hl0]; exact hX1
    have hX3 : ∀ i', ((i', AObj.grow 4 33 (l0.map encInst).flatten) :: X).Perm (bagIs (ids.set k i') M) := fun i' => by rw [hset]; exact hX2 i' { B with insts := l0 }
    refine ze<|za<|yf (GStep.bagOut (i := ik) (o := .grow 4 33 ((l0 ++ [x0]).map encInst).flatten) (X' := X) (hX0) .t2)<|yh (γ := Nat) [2, 4, 10] (fun j => []) (fun j => [(i10, .cells 26 [.fro 2 (f.vars.map encVar), .fro 1 (f.params.map encI), .own ib f.blocks.length]), (j, .grow 4 33 (l0.map encInst).flatten), (ib, .grow 7 66 (blkIs (ids.set k j) M)), (0, bag X), (i4, .cells 26 [.raw (.slice none 0 0), .raw (.slice none 0 0), .raw (.slice none 0 0)])]) (fun j => True) ?_ (fun _ _ h => h) ?_
    ·refine y8 (fun j => Nat.beq j 15) (by kernel_rfl) rfl (zx (.l (.r (.rest _))))<|zTk 0 rfl (zm underlying26 rfl sizeOf24 (by decide) rfl rfl)<|zTk 1 rfl (zp (c := .own _ _) isAgg24 rfl ⟨_, .head⟩ rfl)<|zTk 2 rfl (zMi rfl)<|zTk 3 rfl (zm underlying26 rfl sizeOf24 (by decide) rfl rfl)<|zTk 4 rfl (zp (c := .own _ _) isAgg24 rfl ⟨_, .head⟩ rfl)<|zTk 5 rfl (zMi rfl)<|zTk 9 rfl (zMi rfl)<|zTk 10 rfl (zMi rfl)<|zTk 11 rfl (zAd rfl rfl)<|zOn 6 rfl<|z2 (Gv.idxO (j := k) underlying24 sizeOf66 rfl rfl rfl ⟨_, .t1⟩ (by intro h; rw [h] at hbl; simp at hbl; omega) (by omega))<|z6<|zTk 7 rfl (zm underlying66 rfl sizeOf60 (by decide) rfl rfl)<|zOn 8 rfl<|z2 (Gv.load1G (c := _) isAgg60 rfl ⟨_, .t1⟩ hdrop)<|z6<|zOn 12 rfl<|y5 rfl (zx (.l (.r (.r (.r (.rest _)))))) (delLast_own l0 x0 ik a (a + 1) (by omega) (by omega) (by omega)) ?_
     rintro r103 O103 ⟨j, rfl, rfl⟩
     refine z6<|zOn 13 rfl<|z2 (Gv.idxO (j := k) underlying24 sizeOf66 rfl rfl rfl ⟨_, .t1⟩ (by intro h; rw [h] at hbl; simp at hbl; omega) (by omega))<|z6<|zTk 14 rfl (zm underlying66 rfl sizeOf60 (by decide) rfl rfl)<|yk<|yo (i := 15) rfl (by kernel_rfl) (by kernel_rfl)<|AOps.storeGN (new := blkIs (ids.set k j) M) sizeOf60 rfl rfl rfl rfl rfl .t2 (by show k * 7 + 2 < _; omega) (by rw [hset, ← blkIs_set j l0 (by omega) hkeep]; rfl)<|z6<|ym (by kernel_rfl) ?_
     exact ⟨j, zR3, trivial, zLe, trivial⟩
    ·rintro j _
     refine yf (GStep.bagIn (X' := bagIs (ids.set k j) M) .t1 ((hX3 j)) .t2) ?_
     obtain ⟨ids2, hids2⟩ : ∃ ids2, ids.set k j = ids2 := ⟨_, rfl⟩
     have hidl : ids2.length = M.length := by rw [← hids2, List.length_set]; omega
     have hbl2 := blkIs_len (ids := ids2) (bs := M) hidl
     rw [hids2]
     refine yf (zf (zi .t1))<|yf (zf (zi .t1))<|zSr<|z2 (zAi rfl)<|z6<|za<|zSr<|z2 (zm underlying26 rfl sizeOf24 (by decide) rfl rfl)<|z2 (zp (c := .own _ _) isAgg24 rfl ⟨_, .head⟩ rfl)<|z2 (Gv.lenO underlying24 rfl)<|z2 (zMi rfl)<|z6<|zd<|y1 (γ := Nat) [2, 4, 10, 107, 108] (fun i => [(109, .int .i64 i), (15, .int .i64 (sumI (M.take i)))]) (fun i => [(i10, .cells 26 [.fro 2 (f.vars.map encVar), .fro 1 (f.params.map encI), .own ib f.blocks.length]), (ib, .grow 7 66 (blkIs ids2 M)), (0, bag (bagIs ids2 M)), (i4, .cells 26 [.raw (.slice none 0 0), .raw (.slice none 0 0), .raw (.slice none 0 0)])]) (fun i => i ≤ M.length) (fun i => M.length - i) 0 zR2 zLe (qf _) ?_
     rintro i hi
     refine zSr<|z2 (y7 rfl rfl)<|z6<|za<|zt rfl (fun ci=>?_) (fun ci=>?_)
     ·have hi2 : i < M.length := by simp at ci; omega
      obtain ⟨ci', hci'⟩ : ∃ q, ids2[i]? = some q := ⟨_, qc (by omega)⟩
      obtain ⟨D, hD⟩ : ∃ D, M[i] = D := ⟨_, rfl⟩
      have hDg : M[i]? = some D := by rw [qc hi2, hD]
      have hDb := hMb D (hD ▸ qg hi2)
      have hs2 := sumI_bd (M.take i) (fun c hc => hMb c (List.mem_of_mem_take hc))
      rw [qm] at hs2
      have hs3 : sumI (M.take i) ≤ 4000000 := by have : min i M.length * 4000 ≤ 1000 * 4000 := Nat.mul_le_mul_right _ (by omega); omega
      have hss := sumI_succ hi2
      rw [hD] at hss
      refine ze<|za<|zd<|zSr<|z2 (Gv.idxO (j := i) underlying24 sizeOf66 rfl rfl rfl ⟨_, .t1⟩ (by intro h; rw [h] at hbl2; simp at hbl2; omega) (by omega))<|z2 (Gv.loadAG (l := [_, _, _, _, _, _, _]) isAgg66 sizeOf66 rfl ⟨_, .t1⟩ (by intro h; rw [h] at hbl2; simp at hbl2; omega) (by omega) (blkIs_row hci' hDg))<|zy (cs := [.str ⟨#[]⟩, .raw (.slice none 0 0), .raw (.slice none 0 0), .int .i64 0, .int .i64 0, .int .i64 0, .int .i64 0]) zeroValue66 rfl rfl<|fun i17 => zo sizeOf66 rfl rfl rfl rfl rfl rfl .head rfl<|z6<|zRg<|z2 (zMi rfl)<|z2 (zm underlying66 rfl sizeOf59 (by decide) rfl rfl)<|z2 (zp (c := .fro _ _) isAgg59 rfl ⟨_, .head⟩ rfl)<|z2 (zq underlying59 rfl)<|z2 (zm underlying66 rfl sizeOf60 (by decide) rfl rfl)<|z2 (zp (c := .own _ _) isAgg60 rfl ⟨_, .head⟩ rfl)<|z2 (Gv.lenO underlying60 rfl)<|z2 (zAd rfl rfl)<|z2 (zAd rfl rfl)<|z2 (zAi rfl)<|z6<|zRg<|z2 (zAd rfl rfl)<|z2 (zMi rfl)<|z6 ?_
      exact ⟨i + 1, zR5, ⟨rfl, (by rw [hss]; congr 1), trivial⟩, ⟨_, (.drop (.refl _)), rfl⟩, hi2, by omega⟩
     ·have hin : i = M.length := by simp at ci; omega
      subst hin
      rw [qh]
      refine zz<|za<|zSr<|z2 (zMi rfl)<|z2 (yt rfl rfl)<|z6<|zr rfl (fun cz=>?_) (fun cz=>?_)
      ·have hz : 1024 < sumI M := by have h0 : (1024 : Int) < (sumI M : Int) := (by simpa using cz); omega
       refine zSr<|z2 (zk isAgg26 sizeOf26 rfl rfl)<|zo sizeOf26 rfl rfl rfl rfl rfl rfl .t3 rfl<|z2 (zAb rfl)<|z6<|zg<|afin.c1t (y := .bool _) rfl rfl ⟨_, .t3⟩ isAgg26 sizeOf26 rfl ?_
       unfold stepF; rw [if_neg (fun h => by have h3 := h.2.2.2.2; rw [ha, hMm] at h3; omega)]; rfl
      ·have hz : sumI M ≤ 1024 := by have h0 : ¬ (1024 : Int) < (sumI M : Int) := (by simpa using cz); omega
       refine yf (GStep.bagKnow (cs' := (M.map encBlk).flatten) .t2 .t1 ((fun I J L vs g1 g2 g3 g4 => blkIs_know hidl g1 g2 g3 g4)))<|yf (GStep.knowC (off := 2) (rows := M.map encBlk) .t1 .head rfl (by intro r hr; obtain ⟨z, _, rfl⟩ := List.mem_map.1 hr; rfl) (by decide) (by rw [qj, hMl]))<|ze<|zSr<|z2 (q6 isAgg26 sizeOf26 rfl ⟨_, .head⟩ rfl)<|zo sizeOf26 rfl rfl rfl rfl rfl rfl .t1 rfl<|z2 (zAb rfl)<|z6<|zg<|afin.c1t (y := .bool _) rfl rfl ⟨_, .t1⟩ isAgg26 sizeOf26 rfl ?_
       unfold stepF; rw [ha, if_pos ⟨rfl, h1, by rw [hP, List.any_eq_false]; intro p hp; rw [List.any_eq_false] at hsh; exact hsh p hp, by rw [hP, hst]; exact hs1, by rw [hMm]; exact hz⟩, hMm]; rfl
theorem step_bad (f : PFunc) (hf : small f) (hL : Letters E) (hp : plB f = false) (b : Int) : AFun prog E 89 [.agg (encF f), .int .i64 b] (.tup [.agg (encF f), .bool false]) := by
 refine zl func89 rfl (by decide) rfl<|zSr<|y4 (cs := _) rfl rfl rfl<|zy (cs := [.raw (.slice none 0 0), .raw (.slice none 0 0), .raw (.slice none 0 0)]) zeroValue26 rfl rfl<|fun i4 => z2 (zAb rfl)<|z6<|zSr<|z2 (zk isAgg26 sizeOf26 rfl rfl)<|zc (plook_bad f hf hL hp) rfl<|z2 (zMu rfl)<|z2 (q9 (v := .raw _) rfl rfl)<|z2 (zXi rfl rfl)<|z2 (zAr rfl)<|z2 (zAi rfl)<|z6<|za<|zSr<|z2 (zMi rfl)<|z2 (ya rfl rfl)<|z6<|yg rfl rfl<|zSr<|z2 (zk isAgg26 sizeOf26 rfl rfl)<|zo sizeOf26 rfl rfl rfl rfl rfl rfl .head rfl<|z2 (zAb rfl)<|z6<|zg<|afin.c1t (y := .bool _) rfl rfl ⟨_, .head⟩ isAgg26 sizeOf26 rfl ?_
 rfl
theorem stepF_no (f : PFunc) (b : Int) : stepF f false b = (f, false) := by unfold stepF; rw [if_neg (fun h => by cases h.1)]
theorem stepF_same {f : PFunc} {pl : Bool} {b : Int} (h : (stepF f pl b).2 = false) : (stepF f pl b).1 = f := by
 unfold stepF at h ⊢
 split
 ·rename_i hc; rw [if_pos hc] at h; cases h
 ·rfl
def OkM (f : PFunc) : Prop := small f ∧ lastP f
theorem step_spec (f : PFunc) (h : OkM f) (hL : Letters E) (b : Int) : AFun prog E 89 [.agg (encF f), .int .i64 b] (.tup [.agg (encF (stepF f (plB f) b).1), .bool (stepF f (plB f) b).2]) := by
 cases hp : plB f with
 | false => rw [stepF_no]; exact step_bad f h.1 hL hp b
 | true => exact step_ok f h.1 hL hp h.2 b
inductive Mv : PFunc → Int → Nat → PFunc → Prop
 | stop {f b} : OkM f → (stepF f (plB f) b).2 = false → Mv f b 0 f
 | go {f b n g} : OkM f → (stepF f (plB f) b).2 = true → Mv (stepF f (plB f) b).1 b n g → Mv f b (n + 1) g
theorem Mv.ok {f g : PFunc} {b : Int} {n : Nat} (h : Mv f b n g) : OkM f := by cases h <;> assumption
theorem Mv.next {f g : PFunc} {b : Int} {n : Nat} (h : Mv f b n g) : ((stepF f (plB f) b).2 = true → 0 < n ∧ Mv (stepF f (plB f) b).1 b (n - 1) g) ∧ ((stepF f (plB f) b).2 = false → (stepF f (plB f) b).1 = g) := by
 cases h with
 | stop h1 h2 => exact ⟨(fun h => by rw [h2] at h; cases h), stepF_same⟩
 | go h1 h2 h3 => exact ⟨fun _ => ⟨Nat.succ_pos _, h3⟩, (fun h => by rw [h2] at h; cases h)⟩
set_option maxHeartbeats 4000000 in
theorem Move_spec (f : PFunc) (hf : small f) (hL : Letters E) (hp : plB f = true) (tr : Nat → PFunc) (h0 : tr 0 = f) (hT : ∀ b : Nat, b < f.blocks.length → ∃ n, Mv (tr b) b n (tr (b + 1))) : AFun prog E 47 [.agg (encF f)] (.tup [.agg (encF (tr f.blocks.length)), .int .i64 0]) := by
 have hP := SingPlain_spec (E := E) f hf hL
 unfold plB at hp
 rw [hp] at hP
 have hn := hf.2.2.1
 refine zl func47 rfl (by decide) rfl<|zSr<|y4 (cs := _) rfl rfl rfl<|zy (cs := [.raw (.slice none 0 0), .raw (.slice none 0 0), .raw (.slice none 0 0)]) zeroValue26 rfl rfl<|fun i2 => z2 (zAi rfl)<|z6<|za<|zSr<|z2 (zk isAgg26 sizeOf26 rfl rfl)<|zc (hP) rfl<|z2 (zAi rfl)<|z6<|zSr<|z2 (zMi rfl)<|z2 (ya rfl rfl)<|z6<|yb rfl rfl<|ze<|zSr<|z2 (zk isAgg26 sizeOf26 rfl rfl)<|zc (copyF_spec f hf) rfl<|zy (cs := [.raw (.slice none 0 0), .raw (.slice none 0 0), .raw (.slice none 0 0)]) zeroValue26 rfl rfl<|fun i5 => zo sizeOf26 rfl rfl rfl rfl rfl rfl .head rfl<|z6<|za<|zSr<|z2 (zFF underlying26 rfl sizeOf24 rfl rfl)<|z2 (zLf isAgg24 rfl)<|z2 (zq underlying24 rfl)<|z2 (zMi rfl)<|z6<|zd<|y1 (γ := Nat) [2, 5, 18] (fun b => [(19, .int .i64 b)]) (fun b => [(i5, .cells 26 (encF (tr b))), (i2, .cells 26 [.raw (.slice none 0 0), .raw (.slice none 0 0), .raw (.slice none 0 0)])]) (fun b => b ≤ f.blocks.length) (fun b => f.blocks.length - b) 0 zR1 ⟨_, (.refl _), by rw [h0]; rfl⟩ (qf _) ?_
 rintro b hb
 refine zSr<|z2 (y7 rfl rfl)<|z6<|za<|zt rfl (fun cb=>?_) (fun cb=>?_)
 ·have hb2 : b < f.blocks.length := by simp at cb; omega
  obtain ⟨n, hM⟩ := hT b hb2
  refine ze<|za<|zd<|zSr<|z2 (zMi rfl)<|z2 (zAi rfl)<|z6<|zSr<|z2 (zAb rfl)<|z6<|zd<|y1 (γ := PFunc × Bool × Nat) [2, 5, 6, 18, 19] (fun g => [(7, .bool g.2.1)]) (fun g => [(i5, .cells 26 (encF g.1)), (i2, .cells 26 [.raw (.slice none 0 0), .raw (.slice none 0 0), .raw (.slice none 0 0)])]) (fun g => (g.2.1 = true → Mv g.1 b g.2.2 (tr (b + 1))) ∧ (g.2.1 = false → g.1 = tr (b + 1))) (fun g => (if g.2.1 = true then g.2.2 + 1 else 0)) (tr b, true, n) zR1 zLe (⟨fun _ => hM, fun h => by cases h⟩) ?_
  rintro ⟨cur, ag, n⟩ ⟨hg1, hg2⟩
  try dsimp only at *
  refine za<|zSr<|z2 (zMb rfl)<|z6<|zr rfl (fun ca=>?_) (fun ca=>?_)
  ·obtain rfl : ag = true := ca
   have hM := hg1 rfl
   obtain ⟨hx1, hx2⟩ := hM.next
   refine ze<|zd<|zRg<|z2 (q6 isAgg26 sizeOf26 rfl ⟨_, .head⟩ rfl)<|z2 (zMi rfl)<|zc (step_spec cur hM.ok hL b) rfl<|z2 (zMu rfl)<|z2 (q9 (v := .agg _) rfl rfl)<|z2 (zXb rfl rfl)<|zo sizeOf26 rfl rfl rfl rfl rfl rfl .head rfl<|z2 (zAb rfl)<|z6 ?_
   exact ⟨((stepF cur (plB cur) b).1, (stepF cur (plB cur) b).2, n - 1), zR5, zR1, zLe, ⟨fun h => (hx1 h).2, hx2⟩, by dsimp only; cases hc : (stepF cur (plB cur) b).2 with | false => simp | true => have := (hx1 hc).1; simp; omega⟩
  ·obtain rfl : ag = false := ca
   refine zz<|zRg<|z2 (zAd rfl rfl)<|z2 (zMi rfl)<|z6 ?_
   exact ⟨b + 1, zR3, zR1, ⟨_, (.refl _), by rw [hg2 rfl]⟩, hb2, by omega⟩
 ·obtain rfl : b = f.blocks.length := by simp at cb; omega
  refine zz<|zSr<|z2 (q6 isAgg26 sizeOf26 rfl ⟨_, .head⟩ rfl)<|zo sizeOf26 rfl rfl rfl rfl rfl rfl .t1 rfl<|z2 (zAi rfl)<|z6<|zg<|afin.c1t (y := .int _ _) rfl rfl ⟨_, .t1⟩ isAgg26 sizeOf26 rfl ?_
  rfl
end Go.Proofs.YtjnpcfpecilejaaGreatDoor
namespace Go.Proofs.YtjnpcfpecilejaaGreatDoor
open Go.Proofs.Tryz
theorem flat_len1 {α β : Type} {g : α → List β} : ∀ {l : List α} {i : Nat} {x : α}, l[i]? = some x → (g x).length ≤ (l.flatMap g).length
 | y :: l, 0, x, h => by simp at h; subst h; rw [List.flatMap_cons, qi]; omega
 | y :: l, i + 1, x, h => by
  have := flat_len1 (g := g) (l := l) (i := i) (x := x) (by simpa using h)
  rw [List.flatMap_cons, qi]; omega
theorem mkBlk_len {f : PFunc} {v : Int} (hl : (makings f v).length ≤ 1) {i : Nat} {b : PBlock} (h : f.blocks[i]? = some b) : (mkBlk v i b).length ≤ 1 := by
 have h2 : f.blocks.zipIdx[i]? = some (b, i) := by rw [List.getElem?_zipIdx, h]; simp
 exact Nat.le_trans (flat_len1 (g := fun b : PBlock × Nat => mkBlk v (b.2 : Int) b.1) h2) hl
theorem phi_one {f : PFunc} {v : Int} (hl : (makings f v).length ≤ 1) {i : Nat} {b : PBlock} (h : f.blocks[i]? = some b) {p : PPhi} (hp : p ∈ b.phis) (hd : p.dst = v) : b.phis.filter (fun q => decide (q.dst = v)) = [p] := by
 have h1 := mkBlk_len hl h
 unfold mkBlk at h1
 rw [qi, qj] at h1
 have h2 : p ∈ b.phis.filter (fun q => decide (q.dst = v)) := List.mem_filter.2 ⟨hp, by simpa using hd⟩
 cases hf : b.phis.filter (fun q => decide (q.dst = v)) with
 | nil => rw [hf] at h2; cases h2
 | cons x l =>
  rw [hf] at h1 h2
  have : l = [] := List.eq_nil_of_length_eq_zero (by simp only [List.length_cons] at h1; omega)
  subst this
  simp at h2; rw [h2]
end Go.Proofs.YtjnpcfpecilejaaGreatDoor
namespace Go.Proofs.YtjnpcfpecilejaaGreatDoor
open Go.Proofs.Tryz
open Go.Proofs Go.Lib Go.Shelf Go.RowKit
variable {E : World}
set_option maxRecDepth 20000
theorem preIs_spec (x : PInst) (op : Int) (args : List Int) (hx : x.args.length ≤ 100000) (ha : args.length ≤ 100000) : AFun prog E 19 [.agg (encInst x), .int .i64 op, .fro 1 (args.map encI)] (.bool (decide (x.op = op) && decide (x.args = args))) := by
 refine zl func19 rfl (by decide) rfl<|zSr<|y4 (cs := _) rfl rfl rfl<|z2 (zAb rfl)<|z6<|za<|za<|yh (γ := Bool) [2, 3] (fun u => [(19, .bool u)]) (fun u => []) (fun u => u = !(decide (x.op = op) && decide (x.args.length = args.length))) ?_ (fun _ _ h => h) ?_
 ·refine zRg<|z2 (zFF underlying33 rfl sizeOf31 rfl rfl)<|z2 (zLi isAgg31 rfl)<|z2 (zMi rfl)<|z2 (ya rfl rfl)<|z2 (zMb rfl)<|zn (s := 12) rfl (fun c1=>?_) (fun c1=>?_)
  ·refine z7 rfl rfl c1<|z7 rfl rfl c1<|z7 rfl rfl c1<|z7 rfl rfl c1<|z7 rfl rfl c1<|z7 rfl rfl c1<|z2 (zPt rfl c1 rfl)<|z6 ?_
   exact ⟨_, zR2, zR1, zLe, by simp_all <;> omega⟩
  ·refine z8 rfl rfl c1<|z2 (zFF underlying33 rfl sizeOf23 rfl rfl)<|z8 rfl rfl c1<|z2 (zLf isAgg23 rfl)<|z8 rfl rfl c1<|z2 (zq underlying23 rfl)<|z8 rfl rfl c1<|z2 (zMf rfl)<|z8 rfl rfl c1<|z2 (zq underlying23 rfl)<|z8 rfl rfl c1<|z2 (ya rfl rfl)<|z2 (zPf rfl c1 rfl)<|z6 ?_
   exact ⟨_, zR2, zR1, zLe, by simp_all <;> omega⟩
 ·rintro u hu
  subst hu
  refine zr rfl (fun c0=>?_) (fun c0=>?_)
  ·have h0 : (decide (x.op = op) && decide (x.args.length = args.length)) = false := by rwa [Bool.not_eq_true'] at c0
   refine zSr<|z2 (zAb rfl)<|z6<|zg<|zj (x := .bool _) rfl ?_
   exact jb (by
    rcases Bool.and_eq_false_iff.1 h0 with h | h
    ·rw [h]; rfl
    ·rw [qo (p := x.args = args) (fun e => absurd (congrArg List.length e) (of_decide_eq_false h)), Bool.and_false])
  ·have h0 : (decide (x.op = op) && decide (x.args.length = args.length)) = true := by simpa using c0
   have h1 : x.op = op := by rw [qp, qr, qr] at h0; exact h0.1
   have h2 : x.args.length = args.length := by rw [qp, qr, qr] at h0; exact h0.2
   refine ze<|za<|zSr<|z2 (zMf rfl)<|z2 (zq underlying23 rfl)<|z2 (zMi rfl)<|z6<|zd<|y1 (γ := Nat) [2, 3, 21] (fun k => [(22, .int .i64 k)]) (fun k => []) (fun k => k ≤ args.length ∧ x.args.take k = args.take k) (fun k => args.length - k) 0 zR1 zLe (⟨qf _, rfl⟩) ?_
   rintro k ⟨hk, hall⟩
   refine zSr<|z2 (y7 rfl rfl)<|z6<|za<|zt rfl (fun ck=>?_) (fun ck=>?_)
   ·have hk2 : k < args.length := by simp at ck; omega
    have hk3 : k < x.args.length := by omega
    refine ze<|za<|zd<|zSr<|z2 (zMi rfl)<|z2 (zAi rfl)<|z6<|za<|y8 (fun j => false) (by kernel_rfl) rfl (zx (.rest _))<|zTk 0 rfl (zFF underlying33 rfl sizeOf23 rfl rfl)<|zTk 1 rfl (zLf isAgg23 rfl)<|zTk 2 rfl (zMi rfl)<|zTk 3 rfl (zIM k underlying23 sizeOf3 rfl rfl rfl (qc hk3))<|zTk 4 rfl (zLi isAgg3 rfl)<|zTk 5 rfl (zMf rfl)<|zTk 6 rfl (zMi rfl)<|zTk 7 rfl (zIM k underlying23 sizeOf3 rfl rfl rfl (qc hk2))<|zTk 8 rfl (zLi isAgg3 rfl)<|zTk 9 rfl (ya rfl rfl)<|zDn<|zr rfl (fun cn=>?_) (fun cn=>?_)
    ·have hne : ¬ x.args[k] = args[k] := by simpa using cn
     refine zSr<|z2 (zAb rfl)<|z6<|zg<|zj (x := .bool _) rfl ?_
     exact jb (by rw [qo (p := x.args = args) (fun e => hne (by simp only [e])), Bool.and_false])
    ·have heq : x.args[k] = args[k] := by simpa using cn
     refine ze<|zRg<|z2 (zAd rfl rfl)<|z2 (zMi rfl)<|z6 ?_
     exact ⟨k + 1, zR3, zR1, zLe, ⟨hk2, by rw [qd hk3, qd hk2, hall, heq]⟩, by omega⟩
   ·have hkn : k = args.length := by simp at ck; omega
    have he : x.args = args := by rw [hkn, qh, ← h2, qh] at hall; exact hall
    refine zz<|zSr<|z2 (zAb rfl)<|z6<|zg<|zj (x := .bool _) rfl ?_
    exact jb (by rw [qn h1, qn he]; rfl)
set_option maxHeartbeats 4000000 in
theorem firstI_snoc {α : Type} (p : α → Bool) (x : α) : ∀ (l : List α) (k : Nat), firstI p (l ++ [x]) k = if l.any p = true then firstI p l k else if p x = true then ((k + l.length : Nat) : Int) else -1
 | [], k => by simp [firstI]
 | y :: l, k => by
  rw [List.cons_append, firstI, firstI_snoc p x l (k + 1), List.any_cons]
  by_cases h : p y = true
  ·rw [if_pos h, h, if_pos (by rfl), firstI, if_pos h]
  ·rw [if_neg h, show p y = false by simpa using h, Bool.false_or, firstI, if_neg h, List.length_cons, show k + 1 + l.length = k + (l.length + 1) by omega]
theorem ixF_take {l : List Int} {p : Int} {k : Nat} (h : k < l.length) : ixF (l.take (k + 1)) p = if p ∈ l.take k then ixF (l.take k) p else if p = l[k] then (k : Int) else -1 := by
 unfold ixF
 rw [qd h, firstI_snoc, qm, Nat.zero_add, Nat.min_eq_left (by omega)]
 simp only [List.any_eq_true, qr, exists_eq_right']
theorem ixF_neg {l : List Int} {p : Int} (h : p ∉ l) : ixF l p = -1 := by
 unfold ixF
 rcases firstI_rng (fun x => decide (p = x)) l 0 with h1 | ⟨h1, _⟩
 ·exact h1
 ·have := firstI_ge (fun x => decide (p = x)) l 0
  rw [qn (by omega)] at this
  obtain ⟨y, hy, e⟩ := List.any_eq_true.1 this.symm
  exact absurd (of_decide_eq_true e ▸ hy) h
theorem inTo_mem {f : PFunc} {b p : Int} : p ∈ inTo f b ↔ (0 ≤ p ∧ p < f.blocks.length) ∧ b ∈ EndsOf f p := by
 unfold inTo predsT
 rw [List.mem_flatMap]
 constructor
 ·rintro ⟨i, hi, h2⟩
  obtain ⟨c, hc, rfl⟩ := List.mem_map.1 h2
  unfold intsTo at hi
  obtain ⟨n, hn, rfl⟩ := List.mem_map.1 hi
  have := List.mem_range.1 hn
  have hc2 := List.mem_filter.1 hc
  refine ⟨⟨Int.natCast_nonneg n, by show (n : Int) < _; omega⟩, ?_⟩
  have : c = b := by simpa using hc2.2
  exact this ▸ hc2.1
 ·rintro ⟨⟨h0, h1⟩, h2⟩
  refine ⟨p, ?_, List.mem_map.2 ⟨b, List.mem_filter.2 ⟨h2, by simp⟩, rfl⟩⟩
  unfold intsTo
  exact List.mem_map.2 ⟨p.toNat, List.mem_range.2 (by omega), by show ((p.toNat : Nat) : Int) = p; omega⟩
theorem refInto_spec (f : PFunc) (hf : small f) (b : Int) : AFun prog E 55 [.agg (encF f), .int .i64 b] (.int .i64 (inTo f b).length) := by
 have hn := hf.2.2.1
 refine zl func55 rfl (by decide) rfl<|zSr<|y4 (cs := _) rfl rfl rfl<|z2 (zAi rfl)<|z6<|zSr<|z2 (zAi rfl)<|z6<|za<|zSr<|z2 (zFF underlying26 rfl sizeOf24 rfl rfl)<|z2 (zLf isAgg24 rfl)<|z2 (zq underlying24 rfl)<|z2 (zMi rfl)<|z6<|zd<|y1 (γ := Nat) [1, 2, 9] (fun a => [(10, .int .i64 a), (5, .int .i64 (predsT (EndsOf f) a b).length)]) (fun a => []) (fun a => a ≤ f.blocks.length) (fun a => f.blocks.length - a) 0 zR2 zLe (qf _) ?_
 rintro a ha
 refine zSr<|z2 (y7 rfl rfl)<|z6<|za<|zt rfl (fun ca=>?_) (fun ca=>?_)
 ·have ha2 : a < f.blocks.length := by simp at ca; omega
  have hone := predsT_one (f := f) a b
  have hle := predsT_len f b a
  refine ze<|za<|zd<|zSr<|z2 (zMi rfl)<|z2 (zAi rfl)<|z6<|zSr<|z2 (zk isAgg26 sizeOf26 rfl rfl)<|z2 (zMi rfl)<|z2 (zMi rfl)<|zc (leads_spec f hn (a : Int) b (by omega) (by omega)) rfl<|z6<|zr rfl (fun cl=>?_) (fun cl=>?_)
  ·have hl : b ∈ EndsOf f a := by simpa using cl
   rw [if_pos hl] at hone
   refine zRg<|z2 (zMi rfl)<|z2 (zAd rfl rfl)<|z2 (zAi rfl)<|z6<|zRg<|z2 (zAd rfl rfl)<|z2 (zMi rfl)<|z6 ?_
   exact ⟨a + 1, zR3, ⟨rfl, (by rw [hone]; rfl), trivial⟩, zLe, ha2, by omega⟩
  ·have hl : ¬ b ∈ EndsOf f a := by simpa using cl
   rw [if_neg hl] at hone
   refine ze<|zRg<|z2 (zAd rfl rfl)<|z2 (zMi rfl)<|z6 ?_
   exact ⟨a + 1, zR3, ⟨rfl, (by rw [hone]; rfl), trivial⟩, zLe, ha2, by omega⟩
 ·have han : a = f.blocks.length := by simp at ca; omega
  subst han
  refine zz<|zSr<|z2 (zMi rfl)<|z2 (zAi rfl)<|z6<|zg<|zj (x := .int _ _) rfl ?_
  rfl
theorem chkNum_spec (op : Int) (h : 0 ≤ op ∧ op ≤ 26) : AFun prog E 56 [.int .i64 op] (.int .i64 (if 18 ≤ op ∧ op ≤ 24 then op - 17 else 0)) := by
 refine zl func56 rfl (by decide) rfl<|zSr<|z2 (zAi rfl)<|z6<|za<|zSr<|z2 (zMi rfl)<|z2 (y7 rfl rfl)<|z2 (zMb rfl)<|zn (s := 5) rfl (fun c1=>?_) (fun c1=>?_)
 ·have h1 : op < 18 := by simpa using c1
  refine z7 rfl rfl c1<|z7 rfl rfl c1<|z2 (zPt rfl c1 rfl)<|z6<|yg rfl rfl<|zSr<|z2 (zAi rfl)<|z6<|zg<|zj (x := .int _ _) rfl ?_
  rw [if_neg (by omega)]
 ·have h1 : ¬ op < 18 := by simpa using c1
  refine z8 rfl rfl c1<|z2 (zMi rfl)<|z8 rfl rfl c1<|z2 (yt rfl rfl)<|z2 (zPf rfl c1 rfl)<|z6<|zr rfl (fun c2=>?_) (fun c2=>?_)
  ·have h2 : 24 < op := by simpa using c2
   refine zSr<|z2 (zAi rfl)<|z6<|zg<|zj (x := .int _ _) rfl ?_
   rw [if_neg (by omega)]
  ·have h2 : ¬ 24 < op := by simpa using c2
   refine ze<|zSr<|z2 (zMi rfl)<|z2 (Gv.sub rfl rfl (by unfold I64; omega))<|z2 (zAi rfl)<|z6<|zg<|zj (x := .int _ _) rfl ?_
   rw [if_pos (by omega)]
set_option maxHeartbeats 4000000 in
theorem refFirst36_spec (f : PFunc) (hf : small f) (hS : ShapedP f) (k : Nat) (hk : k < f.blocks.length) : AFun prog E 16 [.agg (encF f), .int .i64 k] (.int .i64 (firstF f k)) := by
 have hn := hf.2.2.1
 obtain ⟨B, hB⟩ : ∃ B, f.blocks[k] = B := ⟨_, rfl⟩
 have hget : f.blocks[k]? = some B := by rw [qc hk, hB]
 have hmem : B ∈ f.blocks := hB ▸ qg hk
 obtain ⟨hb0, hb1, hb2, hb3, hb4⟩ := hf.2.2.2.2 B hmem
 obtain ⟨hPh, hIn, hTm⟩ := hS.2.2.2.2.2 B hmem
 have hI : instsAt f (k : Int) = B.insts := by unfold instsAt; rw [show ((k : Int)).toNat = k from rfl, hget]; rfl
 have hpl := inTo_len hf (k : Int)
 have hcon : (inTo f (k : Int)).contains (k : Int) = decide ((k : Int) ∈ EndsOf f (k : Int)) := by
  rw [ql, qr, List.contains_eq_mem, qr, inTo_mem]
  exact ⟨fun h => h.2, fun h => ⟨⟨by omega, by omega⟩, h⟩⟩
 refine zl func16 rfl (by decide) rfl<|zSr<|y4 (cs := _) rfl rfl rfl<|z2 (zAi rfl)<|z6<|za<|za<|yh (γ := Bool) [1, 2] (fun u => [(20, .bool u)]) (fun u => []) (fun u => u = !mayB f k) ?_ (fun _ _ h => h) ?_
 ·refine zRg<|z2 (zk isAgg26 sizeOf26 rfl rfl)<|z2 (zMi rfl)<|zc (refInto_spec f hf (k : Int)) rfl<|z2 (y7 rfl rfl)<|z2 (zMb rfl)<|zn (s := 15) rfl (fun c1=>?_) (fun c1=>?_)
  ·refine z7 rfl rfl c1<|z7 rfl rfl c1<|z7 rfl rfl c1<|z7 rfl rfl c1<|z2 (zPt rfl c1 rfl)<|z6 ?_
   exact ⟨_, zR2, zR1, zLe, by have h : (inTo f (k : Int)).length < 2 := (by have h0 : ((inTo f (k : Int)).length : Int) < 2 := (by simpa using c1); omega); unfold mayB; rw [qo (by omega)]; rfl⟩
  ·refine z8 rfl rfl c1<|z2 (zk isAgg26 sizeOf26 rfl rfl)<|z8 rfl rfl c1<|z2 (zMi rfl)<|z8 rfl rfl c1<|z2 (zMi rfl)<|z8 rfl rfl c1<|zc (leads_spec f hn (k : Int) (k : Int) (by omega) (by omega)) rfl<|z2 (zPf rfl c1 rfl)<|z6 ?_
   exact ⟨_, zR2, zR1, zLe, by have h : ¬ (inTo f (k : Int)).length < 2 := (by have h0 : ¬ ((inTo f (k : Int)).length : Int) < 2 := (by simpa using c1); omega); unfold mayB; rw [qn (show 2 ≤ (inTo f (k : Int)).length by omega), hcon, Bool.true_and, Bool.not_not]⟩
 ·rintro u hu
  subst hu
  refine zr rfl (fun cm=>?_) (fun cm=>?_)
  ·have hm : ¬ mayB f k = true := by simpa using cm
   refine zSr<|z2 (zAi rfl)<|z6<|zg<|zj (x := .int _ _) rfl ?_
   unfold firstF; rw [if_neg (fun h => hm h.2)]
  ·have hm : mayB f k = true := by simpa using cm
   have hF : firstF f (k : Int) = firstJ f (k : Int) (firstI (fun x => stopB x.op) B.insts 0) := by unfold firstF; rw [if_pos ⟨⟨by omega, by omega⟩, hm⟩, hI]
   rw [hF]
   refine ze<|za<|zSr<|z2 (zFF underlying26 rfl sizeOf24 rfl rfl)<|z2 (zLf isAgg24 rfl)<|z2 (zMi rfl)<|z2 (zIM k underlying24 sizeOf66 rfl rfl rfl hget)<|z2 (zFF underlying66 rfl sizeOf60 rfl rfl)<|z2 (zLf isAgg60 rfl)<|z2 (zq underlying60 rfl)<|z2 (zMi rfl)<|z6<|zd<|y1 (γ := Nat) [1, 2, 26, 27] (fun i => [(28, .int .i64 i)]) (fun i => []) (fun i => i ≤ B.insts.length ∧ (B.insts.take i).all (fun x => !stopB x.op) = true) (fun i => B.insts.length - i) 0 zR1 zLe (⟨qf _, rfl⟩) ?_
   rintro i ⟨hi, hall⟩
   refine zSr<|z2 (y7 rfl rfl)<|z6<|za<|zt rfl (fun ci=>?_) (fun ci=>?_)
   ·have hi2 : i < B.insts.length := by simp at ci; omega
    obtain ⟨x, hx⟩ : ∃ x, B.insts[i] = x := ⟨_, rfl⟩
    have hxg : B.insts[i]? = some x := by rw [qc hi2, hx]
    have hxm : x ∈ B.insts := hx ▸ qg hi2
    have hIF := instP_F (hIn x hxm)
    have hop := hIF.op
    have hal := hb4 x hxm
    have hO : instOf f (k : Int) i = x := by unfold instOf; rw [hI, show ((i : Int)).toNat = i from rfl, hxg]; rfl
    have hat : stopB x.op = true → firstI (fun x : PInst => stopB x.op) B.insts 0 = (i : Int) := fun h => by rw [firstI_drop _ B.insts i hi hall, List.drop_eq_getElem_cons hi2, firstI, if_pos (by rw [hx]; exact h)]
    refine ze<|za<|zd<|zSr<|z2 (zMi rfl)<|z2 (zIM i underlying60 sizeOf33 rfl rfl rfl hxg)<|z2 (zk isAgg33 sizeOf33 rfl rfl)<|zy (cs := [.int .i64 0, .int .i64 0, .raw (.slice none 0 0), .int .i64 0]) zeroValue33 rfl rfl<|fun i6 => z2 (zAi rfl)<|zo sizeOf33 rfl rfl rfl rfl rfl rfl .head rfl<|zb (y9 (t := 6) rfl .head)<|z6<|za<|zSr<|z2 (zFF underlying33 rfl sizeOf31 rfl rfl)<|z2 (zLi isAgg31 rfl)<|zc (chkNum_spec x.op hop) rfl<|z2 (yt rfl rfl)<|z6<|zt rfl (fun cc=>?_) (fun cc=>?_)
    ·have hc : 18 ≤ x.op ∧ x.op ≤ 24 := Classical.byContradiction fun h => by rw [if_neg h] at cc; omega
     have hst : stopB x.op = true := by unfold stopB; simp; omega
     rw [hat hst]
     refine za<|zSr<|z2 (zFF underlying33 rfl sizeOf23 rfl rfl)<|z2 (zLf isAgg23 rfl)<|z2 (zq underlying23 rfl)<|z2 (zMi rfl)<|z6<|zd<|y1 (γ := Nat) [1, 2, 5, 38, 39] (fun j => [(40, .int .i64 j)]) (fun j => []) (fun j => j ≤ x.args.length ∧ (x.args.take j).any (ownB f k) = false) (fun j => x.args.length - j) 0 zR1 zLe (⟨qf _, rfl⟩) ?_
     rintro j ⟨hj, hno⟩
     refine zSr<|z2 (y7 rfl rfl)<|z6<|za<|zt rfl (fun cj=>?_) (fun cj=>?_)
     ·have hj2 : j < x.args.length := by simp at cj; omega
      obtain ⟨v, hv⟩ : ∃ v, x.args[j] = v := ⟨_, rfl⟩
      obtain ⟨w, hw, hwl⟩ := hasV_nat (hIF.args v (hv ▸ qg hj2))
      subst hw
      refine ze<|za<|zd<|zSr<|z2 (zIM j underlying23 sizeOf3 rfl rfl rfl (by rw [qc hj2, hv]))<|z2 (zLi isAgg3 rfl)<|z2 (zAi rfl)<|z6<|zSr<|z2 (zk isAgg26 sizeOf26 rfl rfl)<|z2 (zMi rfl)<|zc (Maker_spec f hf w) rfl<|z2 (zMu rfl)<|z2 (zXi rfl rfl)<|z2 (zXi rfl rfl)<|z2 (zAi rfl)<|z2 (zAi rfl)<|z6<|za<|yh (γ := Bool) [1, 2, 5, 38, 39, 40] (fun u => [(56, .bool u)]) (fun u => []) (fun u => u = ownB f k w) ?_ (fun _ _ h => h) ?_
      ·refine zRg<|z2 (zMi rfl)<|z2 (zMi rfl)<|z2 (y6 rfl rfl)<|z2 (zMb rfl)<|zn (s := 53) rfl (fun c1=>?_) (fun c1=>?_)
       ·refine z8 rfl rfl c1<|z2 (zMi rfl)<|z8 rfl rfl c1<|z2 (yz rfl rfl)<|z2 (zPt rfl c1 rfl)<|z6 ?_
        exact ⟨_, zR6, zR1, zLe, by unfold ownB; simp_all⟩
       ·refine z7 rfl rfl c1<|z7 rfl rfl c1<|z2 (zPf rfl c1 rfl)<|z6 ?_
        exact ⟨_, zR6, zR1, zLe, by unfold ownB; simp_all⟩
      ·rintro u hu
       subst hu
       refine zr rfl (fun co=>?_) (fun co=>?_)
       ·refine zSr<|z2 (zAi rfl)<|z6<|zg<|zj (x := .int _ _) rfl ?_
        unfold firstJ; rw [if_neg (by omega), hO, if_neg (fun h => by have h2 := h.2; rw [List.any_eq_false] at h2; exact h2 (w : Int) (hv ▸ qg hj2) co)]
       ·refine ze<|zRg<|z2 (zAd rfl rfl)<|z2 (zMi rfl)<|z6 ?_
        exact ⟨j + 1, zR5, zR1, zLe, ⟨hj2, any_take hj2 hno (by rw [hv]; simpa using co)⟩, by omega⟩
     ·have hjn : j = x.args.length := by simp at cj; omega
      subst hjn
      rw [qh] at hno
      refine zz<|zSr<|z2 (zMi rfl)<|z2 (zAi rfl)<|z6<|zg<|zj (x := .int _ _) rfl ?_
      unfold firstJ; rw [if_neg (by omega), hO, if_pos ⟨hc, hno⟩]
    ·have hc : ¬ (18 ≤ x.op ∧ x.op ≤ 24) := fun h => by rw [if_pos h] at cc; omega
     refine ze<|za<|yh (γ := Bool) [1, 2, 26, 27, 28] (fun u => [(66, .bool u)]) (fun u => []) (fun u => u = stopB x.op) ?_ (fun _ _ h => h) ?_
     ·refine zRg<|z2 (zFF underlying33 rfl sizeOf31 rfl rfl)<|z2 (zLi isAgg31 rfl)<|z2 (y6 rfl rfl)<|z2 (zMb rfl)<|zn (s := 62) rfl (fun c1=>?_) (fun c1=>?_)
      ·have h1 : x.op = 17 := by simpa using c1
       refine z7 rfl rfl c1<|z7 rfl rfl c1<|z7 rfl rfl c1<|z2 (zPt rfl c1 rfl)<|z6 ?_
       exact ⟨_, zR5, zR1, zLe, by rw [h1]; rfl⟩
      ·have h1 : ¬ x.op = 17 := by simpa using c1
       refine z8 rfl rfl c1<|z2 (zFF underlying33 rfl sizeOf31 rfl rfl)<|z8 rfl rfl c1<|z2 (zLi isAgg31 rfl)<|z8 rfl rfl c1<|z2 (y6 rfl rfl)<|z2 (zPf rfl c1 rfl)<|z6 ?_
       exact ⟨_, zR5, zR1, zLe, by unfold stopB; rw [qo h1, show (decide (18 ≤ x.op) && decide (x.op ≤ 24)) = false from by rw [Bool.and_eq_false_iff, decide_eq_false_iff_not, decide_eq_false_iff_not]; omega]; simp⟩
     ·rintro u hu
      subst hu
      refine zr rfl (fun cs=>?_) (fun cs=>?_)
      ·refine zSr<|z2 (zAi rfl)<|z6<|zg<|zj (x := .int _ _) rfl ?_
       rw [hat cs]; unfold firstJ; rw [if_neg (by omega), hO, if_neg (fun h => hc h.1)]
      ·refine ze<|zRg<|z2 (zAd rfl rfl)<|z2 (zMi rfl)<|z6 ?_
       exact ⟨i + 1, zR4, zR1, zLe, ⟨hi2, by rw [qd hi2, List.all_append, hall, hx]; simp; simpa using cs⟩, by omega⟩
   ·have hin : i = B.insts.length := by simp at ci; omega
    refine zz<|zSr<|z2 (zAi rfl)<|z6<|zg<|zj (x := .int _ _) rfl ?_
    rw [firstI_drop _ B.insts i hi hall, hin, List.drop_length, firstI]; rfl
end Go.Proofs.YtjnpcfpecilejaaGreatDoor
