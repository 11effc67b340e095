/- An open order in which some of what is owned is only read, while other things are written. No conditions. -/
import Derived.Test.YtiojekbkamegdaaGreatDoorLi
import Derived.Test.YtiojekbkamegdaaGreatDoorLp
import Derived.Test.YtiojekbkamegdaaGreatDoorLo
import Derived.Test.YtiojekbkamegdaaGreatDoorLg
import Derived.Test.YtiojekbkamegdaaGreatDoorLj
set_option linter.unusedVariables false
set_option linter.unusedSimpArgs false
set_option linter.unusedSectionVars false
namespace Go.Proofs.YtiojekbkamegdaaGreatDoor
open Go.Proofs.Tryz
open Go.Proofs Go.Lib Go.Shelf Go.RowKit
theorem ps161_1 : PlacesS prog 161 163 1 4 [.int .i64 0, .int .i64 0, .int .i64 0, .int .i64 0] := ⟨_, underlying161, Zs, X0, by decide, by decide, by kernel_rfl⟩
variable {E : World}
set_option maxRecDepth 20000
theorem kids_get (f : PFunc) {i : Nat} (hi : i < f.blocks.length) : (kidsR f)[i]? = some (kidsOf (EndsOf f) f.blocks.length i) := by
 unfold kidsR
 rw [rowsOf_get _ hi]
 congr 1
 unfold evK kidsOf
 rw [List.filter_map, List.map_map, List.filter_filter]
 have : ((fun p : Int × Int => p.2) ∘ fun b => (gi (nearR (EndsOf f) f.blocks.length) b, b)) = _root_.id := rfl
 rw [this, List.map_id]
 refine List.filter_congr fun c _ => ?_
 simp [Function.comp, Bool.and_comm]
theorem Kids_spec (f : PFunc) (hE : EndsOk f) (hn : f.blocks.length ≤ 1000) {i : Nat} (hi : i < f.blocks.length) (hr : (i : Int) ∈ orderT (EndsOf f) f.blocks.length) (y : AV) : AFun prog E 95 [treeV f (froN eI (kidsR f)) y, .int .i64 i] (.fro 1 ((kidsOf (EndsOf f) f.blocks.length i).map encI)) := by
 have hlev : decide (gi (levG (EndsOf f) f.blocks.length) (i : Int) ≠ -1) = true := w4 ((hE.grph.lev_mem _).2 hr)
 have hkl : (kidsOf (EndsOf f) f.blocks.length i).length ≤ 1000 := by
  unfold kidsOf
  exact Nat.le_trans (List.length_filter_le _ _) (by rw [intsTo_len]; exact hn)
 have hget : ((kidsR f).map fun r => [AV.fro 1 (r.map eI.row)])[i]? = some [.fro 1 ((kidsOf (EndsOf f) f.blocks.length i).map encI)] := by rw [qy, kids_get f hi]; rfl
 have hh := thas_spec (E := E) (levG (EndsOf f) f.blocks.length) (i : Int) (.fro 1 ((nearR (EndsOf f) f.blocks.length).map encI)) (froN eI (kidsR f)) y (by rw [hE.grph.lev.len]; exact hn)
 unfold treeV froN
 unfold froN at hh
 refine zp func95 Z (by decide) Z<|zSr<|z8 (zAr Z)<|z2<|zc<|zSr<|z8 (zMg Z)<|zVzMi Z<|zg (hh) Z<|zVGvnot Z<|z2<|yj Z (by rw [hlev]; rfl)<|zf<|zSr<|z8 (zMg Z)<|z8 (Gv.nilCheckF Z)<|zVzFF Z3 Z X3 Z Z<|zVzLf isAgg118 Z<|zVzMi Z<|z8 (Gv.idxF (j := i) jg jd Z Z Z hget)<|zVzLf jk Z<|zg (cloneI_spec _ hkl) Z<|z8 (zAf Z)<|z2<|zj<|zk (x := .fro _ _) Z ?_
 rfl
theorem root_map {f : PFunc} {r : Int → Int} {rk : Nat → Nat → Nat} (h : NumW f r rk) {V : Int → Bool} {i k : Nat} (hV : VisB f V i) {l : List Int} (hl : ∀ v ∈ l, (0 ≤ v ∧ v < f.vars.length) ∧ Av f i k v) : l.map (vi (rootL f r (Dk V i k))) = l.map r := List.map_congr_left fun v hv => by
 obtain ⟨⟨h0, h1⟩, ha⟩ := hl v hv
 unfold vi
 rw [root_at h hV h0 h1 ha]; rfl
def inK (r : Int → Int) (l : List PInst) : List PInst := (l.filter (keepI r)).map (mapI r)
def wkC (f : PFunc) (ib jr bm : Nat) : List AV := [.fro 2 (f.vars.map encVar), .fro 1 (f.params.map encI), .own ib f.blocks.length, treeT f, .own jr f.vars.length, mref bm]
def nsO (f : PFunc) (iw ib jr bm : Nat) (ns : List NBk) (R : List Int) (T : List (K4 × Int)) : OL := [(iw, .cells 89 (wkC f ib jr bm)), (ib, .grow 7 58 (ns.flatMap nbC)), (jr, .grow 1 3 (cI R)), (0, mapK bm T), (0, bag (ns.flatMap nbO))]
theorem drop_at {α : Type} {P R : List α} {n : Nat} (h : P.length = n) (j : Nat) : (P ++ R).drop (n + j) = R.drop j := by
 subst h; rw [List.drop_append, List.drop_eq_nil_of_le (by omega), List.nil_append, Nat.add_sub_cancel_left]
theorem set_at {α : Type} {P R : List α} {n : Nat} (h : P.length = n) (j : Nat) (v : α) : (P ++ R).set (n + j) v = P ++ R.set j v := by
 subst h; rw [List.set_append_right _ _ (by omega), Nat.add_sub_cancel_left]
theorem get_at {α : Type} {P R : List α} {n : Nat} (h : P.length = n) (j : Nat) : (P ++ R)[n + j]? = R[j]? := by
 subst h; rw [List.getElem?_append_right (by omega), Nat.add_sub_cancel_left]
theorem split_at {α : Type} {l : List α} {i : Nat} {a : α} (h : l[i]? = some a) : ∃ A D, l = A ++ a :: D ∧ A.length = i := by
 obtain ⟨hi, e⟩ := List.getElem?_eq_some_iff.1 h
 exact ⟨l.take i, l.drop (i + 1), by rw [← e, ← List.drop_eq_getElem_cons hi, List.take_append_drop], by rw [w3]; omega⟩
theorem bag_split (A D : List NBk) (b : PBlock) (phn isn : List Nat) : ((A ++ (b, phn, isn) :: D).flatMap nbO).Perm (List.zipWith argX isn b.insts ++ (List.zipWith argP phn b.phis ++ (A.flatMap nbO ++ D.flatMap nbO))) := by
 rw [List.flatMap_append, List.flatMap_cons]
 show (A.flatMap nbO ++ ((List.zipWith argX isn b.insts ++ List.zipWith argP phn b.phis) ++ D.flatMap nbO)).Perm _
 rw [qs]
 exact (List.perm_append_comm_assoc _ _ _).trans ((List.perm_append_comm_assoc _ _ _).append_left _)
def BlkS (E : World) (f : PFunc) (r : Int → Int) (iw jr bm : Nat) (m : Nat) : Prop :=
 ∀ (i : Nat) (b : PBlock) (V : Int → Bool) (ib : Nat) (ns : List NBk) (T : List (K4 × Int)), f.blocks[i]? = some b → (f.blocks.length : Int) - gi (levG (EndsOf f) f.blocks.length) i < m → VisB f V i → ns.map (·.1) = blksV f r V → (∀ q ∈ ns, okNB q) → TAt f r i 0 T →
  ACall prog E 42 [.po iw 0, .int .i64 i] (nsO f iw ib jr bm ns (rootL f r fun m => V m.1) T) (fun y O => ∃ g : List NBk × List (K4 × Int), y = .tup [] ∧ O = nsO f iw ib jr bm g.1 (rootL f r fun m => V m.1 || domB (EndsOf f) f.blocks.length i m.1) g.2 ∧ g.1.map (·.1) = blksV f r (fun j => V j || domB (EndsOf f) f.blocks.length i j) ∧ (∀ q ∈ g.1, okNB q) ∧ TAt f r i 0 g.2)
structure NumA (f : PFunc) (r : Int → Int) (rk : Nat → Nat → Nat) : Prop where
 hf : small f
 hE : EndsOk f
 hA : AllRP f
 hB : BehP f
 hav : ∀ b ∈ f.blocks, ∀ x ∈ b.insts, ∀ v ∈ x.args, 0 ≤ v ∧ v < f.vars.length
 htv : ∀ b ∈ f.blocks, ¬ b.term.kind = 0 → 0 ≤ b.term.var ∧ b.term.var < f.vars.length
 hW : NumW f r rk
theorem block_zero (f : PFunc) (r : Int → Int) (hE : EndsOk f) (hA : AllRP f) (iw jr bm : Nat) : BlkS E f r iw jr bm 0 := by
 intro i b V ib ns T hb hm _ _ _ _
 have hi := (List.getElem?_eq_some_iff.1 hb).1
 have hG := hE.grph
 have ho := (order_mem hG.toEOk (i : Int)).2 (hA i hi)
 have h1 := lev_lt hG ho
 have h2 := hG.at_lt ho
 have h3 := order_len hG
 omega
set_option maxHeartbeats 32000000 in
theorem block_step {r : Int → Int} {rk : Nat → Nat → Nat} (f : PFunc) (hN0 : NumA f r rk) (iw jr bm mm : Nat) (ih : BlkS E f r iw jr bm mm) : BlkS E f r iw jr bm (mm + 1) := by
 intro i b V ib ns T hb hm hV hns hok hT
 obtain ⟨hf, hE, hA, hB, hav, htv, hW⟩ := hN0
 have hi := (List.getElem?_eq_some_iff.1 hb).1
 have hG := hE.grph
 have hall : ∀ j : Int, 0 ≤ j → j < f.blocks.length → j ∈ orderT (EndsOf f) f.blocks.length := fun j h0 h1 => by
  obtain ⟨q, rfl⟩ : ∃ q : Nat, j = (q : Int) := ⟨j.toNat, by omega⟩
  exact (order_mem hG.toEOk _).2 (hA q (by omega))
 have ho := hall i (by omega) (by omega)
 have hVi : V (i : Int) = false := hV.2 i (.refl (hA i hi))
 obtain ⟨hf1, hf2, hf3, hf4, hf5⟩ := id hf
 have hbm := w1 hb
 obtain ⟨hb0, hb1, hb2, hb3, hb4⟩ := hf5 b hbm
 have hbe : f.blocks[i] = b := (List.getElem?_eq_some_iff.1 hb).2
 have hbeh := hB i hi
 rw [hbe] at hbeh
 obtain ⟨⟨b', phn, isn⟩, hnq, hq1⟩ : ∃ q, ns[i]? = some q ∧ q.1 = b := by
  have h1 : (ns.map (·.1))[i]? = some b := by rw [hns, blksV_get hb, if_neg (by rw [hVi]; decide)]
  rw [qy] at h1
  cases hq : ns[i]? with
  | none => rw [hq] at h1; cases h1
  | some q => rw [hq] at h1; exact ⟨q, rfl, Option.some.inj h1⟩
 obtain rfl : b = b' := hq1.symm
 obtain ⟨hok1, hok2⟩ : phn.length = b.phis.length ∧ isn.length = b.insts.length := hok _ (w1 hnq)
 obtain ⟨A, D, rfl, hAl⟩ := split_at hnq
 obtain ⟨P, hP⟩ : ∃ P, A.flatMap nbC = P := ⟨_, rfl⟩
 obtain ⟨S, hS⟩ : ∃ S, D.flatMap nbC = S := ⟨_, rfl⟩
 have hPl : P.length = i * 7 := by rw [← hP, nbC_len, hAl]
 have hcell : (A ++ (b, phn, isn) :: D).flatMap nbC = P ++ (([.str b.name, .fro 3 (List.zipWith phW phn b.phis), .fro 4 (List.zipWith inW isn b.insts), .int .i64 b.term.kind, .int .i64 b.term.var, .int .i64 b.term.to0, .int .i64 b.term.to1] : List AV) ++ S) := by
  rw [List.flatMap_append, List.flatMap_cons, hP, hS]; rfl
 have hnl : A.length + (D.length + 1) = f.blocks.length := by
  have := congrArg List.length hns
  rw [qx, blksV_len, qw, List.length_cons] at this
  omega
 have hcl : ∀ x, (P ++ (([.str b.name, .fro 3 (List.zipWith phW phn b.phis), x, .int .i64 b.term.kind, .int .i64 b.term.var, .int .i64 b.term.to0, .int .i64 b.term.to1] : List AV) ++ S)).length = f.blocks.length * 7 := fun x => by
  have h1 : S.length = D.length * 7 := by rw [← hS, nbC_len]
  rw [qw, qw, hPl, h1]
  show i * 7 + (7 + D.length * 7) = _
  omega
 have hzl : (List.zipWith inW isn b.insts).length = b.insts.length := by rw [List.length_zipWith, hok2, Nat.min_self]
 obtain ⟨X, hX⟩ : ∃ X, List.zipWith argP phn b.phis ++ (A.flatMap nbO ++ D.flatMap nbO) = X := ⟨_, rfl⟩
 have hbag := bag_split A D b phn isn
 rw [hX] at hbag
 have hargs : ∀ k, ∀ h : k < b.insts.length, ∀ v ∈ b.insts[k].args, (0 ≤ v ∧ v < f.vars.length) ∧ Av f i k v := fun k h v hv => ⟨hav b hbm _ (qu h) v hv, hbeh.2.1 k h v hv⟩
 refine ACall.exact (γ := List NBk × List (K4 × Int)) (x := fun _ => .tup []) (M := fun g => nsO f iw ib jr bm g.1 (rootL f r fun m => V m.1 || domB (EndsOf f) f.blocks.length i m.1) g.2) (p := fun g => g.1.map (·.1) = blksV f r (fun j => V j || domB (EndsOf f) f.blocks.length i j) ∧ (∀ q ∈ g.1, okNB q) ∧ TAt f r i 0 g.2) ?_
 unfold nsO
 rw [hcell, root_first hW V i]
 refine zp func42 Z (by decide) Z<|zSr<|zVzMp Z<|zVGvnilCheckO Z<|z8 (ze Zx Z jj (by decide) Z Z)<|z8 (ze jh Z Z1 (by decide) Z Z)<|z8 (zl (c := .own _ _) Z8 Z ⟨_, .head⟩ Z)<|zVzMi Z<|z8 (Gv.idxO (j := i) jl jw Z Z Z ⟨_, .t1⟩ (fun h => by have := hcl (.fro 4 []); have h2 := congrArg List.length h; simp at h2) hi)<|z8 (zAp Z)<|z2<|zSr<|zVzMp Z<|zVGvnilCheckO Z<|z8 (ze je Z Zb (by decide) Z Z)<|z8 (Gv.load1G (c := _) Zw Z ⟨_, .t1⟩ (drop_at hPl 2))<|z8 (zAf Z)<|z2<|zSr<|zVzMp Z<|zVGvnilCheckO Z<|z8 (ze je Z Zb (by decide) Z Z)<|AOps.storeGN (new := P ++ (([.str b.name, .fro 3 (List.zipWith phW phn b.phis), .raw (.slice none 0 0), .int .i64 b.term.kind, .int .i64 b.term.var, .int .i64 b.term.to0, .int .i64 b.term.to1] : List AV) ++ S)) Zb Z Z Z Z Z .t1 (show i * 7 + 2 < _ from Nat.lt_of_lt_of_eq (m := f.blocks.length * 7) (by omega) (hcl _).symm) (set_at hPl 2 _)<|z2<|zSr<|z8 (zAr Z)<|z2<|zc<|zSr<|zVzMf Z<|z8 (Gv.lenF jv Z)<|zVzMi Z<|z2<|adoptG_wp (off := i * 7 + 2) (k := 4) (T := 61) (fun _ => .tail .head) (fun _ => set_at hPl 2 _) (get_at hPl 2)<|fun ii => zw (GStep.bagPerm (X' := List.zipWith argX isn b.insts ++ X) (hbag) .t5)<|adopt_wp (t := 6) (k := 4) (T := 163) Z<|fun i6 => zi<|y7 (γ := Nat × Nat × Nat × List Nat × List (K4 × Int)) [0, 1, 4, 30, 31] (fun g => [(32, .int .i64 g.2.1), (6, .own g.1 (mineL r (b.insts.take g.2.1)).length)]) (fun g => [(g.1, .grow 4 163 ((mineL r (b.insts.take g.2.1)).map k4).flatten), (g.2.2.1, .grow 4 61 (List.zipWith inW g.2.2.2.1 (inK r (b.insts.take g.2.1))).flatten), (iw, .cells 89 (wkC f ib jr bm)), (ib, .grow 7 58 (P ++ (([.str b.name, .fro 3 (List.zipWith phW phn b.phis), .own g.2.2.1 (inK r (b.insts.take g.2.1)).length, .int .i64 b.term.kind, .int .i64 b.term.var, .int .i64 b.term.to0, .int .i64 b.term.to1] : List AV) ++ S))), (jr, .grow 1 3 (cI (rootL f r (Dk V i g.2.1)))), (0, mapK bm g.2.2.2.2), (0, bag (List.zipWith argX g.2.2.2.1 (inK r (b.insts.take g.2.1)) ++ (List.zipWith argX (isn.drop g.2.1) (b.insts.drop g.2.1) ++ X)))]) (fun g => g.2.1 ≤ b.insts.length ∧ g.2.2.2.1.length = (inK r (b.insts.take g.2.1)).length ∧ TAt f r i g.2.1 g.2.2.2.2) (fun g => b.insts.length - g.2.1) (i6, 0, ii, [], T) zR2 zLe (⟨qt _, Z, hT⟩) ?_
 rintro ⟨im, k, ii, kn, T⟩ ⟨hk, hkn, hTk⟩
 try dsimp only at *
 refine zSr<|zVGvlss Z Z<|z2<|zc<|zo Z (fun ck=>?_) (fun ck=>?_)
 ·have hk2 : k < b.insts.length := by rw [hzl] at ck; omega
  obtain ⟨a, ha⟩ : ∃ a, isn[k]? = some a := ⟨_, qq (by omega)⟩
  obtain ⟨x, hx⟩ : ∃ x, b.insts[k]? = some x := ⟨_, qq hk2⟩
  have hxe : b.insts[k] = x := (List.getElem?_eq_some_iff.1 hx).2
  have hAt : AtI f i k x := ⟨b, hb, hx⟩
  have hrow : (List.zipWith inW isn b.insts)[k]? = some (inW a x) := by rw [List.getElem?_zipWith, ha, hx]
  have hargk : ∀ v ∈ x.args, (0 ≤ v ∧ v < f.vars.length) ∧ Av f i k v := fun v hv => hargs k hk2 v (by rw [hxe]; exact hv)
  have hx1 := hb4 x (w1 hx)
  have hdi : isn.drop k = a :: isn.drop (k + 1) := by
   obtain ⟨h1, h2⟩ := List.getElem?_eq_some_iff.1 ha
   rw [← h2]; exact List.drop_eq_getElem_cons h1
  have hdb : b.insts.drop k = x :: b.insts.drop (k + 1) := by rw [← hxe]; exact List.drop_eq_getElem_cons hk2
  have hml : (mineL r (b.insts.take k)).length ≤ k := fm_len
  have hil : (inK r (b.insts.take k)).length ≤ k := fm_len
  refine zf<|zc<|zi<|zSr<|z8 (Gv.idxF (j := k) jv Z2 Z Z Z hrow)<|zVGvloadWF Yg Z2 Z Z<|zt (cs := [.int .i64 0, .int .i64 0, .raw (.slice none 0 0), .int .i64 0]) Zy Z Z<|fun i8 => zn Z2 Z Z Z Z Z Z .head Z<|zd (yf (t := 8) Z .head)<|z2<|zw (GStep.bagOut (i := a) (o := .grow 1 3 (cI x.args)) (X' := List.zipWith argX kn (inK r (b.insts.take k)) ++ (List.zipWith argX (isn.drop (k + 1)) (b.insts.drop (k + 1)) ++ X)) ((by rw [hdi, hdb]; exact List.perm_middle)) .t6)<|zSr<|zVzMp Z<|zVzFF ji Z jd Z Z<|z8 (q9 (c := .own _ _) jk Z)<|zy Z (zm (.l (.r (.r (.l (.r (.l (.r (.r (.rest _)))))))))) (put_spec iw jr a _ _ _ _ _ f.vars.length (rootL f r (Dk V i k)) x.args (rootL_len f r _) (fun v hv => ⟨(hargk v hv).1.2, (hargk v hv).1.1⟩) hx1) ?_
  rintro r39 O39 ⟨rfl, rfl⟩
  refine z2 ?_
  rw [root_map hW hV hargk]
  refine zSr<|zVGvloadWF Yg Z2 Z Z<|zy Z (zm (.l (.r (.r (.r (.r (.r (.r (.r (.rest _)))))))))) (tells_spec a x.args.length (mapI r x) (qx ..)) ?_
  rintro r41 O41 ⟨_, rfl, rfl, _⟩
  refine zt (cs := [.int .i64 0, .int .i64 0, .int .i64 0, .int .i64 0]) X0 Z Z<|fun i9 => zn Zs Z Z Z Z Z Z .head Z<|zd (yf (t := 9) Z .head)<|z2<|zc<|zr (fun j => false) (by kernel_rfl) Z (zm (.l (.r (.l (.l (.l (.l (.r (.rest _)))))))))<|zTk 0 Z (zMp Z)<|zTk 1 Z (y4 Z)<|zTk 2 Z (ze Zx Z sizeOf87 (by decide) Z Z)<|zTk 3 Z (zl (c := mref _) isAgg87 Z ⟨_, .head⟩ Z)<|zTk 4 Z (yl Yu Zs Z Z)<|zTk 5 Z (Gv.lookupK key4_ok underlying87 Yo Z Z ⟨_, .t1⟩)<|zTk 6 Z (zMu Z)<|zTk 7 Z (zXi Z Z)<|zTk 8 Z (zXb Z Z)<|zTk 9 Z (zAi Z)<|zTk 10 Z (zAb Z)<|zDn<|zw (za (zb .t7))<|zw (za (zb .t3))<|zw (za (zb .t3))<|zw (za (zb .t4))<|zw (za (zb .t7))<|zw (za (zb .t5))<|zw (za (zb .t7))<|zw (za (zb .t7))<|zc<|yn (γ := Nat × List (K4 × Int)) [0, 1, 4, 8, 30, 31, 32] (fun g => [(6, .own g.1 (mineL r (b.insts.take (k + 1))).length)]) (fun g => [(g.1, .grow 4 163 ((mineL r (b.insts.take (k + 1))).map k4).flatten), (ii, .grow 4 61 (List.zipWith inW kn (inK r (b.insts.take k))).flatten), (iw, .cells 89 (wkC f ib jr bm)), (ib, .grow 7 58 (P ++ (([.str b.name, .fro 3 (List.zipWith phW phn b.phis), .own ii (inK r (b.insts.take k)).length, .int .i64 b.term.kind, .int .i64 b.term.var, .int .i64 b.term.to0, .int .i64 b.term.to1] : List AV) ++ S))), (jr, .grow 1 3 (cI (rootL f r (Dk V i (k + 1))))), (0, mapK bm g.2), (a, .grow 1 3 (cI (x.args.map r))), (0, bag (List.zipWith argX kn (inK r (b.insts.take k)) ++ (List.zipWith argX (isn.drop (k + 1)) (b.insts.drop (k + 1)) ++ X)))]) (fun g => keepI r x = true ∧ TAt f r i (k + 1) g.2) ?_ (fun _ _ h => h) ?_
  ·refine zi<|zSr<|zVzFF ji Z Zt Z Z<|zVzLi Y1 Z<|zg (counts_spec _) Z<|zVzMb Z<|zq (s := 55) Z (fun cc=>?_) (fun cc=>?_)
   ·have hN : NumI f i k x := ⟨hAt, cc⟩
    obtain ⟨hd0, hd1⟩ := hW.ok.hD i k x hN
    refine z7 Z Z cc<|zVzMb Z<|zVzPt Z cc Z<|zVzAb Z<|z2<|zu Z (fun cs=>?_) (fun cs=>?_)
    ·obtain ⟨v, hv⟩ := Option.isSome_iff_exists.1 cs
     obtain ⟨hrv, hrne⟩ := told_old hW.ok.hH hW.hr hW.hK hTk hN hv
     have hkf : keepI r x = false := by unfold keepI; rw [cc]; simp [hrne]
     have hI1 : inK r (b.insts.take (k + 1)) = inK r (b.insts.take k) := fm_same hk2 (by rw [hxe]; exact hkf)
     have hM1 : mineL r (b.insts.take (k + 1)) = mineL r (b.insts.take k) := fm_same hk2 (by rw [hxe, cc]; simp [hrne])
     have he : (kget T (keyX (mapI r x))).getD 0 = r x.dst := by rw [hv]; exact hrv.symm
     refine zc<|zr (fun j => Nat.beq j 8) (by kernel_rfl) Z (zm (.l (.l (.r (.rest _)))))<|zTk 0 Z (zMp Z)<|zTk 1 Z (y4 Z)<|zTk 2 Z (ze Zx Z jd (by decide) Z Z)<|zTk 3 Z (zl (c := .own _ _) jk Z ⟨_, .head⟩ Z)<|zTk 4 Z (zFF ji Z j7 Z Z)<|zTk 5 Z (zLi j9 Z)<|zTk 6 Z (zMi Z)<|zOn 7 Z<|z8 (yg (j := x.dst.toNat) j6 j7 Z Z (by omega) ⟨_, .t3⟩ ((cI_len _).trans (rootL_len f r _)) (by omega))<|z2<|yb<|y8 (i := 8) Z (by kernel_rfl) (by kernel_rfl)<|yt (j := x.dst.toNat) j7 Z Z .t4 (by rw [rootL_len]; omega)<|z2<|ye (by kernel_rfl)<|zw (za (zb .t7))<|zw (za (zb .t6))<|zw (za (zb .t6))<|zw (za (zb .t6))<|zw (za (zb .t4))<|zw (za (zb .t6))<|zw (za (zb .t6))<|y6<|zRg<|zVzAd Z Z<|zVzMi Z<|z2 ?_
     exact ⟨(im, k + 1, ii, kn, T), zR5, ⟨rfl, by rw [hM1]; rfl, trivial⟩, ⟨_, (.keep (.keep (.keep (.keep (.keep (.keep (.keep (.drop (.refl _))))))))), by rw [hI1, hM1, ← root_drop hW hN, ← he]; rfl⟩, ⟨hk2, by rw [hI1]; exact hkn, told_skip hTk fun y hy => by rw [hy.1.one hAt]; exact hrne⟩, by dsimp only; omega⟩
    ·have hv : kget T (keyX (mapI r x)) = none := by
      cases h : kget T (keyX (mapI r x)) with
      | none => rfl
      | some v => rw [h] at cs; cases cs
     have hre := told_new hW.hr hW.hK hTk hN hv
     have hM1 : mineL r (b.insts.take (k + 1)) = mineL r (b.insts.take k) ++ [(keyX (mapI r x))] := by rw [← hxe]; exact fm_push hk2 (by rw [hxe, cc]; simp [hre])
     have hkt : keepI r x = true := by unfold keepI; simp [hre]
     refine zSr<|zVzFF ji Z Zt Z Z<|zVzLi Y1 Z<|zg (counts_spec _) Z<|zVzAb Z<|z2<|yq Z cc<|zc<|zr (fun j => false) (by kernel_rfl) Z (zm (.l (.l (.r (.rest _)))))<|zTk 0 Z (zMp Z)<|zTk 1 Z (y4 Z)<|zTk 2 Z (ze Zx Z sizeOf87 (by decide) Z Z)<|zTk 3 Z (zl (c := mref _) isAgg87 Z ⟨_, .head⟩ Z)<|zTk 4 Z (yl Yu Zs Z Z)<|zTk 5 Z (zFF ji Z j7 Z Z)<|zTk 6 Z (zLi j9 Z)<|zOn 7 Z<|AOps.mapSetK key4_ok underlying87 Z Z Z .t4<|z2<|zDn<|zw (za (zb .t7))<|zw (za (zb .t7))<|zw (za (zb .t7))<|zw (za (zb .t7))<|zw (za (zb .t7))<|zw (za (zb .t5))<|zw (za (zb .t7))<|zw (za (zb .t7))<|zRg<|z8 (zMo Z)<|zVGvloadWF Yu Zs Z Z<|zx (rows := [[_, _, _, _]]) ps161_1 Z Z Z Z Z<|ym (k := 4) underlying161 type163 Z Z Z Z Z (fun _ => .head) (grow_len (k := 4) (fun _ => Z) _) (by decide) Z (by show (_ + _) * 32 ≤ _; simp <;> omega) (by simp <;> omega)<|fun i80 => z8 (zAo Z)<|z2 ?_
     exact ⟨(i80, kset T (keyX (mapI r x)) x.dst), zR7, ⟨by rw [hM1, qw]; rfl, trivial⟩, ⟨_, (.refl _), by rw [hM1, ← grow_push rfl, root_keep hW hAt hkt]; rfl⟩, ⟨hkt, told_put hTk hN hv hre⟩⟩
   ·have hkt : keepI r x = true := by unfold keepI; rw [cc]; rfl
    have hM1 : mineL r (b.insts.take (k + 1)) = mineL r (b.insts.take k) := fm_same hk2 (by rw [hxe, cc]; rfl)
    refine z6 Z Z cc<|zVzPf Z cc Z<|zVzAb Z<|z2<|yj Z Z<|zSr<|zVzFF ji Z Zt Z Z<|zVzLi Y1 Z<|zg (counts_spec _) Z<|zVzAb Z<|z2<|yj Z cc<|zw (za (zb .t7))<|zw (za (zb .t7))<|zw (za (zb .t7))<|zw (za (zb .t7))<|zw (za (zb .t7))<|zw (za (zb .t7))<|zw (za (zb .t7))<|zw (za (zb .t7))<|zf ?_
    exact ⟨(im, T), zR7, ⟨by rw [hM1]; rfl, trivial⟩, ⟨_, (.refl _), by rw [hM1, root_keep hW hAt hkt]; rfl⟩, ⟨hkt, told_skip hTk fun y hy => by have := hy.2; rw [hy.1.one hAt, cc] at this; cases this⟩⟩
  ·rintro ⟨im2, T2⟩ ⟨hkt, hT2⟩
   have hI1 : inK r (b.insts.take (k + 1)) = inK r (b.insts.take k) ++ [mapI r x] := by rw [← hxe]; exact fm_push hk2 (by rw [hxe]; exact hkt)
   have hrow2 : inW a (mapI r x) = inW a x := by unfold inW mapI; simp
   have z1 : (List.zipWith inW (kn ++ [a]) (inK r (b.insts.take k) ++ [mapI r x])).flatten = (List.zipWith inW kn (inK r (b.insts.take k))).flatten ++ [inW a x].flatten := by
    rw [List.zipWith_append hkn, List.flatten_append]
    show _ ++ [inW a (mapI r x)].flatten = _
    rw [hrow2]
   refine zr (fun j => Nat.beq j 10) (by kernel_rfl) Z (zm (.l (.l (.l (.r (.rest _))))))<|zTk 0 Z (zMp Z)<|zTk 1 Z (zMp Z)<|zTk 2 Z (y4 Z)<|zTk 3 Z (ze je Z Zb (by decide) Z Z)<|zTk 4 Z (Gv.load1G (c := _) Zw Z ⟨_, .head⟩ (drop_at hPl 2))<|zTk 5 Z (yl Yg Z2 Z Z)<|zOn 6 Z<|zx (rows := [[_, _, _, _]]) ps52_1 Z Z Z Z Z<|z2<|zOn 7 Z<|ym (k := 4) jv type61 Z Z Z Z Z (fun _ => .t1) (zipf_len (n := 4) (fun _ _ => Z) hkn) (by decide) Z (by show (_ + _) * 48 ≤ _; simp <;> omega) (by simp <;> omega)<|fun i88 => z2<|yo (i := 8) Z (by kernel_rfl) (by kernel_rfl) (by kernel_rfl) (by kernel_rfl) (y4 Z)<|zTk 9 Z (ze je Z Zb (by decide) Z Z)<|yb<|y8 (i := 10) Z (by kernel_rfl) (by kernel_rfl)<|AOps.storeGN (new := P ++ (([.str b.name, .fro 3 (List.zipWith phW phn b.phis), .own i88 ((inK r (b.insts.take k)).length + 1), .int .i64 b.term.kind, .int .i64 b.term.var, .int .i64 b.term.to0, .int .i64 b.term.to1] : List AV) ++ S)) Zb Z Z Z Z Z .head (show i * 7 + 2 < _ from Nat.lt_of_lt_of_eq (m := f.blocks.length * 7) (by omega) (hcl _).symm) (set_at hPl 2 _)<|z2<|ye (by kernel_rfl)<|zw (GStep.bagIn (X' := List.zipWith argX (kn ++ [a]) (inK r (b.insts.take (k + 1))) ++ (List.zipWith argX (isn.drop (k + 1)) (b.insts.drop (k + 1)) ++ X)) .t6 (by rw [hI1, List.zipWith_append hkn, qs]; exact List.perm_middle.symm) .t6)<|zw (za (zb .t6))<|zw (za (zb .t6))<|zw (za (zb .t6))<|zw (za (zb .t3))<|zw (za (zb .t6))<|zw (za (zb .t6))<|zw (za (zb .t6))<|zRg<|zVzAd Z Z<|zVzMi Z<|z2 ?_
   exact ⟨(im2, k + 1, i88, kn ++ [a], T2), zR5, zR2, ⟨_, (.refl _), by dsimp only; rw [hI1, z1, qw]; rfl⟩, ⟨hk2, by rw [hI1, qw, qw, hkn]; rfl, hT2⟩, by dsimp only; omega⟩
 ·obtain rfl : k = b.insts.length := by rw [hzl] at ck; omega
  have e1 : List.zipWith argX (isn.drop b.insts.length) (b.insts.drop b.insts.length) ++ X = X := by rw [List.drop_length, List.zipWith_nil_right]; rfl
  rw [qv] at hkn
  rw [qv, e1]
  refine zw (GStep.know (t := 6) (rows := (mineL r b.insts).map k4) Z .head (by first | (intro r hr; obtain ⟨x, _, rfl⟩ := List.mem_map.1 hr; rfl) | simp [encI, encVar, encPhi, encInst, encBlk]) (by decide) (by simp))<|y6<|zc<|zSr<|zVzMp Z<|zVGvnilCheckO Z<|z8 (ze je Z Ze (by decide) Z Z)<|z8 (ze jf Z Zu (by decide) Z Z)<|z8 (Gv.load1G (c := _) Y3 Z ⟨_, .t2⟩ (drop_at hPl 3))<|zVGvneqI Z Z<|z2<|yn (γ := Int) [0, 1, 6] (fun v => []) (fun v => [(ii, .grow 4 61 (List.zipWith inW kn (inK r b.insts)).flatten), (iw, .cells 89 (wkC f ib jr bm)), (ib, .grow 7 58 (P ++ (([.str b.name, .fro 3 (List.zipWith phW phn b.phis), .own ii (inK r b.insts).length, .int .i64 b.term.kind, .int .i64 v, .int .i64 b.term.to0, .int .i64 b.term.to1] : List AV) ++ S))), (jr, .grow 1 3 (cI (rootL f r (Dk V i b.insts.length)))), (0, mapK bm T), (0, bag (List.zipWith argX kn (inK r b.insts) ++ X))]) (fun v => v = (numTm r b.term).var) ?_ (fun _ _ h => h) ?_
  ·refine zu Z (fun ct=>?_) (fun ct=>?_)
   ·have ct : ¬ b.term.kind = 0 := by simpa using ct
    obtain ⟨tv0, tv1⟩ := htv b hbm ct
    have hta : Av f i b.insts.length b.term.var := (hbeh.2.2).resolve_left ct
    refine zr (fun j => Nat.beq j 15) (by kernel_rfl) Z (zm (.l (.r (.r (.r (.rest _))))))<|zTk 0 Z (zMp Z)<|zTk 1 Z (zMp Z)<|zTk 2 Z (y4 Z)<|zTk 3 Z (ze Zx Z jd (by decide) Z Z)<|zTk 4 Z (zl (c := .own _ _) jk Z ⟨_, .head⟩ Z)<|zTk 5 Z (zMp Z)<|zTk 6 Z (y4 Z)<|zTk 7 Z (ze je Z Ze (by decide) Z Z)<|zTk 8 Z (ze jf Z j7 (by decide) Z Z)<|zTk 9 Z (Gv.load1G (c := _) j9 Z ⟨_, .t1⟩ (drop_at hPl 4))<|zTk 10 Z (yg (j := b.term.var.toNat) j6 j7 Z Z (by omega) ⟨_, .t2⟩ ((cI_len _).trans (rootL_len f r _)) (by omega))<|zTk 11 Z (yr (j := b.term.var.toNat) j9 Z ⟨_, .t2⟩ (root_at hW hV tv0 tv1 hta))<|yo (i := 12) Z (by kernel_rfl) (by kernel_rfl) (by kernel_rfl) (by kernel_rfl) (y4 Z)<|yo (i := 13) Z (by kernel_rfl) (by kernel_rfl) (by kernel_rfl) (by kernel_rfl) (ze je Z Ze (by decide) Z Z)<|zTk 14 Z (ze jf Z j7 (by decide) Z Z)<|yb<|y8 (i := 15) Z (by kernel_rfl) (by kernel_rfl)<|AOps.storeGN (new := P ++ (([.str b.name, .fro 3 (List.zipWith phW phn b.phis), .own ii (inK r b.insts).length, .int .i64 b.term.kind, .int .i64 (r b.term.var), .int .i64 b.term.to0, .int .i64 b.term.to1] : List AV) ++ S)) j7 Z Z Z Z Z .t1 (show i * 7 + 4 < _ from Nat.lt_of_lt_of_eq (m := f.blocks.length * 7) (by omega) (hcl _).symm) (set_at hPl 4 _)<|zd (za (zb .t5))<|zd (za (zb .t5))<|zd (za (zb .t4))<|zd (za (zb .t4))<|zd (za (zb .t4))<|zd (za (zb .t5))<|z2<|ye (by kernel_rfl) ?_
    exact ⟨_, zR3, trivial, zLe, by unfold numTm; dsimp only; rw [if_neg ct]⟩
   ·have ct : b.term.kind = 0 := by simpa using ct
    refine zf ?_
    exact ⟨_, zR3, trivial, zLe, by unfold numTm; dsimp only; rw [if_pos ct]⟩
  ·rintro v hv
   subst hv
   rw [root_last hW V hb]
   refine zw (GStep.knowG (j := ib) (off := i * 7 + 2) (rows := List.zipWith inW kn (inK r b.insts)) .head .t1 (get_at hPl 2) (set_at hPl 2 _) (zipr_len (n := 4) fun _ _ => Z) (by decide) (by rw [List.length_zipWith, hkn, Nat.min_self])) ?_
   obtain ⟨n1, hn1⟩ : ∃ n1, A ++ (halfB r b, phn, kn) :: D = n1 := ⟨_, rfl⟩
   have hc1 : n1.flatMap nbC = P ++ (([.str b.name, .fro 3 (List.zipWith phW phn b.phis), .fro 4 (List.zipWith inW kn (inK r b.insts)), .int .i64 b.term.kind, .int .i64 (numTm r b.term).var, .int .i64 b.term.to0, .int .i64 b.term.to1] : List AV) ++ S) := by
    rw [← hn1, List.flatMap_append, List.flatMap_cons, hP, hS]; rfl
   have hp1 : X.Perm X := .refl _
   have hbag1 : (List.zipWith argX kn (inK r b.insts) ++ X).Perm (n1.flatMap nbO) := by
    rw [← hn1, ← hX]; exact (bag_split A D (halfB r b) phn kn).symm
   have hns1 : n1.map (·.1) = blksV f r (visK f V i []) := by
    rw [← blksV_set (V := V) (W := visK f V i []) hb (by unfold visK; simp) (fun j hj => by unfold visK; simp; omega), ← hns, ← hn1, w2, w2, List.map_cons, List.map_cons]
    have := set_at (P := A.map (·.1)) (R := b :: D.map (·.1)) (n := i) (by rw [qx]; exact hAl) 0 (halfB r b)
    exact this.symm
   have hok1 : ∀ q ∈ n1, okNB q := fun q hq => by
    rw [← hn1] at hq
    rcases List.mem_append.1 hq with h | h
    ·exact hok q (List.mem_append_left _ h)
    ·rcases List.mem_cons.1 h with rfl | h
     ·exact ⟨hok1, hkn⟩
     ·exact hok q (List.mem_append_right _ (.tail _ h))
   have hv0 : (fun m : Plc => V m.1 || decide (m.1 = (i : Int))) = fun m => visK f V i [] m.1 := by funext m; unfold visK; simp
   rw [hv0]
   refine zw (GStep.bagPerm (X' := n1.flatMap nbO) (hbag1) .t4)<|zw (GStep.eq (show _ = (nsO f iw ib jr bm n1 (rootL f r fun m => visK f V i [] m.1) T : OL) from by unfold nsO; rw [hc1]; rfl)) ?_
   obtain ⟨kl, hkl⟩ : ∃ kl, kidsOf (EndsOf f) f.blocks.length i = kl := ⟨_, rfl⟩
   have hkn2 : kl.Nodup := hkl ▸ kids_nodup (i : Int)
   have hkm : ∀ c ∈ kl, c ∈ kidsOf (EndsOf f) f.blocks.length i := fun c hc => by rw [hkl]; exact hc
   have hkll : kl.length ≤ 1000 := by
    rw [← hkl]; unfold kidsOf
    exact Nat.le_trans (List.length_filter_le _ _) (by rw [intsTo_len]; exact hf3)
   have hkids := Kids_spec (E := E) f hE hf3 hi ho .any
   rw [hkl] at hkids
   refine zc<|zSr<|zVzMp Z<|zVGvnilCheckO Z<|z8 (ze Zx Z sizeOf83 (by decide) Z Z)<|z8 (zl (c := .pf _) isAgg83 Z ⟨_, .head⟩ Z)<|zVzMi Z<|zg (hkids) Z<|zVGvlenM j6 Z<|zVzMi Z<|z2<|zi<|y7 (γ := Nat × List NBk × List (K4 × Int)) [0, 6, 118, 119] (fun g => [(120, .int .i64 g.1)]) (fun g => nsO f iw ib jr bm g.2.1 (rootL f r fun m => visK f V i (kl.take g.1) m.1) g.2.2) (fun g => g.1 ≤ kl.length ∧ g.2.1.map (·.1) = blksV f r (visK f V i (kl.take g.1)) ∧ (∀ q ∈ g.2.1, okNB q) ∧ TAt f r i b.insts.length g.2.2) (fun g => kl.length - g.1) (0, n1, T) zR1 zLe (⟨qt _, hns1, hok1, hTk⟩) ?_
   rintro ⟨q, n2, T2⟩ ⟨hq, hn2, hok2', hT2⟩
   try dsimp only at *
   refine zSr<|zVGvlss Z Z<|z2<|zc<|zo Z (fun cq=>?_) (fun cq=>?_)
   ·have hq2 : q < kl.length := by omega
    have hcm := hkm _ (qu hq2)
    obtain ⟨⟨c0, c1⟩, _⟩ := (mem_kids hG hall (by omega)).1 hcm
    obtain ⟨cn, hcn⟩ : ∃ cn : Nat, kl[q] = (cn : Int) := ⟨kl[q].toNat, by omega⟩
    have hcl2 : cn < f.blocks.length := by omega
    obtain ⟨hk1, hk2, hk3, hk4⟩ := kid_dom hG hall (by omega) hcm
    obtain ⟨hk5, hk6⟩ := kid_not hG hall (by omega) hcm
    have hVc := vis_kid hG hall (by omega) hV hq2 hkm hkn2
    rw [hcn] at hk1 hk4 hk5 hk6 hVc
    have hTc := told_down hb (c := cn) (by omega) (fun j hj => by rw [hk1 j]; exact ⟨fun h => .inr (h.resolve_left (by omega)), fun h => .inr (h.elim (fun h => by rw [h]; exact .refl (hA i hi)) _root_.id)⟩) hT2 hk5
    have hvn : (fun m : Plc => visK f V i (kl.take q) m.1 || domB (EndsOf f) f.blocks.length cn m.1) = fun m => visK f V i (kl.take (q + 1)) m.1 := by funext m; rw [← hcn]; exact vis_next hq2 m.1
    have hvn2 : (fun j : Int => visK f V i (kl.take q) j || domB (EndsOf f) f.blocks.length cn j) = visK f V i (kl.take (q + 1)) := by funext j; rw [← hcn]; exact vis_next hq2 j
    refine zf<|zc<|zi<|zSr<|z8 (zIM q j6 j7 Z Z Z (by rw [qq hq2, hcn])) ?_
    refine zVzLi j9 Z<|zVzAi Z<|z2<|zRg<|zVzMp Z<|zVzMi Z<|zy Z (zm (.l (.l (.l (.l (.l (.rest _))))))) (ih cn f.blocks[cn] (visK f V i (kl.take q)) ib n2 T2 (qq hcl2) (by omega) hVc hn2 hok2' hTc) ?_
    rintro r126 O126 ⟨⟨n3, T3⟩, rfl, rfl, h1, h2, h3⟩
    refine z2<|zRg<|zVzAd Z Z<|zVzMi Z<|z2 ?_
    exact ⟨(q + 1, n3, T3), zR4, zR1, ⟨_, (.refl _), by dsimp only; rw [hvn, List.append_nil]⟩, ⟨hq2, by rw [h1, hvn2], h2, hT2.congr h3.nodup fun key => h3.uniq hTc key⟩, by dsimp only; omega⟩
   ·obtain rfl : q = kl.length := by omega
    rw [qv] at hn2
    rw [qv]
    have hmn : (mineL r b.insts).length ≤ 1000 := Nat.le_trans (by unfold mineL; rw [qx]; exact List.length_filter_le _ _) hb2
    refine y6<|zSr<|zVzMf Z<|zVGvlenM underlying161 Z<|zVzMi Z<|z2<|zi<|y7 (γ := Nat) [0, 128, 129] (fun g => [(130, .int .i64 g)]) (fun g => nsO f iw ib jr bm n2 (rootL f r fun m => visK f V i kl m.1) (dels T2 ((mineL r b.insts).take g))) (fun g => g ≤ (mineL r b.insts).length) (fun g => (mineL r b.insts).length - g) 0 zR1 zLe (qt _) ?_
    rintro q hq
    refine zSr<|zVGvlss Z Z<|z2<|zc<|zo Z (fun cq=>?_) (fun cq=>?_)
    ·have hq2 : q < (mineL r b.insts).length := by omega
     refine zf<|zc<|zi<|zSr<|z8 (q7 underlying161 Zs Z Z Z (qq (by omega)))<|zVGvloadWF Yu Zs Z Z<|zt (cs := [.int .i64 0, .int .i64 0, .int .i64 0, .int .i64 0]) X0 Z Z<|fun i15 => zn Zs Z Z Z Z Z Z .head Z<|zd (yf (t := 15) Z .head)<|z2<|zr (fun j => false) (by kernel_rfl) Z (zm (.r (.rest _)))<|zTk 0 Z (zMp Z)<|zTk 1 Z (y4 Z)<|zTk 2 Z (ze Zx Z sizeOf87 (by decide) Z Z)<|zTk 3 Z (zl (c := mref _) isAgg87 Z ⟨_, .head⟩ Z)<|zTk 4 Z (yl Yu Zs Z Z)<|zOn 5 Z<|AOps.mapDelK key4_ok underlying87 Z Z .t2<|z2<|zDn<|zw (za (zb .t4))<|zw (za (zb .t4))<|zw (za (zb .t4))<|zw (za (zb .t4))<|zw (za (zb .t4))<|zRg<|zVzAd Z Z<|zVzMi Z<|z2 ?_
     exact ⟨q + 1, zR3, zR1, ⟨_, (.refl _), by rw [show dels T2 ((mineL r b.insts).take (q + 1)) = kdel (dels T2 ((mineL r b.insts).take q)) (mineL r b.insts)[q] by unfold dels; rw [qr hq2, List.foldl_append]; rfl]; rfl⟩, hq2, by omega⟩
    ·obtain rfl : q = (mineL r b.insts).length := by omega
     rw [qv]
     have hva : ∀ j : Int, 0 ≤ j → j < f.blocks.length → visK f V i kl j = (V j || domB (EndsOf f) f.blocks.length i j) := fun j h0 h1 => by rw [← hkl]; exact vis_all hG hall (by omega) h0 h1
     have hre : rootL f r (fun m => visK f V i kl m.1) = rootL f r fun m => V m.1 || domB (EndsOf f) f.blocks.length i m.1 := root_eq hW fun j q y hy _ => hva j (by omega) (by have := (List.getElem?_eq_some_iff.1 hy.1.choose_spec.1).1; omega)
     refine y6<|yv ?_
     exact ⟨(n2, dels T2 (mineL r b.insts)), rfl, ⟨_, .refl _, by rw [hre]; rfl⟩, by rw [hn2]; exact blksV_congr fun j hj => hva j (by omega) (by omega), hok2', told_back hW.hr hW.hK hb hT2⟩
theorem block_all {r : Int → Int} {rk : Nat → Nat → Nat} (f : PFunc) (hN : NumA f r rk) (iw jr bm : Nat) : ∀ m, BlkS E f r iw jr bm m
 | 0 => block_zero f r hN.hE hN.hA iw jr bm
 | m + 1 => block_step f hN iw jr bm m (block_all f hN iw jr bm m)
end Go.Proofs.YtiojekbkamegdaaGreatDoor
namespace Go.Proofs.YtiojekbkamegdaaGreatDoor
open Go.Proofs.Tryz
open Go.Proofs Go.Lib Go.Shelf Go.RowKit
theorem pl89 : Places prog 89 #[(0, 3), (3, 1), (4, 1), (5, 1)] [.raw (.slice none 0 0), .raw (.slice none 0 0), .raw (.slice none 0 0), .raw (.pointer none), .raw (.slice none 0 0), .raw (.map none)] := ⟨_, _, Zx, zeroValue89, fun w => by kernel_rfl, rfl⟩
variable {E : World}
set_option maxRecDepth 20000
theorem own_int {I J : G} {id : Nat} {T : TypeId} {l : List Int} {L : List (Nat × Obj)} (h : RepO I (id, .grow 1 T (cI l)) L) (hle : I.le J) (hJ : ∀ x ∈ L, J.k x.1 = some x.2) {v : Value} (hv : RepV I (.own id l.length) v) : RepV J (.fro 1 (l.map encI)) v :=
 own_fro (rows := l.map encI) (fun r hr => by obtain ⟨z, _, rfl⟩ := List.mem_map.1 hr; rfl) (by decide) (T := T) (L := L) (by rw [show (l.map encI).flatten = cI l from cI_flat l]; exact h) hle hJ (by rw [qx]; exact hv)
theorem ins_know {k : Nat} {ad : Option Addr} {I J : G} (hle : I.le J) : ∀ {ids : List Nat} {xs : List PInst} {L : List (Nat × Obj)} {j : Nat}, ids.length = xs.length → RepOs I (List.zipWith argX ids xs) L → (∀ x ∈ L, J.k x.1 = some x.2) → RepR I k ad j (List.zipWith inW ids xs) → RepR J k ad j (xs.map encInst)
 | [], [], _, _, _, _, _, _ => trivial
 | a :: ids, x :: xs, _, j, hl, ⟨A, B, e, hA, hB⟩, hJ, ⟨⟨b, off, vs, h1, h2, h3, h4⟩, h5⟩ => by
  subst e
  refine ⟨⟨b, off, vs, h1, h2, ?_, fun i u hi => (h4 i u hi).mono hle.k⟩, ins_know hle (by simpa using hl) hB (fun x hx => hJ x (List.mem_append_right _ hx)) h5⟩
  obtain ⟨v1, u1, e1, r1, v2, u2, e2, r2, v3, u3, e3, r3, r4⟩ := h3
  exact ⟨v1, u1, e1, qi hle _ _ r1, v2, u2, e2, qi hle _ _ r2, v3, u3, e3, own_int hA hle (fun x hx => hJ x (List.mem_append_left _ hx)) r3, qe hle _ _ r4⟩
theorem ph_know {k : Nat} {ad : Option Addr} {I J : G} (hle : I.le J) : ∀ {ids : List Nat} {xs : List PPhi} {L : List (Nat × Obj)} {j : Nat}, ids.length = xs.length → RepOs I (List.zipWith argP ids xs) L → (∀ x ∈ L, J.k x.1 = some x.2) → RepR I k ad j (List.zipWith phW ids xs) → RepR J k ad j (xs.map encPhi)
 | [], [], _, _, _, _, _, _ => trivial
 | a :: ids, x :: xs, _, j, hl, ⟨A, B, e, hA, hB⟩, hJ, ⟨⟨b, off, vs, h1, h2, h3, h4⟩, h5⟩ => by
  subst e
  refine ⟨⟨b, off, vs, h1, h2, ?_, fun i u hi => (h4 i u hi).mono hle.k⟩, ph_know hle (by simpa using hl) hB (fun x hx => hJ x (List.mem_append_right _ hx)) h5⟩
  obtain ⟨v1, u1, e1, r1, v3, u3, e3, r3, r4⟩ := h3
  exact ⟨v1, u1, e1, qi hle _ _ r1, v3, u3, e3, own_int hA hle (fun x hx => hJ x (List.mem_append_left _ hx)) r3, qe hle _ _ r4⟩
theorem nb_know {I J : G} (hle : I.le J) : ∀ {ns : List NBk} {L : List (Nat × Obj)} {vs : List Value}, (∀ q ∈ ns, okNB q) → RepOs I (ns.flatMap nbO) L → (∀ x ∈ L, J.k x.1 = some x.2) → RepL I (ns.flatMap nbC) vs → RepL J ((ns.map (·.1)).map encBlk).flatten vs
 | [], _, _, _, _, _, h => h
 | q :: ns, L, vs, hok, hL, hJ, h => by
  rw [List.flatMap_cons] at hL h
  obtain ⟨A, B, rfl, hA, hB⟩ := RepOs.append.1 hL
  obtain ⟨v1, v2, rfl, h1, h2⟩ := h.cut
  have h3 := nb_know hle (fun q hq => hok q (.tail _ hq)) hB (fun x hx => hJ x (List.mem_append_right _ hx)) h2
  rw [List.map_cons, List.map_cons, List.flatten_cons]
  refine RepL.append ?_ h3
  obtain ⟨A1, A2, rfl, hA1, hA2⟩ := RepOs.append.1 hA
  have hJ1 : ∀ x ∈ A1, J.k x.1 = some x.2 := fun x hx => hJ x (List.mem_append_left _ (List.mem_append_left _ hx))
  have hJ2 : ∀ x ∈ A2, J.k x.1 = some x.2 := fun x hx => hJ x (List.mem_append_left _ (List.mem_append_right _ hx))
  obtain ⟨o1, o2⟩ := hok q (.head _)
  obtain ⟨a1, u1, e1, r1, a2, u2, e2, ⟨p1, p2, p3, p4, p5, p6, p7, p8⟩, a3, u3, e3, ⟨s1, s2, s3, s4, s5, s6, s7, s8⟩, r4⟩ := h1
  exact ⟨a1, u1, e1, qi hle _ _ r1, a2, u2, e2, ⟨p1, p2, p3, p4, by rw [p5, List.length_zipWith, qx, o1, Nat.min_self], p6, p7, ph_know hle o1 hA2 hJ2 p8⟩, a3, u3, e3, ⟨s1, s2, s3, s4, by rw [s5, List.length_zipWith, qx, o2, Nat.min_self], s6, s7, ins_know hle o2 hA1 hJ1 s8⟩, qe hle _ _ r4⟩
def nbP (r : Int → Int) (q : NBk) : NBk := (⟨q.1.name, q.1.phis.map (numPh r), q.1.insts, q.1.term⟩, q.2)
theorem nbP_cells (r : Int → Int) (ns : List NBk) : (ns.map (nbP r)).flatMap nbC = ns.flatMap nbC := by
 rw [List.flatMap_map]
 congr 1
 funext q
 have : List.zipWith phW q.2.1 (q.1.phis.map (numPh r)) = List.zipWith phW q.2.1 q.1.phis := by
  rw [List.zipWith_map_right]
  congr 1
  funext a p
  unfold phW numPh; simp
 unfold nbC nbP
 dsimp only
 rw [this]
theorem root_none (f : PFunc) (r : Int → Int) : rootL f r (fun _ => false) = (List.range f.vars.length).map fun (v : Nat) => (v : Int) := by
 unfold rootL; simp
theorem blksV_none (f : PFunc) (r : Int → Int) : blksV f r (fun _ => false) = f.blocks := by
 refine List.ext_getElem? fun j=>?_
 by_cases hj : j < f.blocks.length
 ·rw [blksV_get (qq hj), if_neg (by decide), qq hj]
 ·rw [List.getElem?_eq_none (by rw [blksV_len]; omega), List.getElem?_eq_none (by omega)]
theorem blksV_full {f : PFunc} {r : Int → Int} {V : Int → Bool} (h : ∀ j : Nat, j < f.blocks.length → V (j : Int) = true) : blksV f r V = f.blocks.map (halfB r) := by
 refine List.ext_getElem? fun j=>?_
 by_cases hj : j < f.blocks.length
 ·rw [blksV_get (qq hj), if_pos (h j hj), qy, qq hj]; rfl
 ·rw [List.getElem?_eq_none (by rw [blksV_len]; omega), List.getElem?_eq_none (by rw [qx]; omega)]
theorem bag_phi (A D : List NBk) (b : PBlock) (phn isn : List Nat) : ((A ++ (b, phn, isn) :: D).flatMap nbO).Perm (List.zipWith argP phn b.phis ++ (List.zipWith argX isn b.insts ++ (A.flatMap nbO ++ D.flatMap nbO))) :=
 (bag_split A D b phn isn).trans (List.perm_append_comm_assoc _ _ _)
theorem set_self {α : Type} : ∀ {l : List α} {j : Nat} {a : α}, l[j]? = some a → l.set j a = l
 | [], _, _, h => by simp at h
 | _ :: _, 0, _, h => by simp at h; subst h; rfl
 | _ :: l, j + 1, a, h => by rw [List.set_cons_succ, set_self (l := l) (by simpa using h)]
theorem put_gen {α : Type} {g : α → α} {l : List α} {k : Nat} (h : k < l.length) : ((l.take k).map g ++ l.drop k).set k (g l[k]) = (l.take (k + 1)).map g ++ l.drop (k + 1) := by
 rw [List.set_append_right _ _ (by simp; omega), qx, w3, Nat.min_eq_left (by omega), Nat.sub_self, List.drop_eq_getElem_cons h, List.set_cons_zero, qr h, w2, qs]; rfl
set_option maxHeartbeats 32000000 in
theorem numF_spec {r : Int → Int} {rk : Nat → Nat → Nat} (f : PFunc) (hL : Letters E) (ht : typedB f = true) (hs : singB f = true) (hN : NumA f r rk) (hpa : ∀ b ∈ f.blocks, ∀ p ∈ b.phis, ∀ v ∈ p.args, 0 ≤ v ∧ v < f.vars.length) : AFun prog E 12 [.agg (encF f)] (.tup [.agg (encF (numF f r)), .int .i64 0]) := by
 have hf := hN.hf
 have hE := hN.hE
 have hA := hN.hA
 have hW := hN.hW
 have hG := hE.grph
 have hpos := hE.pos
 obtain ⟨hf1, hf2, hf3, hf4, hf5⟩ := id hf
 have hright := SingRight_spec (E := E) f hf hL
 rw [ht, hs] at hright
 have hall : ∀ j : Nat, j < f.blocks.length → (j : Int) ∈ orderT (EndsOf f) f.blocks.length := fun j hj => (order_mem hG.toEOk _).2 (hA j hj)
 have hd0 : ∀ j, Dom (EndsOf f) j 0 → j = 0 := fun j hj => dom_anti hG hj (.root hj.rch)
 refine zp func12 Z (by decide) Z<|zSr<|yc (cs := _) Z Z Z<|zt (cs := [.raw (.slice none 0 0), .raw (.slice none 0 0), .raw (.slice none 0 0)]) Yj Z Z<|fun i2 => zVzAi Z<|z2<|zc<|zSr<|zVGvloadWF jq jj Z Z<|zg (hright) Z<|zVzAi Z<|z2<|zSr<|zVzMi Z<|zVGvneqI Z Z<|z2<|yj Z Z<|zf<|zSr<|zVGvloadWF jq jj Z Z<|zg (New_spec f hf hL ht) Z<|z8 (zMu Z)<|z8 (Gv.extract (v := .pf _) Z Z)<|z8 (zXi Z Z)<|z8 (qf (v := .pf _) Z)<|zVzAi Z<|z2<|zc<|zSr<|zVzMi Z<|zVGvneqI Z Z<|z2<|yj Z Z<|zf<|zSr<|zVGvloadWF jq jj Z Z<|zy Z (zm (.r (.rest _))) (copyN_own f hf) ?_
 rintro r29 O29 ⟨⟨ib, ns⟩, rfl, rfl, hns, hok⟩
 refine z8 (zMg Z)<|AOps.makeMapK<|fun b31 => z8 (zz (cps := [(0, [_, _, _]), (1, [_]), (3, [_])]) (rs := [_, _, _, _, .raw (.slice none 0 0), _]) pl89 Z Z Z)<|yk (cs := _) Z Z Z Z<|fun i33 => z8 (zAp Z)<|z2<|zc<|zSr<|zVzFF jh Z Ya Z Z<|zVzLf Yk Z<|zVGvlenM Z4 Z<|zVzMi Z<|z2<|adoptC_wp (off := 4) (k := 1) (T := 3) (fun _ => .head) Z<|fun jr => zw (za (zb .t4))<|zw (za (zb .t3))<|zw (za (zb .t4))<|zw (za (zb .t4))<|zw (za (zb .t4))<|zi<|y7 (γ := Nat × Nat) [2, 7, 36] (fun g => [(37, .int .i64 g.1)]) (fun g => [(g.2, .grow 1 3 (cI ((List.range g.1).map fun (v : Nat) => (v : Int)))), (i33, .cells 89 [.fro 2 (f.vars.map encVar), .fro 1 (f.params.map encI), .own ib f.blocks.length, treeT f, .own g.2 g.1, mref b31]), (ib, .grow 7 58 (ns.flatMap nbC)), (0, mapK b31 []), (0, bag (ns.flatMap nbO)), (i2, .cells 26 [.raw (.slice none 0 0), .raw (.slice none 0 0), .raw (.slice none 0 0)])]) (fun g => g.1 ≤ f.vars.length) (fun g => f.vars.length - g.1) (0, jr) zR1 zLe (qt _) ?_
 rintro ⟨k, jr⟩ hk
 try dsimp only at *
 refine zSr<|zVGvlss Z Z<|z2<|zc<|zo Z (fun ck=>?_) (fun ck=>?_)
 ·have hk2 : k < f.vars.length := by omega
  refine zf<|zc<|zi<|zSr<|zVzMi Z<|zVzAi Z<|z2<|zRg<|zVzMp Z<|zVzMp Z<|zVGvnilCheckO Z<|z8 (ze Zx Z jd (by decide) Z Z)<|z8 (zl (c := .own _ _) jk Z ⟨_, .t1⟩ Z)<|zVzMi Z<|zx (rows := [[_]]) ps23_1 Z Z Z Z Z<|ym (k := 1) j6 Zr Z Z Z Z Z (fun _ => .head) (by rw [cI_len, qx, List.length_range]; omega) (by decide) Z (by show (_ + _) * 8 ≤ _; simp <;> omega) (by simp <;> omega)<|fun i47 => zVGvnilCheckO Z<|z8 (ze Zx Z jd (by decide) Z Z)<|yp (l := [_]) (new := [_, _, _, _, _, _]) jd Z Z Z Z Z Z .t1 Z Z<|z2<|zRg<|zVzAd Z Z<|zVzMi Z<|z2 ?_
  exact ⟨(k + 1, i47), zR3, zR1, ⟨_, (.refl _), by rw [List.range_succ, w2, ← cI_app]; rfl⟩, hk2, by dsimp only; omega⟩
 ·obtain rfl : k = f.vars.length := by omega
  rw [← root_none f r]
  refine zw (za (zb .t4))<|zw (za (zb .t4))<|zw (za (zb .t2))<|zw (za (zb .t4))<|zw (za (zb .t4)) ?_
  have hT0 : TAt f r 0 0 [] := ⟨List.nodup_nil, fun key d => by
   constructor
   ·intro h; cases h
   ·rintro ⟨j, q, x, hx, ha, _⟩
    exfalso
    rcases ha with ha | ⟨_, ha⟩ | ⟨_, ha, hb⟩
    ·dsimp only at ha; omega
    ·dsimp only at ha; omega
    ·exact ha (hd0 _ hb)⟩
  have hV0 : VisB f (fun _ => false) ((0 : Nat) : Int) := ⟨fun j hj hne => absurd (hd0 j hj) hne, fun _ _ => rfl⟩
  have hlev0 := hG.lev_nn (hall 0 hpos)
  have hblk := block_all (E := E) f hN i33 jr b31 (f.blocks.length + 1) 0 f.blocks[0] (fun _ => false) ib ns [] (qq hpos) (by omega) hV0 (by rw [hns, blksV_none]) hok hT0
  refine y6<|zSr<|zVzMp Z<|zy Z (zm (.l (.l (.l (.l (.l (.r (.rest _)))))))) (hblk) ?_
  rintro r52 O52 ⟨⟨n1, T1⟩, rfl, rfl, h1, h2, h3⟩
  refine z2 ?_
  have hdom : ∀ j : Nat, j < f.blocks.length → domB (EndsOf f) f.blocks.length ((0 : Nat) : Int) (j : Int) = true := fun j hj => (hG.domB_iff _ _).2 (.root (hA j hj))
  have hn1 : n1.map (·.1) = f.blocks.map (halfB r) := by
   rw [h1]; exact blksV_full fun j hj => by rw [hdom j hj]; rfl
  have hn1l : n1.length = f.blocks.length := by have := congrArg List.length hn1; simpa using this
  obtain ⟨R, hR⟩ : ∃ R, (rootL f r fun m => false || domB (EndsOf f) f.blocks.length ((0 : Nat) : Int) m.1) = R := ⟨_, rfl⟩
  have hRl : R.length = f.vars.length := by rw [← hR, rootL_len]
  have hRv : ∀ v : Int, 0 ≤ v → v < f.vars.length → vi R v = r v := fun v v0 v1 => by
   unfold vi
   rw [← hR, rootL_get (by omega), show ((v.toNat : Nat) : Int) = v by omega]
   show (if _ then _ else _) = _
   split
   ·rfl
   ·rename_i hne
    by_cases hv : ∃ j q x, NumI f j q x ∧ x.dst = v
    ·obtain ⟨j, q, x, hx, e⟩ := hv
     have hm := hW.hM.made j q x hx
     rw [e] at hm
     have hj := (List.getElem?_eq_some_iff.1 hx.1.choose_spec.1).1
     rw [hm] at hne
     dsimp only at hne
     rw [hdom j hj] at hne
     exact absurd rfl hne
    ·exact (hW.hr.id v fun i k x hx e => hv ⟨i, k, x, hx, e⟩).symm
  rw [hR]
  refine zw (GStep.eq (show _ = ([(i33, .cells 89 (wkC f ib jr b31)), (ib, .grow 7 58 (n1.flatMap nbC)), (jr, .grow 1 3 (cI R)), (0, mapK b31 T1), (0, bag (n1.flatMap nbO)), (i2, .cells 26 [.raw (.slice none 0 0), .raw (.slice none 0 0), .raw (.slice none 0 0)])] : OL) from Z))<|zc<|zSr<|zVzMp Z<|zVGvnilCheckO Z<|z8 (ze Zx Z jj (by decide) Z Z)<|z8 (ze jh Z Z1 (by decide) Z Z)<|z8 (zl (c := .own _ _) Z8 Z ⟨_, .head⟩ Z)<|z8 (qo jl Z)<|zVzMi Z<|z2 ?_
  have hC : ∀ q ∈ n1, okNB q := h2
  refine zi<|y7 (γ := Nat) [2, 7, 57, 58] (fun g => [(59, .int .i64 g)]) (fun g => [(i33, .cells 89 (wkC f ib jr b31)), (ib, .grow 7 58 (n1.flatMap nbC)), (jr, .grow 1 3 (cI R)), (0, mapK b31 T1), (0, bag (((n1.take g).map (nbP r) ++ n1.drop g).flatMap nbO)), (i2, .cells 26 [.raw (.slice none 0 0), .raw (.slice none 0 0), .raw (.slice none 0 0)])]) (fun g => g ≤ f.blocks.length) (fun g => f.blocks.length - g) 0 zR1 zLe (qt _) ?_
  rintro k hk
  refine zSr<|zVGvlss Z Z<|z2<|zc<|zo Z (fun ck=>?_) (fun ck=>?_)
  ·have hk2 : k < f.blocks.length := by omega
   have hk3 : k < n1.length := by omega
   obtain ⟨⟨b1, phn, isn⟩, hq⟩ : ∃ q, n1[k] = q := ⟨_, rfl⟩
   have hqm : (b1, phn, isn) ∈ n1 := hq ▸ qu hk3
   obtain ⟨ok1, ok2⟩ : phn.length = b1.phis.length ∧ isn.length = b1.insts.length := h2 _ hqm
   obtain ⟨b, hbm, hb1⟩ : ∃ b ∈ f.blocks, b1 = halfB r b := by
    have : b1 ∈ n1.map (·.1) := List.mem_map.2 ⟨_, hqm, rfl⟩
    rw [hn1] at this
    obtain ⟨b, h4, h5⟩ := List.mem_map.1 this
    exact ⟨b, h4, h5.symm⟩
   have hphi : b1.phis = b.phis := by rw [hb1]; rfl
   obtain ⟨hb0, hbp, hb2, hb3, hb4⟩ := hf5 b hbm
   have hbp1 : b1.phis.length ≤ 1000 := by rw [hphi]; exact hbp
   have hrow : (n1.flatMap nbC).drop (k * 7) = nbC (b1, phn, isn) ++ (n1.drop (k + 1)).flatMap nbC := by
    have e : n1 = n1.take k ++ (b1, phn, isn) :: n1.drop (k + 1) := by rw [← hq, ← List.drop_eq_getElem_cons hk3, List.take_append_drop]
    conv => lhs; rw [e]
    rw [List.flatMap_append, List.flatMap_cons]
    have := drop_at (P := (n1.take k).flatMap nbC) (R := nbC (b1, phn, isn) ++ (n1.drop (k + 1)).flatMap nbC) (n := k * 7) (by rw [nbC_len, w3]; congr 1; omega) 0
    exact this
   have hne : n1.flatMap nbC ≠ [] := fun h => by have := congrArg List.length h; rw [nbC_len] at this; simp at this; omega
   have hcl : (n1.flatMap nbC).length = f.blocks.length * 7 := by rw [nbC_len, hn1l]
   have hdk : n1.drop k = (b1, phn, isn) :: n1.drop (k + 1) := by rw [← hq]; exact List.drop_eq_getElem_cons hk3
   have htk : n1.take (k + 1) = n1.take k ++ [(b1, phn, isn)] := by rw [← hq]; exact qr hk3
   obtain ⟨Y, hY⟩ : ∃ Y, List.zipWith argX isn b1.insts ++ (((n1.take k).map (nbP r)).flatMap nbO ++ (n1.drop (k + 1)).flatMap nbO) = Y := ⟨_, rfl⟩
   have hperm : (((n1.take k).map (nbP r) ++ n1.drop k).flatMap nbO).Perm (List.zipWith argP phn b1.phis ++ Y) := by
    rw [hdk, ← hY]; exact bag_phi _ _ _ _ _
   have hback : (List.zipWith argP phn (b1.phis.map (numPh r)) ++ Y).Perm (((n1.take (k + 1)).map (nbP r) ++ n1.drop (k + 1)).flatMap nbO) := by
    rw [htk, w2, qs, ← hY]
    exact (bag_phi ((n1.take k).map (nbP r)) (n1.drop (k + 1)) (nbP r (b1, phn, isn)).1 phn isn).symm
   have hzl : (List.zipWith phW phn b1.phis).length = b1.phis.length := by rw [List.length_zipWith, ok1, Nat.min_self]
   refine zf<|zc<|zi<|zSr<|z8 (Gv.idxO (j := k) jl jw Z Z Z ⟨_, .t1⟩ hne hk2)<|z8 (Gv.loadAG (l := [_, _, _, _, _, _, _]) Yc jw Z ⟨_, .t1⟩ hne (by rw [hcl]; show k * 7 + 7 ≤ _; omega) (show (_ : List AV).take 7 = nbC (b1, phn, isn) by rw [hrow]; rfl))<|zt (cs := [.str ⟨#[]⟩, .raw (.slice none 0 0), .raw (.slice none 0 0), .int .i64 0, .int .i64 0, .int .i64 0, .int .i64 0]) Zd Z Z<|fun i10 => zn jw Z Z Z Z Z Z .head Z<|zd (yf (t := 10) Z .head)<|z2<|zSr<|zVzFF je Z Zn Z Z<|zVzLf Y4 Z<|z8 (Gv.lenF jx Z)<|zVzMi Z<|z2<|zw (GStep.bagPerm (X' := List.zipWith argP phn b1.phis ++ Y) (hperm) .t4)<|zi<|y7 (γ := Nat) [2, 7, 57, 58, 59, 64, 65] (fun g => [(66, .int .i64 g)]) (fun g => [(i33, .cells 89 (wkC f ib jr b31)), (ib, .grow 7 58 (n1.flatMap nbC)), (jr, .grow 1 3 (cI R)), (0, mapK b31 T1), (0, bag (List.zipWith argP phn ((b1.phis.take g).map (numPh r) ++ b1.phis.drop g) ++ Y)), (i2, .cells 26 [.raw (.slice none 0 0), .raw (.slice none 0 0), .raw (.slice none 0 0)])]) (fun g => g ≤ b1.phis.length) (fun g => b1.phis.length - g) 0 zR1 zLe (qt _) ?_
   rintro m hm
   refine zSr<|zVGvlss Z Z<|z2<|zc<|zo Z (fun cm=>?_) (fun cm=>?_)
   ·have hm2 : m < b1.phis.length := by
     have cm : (m : Int) < ((List.zipWith phW phn b1.phis).length : Nat) := cm
     rw [hzl] at cm; omega
    obtain ⟨p, hp⟩ : ∃ p, b1.phis[m] = p := ⟨_, rfl⟩
    have hpb : p ∈ b.phis := by rw [← hphi, ← hp]; exact qu hm2
    have hpl := (hb3 p hpb).1
    have hpr := hpa b hbm p hpb
    obtain ⟨a, ha⟩ : ∃ a, phn[m]? = some a := ⟨_, qq (by omega)⟩
    have hget : b1.phis[m]? = some p := by rw [qq hm2, hp]
    have hrw : (List.zipWith phW phn b1.phis)[m]? = some (phW a p) := by rw [List.getElem?_zipWith, ha, hget]
    have hLm : ((b1.phis.take m).map (numPh r) ++ b1.phis.drop m)[m]? = some p := by
     rw [List.getElem?_append_right (by simp; omega)]
     simp [Nat.min_eq_left (Nat.le_of_lt hm2), hm2, hp]
    obtain ⟨X, hX1, hX2⟩ := zip_out argP phn _ m ha hLm
    have hX3 := (hX2 a (numPh r p)).append_right Y
    rw [set_self ha, ← hp, put_gen hm2, hp] at hX3
    have hmap : p.args.map (vi R) = p.args.map r := List.map_congr_left fun v hv => hRv v (hpr v hv).1 (hpr v hv).2
    refine zf<|zc<|zi<|zSr<|z8 (Gv.idxF (j := m) jx Z0 Z Z Z hrw)<|zVGvloadWF Yf Z0 Z Z<|zt (cs := [.int .i64 0, .raw (.slice none 0 0), .raw (.slice none 0 0)]) Zk Z Z<|fun i12 => zn Z0 Z Z Z Z Z Z .head Z<|zd (yf (t := 12) Z .head)<|z2<|zw (GStep.bagOut (i := a) (o := .grow 1 3 (cI p.args)) (X' := X ++ Y) (hX1.append_right Y) .t4)<|zRg<|zVzMp Z<|zVzFF js Z jd Z Z<|z8 (q9 (c := .own _ _) jk Z)<|zy Z (zm (.l (.l (.r (.l (.r (.r (.r (.rest _))))))))) (put_spec i33 jr a _ _ _ _ _ f.vars.length R p.args hRl (fun v hv => ⟨(hpr v hv).2, (hpr v hv).1⟩) hpl) ?_
    rintro r73 O73 ⟨rfl, rfl⟩
    refine z2 ?_
    rw [hmap]
    refine zw (GStep.bagIn (X' := List.zipWith argP phn ((b1.phis.take (m + 1)).map (numPh r) ++ b1.phis.drop (m + 1)) ++ Y) .head (hX3) .t4)<|zw (za (zb .t5))<|zw (za (zb .t5))<|zw (za (zb .t5))<|zw (za (zb .t4))<|zw (za (zb .t5))<|zw (za (zb .t5))<|zRg<|zVzAd Z Z<|zVzMi Z<|z2 ?_
    exact ⟨m + 1, zR7, zR1, zLe, hm2, by omega⟩
   ·obtain rfl : m = b1.phis.length := by
     have cm : ¬ (m : Int) < ((List.zipWith phW phn b1.phis).length : Nat) := cm
     rw [hzl] at cm; omega
    rw [qv, List.drop_length, List.append_nil]
    refine zw (GStep.bagPerm (X' := ((n1.take (k + 1)).map (nbP r) ++ n1.drop (k + 1)).flatMap nbO) (hback) .t4)<|y6<|zRg<|zVzAd Z Z<|zVzMi Z<|z2 ?_
    exact ⟨k + 1, zR4, zR1, zLe, hk2, by omega⟩
  ·obtain rfl : k = f.blocks.length := by omega
   rw [← hn1l, qv, List.drop_length, List.append_nil]
   have hn2 : (n1.map (nbP r)).map (·.1) = f.blocks.map (numB r) := by
    have e1 : (n1.map (nbP r)).map (·.1) = (n1.map (·.1)).map fun c => ⟨c.name, c.phis.map (numPh r), c.insts, c.term⟩ := by
     rw [List.map_map, List.map_map]; rfl
    rw [e1, hn1, List.map_map]; rfl
   have hok2 : ∀ q ∈ n1.map (nbP r), okNB q := fun q hq => by
    obtain ⟨q0, hq0, rfl⟩ := List.mem_map.1 hq
    have := h2 q0 hq0
    exact ⟨by rw [show (nbP r q0).1.phis = q0.1.phis.map (numPh r) from rfl, qx]; exact this.1, this.2⟩
   rw [← nbP_cells r n1]
   refine zw (GStep.bagKnow (cs' := ((f.blocks.map (numB r)).map encBlk).flatten) .t4 .t1 (fun I J L vs hle hX hJ h => by rw [← hn2]; exact nb_know hle hok2 hX hJ h))<|zw (GStep.knowC (off := 2) (rows := (f.blocks.map (numB r)).map encBlk) .t1 .head Z (by simp [encI, encVar, encPhi, encInst, encBlk]) (by decide) (by simp))<|y6<|zSr<|zVzMp Z<|zVGvnilCheckO Z<|z8 (ze Zx Z jj (by decide) Z Z)<|z8 (Gv.loadAC (l := [_, _, _]) jq jj Z ⟨_, .head⟩ Z Z)<|zn jj Z Z Z Z Z Z .t3 Z<|zVzAi Z<|z2<|zj<|afin.c1t (y := .int _ _) Z Z ⟨_, .t3⟩ jq jj Z ?_
   rfl
end Go.Proofs.YtiojekbkamegdaaGreatDoor
namespace Go.Proofs.YtiojekbkamegdaaGreatDoor
open Go.Proofs.Tryz
open Go.Proofs Go.Lib Go.Shelf Go.RowKit
variable {E : World}
set_option maxRecDepth 20000
theorem chkNum_spec (op : Int) (h : 0 ≤ op ∧ op ≤ 26) : AFun prog E 159 [.int .i64 op] (.int .i64 (if 18 ≤ op ∧ op ≤ 24 then op - 17 else 0)) := by
 refine zp func159 Z (by decide) Z<|zSr<|zVzAi Z<|z2<|zc<|zSr<|zVzMi Z<|zVGvlss Z Z<|zVzMb Z<|zq (s := 5) Z (fun c1=>?_) (fun c1=>?_)
 ·have h1 : op < 18 := by simpa using c1
  refine z6 Z Z c1<|z6 Z Z c1<|zVzPt Z c1 Z<|z2<|yq Z Z<|zSr<|zVzAi Z<|z2<|zj<|zk (x := .int _ _) Z ?_
  rw [if_neg (by omega)]
 ·have h1 : ¬ op < 18 := by simpa using c1
  refine z7 Z Z c1<|zVzMi Z<|z7 Z Z c1<|zVGvgtr Z Z<|zVzPf Z c1 Z<|z2<|zu Z (fun c2=>?_) (fun c2=>?_)
  ·have h2 : 24 < op := by simpa using c2
   refine zSr<|zVzAi Z<|z2<|zj<|zk (x := .int _ _) Z ?_
   rw [if_neg (by omega)]
  ·have h2 : ¬ 24 < op := by simpa using c2
   refine zf<|zSr<|zVzMi Z<|z8 (Gv.sub Z Z (by unfold I64; omega))<|zVzAi Z<|z2<|zj<|zk (x := .int _ _) Z ?_
   rw [if_pos (by omega)]
end Go.Proofs.YtiojekbkamegdaaGreatDoor
namespace Go.Proofs.YtiojekbkamegdaaGreatDoor
open Go.Proofs.Tryz
open Go.Proofs
variable {E : World}
set_option maxRecDepth 20000
end Go.Proofs.YtiojekbkamegdaaGreatDoor
namespace Go.Proofs.YtiojekbkamegdaaGreatDoor
open Go.Proofs.Tryz
open Go.Proofs
variable {E : World}
set_option maxRecDepth 20000
theorem rFits2 {k : Nat} (hk : k ≤ 2) {x y : Int} (hx : is64 x) (hy : is64 y) : AFun prog E 175 [.int .i64 k, .int .i64 x, .int .i64 y] (.bool (decide (fit3 k x y))) := by
 have hx1 := hx; have hy1 := hy
 unfold is64 at hx1 hy1
 refine zp func175 Z (by decide) Z<|zSr<|zVzAb Z<|z2<|zc<|zSr<|zVzMi Z<|z2<|zi<|zSr<|zVGveqlI Z Z<|zVzAb Z<|z2<|zo Z (fun c0=>?_) (fun c0=>?_)
 ·have hk0 : k = 0 := by omega
  subst hk0
  refine zSr<|zVzMi Z<|zVGvgtr Z Z<|zVzMb Z<|zq (s := 16) Z (fun c1=>?_) (fun c1=>?_)
  ·refine z7 Z Z c1<|zVzMi Z<|z7 Z Z c1<|zVzMi Z<|z7 Z Z c1<|z8 (Gv.sub Z Z (by unfold I64; simp at *; omega))<|z7 Z Z c1<|zVGvgtr Z Z<|zVzPt Z c1 Z<|zVGvnot Z<|zVzMb Z<|zq (s := 23) Z (fun c2=>?_) (fun c2=>?_)
   ·refine z7 Z Z c2<|zVzMi Z<|z7 Z Z c2<|zVGvlss Z Z<|z7 Z Z c2<|zVzMb Z<|zq (s := 26) Z (fun c3=>?_) (fun c3=>?_)
    ·refine z7 Z Z c3<|zVzMi Z<|z7 Z Z c3<|zVzMi Z<|z7 Z Z c3<|z8 (Gv.sub Z Z (by unfold I64; simp at *; omega))<|z7 Z Z c3<|zVGvlss Z Z<|z7 Z Z c2<|zVzPt Z c3 Z<|z7 Z Z c2<|zVGvnot Z<|zVzPt Z c2 Z<|zVzAb Z<|z2<|zj<|zk (x := .bool _) Z ?_
     exact jb (by rw [qz]; unfold fit3 op3 is64; simp at * <;> omega)
    ·refine z6 Z Z c3<|z6 Z Z c3<|z6 Z Z c3<|z6 Z Z c3<|z7 Z Z c2<|zVzPf Z c3 Z<|z7 Z Z c2<|zVGvnot Z<|zVzPt Z c2 Z<|zVzAb Z<|z2<|zj<|zk (x := .bool _) Z ?_
     exact jb (by rw [qz]; unfold fit3 op3 is64; simp at * <;> omega)
   ·refine z6 Z Z c2<|z6 Z Z c2<|z6 Z Z c2<|zh Z Z<|zh Z Z<|zh Z Z<|zh Z Z<|z6 Z Z c2<|z6 Z Z c2<|zVzPf Z c2 Z<|zVzAb Z<|z2<|zj<|zk (x := .bool _) Z ?_
    exact jb (by rw [qz]; unfold fit3 op3 is64; simp at * <;> omega)
  ·refine z6 Z Z c1<|z6 Z Z c1<|z6 Z Z c1<|z6 Z Z c1<|zVzPf Z c1 Z<|zVGvnot Z<|zVzMb Z<|z7 Z Z Z<|zVzMi Z<|z7 Z Z Z<|zVGvlss Z Z<|z7 Z Z Z<|zVzMb Z<|zq (s := 26) Z (fun c4=>?_) (fun c4=>?_)
   ·refine z7 Z Z c4<|zVzMi Z<|z7 Z Z c4<|zVzMi Z<|z7 Z Z c4<|z8 (Gv.sub Z Z (by unfold I64; simp at *; omega))<|z7 Z Z c4<|zVGvlss Z Z<|z7 Z Z Z<|zVzPt Z c4 Z<|z7 Z Z Z<|zVGvnot Z<|zVzPt Z Z Z<|zVzAb Z<|z2<|zj<|zk (x := .bool _) Z ?_
    exact jb (by rw [qz]; unfold fit3 op3 is64; simp at * <;> omega)
   ·refine z6 Z Z c4<|z6 Z Z c4<|z6 Z Z c4<|z6 Z Z c4<|z7 Z Z Z<|zVzPf Z c4 Z<|z7 Z Z Z<|zVGvnot Z<|zVzPt Z Z Z<|zVzAb Z<|z2<|zj<|zk (x := .bool _) Z ?_
    exact jb (by rw [qz]; unfold fit3 op3 is64; simp at * <;> omega)
 ·refine zSr<|zVGveqlI Z Z<|zVzAb Z<|z2<|zo Z (fun c1=>?_) (fun c1=>?_)
  ·have hk1 : k = 1 := by omega
   subst hk1
   refine zSr<|zVzMi Z<|zVGvlss Z Z<|zVzMb Z<|zq (s := 38) Z (fun c5=>?_) (fun c5=>?_)
   ·refine z7 Z Z c5<|zVzMi Z<|z7 Z Z c5<|zVzMi Z<|z7 Z Z c5<|z8 (Gv.add Z Z (by unfold I64; simp at *; omega))<|z7 Z Z c5<|zVGvgtr Z Z<|zVzPt Z c5 Z<|zVGvnot Z<|zVzMb Z<|zq (s := 45) Z (fun c6=>?_) (fun c6=>?_)
    ·refine z7 Z Z c6<|zVzMi Z<|z7 Z Z c6<|zVGvgtr Z Z<|z7 Z Z c6<|zVzMb Z<|zq (s := 48) Z (fun c7=>?_) (fun c7=>?_)
     ·refine z7 Z Z c7<|zVzMi Z<|z7 Z Z c7<|zVzMi Z<|z7 Z Z c7<|z8 (Gv.add Z Z (by unfold I64; simp at *; omega))<|z7 Z Z c7<|zVGvlss Z Z<|z7 Z Z c6<|zVzPt Z c7 Z<|z7 Z Z c6<|zVGvnot Z<|zVzPt Z c6 Z<|zVzAb Z<|z2<|zj<|zk (x := .bool _) Z ?_
      exact jb (by rw [qz]; unfold fit3 op3 is64; simp at * <;> omega)
     ·refine z6 Z Z c7<|z6 Z Z c7<|z6 Z Z c7<|z6 Z Z c7<|z7 Z Z c6<|zVzPf Z c7 Z<|z7 Z Z c6<|zVGvnot Z<|zVzPt Z c6 Z<|zVzAb Z<|z2<|zj<|zk (x := .bool _) Z ?_
      exact jb (by rw [qz]; unfold fit3 op3 is64; simp at * <;> omega)
    ·refine z6 Z Z c6<|z6 Z Z c6<|z6 Z Z c6<|zh Z Z<|zh Z Z<|zh Z Z<|zh Z Z<|z6 Z Z c6<|z6 Z Z c6<|zVzPf Z c6 Z<|zVzAb Z<|z2<|zj<|zk (x := .bool _) Z ?_
     exact jb (by rw [qz]; unfold fit3 op3 is64; simp at * <;> omega)
   ·refine z6 Z Z c5<|z6 Z Z c5<|z6 Z Z c5<|z6 Z Z c5<|zVzPf Z c5 Z<|zVGvnot Z<|zVzMb Z<|z7 Z Z Z<|zVzMi Z<|z7 Z Z Z<|zVGvgtr Z Z<|z7 Z Z Z<|zVzMb Z<|zq (s := 48) Z (fun c8=>?_) (fun c8=>?_)
    ·refine z7 Z Z c8<|zVzMi Z<|z7 Z Z c8<|zVzMi Z<|z7 Z Z c8<|z8 (Gv.add Z Z (by unfold I64; simp at *; omega))<|z7 Z Z c8<|zVGvlss Z Z<|z7 Z Z Z<|zVzPt Z c8 Z<|z7 Z Z Z<|zVGvnot Z<|zVzPt Z Z Z<|zVzAb Z<|z2<|zj<|zk (x := .bool _) Z ?_
     exact jb (by rw [qz]; unfold fit3 op3 is64; simp at * <;> omega)
    ·refine z6 Z Z c8<|z6 Z Z c8<|z6 Z Z c8<|z6 Z Z c8<|z7 Z Z Z<|zVzPf Z c8 Z<|z7 Z Z Z<|zVGvnot Z<|zVzPt Z Z Z<|zVzAb Z<|z2<|zj<|zk (x := .bool _) Z ?_
     exact jb (by rw [qz]; unfold fit3 op3 is64; simp at * <;> omega)
  ·have hk2 : k = 2 := by omega
   subst hk2
   refine zf<|zc<|zc<|yn (γ := Bool) [1, 2] (fun u => [(61, .bool u)]) (fun u => []) (fun u => u = decide (x = 0 ∨ y = 0)) ?_ (fun _ _ h => h) ?_
   ·refine zRg<|zVzMi Z<|zVGveqlI Z Z<|zVzMb Z<|zq (s := 58) Z (fun c9=>?_) (fun c9=>?_)
    ·refine z6 Z Z c9<|z6 Z Z c9<|zVzPt Z c9 Z<|z2 ?_
     exact ⟨_, zR2, zR1, zLe, by simp_all⟩
    ·refine z7 Z Z c9<|zVzMi Z<|z7 Z Z c9<|zVGveqlI Z Z<|zVzPf Z c9 Z<|z2 ?_
     exact ⟨_, zR2, zR1, zLe, by simp_all⟩
   ·rintro u hu
    subst hu
    refine zo Z (fun cz=>?_) (fun cz=>?_)
    ·refine zSr<|zVzAb Z<|z2<|zj<|zk (x := .bool _) Z ?_
     exact jb (by rw [w4]; unfold fit3; rw [show op3 2 x y = x * y from rfl]; rcases cz with h | h <;> rw [h] <;> simp [is64])
    ·have hx0 : x ≠ 0 := fun e => cz (.inl e)
     have hy0 : y ≠ 0 := fun e => cz (.inr e)
     refine zf<|zSr<|zVzMi Z<|zVGvlss Z Z<|zVzMi Z<|zVGvlss Z Z<|z8 (Gv.eqlB Yw Z Z)<|zVzAb Z<|z2<|zSr<|zVzMi Z<|z8 (qk Zj Zg Z)<|zVzMi Z<|z8 (qk Zj Zg Z)<|zVzAi Z<|zVzAi Z<|z2<|zc<|zSr<|zVzMi Z<|zVGvlss Z Z<|z2<|yn (γ := Int) [2, 7, 9] (fun u => [(8, .int .u64 u)]) (fun u => []) (fun u => u = (x.natAbs : Int)) ?_ (fun _ _ h => h) ?_
     ·refine zo Z (fun c=>?_) (fun c=>?_)
      ·refine zRg<|zVzMi Z<|z8 (Gv.neg Z)<|zVzAi Z<|z2 ?_
       exact ⟨_, zR3, zR1, zLe, by have := abs_wrap hx; rwa [if_pos c] at this⟩
      ·refine zf ?_
       exact ⟨_, zR3, zR1, zLe, by have := abs_wrap hx; rwa [if_neg c] at this⟩
     ·rintro u hu
      subst hu
      refine zc<|zSr<|zVzMi Z<|zVGvlss Z Z<|z2<|yn (γ := Int) [7, 8] (fun u => [(9, .int .u64 u)]) (fun u => []) (fun u => u = (y.natAbs : Int)) ?_ (fun _ _ h => h) ?_
      ·refine zo Z (fun c=>?_) (fun c=>?_)
       ·refine zRg<|zVzMi Z<|z8 (Gv.neg Z)<|zVzAi Z<|z2 ?_
        exact ⟨_, zR2, zR1, zLe, by have := abs_wrap hy; rwa [if_pos c] at this⟩
       ·refine zf ?_
        exact ⟨_, zR2, zR1, zLe, by have := abs_wrap hy; rwa [if_neg c] at this⟩
      ·rintro u hu
       subst hu
       refine zSr<|zVzAi Z<|z2<|zc<|zSr<|zVzMb Z<|zVGvnot Z<|z2<|yn (γ := Int) [8, 9] (fun u => [(10, .int .u64 u)]) (fun u => []) (fun u => u = (if (decide (x < 0) == decide (y < 0)) = true then 9223372036854775807 else 9223372036854775808)) ?_ (fun _ _ h => h) ?_
       ·refine zu Z (fun c=>?_) (fun c=>?_)
        ·refine zRg<|zVzAi Z<|z2 ?_
         exact ⟨_, zR2, zR1, zLe, by rw [if_neg (by simpa using c)]⟩
        ·refine zf ?_
         exact ⟨_, zR2, zR1, zLe, by rw [if_pos (by simpa using c)]⟩
       ·rintro u hu
        subst hu
        refine zSr<|zVzMi Z<|zVzMi Z<|zVzMi Z<|z8 (Gv.quo Z Z (by omega))<|z8 (Gv.leq Z Z)<|zVzAb Z<|z2<|zj<|zk (x := .bool _) Z ?_
        exact jb (fitU hx hx0 hy0)
theorem rWrap {k : Nat} (hk : k ≤ 2) {x y : Int} : AFun prog E 161 [.int .i64 k, .int .i64 x, .int .i64 y] (.int .i64 (IntKind.i64.wrap (op3 k x y))) := by
 refine zp func161 Z (by decide) Z<|zSr<|zVzAi Z<|z2<|zc<|zSr<|zVzMi Z<|z2<|zi<|zSr<|zVGveqlI Z Z<|zVzAb Z<|z2<|zo Z (fun c0=>?_) (fun c0=>?_)
 ·have hk0 : k = 0 := by omega
  subst hk0
  refine zSr<|zVzMi Z<|z8 (qk Zj Zg Z)<|zVzMi Z<|z8 (qk Zj Zg Z)<|z8 (Gv.addW Z Z)<|z8 (qk Zg Zj Z)<|zVzAi Z<|z2<|zj<|zk (x := .int _ _) Z ?_
  exact congrArg (AV.int .i64) (wrapU_add x y)
 ·refine zSr<|zVGveqlI Z Z<|zVzAb Z<|z2<|zo Z (fun c1=>?_) (fun c1=>?_)
  ·have hk1 : k = 1 := by omega
   subst hk1
   refine zSr<|zVzMi Z<|z8 (qk Zj Zg Z)<|zVzMi Z<|z8 (qk Zj Zg Z)<|z8 (Gv.subW Z Z)<|z8 (qk Zg Zj Z)<|zVzAi Z<|z2<|zj<|zk (x := .int _ _) Z ?_
   exact congrArg (AV.int .i64) (wrapU_sub x y)
  ·have hk2 : k = 2 := by omega
   subst hk2
   refine zf<|zSr<|zVzMi Z<|z8 (qk Zj Zg Z)<|zVzMi Z<|z8 (qk Zj Zg Z)<|z8 (Gv.mulW Z Z)<|z8 (qk Zg Zj Z)<|zVzAi Z<|z2<|zj<|zk (x := .int _ _) Z ?_
   exact congrArg (AV.int .i64) (wrapU_mul x y)
theorem rDiv2 {x y : Int} (hy : y ≠ 0) : AFun prog E 162 [.int .i64 x, .int .i64 y] (.tup [.int .i64 (IntKind.i64.wrap (x.tdiv y)), .int .i64 (if y = -1 then 0 else IntKind.i64.wrap (x - IntKind.i64.wrap (IntKind.i64.wrap (x.tdiv y) * y)))]) := by
 refine zp func162 Z (by decide) Z<|zSr<|zVzAi Z<|zVzAi Z<|z2<|zc<|zSr<|zVzMi Z<|zVGveqlI Z Z<|z2<|zo Z (fun c=>?_) (fun c=>?_)
 ·refine zSr<|zVzMi Z<|z8 (qk Zj Zg Z)<|z8 (Gv.neg Z)<|z8 (qk Zg Zj Z)<|zVzAi Z<|zVzAi Z<|z2<|zj<|afin.t2 (x := .int _ _) (y := .int _ _) Z Z ?_
  rw [if_pos c, c, wrapU_neg]; try rfl
 ·refine zf<|zc<|zr (fun j => false) (by kernel_rfl) Z (zm (.rest _))<|zTk 0 Z (zMi Z)<|zTk 1 Z (zMi Z)<|zTk 2 Z (Gv.quo Z Z (by omega))<|zTk 3 Z (zMi Z)<|zTk 4 Z (zMi Z)<|zTk 5 Z (zMi Z)<|zTk 6 Z (Gv.quo Z Z (by omega))<|zTk 7 Z (zMi Z)<|zTk 8 Z (Gv.mulW Z Z)<|zTk 9 Z (Gv.subW Z Z)<|zTk 10 Z (zAi Z)<|zTk 11 Z (zAi Z)<|zDn<|zj<|afin.t2 (x := .int _ _) (y := .int _ _) Z Z ?_
  rw [if_neg c]; try rfl
end Go.Proofs.YtiojekbkamegdaaGreatDoor
namespace Go.Proofs.YtiojekbkamegdaaGreatDoor
open Go.Proofs.Tryz
def AAnyR (P : Program) (E : World) (l : List Oper) (Q : AEnv → OL → Prop) (fuel : Nat) (listed : Array Bool) (env : AEnv) (R Om : OL) : Prop :=
 ∀ I F ρ w Lr, RepE I env ρ → RepOs I R Lr → SLA I Om (Lr ++ F) E w → AnyV P l.toArray (stays I.k Lr E) (stays I.k Lr E) (fun _ => false) (postK I F E Q) fuel listed ρ w
section
variable {E : World} {P : Program} {n : Nat} {l : List Oper} {Q : AEnv → OL → Prop} {fuel : Nat} {listed : Array Bool} {env : AEnv} {O R Om : OL}
variable {d ty : Nat} {op : Op} {pos : String} {af : Array Edge}
theorem AWP.regionDrawR {Q : Exit → AEnv → OL → Prop} {id : Nat} (hm : P.follows .mixedOrders = true) (hd : dstsOk n l = true) (hO : O.Perm (Om ++ R)) (h : AAnyR P E l (Q .normal) l.length (Array.replicate l.length false) env R Om) : AWP P E n (.region id l.toArray true) Q env O := fun I F ρ w h1 h2 => by
 obtain ⟨Lr, hLr, h3⟩ := h2.split hO
 refine WP.regionDraw (stays I.k Lr E) (stays I.k Lr E) (fun _ => false) hm hd fun w' hw => ?_
 subst hw
 refine h I F ρ _ Lr h1 hLr ?_
 obtain ⟨ht, L, hL, hS⟩ := h3
 exact ⟨ht, L, hL, hS.drew⟩
theorem AAnyR.takeK {i : Nat} {x : AV} (hi : l[i]? = some (Oper.mk (some d) op ty pos af none)) (hs : Region.noSelect l.toArray = true) (hf : Region.free .any l.toArray listed i = true)
  (hr : (Region.ready .any l.toArray listed).contains i = true) (hg : Gv P env R (Oper.mk (some d) op ty pos af none) x)
  (h : AAnyR P E l Q fuel (listed.setIfInBounds i true) (aupd env d x) R Om) : AAnyR P E l Q (fuel + 1) listed env R Om := fun I F ρ w Lr h1 hLr h2 => by
 obtain ⟨v, hv, hrun⟩ := hg I Lr E ρ h1 hLr
 exact AnyV.takeK hi hs hf hr rfl h2.here (.inr h2.here) (fun w ⟨J, L', a, b, c⟩ => hrun w J L' a b c) (h I F _ w Lr (h1.upd d hv) hLr h2)
theorem AAnyR.one {i : Nat} {o : Oper} (hi : l[i]? = some o) (hr : Region.ready .any l.toArray listed = [i])
  (h : AOps P E l.toArray (fun env' Om' => AAnyR P E l Q fuel (listed.setIfInBounds i true) env' R Om') [o] env Om) : AAnyR P E l Q (fuel + 1) listed env R Om := fun I F ρ w Lr h1 hLr h2 =>
 AnyV.one hi hr (yz (fun ρ' w' ⟨J, env', Om', a, b, c, d⟩ => by
  have hst : stays I.k Lr E w' := by
   obtain ⟨J', L', h3, h4, h5⟩ := c.here
   exact ⟨J', L', a.k.trans h3, h4, h5⟩
  refine ⟨⟨hst, .inr hst⟩, AnyV.mono ?_ ?_ (fun _ _ => postK.up a) _ _ _ _ (d J F ρ' w' Lr b (hLr.mono a) c)⟩
  ·rintro w ⟨J', L', h3, h4⟩; exact ⟨J', L', a.k.trans h3, h4⟩
  ·rintro w ⟨J', L', h3, h4⟩; exact ⟨J', L', a.k.trans h3, h4⟩) _ _ _ (h I (Lr ++ F) ρ w h1 h2))
theorem AAnyR.done (hr : Region.ready .any l.toArray listed = []) (h : Q env (R ++ Om)) : AAnyR P E l Q fuel listed env R Om := fun I F ρ w Lr h1 hLr h2 =>
 AnyV.done hr ⟨I, env, R ++ Om, .refl _, h1, SLA.together hLr h2, h⟩
end
set_option linter.defProp false
def yd := @AAnyR.takeK
def qn := @AAnyR.one
end Go.Proofs.YtiojekbkamegdaaGreatDoor
