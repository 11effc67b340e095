/- A step of the document's machine, how it begins, and runs. Of programs as they are run. -/
import Derived.Test.YtiojekbkamegdaaGreatDoorLh
import Derived.Test.YtiojekbkamegdaaGreatDoorLt
set_option linter.unusedVariables false
set_option linter.unusedSimpArgs false
set_option linter.unusedSectionVars false
namespace Go.Proofs.YtiojekbkamegdaaGreatDoor
open Go.Proofs.Tryz
section
variable {E : World} {P : Program} {ops : Array Oper} {K : AEnv → OL → Prop} {env : AEnv} {O O' : OL} {rest : List Oper}
variable {d ty : Nat} {pos : String} {af : Array Edge} {x y z : Operand} {t u e : TypeId}
theorem AOps.appendO {ti : TypeInfo} {zv : Value} {k n m i j : Nat} {T2 : TypeId} {cs ds : List AV} {f : Nat → OL} (ht : P.underlying t = some (.slice e)) (hi : P.info? e = some ti) (hz : ti.zero = some zv) (hk : ti.size = k) (hzc : zv.cells.size = k)
  (hx : aev env x = .own i n) (hy : aev env y = .own j m) (hO : ∀ i', Swp O i (.grow k e cs) i' (.grow k e (cs ++ ds)) (f i')) (hj : Has O j (.grow k T2 ds)) (hn : cs.length = n * k) (hm : ds.length = m * k) (hne : ds ≠ []) (hk0 : 0 < k) (hc1 : ds.all qp = true) (hb : (n + m) * ti.bytes ≤ 140737488355328) (hb2 : n + m ≤ 140737488355328)
  (kk : ∀ i', AOps P E ops K rest (aupd env d (.own i' (n + m))) (f i')) :
  AOps P E ops K (Oper.mk (some d) (.call { callee := .builtin .append, args := #[x, y], argTypes := #[t, t] }) ty pos af none :: rest) env O := fun I F ρ w h1 h2 => by
 obtain ⟨htop, L, hL, hS⟩ := id h2
 have h3 := h1.ev x
 rw [hx] at h3
 obtain ⟨b, cap, e1, ex⟩ := h3
 have h4 := h1.ev y
 rw [hy] at h4
 obtain ⟨b4, c4, e4, ey⟩ := h4
 obtain ⟨b2, c2, us2, junk, e5, hus2, hmem⟩ := hj.grow hL hne
 rw [e4] at e5
 simp only [Option.some.injEq, Prod.mk.injEq] at e5
 obtain ⟨rfl, rfl⟩ := e5
 obtain ⟨j', hj'⟩ := h2.name
 obtain ⟨A, B, hp, ⟨b', cap', n', us, e2, hus, huc, hown⟩, hback⟩ := (hO j').rep hL
 simp only at e2
 rw [e1] at e2
 simp only [Option.some.injEq, Prod.mk.injEq] at e2
 obtain ⟨rfl, rfl⟩ := e2
 have hnn : n' = n := by
  have h5 := hown.1
  have h6 := hus.length
  have : n' * k = n * k := by omega
  exact Nat.eq_of_mul_eq_mul_right hk0 this
 subst hnn
 have hS2 : SL I.k (A ++ (B ++ F)) E w := hS.perm (by rw [← qs]; exact (hp.append_right F).symm)
 have hmem2 : (b2, Obj.cells (us2 ++ junk).toArray T2 (0, 0)) ∈ A ++ (B ++ F) := by rw [← qs]; exact List.mem_append_left _ (hp.mem_iff.1 hmem)
 have hsrc : Src I.k (A ++ (B ++ F)) k (some ⟨b2, 0, none⟩) m us2 := ⟨by rw [hus2.length, hm], hus2.cell1 hc1, .inr ⟨_, rfl, fun q u hq => ⟨b2, 0, rfl, .inr ⟨_, _, _, hmem2, by
  rw [Nat.zero_add, List.getElem?_toArray, List.getElem?_append_left (List.getElem?_eq_some_iff.1 hq).1]; exact hq⟩⟩⟩⟩
 refine Ops.append ht hi hz hk hzc ex ey hS2 hown hsrc hb hb2 fun a' c' A' w' h5 h6 h7 => ?_
 have hb' : ∃ b'', a' = adr b'' := by
  rcases h5.2.2 with ⟨e, _⟩ | ⟨b'', junk, e, _⟩
  ·exact ⟨none, e⟩
  ·exact ⟨some b'', e⟩
 obtain ⟨b'', rfl⟩ := hb'
 obtain ⟨J, ek, hle, e3, htop'⟩ := hj' (b'', c')
 obtain ⟨L', h8, h9⟩ := hback hle (A' := A') ⟨b'', c', _, us ++ us2, e3, qe hle _ _ (hus.append hus2), (by
  intro u hu
  rcases List.mem_append.1 hu with hu | hu
  ·exact huc u hu
  ·exact hus2.cell1 hc1 u hu), h5⟩
 exact yz (fun _ _ => postK.up hle) _ _ _ (kk j' J F _ _ ((h1.mono hle).upd d ⟨b'', c', e3, rfl⟩) ⟨htop', L', h8, by rw [ek]; exact h6.perm (by rw [← qs]; exact h9.append_right F)⟩)
end
end Go.Proofs.YtiojekbkamegdaaGreatDoor
namespace Go.Proofs.YtiojekbkamegdaaGreatDoor
open Go.Proofs.Tryz
section
variable {E : World} {P : Program} {ops : Array Oper} {K : AEnv → OL → Prop} {env : AEnv} {O O' : OL} {rest : List Oper}
variable {d ty : Nat} {pos : String} {af : Array Edge} {x y z : Operand} {t u e : TypeId}
theorem AOps.appendOZ {ti : TypeInfo} {zv : Value} {k n m i j : Nat} {T2 : TypeId} {cs ds : List AV} {f : Nat → OL} (ht : P.underlying t = some (.slice e)) (hi : P.info? e = some ti) (hz : ti.zero = some zv) (hk : ti.size = k) (hzc : zv.cells.size = k)
  (hx : aev env x = .own i n) (hy : aev env y = .own j m) (hO : ∀ i', Swp O i (.grow k e cs) i' (.grow k e (cs ++ ds)) (f i')) (hj : Has O j (.grow k T2 ds)) (hn : cs.length = n * k) (hm : ds.length = m * k) (hk0 : 0 < k) (hc1 : ds.all qp = true) (hb : (n + m) * ti.bytes ≤ 140737488355328) (hb2 : n + m ≤ 140737488355328)
  (kk : ∀ i', AOps P E ops K rest (aupd env d (.own i' (n + m))) (f i')) :
  AOps P E ops K (Oper.mk (some d) (.call { callee := .builtin .append, args := #[x, y], argTypes := #[t, t] }) ty pos af none :: rest) env O := by
 by_cases hne : ds = []
 ·subst hne
  have hm0 : m = 0 := by
   have : m * k = 0 := hm.symm
   rcases Nat.mul_eq_zero.1 this with h | h
   ·exact h
   ·omega
  subst hm0
  intro I F ρ w h1 h2
  obtain ⟨htop, L, hL, hS⟩ := id h2
  have h3 := h1.ev x
  rw [hx] at h3
  obtain ⟨b, cap, e1, ex⟩ := h3
  have h4 := h1.ev y
  rw [hy] at h4
  obtain ⟨b4, c4, e4, ey⟩ := h4
  obtain ⟨j', hj'⟩ := h2.name
  obtain ⟨A, B, hp, ⟨b', cap', n', us, e2, hus, huc, hown⟩, hback⟩ := (hO j').rep hL
  simp only at e2
  rw [e1] at e2
  simp only [Option.some.injEq, Prod.mk.injEq] at e2
  obtain ⟨rfl, rfl⟩ := e2
  have hnn : n' = n := by
   have h5 := hown.1
   have h6 := hus.length
   have : n' * k = n * k := by omega
   exact Nat.eq_of_mul_eq_mul_right hk0 this
  subst hnn
  have hS2 : SL I.k (A ++ (B ++ F)) E w := hS.perm (by rw [← qs]; exact (hp.append_right F).symm)
  have hsrc : Src I.k (A ++ (B ++ F)) k (adr b4) 0 [] := ⟨by simp, by simp, by cases b4 with | none => exact .inl ⟨rfl, rfl⟩ | some b4 => exact .inr ⟨_, rfl, by simp⟩⟩
  refine Ops.append ht hi hz hk hzc ex ey hS2 hown hsrc hb hb2 fun a' c' A' w' h5 h6 h7 => ?_
  have hb' : ∃ b'', a' = adr b'' := by
   rcases h5.2.2 with ⟨e, _⟩ | ⟨b'', junk, e, _⟩
   ·exact ⟨none, e⟩
   ·exact ⟨some b'', e⟩
  obtain ⟨b'', rfl⟩ := hb'
  obtain ⟨J, ek, hle, e3, htop'⟩ := hj' (b'', c')
  obtain ⟨L', h8, h9⟩ := hback hle (A' := A') ⟨b'', c', _, us ++ [], e3, qe hle _ _ (hus.append rfl), (by rw [List.append_nil]; exact huc), h5⟩
  exact yz (fun _ _ => postK.up hle) _ _ _ (kk j' J F _ _ ((h1.mono hle).upd d ⟨b'', c', e3, rfl⟩) ⟨htop', L', h8, by rw [ek]; exact h6.perm (by rw [← qs]; exact h9.append_right F)⟩)
 ·exact AOps.appendO ht hi hz hk hzc hx hy hO hj hn hm hne hk0 hc1 hb hb2 kk
end
end Go.Proofs.YtiojekbkamegdaaGreatDoor
namespace Go.Proofs.YtiojekbkamegdaaGreatDoor
open Go.Proofs.Tryz
open Go.Proofs Go.Lib Go.Shelf Go.RowKit
variable {E : World}
set_option maxRecDepth 20000
def phiFi (fr ar : List Int) (b : Int) : Int := ((fr.zip ar).find? fun q => decide (q.1 = b)).elim (-1) (·.2)
theorem phiFi_at {fr ar : List Int} {b : Int} {j : Nat} (h : j < fr.length) (h2 : j < ar.length) : phiFi (fr.drop j) (ar.drop j) b = if fr[j] = b then ar[j] else phiFi (fr.drop (j + 1)) (ar.drop (j + 1)) b := by
 rw [List.drop_eq_getElem_cons h, List.drop_eq_getElem_cons h2]
 unfold phiFi
 rw [List.zip_cons_cons, List.find?_cons]
 by_cases e : fr[j] = b
 ·rw [if_pos e]; simp [e]
 ·rw [if_neg e]; simp [e]
def gotL (l : List PPhi) (b : Int) (k : Nat) : List Int := (l.take k).map fun p => phiAt p b
theorem got_push {l : List PPhi} {b : Int} {k : Nat} (h : k < l.length) : gotL l b k ++ [phiAt l[k] b] = gotL l b (k + 1) := by
 unfold gotL; rw [qr h, w2]; rfl
theorem got_get {l : List PPhi} {b : Int} {k : Nat} (h : k < l.length) : (gotL l b l.length)[k]? = some (phiAt l[k] b) := by
 unfold gotL; rw [qv, qy, qq h]; rfl
theorem got_len {l : List PPhi} {b : Int} {k : Nat} (h : k ≤ l.length) : (gotL l b k).length = k := by
 unfold gotL; rw [qx, w3]; omega
def toG (l : List PPhi) (s : GS) (k : Nat) : GS := (l.take k).foldl (assign s) s
theorem to_push {l : List PPhi} {s : GS} {k : Nat} (h : k < l.length) : toG l s (k + 1) = assign s (toG l s k) l[k] := by
 unfold toG; rw [qr h, List.foldl_append]; rfl
theorem to_arrays (l : List PPhi) (s : GS) (k : Nat) : (toG l s k).arrays = s.arrays := by
 unfold toG
 suffices h : ∀ (l : List PPhi) (t : GS), (l.foldl (assign s) t).arrays = t.arrays from h _ s
 intro l
 induction l with
 | nil => intro t; rfl
 | cons p l ih => intro t; exact ih _
set_option maxHeartbeats 16000000 in
theorem wenter_spec (f : PFunc) (iw ja jb jc jo jt : Nat) (ids : List Nat) (s : GS) (to : Int) (hids : ids.length = s.arrays.length) (hg : GInv f s) (hR : RunP f) (hv : f.vars.length ≤ 1000) (hs : small f) (h0 : 0 ≤ to) (h1 : to < f.blocks.length) : ACall prog E 106 [.po iw 0, .int .i64 to] (wO f iw ja jb jc jo jt ids s) (fun y O => ids.length = (enterG f s to).arrays.length ∧ y = .tup [] ∧ O = wO f iw ja jb jc jo jt ids (enterG f s to)) := by
 have hB := blk_get h0 h1
 have hBm := w1 hB
 have hph := hR.phis _ hBm
 have hsm := (hs.2.2.2.2 _ hBm).2.1
 have hsp := (hs.2.2.2.2 _ hBm).2.2.2.1
 obtain ⟨B, hBe⟩ : ∃ B, blkG f to = B := ⟨_, rfl⟩
 have hgo : enterG f s to = if B.phis.all (fun p => decide (0 ≤ phiAt p s.blk)) = true then goG (toG B.phis s B.phis.length) to else stopG (goG s to) 2 := by unfold enterG toG; rw [hBe, qv]
 rw [hBe] at hB hph hsm hsp
 have hl1 := hg.li
 have hl2 := hg.lb
 have hl3 := hg.la
 refine zp func106 Z (by decide) Z<|zSr<|z8 (zAr Z)<|z2<|adopt_wp (t := 4) (k := 1) (T := 3) Z<|fun i4 => zw (za (zb .t1))<|zc<|zSr<|zVzMp Z<|zVGvnilCheckO Z<|z8 (ze j8 Z jj (by decide) Z Z)<|z8 (ze jh Z Z1 (by decide) Z Z)<|z8 (zl (c := .fro _ _) Z8 Z ⟨_, .head⟩ Z)<|zVzMi Z<|z8 (zIM to.toNat jl jw Z Z (by omega) hB)<|zVzFF je Z Zn Z Z<|zVzLf Y4 Z<|zVGvlenM jx Z<|zVzMi Z<|z2<|zi<|y7 (γ := Nat × Nat) [0, 1, 22, 23] (fun g => [(24, .int .i64 g.1), (4, .own g.2 g.1)]) (fun g => (iw, .cells 100 (wCe f ja jb jc jo jt s)) :: (g.2, .grow 1 3 (cI (gotL B.phis s.blk g.1))) :: wR ja jb jc jo jt ids s) (fun g => g.1 ≤ B.phis.length ∧ ∀ p ∈ B.phis.take g.1, 0 ≤ phiAt p s.blk) (fun g => B.phis.length - g.1) (0, i4) zR2 zLe (⟨qt _, fun p hp => by simp at hp⟩) ?_
 rintro ⟨k, i4⟩ ⟨hk, hok⟩
 try dsimp only at *
 refine zSr<|zVGvlss Z Z<|z2<|zc<|zo Z (fun ck=>?_) (fun ck=>?_)
 ·have hk2 : k < B.phis.length := by simp at ck; omega
  obtain ⟨p, hp⟩ : ∃ p, B.phis[k] = p := ⟨_, rfl⟩
  have hpg : B.phis[k]? = some p := by rw [qq hk2, hp]
  have hpm := w1 hpg
  obtain ⟨_, hal, _, _, _⟩ := hph p hpm
  have hfl := (hsp p hpm).2
  refine zf<|zc<|zi<|zSr<|z8 (zIM k jx Z0 Z Z Z hpg)<|zVGvloadWF Yf Z0 Z Z<|zt (cs := [.int .i64 0, .raw (.slice none 0 0), .raw (.slice none 0 0)]) Zk Z Z<|fun i6 => zn Z0 Z Z Z Z Z Z .head Z<|zd (yf (t := 6) Z .head)<|z2<|zSr<|zVzAi Z<|z2<|zc<|zSr<|zVzFF js Z jd Z Z<|zVzLf jk Z<|zVGvlenM j6 Z<|z8 (Gv.sub Z Z (by unfold I64; omega))<|zVzAi Z<|z2<|zi<|y7 (γ := Nat) [0, 1, 4, 6, 22, 23, 24] (fun m => [(8, .int .i64 ((m : Int) - 1)), (7, .int .i64 (phiFi (p.from_.drop m) (p.args.drop m) s.blk))]) (fun m => (iw, .cells 100 (wCe f ja jb jc jo jt s)) :: (i4, .grow 1 3 (cI (gotL B.phis s.blk k))) :: wR ja jb jc jo jt ids s) (fun m => m ≤ p.from_.length) (fun m => m) p.from_.length ⟨congrArg (AV.int .i64) (by simp), congrArg (AV.int .i64) (by rw [List.drop_length]; rfl), trivial⟩ zLe (Nat.le_refl _) ?_
  rintro m hm
  refine zc<|zSr<|zVzMi Z<|z8 (qd Z Z)<|z2<|zo Z (fun c8=>?_) (fun c8=>?_)
  ·have hm1 : m - 1 < p.from_.length := by omega
   have hm2 : m - 1 < p.args.length := by omega
   have hst := phiFi_at (b := s.blk) hm1 hm2
   rw [show m - 1 + 1 = m by omega] at hst
   refine zf<|zc<|zi<|zc<|zr (fun j => false) (by kernel_rfl) Z (zm (.r (.rest _)))<|zTk 0 Z (zFF js Z jd Z Z)<|zTk 1 Z (zLf jk Z)<|zTk 2 Z (zMi Z)<|zTk 3 Z (zIM (m - 1) j6 j7 Z Z (by omega) (qq hm1))<|zTk 4 Z (zLi j9 Z)<|zTk 5 Z (zMp Z)<|zTk 6 Z (y4 Z)<|zTk 7 Z (ze j8 Z j7 (by decide) Z Z)<|zTk 8 Z (zl (c := .int _ _) j9 Z ⟨_, .head⟩ Z)<|zTk 9 Z (Gv.eqlI Z Z)<|zDn<|zo Z (fun ce=>?_) (fun ce=>?_)
   ·have ce : p.from_[m - 1] = s.blk := by simpa using ce
    rw [if_pos ce] at hst
    refine zRg<|zVzFF js Z jd Z Z<|zVzLf jk Z<|zVzMi Z<|z8 (zIM (m - 1) j6 j7 Z Z (by omega) (qq hm2))<|zVzLi j9 Z<|zVzAi Z<|z2<|zRg<|zVzMi Z<|z8 (Gv.sub Z Z (by unfold I64; omega))<|zVzAi Z<|z2 ?_
    exact ⟨m - 1, zR7, ⟨congrArg (AV.int .i64) (by omega), congrArg (AV.int .i64) hst.symm, trivial⟩, zLe, by omega, by omega⟩
   ·have ce : ¬ p.from_[m - 1] = s.blk := by simpa using ce
    rw [if_neg ce] at hst
    refine zf<|zRg<|zVzMi Z<|z8 (Gv.sub Z Z (by unfold I64; omega))<|zVzAi Z<|z2 ?_
    exact ⟨m - 1, zR7, ⟨congrArg (AV.int .i64) (by omega), congrArg (AV.int .i64) hst.symm, trivial⟩, zLe, by omega, by omega⟩
  ·obtain rfl : m = 0 := by omega
   have hat : phiFi (p.from_.drop 0) (p.args.drop 0) s.blk = phiAt p s.blk := rfl
   rw [hat]
   refine y6<|zc<|zSr<|zVzMi Z<|zVGvlss Z Z<|z2<|zo Z (fun cn=>?_) (fun cn=>?_)
   ·have cn : phiAt p s.blk < 0 := by simpa using cn
    have hE : enterG f s to = stopG (goG s to) 2 := by
     rw [hgo, if_neg]
     intro h
     have := of_decide_eq_true (List.all_eq_true.1 h p hpm)
     omega
    refine zw (GStep.drop .t1)<|zSr<|zVzMp Z<|zVzMp Z<|zVzMi Z<|zVGvnilCheckO Z<|z8 (ze j8 Z j7 (by decide) Z Z)<|yp (l := [_]) (new := [_, _, _, _, _, _, _, _, _, _, _, _, _, _, _, _, _, _, _, _, _, _, _]) j7 Z Z Z Z Z Z .head Z Z<|zVGvnilCheckO Z<|z8 (ze j8 Z j7 (by decide) Z Z)<|yp (l := [_]) (new := [_, _, _, _, _, _, _, _, _, _, _, _, _, _, _, _, _, _, _, _, _, _, _]) j7 Z Z Z Z Z Z .head Z Z<|z2<|zSr<|zVzMp Z<|zy Z (zm (.l (.l (.l (.l (.l (.l (.l (.rest _))))))))) (wend_spec f iw ja jb jc jo jt ids (goG s to) 2) ?_
    rintro r61 O61 ⟨rfl, rfl⟩
    refine z2<|zj<|yv ?_
    exact ⟨by rw [hE]; exact hids, rfl, by rw [hE]; rfl⟩
   ·have cn : 0 ≤ phiAt p s.blk := by simpa using cn
    refine zf<|zRg<|z8 (zMo Z)<|zVzMi Z<|zx (rows := [[_]]) ps23_1 Z Z Z Z Z<|ym (k := 1) j6 Zr Z Z Z Z Z (fun _ => .t1) (by rw [cI_len, got_len hk]; omega) (by decide) Z (by show (_ + 1) * 8 ≤ _; omega) (by show _ + 1 ≤ _; omega)<|fun i65 => z8 (zAo Z)<|z2<|zRg<|zVzAd Z Z<|zVzMi Z<|z2 ?_
    exact ⟨(k + 1, i65), zR4, zR2, ⟨_, (.refl _), by rw [← got_push hk2, hp, ← cI_app]; rfl⟩, ⟨hk2, fun q hq => by rw [qr hk2] at hq; rcases List.mem_append.1 hq with hq | hq; exact hok q hq; rw [List.mem_singleton.1 hq, hp]; exact cn⟩, by dsimp only; omega⟩
 ·obtain rfl : k = B.phis.length := by simp at ck; omega
  rw [qv] at hok
  have hE : enterG f s to = goG (toG B.phis s B.phis.length) to := by
   rw [hgo, if_pos (List.all_eq_true.2 fun p hp => w4 (hok p hp))]
  have hT : ∀ k, GInv f (toG B.phis s k) := fun k => hg.assigns _ s hg rfl fun p hp => ⟨hph p (List.mem_of_mem_take hp), hok p (List.mem_of_mem_take hp)⟩
  refine y6<|zc<|yn (γ := Nat × Nat × Nat) [0, 1, 4] (fun g => [(9, .own g.1 f.vars.length), (10, .own g.2.1 f.vars.length), (11, .own g.2.2 f.vars.length)]) (fun g => (iw, .cells 100 (wCe f ja jb jc jo jt s)) :: (g.1, .grow 1 2 (cI s.ints)) :: (g.2.1, .grow 1 4 (cB s.bools)) :: (g.2.2, .grow 1 3 (cI s.arrs)) :: (i4, .grow 1 3 (cI (gotL B.phis s.blk B.phis.length))) :: wR ja jb jc jo jt ids s) (fun g => True) ?_ (fun _ _ h => h) ?_
  ·refine zr (fun j => false) (by kernel_rfl) Z (zm (.r (.rest _)))<|zTk 1 Z (zMp Z)<|zTk 2 Z (y4 Z)<|zTk 3 Z (ze j8 Z Zc (by decide) Z Z)<|zTk 4 Z (zl (c := .own _ _) Zm Z ⟨_, .head⟩ Z)<|zTk 7 Z (zMp Z)<|zTk 8 Z (y4 Z)<|zTk 9 Z (ze j8 Z Yp (by decide) Z Z)<|zTk 10 Z (zl (c := .own _ _) X1 Z ⟨_, .head⟩ Z)<|zTk 13 Z (zMp Z)<|zTk 14 Z (y4 Z)<|zTk 15 Z (ze j8 Z jd (by decide) Z Z)<|zTk 16 Z (zl (c := .own _ _) jk Z ⟨_, .head⟩ Z)<|qg (i := 0) (j := 6) (m := 12) Z Z Z (by kernel_rfl) ?_ ?_ ?_
   ·refine yh (k := 1) jp Yn<|fun i67 => z2<|qg (i := 5) (j := 6) (m := 12) Z Z Z (by kernel_rfl) ?_ ?_ ?_
    ·refine AOps.appendOZ (k := 1) jp Yn Z Z Z Z Z (fun _ => .head) ⟨_, .t2⟩ Z (by rw [cI_len, hl1]; omega) (by decide) (cI_cell _) (by show (_ + _) * 8 ≤ _; omega) (by omega)<|fun i72 => z2<|yi (i := 6) (j := 12) Z Z (by kernel_rfl) ?_ ?_
     ·refine yh (k := 1) jm Yb<|fun i73 => z2<|yi (i := 11) (j := 12) Z Z (by kernel_rfl) ?_ ?_
      ·refine AOps.appendOZ (k := 1) jm Yb Z Z Z Z Z (fun _ => .head) ⟨_, .t4⟩ Z (by rw [cB_len, hl2]; omega) (by decide) (cB_cell _) (by show (_ + _) * 1 ≤ _; omega) (by omega)<|fun i78 => z2<|zOn 12 Z<|yh (k := 1) j6 Zr<|fun i79 => z2<|zOn 17 Z<|AOps.appendOZ (k := 1) j6 Zr Z Z Z Z Z (fun _ => .head) ⟨_, .t6⟩ Z (by rw [cI_len, hl3]; omega) (by decide) (cI_cell _) (by show (_ + _) * 8 ≤ _; omega) (by omega)<|fun i84 => zd (za (zb .head))<|zd (za (zb .t1))<|zd (za (zb .t2))<|z2<|zTk 18 Z (zAo Z)<|zTk 19 Z (zAo Z)<|zTk 20 Z (zAo Z)<|zDn ?_
       exact ⟨(i72, i78, i84), zR3, ⟨congrArg (AV.own i72) (Nat.zero_add _), congrArg (AV.own i78) (Nat.zero_add _), congrArg (AV.own i84) (Nat.zero_add _), trivial⟩, zLe, trivial⟩
      ·refine yh (k := 1) j6 Zr<|fun i79 => z2<|zOn 11 Z<|AOps.appendOZ (k := 1) jm Yb Z Z Z Z Z (fun _ => .t1) ⟨_, .t5⟩ Z (by rw [cB_len, hl2]; omega) (by decide) (cB_cell _) (by show (_ + _) * 1 ≤ _; omega) (by omega)<|fun i78 => z2<|zOn 17 Z<|AOps.appendOZ (k := 1) j6 Zr Z Z Z Z Z (fun _ => .head) ⟨_, .t6⟩ Z (by rw [cI_len, hl3]; omega) (by decide) (cI_cell _) (by show (_ + _) * 8 ≤ _; omega) (by omega)<|fun i84 => zd (za (zb .head))<|zd (za (zb .t1))<|zd (za (zb .t2))<|z2<|zTk 18 Z (zAo Z)<|zTk 19 Z (zAo Z)<|zTk 20 Z (zAo Z)<|zDn ?_
       exact ⟨(i72, i78, i84), zR3, ⟨congrArg (AV.own i72) (Nat.zero_add _), congrArg (AV.own i78) (Nat.zero_add _), congrArg (AV.own i84) (Nat.zero_add _), trivial⟩, zLe, trivial⟩
     ·refine yh (k := 1) j6 Zr<|fun i79 => z2<|zOn 6 Z<|yh (k := 1) jm Yb<|fun i73 => z2<|zOn 11 Z<|AOps.appendOZ (k := 1) jm Yb Z Z Z Z Z (fun _ => .head) ⟨_, .t5⟩ Z (by rw [cB_len, hl2]; omega) (by decide) (cB_cell _) (by show (_ + _) * 1 ≤ _; omega) (by omega)<|fun i78 => z2<|zOn 17 Z<|AOps.appendOZ (k := 1) j6 Zr Z Z Z Z Z (fun _ => .t1) ⟨_, .t6⟩ Z (by rw [cI_len, hl3]; omega) (by decide) (cI_cell _) (by show (_ + _) * 8 ≤ _; omega) (by omega)<|fun i84 => zd (za (zb .t1))<|zd (za (zb .t1))<|zd (za (zb .t2))<|z2<|zTk 18 Z (zAo Z)<|zTk 19 Z (zAo Z)<|zTk 20 Z (zAo Z)<|zDn ?_
      exact ⟨(i72, i78, i84), zR3, ⟨congrArg (AV.own i72) (Nat.zero_add _), congrArg (AV.own i78) (Nat.zero_add _), congrArg (AV.own i84) (Nat.zero_add _), trivial⟩, zLe, trivial⟩
    ·refine yh (k := 1) jm Yb<|fun i73 => z2<|yi (i := 5) (j := 12) Z Z (by kernel_rfl) ?_ ?_
     ·refine AOps.appendOZ (k := 1) jp Yn Z Z Z Z Z (fun _ => .t1) ⟨_, .t3⟩ Z (by rw [cI_len, hl1]; omega) (by decide) (cI_cell _) (by show (_ + _) * 8 ≤ _; omega) (by omega)<|fun i72 => z2<|yi (i := 11) (j := 12) Z Z (by kernel_rfl) ?_ ?_
      ·refine AOps.appendOZ (k := 1) jm Yb Z Z Z Z Z (fun _ => .head) ⟨_, .t4⟩ Z (by rw [cB_len, hl2]; omega) (by decide) (cB_cell _) (by show (_ + _) * 1 ≤ _; omega) (by omega)<|fun i78 => z2<|zOn 12 Z<|yh (k := 1) j6 Zr<|fun i79 => z2<|zOn 17 Z<|AOps.appendOZ (k := 1) j6 Zr Z Z Z Z Z (fun _ => .head) ⟨_, .t6⟩ Z (by rw [cI_len, hl3]; omega) (by decide) (cI_cell _) (by show (_ + _) * 8 ≤ _; omega) (by omega)<|fun i84 => zd (za (zb .head))<|zd (za (zb .t1))<|zd (za (zb .t2))<|z2<|zTk 18 Z (zAo Z)<|zTk 19 Z (zAo Z)<|zTk 20 Z (zAo Z)<|zDn ?_
       exact ⟨(i72, i78, i84), zR3, ⟨congrArg (AV.own i72) (Nat.zero_add _), congrArg (AV.own i78) (Nat.zero_add _), congrArg (AV.own i84) (Nat.zero_add _), trivial⟩, zLe, trivial⟩
      ·refine yh (k := 1) j6 Zr<|fun i79 => z2<|zOn 11 Z<|AOps.appendOZ (k := 1) jm Yb Z Z Z Z Z (fun _ => .t1) ⟨_, .t5⟩ Z (by rw [cB_len, hl2]; omega) (by decide) (cB_cell _) (by show (_ + _) * 1 ≤ _; omega) (by omega)<|fun i78 => z2<|zOn 17 Z<|AOps.appendOZ (k := 1) j6 Zr Z Z Z Z Z (fun _ => .head) ⟨_, .t6⟩ Z (by rw [cI_len, hl3]; omega) (by decide) (cI_cell _) (by show (_ + _) * 8 ≤ _; omega) (by omega)<|fun i84 => zd (za (zb .head))<|zd (za (zb .t1))<|zd (za (zb .t2))<|z2<|zTk 18 Z (zAo Z)<|zTk 19 Z (zAo Z)<|zTk 20 Z (zAo Z)<|zDn ?_
       exact ⟨(i72, i78, i84), zR3, ⟨congrArg (AV.own i72) (Nat.zero_add _), congrArg (AV.own i78) (Nat.zero_add _), congrArg (AV.own i84) (Nat.zero_add _), trivial⟩, zLe, trivial⟩
     ·refine yh (k := 1) j6 Zr<|fun i79 => z2<|zOn 5 Z<|AOps.appendOZ (k := 1) jp Yn Z Z Z Z Z (fun _ => .t2) ⟨_, .t4⟩ Z (by rw [cI_len, hl1]; omega) (by decide) (cI_cell _) (by show (_ + _) * 8 ≤ _; omega) (by omega)<|fun i72 => z2<|zOn 11 Z<|AOps.appendOZ (k := 1) jm Yb Z Z Z Z Z (fun _ => .t1) ⟨_, .t5⟩ Z (by rw [cB_len, hl2]; omega) (by decide) (cB_cell _) (by show (_ + _) * 1 ≤ _; omega) (by omega)<|fun i78 => z2<|zOn 17 Z<|AOps.appendOZ (k := 1) j6 Zr Z Z Z Z Z (fun _ => .head) ⟨_, .t6⟩ Z (by rw [cI_len, hl3]; omega) (by decide) (cI_cell _) (by show (_ + _) * 8 ≤ _; omega) (by omega)<|fun i84 => zd (za (zb .head))<|zd (za (zb .t1))<|zd (za (zb .t2))<|z2<|zTk 18 Z (zAo Z)<|zTk 19 Z (zAo Z)<|zTk 20 Z (zAo Z)<|zDn ?_
      exact ⟨(i72, i78, i84), zR3, ⟨congrArg (AV.own i72) (Nat.zero_add _), congrArg (AV.own i78) (Nat.zero_add _), congrArg (AV.own i84) (Nat.zero_add _), trivial⟩, zLe, trivial⟩
    ·refine yh (k := 1) j6 Zr<|fun i79 => z2<|yi (i := 5) (j := 6) Z Z (by kernel_rfl) ?_ ?_
     ·refine AOps.appendOZ (k := 1) jp Yn Z Z Z Z Z (fun _ => .t1) ⟨_, .t3⟩ Z (by rw [cI_len, hl1]; omega) (by decide) (cI_cell _) (by show (_ + _) * 8 ≤ _; omega) (by omega)<|fun i72 => z2<|zOn 6 Z<|yh (k := 1) jm Yb<|fun i73 => z2<|zOn 11 Z<|AOps.appendOZ (k := 1) jm Yb Z Z Z Z Z (fun _ => .head) ⟨_, .t5⟩ Z (by rw [cB_len, hl2]; omega) (by decide) (cB_cell _) (by show (_ + _) * 1 ≤ _; omega) (by omega)<|fun i78 => z2<|zOn 17 Z<|AOps.appendOZ (k := 1) j6 Zr Z Z Z Z Z (fun _ => .t1) ⟨_, .t6⟩ Z (by rw [cI_len, hl3]; omega) (by decide) (cI_cell _) (by show (_ + _) * 8 ≤ _; omega) (by omega)<|fun i84 => zd (za (zb .t1))<|zd (za (zb .t1))<|zd (za (zb .t2))<|z2<|zTk 18 Z (zAo Z)<|zTk 19 Z (zAo Z)<|zTk 20 Z (zAo Z)<|zDn ?_
      exact ⟨(i72, i78, i84), zR3, ⟨congrArg (AV.own i72) (Nat.zero_add _), congrArg (AV.own i78) (Nat.zero_add _), congrArg (AV.own i84) (Nat.zero_add _), trivial⟩, zLe, trivial⟩
     ·refine yh (k := 1) jm Yb<|fun i73 => z2<|zOn 5 Z<|AOps.appendOZ (k := 1) jp Yn Z Z Z Z Z (fun _ => .t2) ⟨_, .t4⟩ Z (by rw [cI_len, hl1]; omega) (by decide) (cI_cell _) (by show (_ + _) * 8 ≤ _; omega) (by omega)<|fun i72 => z2<|zOn 11 Z<|AOps.appendOZ (k := 1) jm Yb Z Z Z Z Z (fun _ => .head) ⟨_, .t5⟩ Z (by rw [cB_len, hl2]; omega) (by decide) (cB_cell _) (by show (_ + _) * 1 ≤ _; omega) (by omega)<|fun i78 => z2<|zOn 17 Z<|AOps.appendOZ (k := 1) j6 Zr Z Z Z Z Z (fun _ => .t1) ⟨_, .t6⟩ Z (by rw [cI_len, hl3]; omega) (by decide) (cI_cell _) (by show (_ + _) * 8 ≤ _; omega) (by omega)<|fun i84 => zd (za (zb .t1))<|zd (za (zb .t1))<|zd (za (zb .t2))<|z2<|zTk 18 Z (zAo Z)<|zTk 19 Z (zAo Z)<|zTk 20 Z (zAo Z)<|zDn ?_
      exact ⟨(i72, i78, i84), zR3, ⟨congrArg (AV.own i72) (Nat.zero_add _), congrArg (AV.own i78) (Nat.zero_add _), congrArg (AV.own i84) (Nat.zero_add _), trivial⟩, zLe, trivial⟩
   ·refine yh (k := 1) jm Yb<|fun i73 => z2<|yi (i := 0) (j := 12) Z Z (by kernel_rfl) ?_ ?_
    ·refine yh (k := 1) jp Yn<|fun i67 => z2<|yi (i := 5) (j := 12) Z Z (by kernel_rfl) ?_ ?_
     ·refine AOps.appendOZ (k := 1) jp Yn Z Z Z Z Z (fun _ => .head) ⟨_, .t3⟩ Z (by rw [cI_len, hl1]; omega) (by decide) (cI_cell _) (by show (_ + _) * 8 ≤ _; omega) (by omega)<|fun i72 => z2<|yi (i := 11) (j := 12) Z Z (by kernel_rfl) ?_ ?_
      ·refine AOps.appendOZ (k := 1) jm Yb Z Z Z Z Z (fun _ => .t1) ⟨_, .t4⟩ Z (by rw [cB_len, hl2]; omega) (by decide) (cB_cell _) (by show (_ + _) * 1 ≤ _; omega) (by omega)<|fun i78 => z2<|zOn 12 Z<|yh (k := 1) j6 Zr<|fun i79 => z2<|zOn 17 Z<|AOps.appendOZ (k := 1) j6 Zr Z Z Z Z Z (fun _ => .head) ⟨_, .t6⟩ Z (by rw [cI_len, hl3]; omega) (by decide) (cI_cell _) (by show (_ + _) * 8 ≤ _; omega) (by omega)<|fun i84 => zd (za (zb .head))<|zd (za (zb .t2))<|zd (za (zb .t2))<|z2<|zTk 18 Z (zAo Z)<|zTk 19 Z (zAo Z)<|zTk 20 Z (zAo Z)<|zDn ?_
       exact ⟨(i72, i78, i84), zR3, ⟨congrArg (AV.own i72) (Nat.zero_add _), congrArg (AV.own i78) (Nat.zero_add _), congrArg (AV.own i84) (Nat.zero_add _), trivial⟩, zLe, trivial⟩
      ·refine yh (k := 1) j6 Zr<|fun i79 => z2<|zOn 11 Z<|AOps.appendOZ (k := 1) jm Yb Z Z Z Z Z (fun _ => .t2) ⟨_, .t5⟩ Z (by rw [cB_len, hl2]; omega) (by decide) (cB_cell _) (by show (_ + _) * 1 ≤ _; omega) (by omega)<|fun i78 => z2<|zOn 17 Z<|AOps.appendOZ (k := 1) j6 Zr Z Z Z Z Z (fun _ => .head) ⟨_, .t6⟩ Z (by rw [cI_len, hl3]; omega) (by decide) (cI_cell _) (by show (_ + _) * 8 ≤ _; omega) (by omega)<|fun i84 => zd (za (zb .head))<|zd (za (zb .t2))<|zd (za (zb .t2))<|z2<|zTk 18 Z (zAo Z)<|zTk 19 Z (zAo Z)<|zTk 20 Z (zAo Z)<|zDn ?_
       exact ⟨(i72, i78, i84), zR3, ⟨congrArg (AV.own i72) (Nat.zero_add _), congrArg (AV.own i78) (Nat.zero_add _), congrArg (AV.own i84) (Nat.zero_add _), trivial⟩, zLe, trivial⟩
     ·refine yh (k := 1) j6 Zr<|fun i79 => z2<|zOn 5 Z<|AOps.appendOZ (k := 1) jp Yn Z Z Z Z Z (fun _ => .t1) ⟨_, .t4⟩ Z (by rw [cI_len, hl1]; omega) (by decide) (cI_cell _) (by show (_ + _) * 8 ≤ _; omega) (by omega)<|fun i72 => z2<|zOn 11 Z<|AOps.appendOZ (k := 1) jm Yb Z Z Z Z Z (fun _ => .t2) ⟨_, .t5⟩ Z (by rw [cB_len, hl2]; omega) (by decide) (cB_cell _) (by show (_ + _) * 1 ≤ _; omega) (by omega)<|fun i78 => z2<|zOn 17 Z<|AOps.appendOZ (k := 1) j6 Zr Z Z Z Z Z (fun _ => .head) ⟨_, .t6⟩ Z (by rw [cI_len, hl3]; omega) (by decide) (cI_cell _) (by show (_ + _) * 8 ≤ _; omega) (by omega)<|fun i84 => zd (za (zb .head))<|zd (za (zb .t2))<|zd (za (zb .t2))<|z2<|zTk 18 Z (zAo Z)<|zTk 19 Z (zAo Z)<|zTk 20 Z (zAo Z)<|zDn ?_
      exact ⟨(i72, i78, i84), zR3, ⟨congrArg (AV.own i72) (Nat.zero_add _), congrArg (AV.own i78) (Nat.zero_add _), congrArg (AV.own i84) (Nat.zero_add _), trivial⟩, zLe, trivial⟩
    ·refine yh (k := 1) j6 Zr<|fun i79 => z2<|zOn 0 Z<|yh (k := 1) jp Yn<|fun i67 => z2<|zOn 5 Z<|AOps.appendOZ (k := 1) jp Yn Z Z Z Z Z (fun _ => .head) ⟨_, .t4⟩ Z (by rw [cI_len, hl1]; omega) (by decide) (cI_cell _) (by show (_ + _) * 8 ≤ _; omega) (by omega)<|fun i72 => z2<|zOn 11 Z<|AOps.appendOZ (k := 1) jm Yb Z Z Z Z Z (fun _ => .t2) ⟨_, .t5⟩ Z (by rw [cB_len, hl2]; omega) (by decide) (cB_cell _) (by show (_ + _) * 1 ≤ _; omega) (by omega)<|fun i78 => z2<|zOn 17 Z<|AOps.appendOZ (k := 1) j6 Zr Z Z Z Z Z (fun _ => .t1) ⟨_, .t6⟩ Z (by rw [cI_len, hl3]; omega) (by decide) (cI_cell _) (by show (_ + _) * 8 ≤ _; omega) (by omega)<|fun i84 => zd (za (zb .t1))<|zd (za (zb .t2))<|zd (za (zb .t2))<|z2<|zTk 18 Z (zAo Z)<|zTk 19 Z (zAo Z)<|zTk 20 Z (zAo Z)<|zDn ?_
     exact ⟨(i72, i78, i84), zR3, ⟨congrArg (AV.own i72) (Nat.zero_add _), congrArg (AV.own i78) (Nat.zero_add _), congrArg (AV.own i84) (Nat.zero_add _), trivial⟩, zLe, trivial⟩
   ·refine yh (k := 1) j6 Zr<|fun i79 => z2<|yi (i := 0) (j := 6) Z Z (by kernel_rfl) ?_ ?_
    ·refine yh (k := 1) jp Yn<|fun i67 => z2<|yi (i := 5) (j := 6) Z Z (by kernel_rfl) ?_ ?_
     ·refine AOps.appendOZ (k := 1) jp Yn Z Z Z Z Z (fun _ => .head) ⟨_, .t3⟩ Z (by rw [cI_len, hl1]; omega) (by decide) (cI_cell _) (by show (_ + _) * 8 ≤ _; omega) (by omega)<|fun i72 => z2<|zOn 6 Z<|yh (k := 1) jm Yb<|fun i73 => z2<|zOn 11 Z<|AOps.appendOZ (k := 1) jm Yb Z Z Z Z Z (fun _ => .head) ⟨_, .t5⟩ Z (by rw [cB_len, hl2]; omega) (by decide) (cB_cell _) (by show (_ + _) * 1 ≤ _; omega) (by omega)<|fun i78 => z2<|zOn 17 Z<|AOps.appendOZ (k := 1) j6 Zr Z Z Z Z Z (fun _ => .t2) ⟨_, .t6⟩ Z (by rw [cI_len, hl3]; omega) (by decide) (cI_cell _) (by show (_ + _) * 8 ≤ _; omega) (by omega)<|fun i84 => zd (za (zb .t2))<|zd (za (zb .t1))<|zd (za (zb .t2))<|z2<|zTk 18 Z (zAo Z)<|zTk 19 Z (zAo Z)<|zTk 20 Z (zAo Z)<|zDn ?_
      exact ⟨(i72, i78, i84), zR3, ⟨congrArg (AV.own i72) (Nat.zero_add _), congrArg (AV.own i78) (Nat.zero_add _), congrArg (AV.own i84) (Nat.zero_add _), trivial⟩, zLe, trivial⟩
     ·refine yh (k := 1) jm Yb<|fun i73 => z2<|zOn 5 Z<|AOps.appendOZ (k := 1) jp Yn Z Z Z Z Z (fun _ => .t1) ⟨_, .t4⟩ Z (by rw [cI_len, hl1]; omega) (by decide) (cI_cell _) (by show (_ + _) * 8 ≤ _; omega) (by omega)<|fun i72 => z2<|zOn 11 Z<|AOps.appendOZ (k := 1) jm Yb Z Z Z Z Z (fun _ => .head) ⟨_, .t5⟩ Z (by rw [cB_len, hl2]; omega) (by decide) (cB_cell _) (by show (_ + _) * 1 ≤ _; omega) (by omega)<|fun i78 => z2<|zOn 17 Z<|AOps.appendOZ (k := 1) j6 Zr Z Z Z Z Z (fun _ => .t2) ⟨_, .t6⟩ Z (by rw [cI_len, hl3]; omega) (by decide) (cI_cell _) (by show (_ + _) * 8 ≤ _; omega) (by omega)<|fun i84 => zd (za (zb .t2))<|zd (za (zb .t1))<|zd (za (zb .t2))<|z2<|zTk 18 Z (zAo Z)<|zTk 19 Z (zAo Z)<|zTk 20 Z (zAo Z)<|zDn ?_
      exact ⟨(i72, i78, i84), zR3, ⟨congrArg (AV.own i72) (Nat.zero_add _), congrArg (AV.own i78) (Nat.zero_add _), congrArg (AV.own i84) (Nat.zero_add _), trivial⟩, zLe, trivial⟩
    ·refine yh (k := 1) jm Yb<|fun i73 => z2<|zOn 0 Z<|yh (k := 1) jp Yn<|fun i67 => z2<|zOn 5 Z<|AOps.appendOZ (k := 1) jp Yn Z Z Z Z Z (fun _ => .head) ⟨_, .t4⟩ Z (by rw [cI_len, hl1]; omega) (by decide) (cI_cell _) (by show (_ + _) * 8 ≤ _; omega) (by omega)<|fun i72 => z2<|zOn 11 Z<|AOps.appendOZ (k := 1) jm Yb Z Z Z Z Z (fun _ => .t1) ⟨_, .t5⟩ Z (by rw [cB_len, hl2]; omega) (by decide) (cB_cell _) (by show (_ + _) * 1 ≤ _; omega) (by omega)<|fun i78 => z2<|zOn 17 Z<|AOps.appendOZ (k := 1) j6 Zr Z Z Z Z Z (fun _ => .t2) ⟨_, .t6⟩ Z (by rw [cI_len, hl3]; omega) (by decide) (cI_cell _) (by show (_ + _) * 8 ≤ _; omega) (by omega)<|fun i84 => z2<|zTk 18 Z (zAo Z)<|zTk 19 Z (zAo Z)<|zTk 20 Z (zAo Z)<|zDn ?_
     exact ⟨(i72, i78, i84), zR3, ⟨congrArg (AV.own i72) (Nat.zero_add _), congrArg (AV.own i78) (Nat.zero_add _), congrArg (AV.own i84) (Nat.zero_add _), trivial⟩, zLe, trivial⟩
  ·rintro ⟨i72, i78, i84⟩ _
   refine zc<|zSr<|zVzMp Z<|zVGvnilCheckO Z<|z8 (ze j8 Z jj (by decide) Z Z)<|z8 (ze jh Z Z1 (by decide) Z Z)<|z8 (zl (c := .fro _ _) Z8 Z ⟨_, .head⟩ Z)<|zVzMi Z<|z8 (zIM to.toNat jl jw Z Z (by omega) hB)<|zVzFF je Z Zn Z Z<|zVzLf Y4 Z<|zVGvlenM jx Z<|zVzMi Z<|z2<|zi<|y7 (γ := Nat) [0, 1, 4, 9, 10, 11, 93, 94] (fun k => [(95, .int .i64 k)]) (fun k => (iw, .cells 100 (wCe f ja jb jc jo jt (toG B.phis s k))) :: (i72, .grow 1 2 (cI s.ints)) :: (i78, .grow 1 4 (cB s.bools)) :: (i84, .grow 1 3 (cI s.arrs)) :: (i4, .grow 1 3 (cI (gotL B.phis s.blk B.phis.length))) :: wR ja jb jc jo jt ids (toG B.phis s k)) (fun k => k ≤ B.phis.length) (fun k => B.phis.length - k) 0 zR1 zLe (qt _) ?_
   rintro k hk
   refine zSr<|zVGvlss Z Z<|z2<|zc<|zo Z (fun ck=>?_) (fun ck=>?_)
   ·have hk2 : k < B.phis.length := by simp at ck; omega
    obtain ⟨p, hp⟩ : ∃ p, B.phis[k] = p := ⟨_, rfl⟩
    have hpg : B.phis[k]? = some p := by rw [qq hk2, hp]
    have hpm := w1 hpg
    have hp0 := hok p hpm
    obtain ⟨hd, _, _, ha, _⟩ := hph p hpm
    obtain ⟨d1, d0⟩ := has_lt hd
    obtain ⟨v1, v0⟩ := has_lt (List.all_eq_true.1 ha _ (phiAt_mem hp0))
    have hgg : (gotL B.phis s.blk B.phis.length)[k]? = some (phiAt p s.blk) := by rw [got_get hk2, hp]
    have t1 := (hT k).li
    have t2 := (hT k).lb
    have t3 := (hT k).la
    refine zf<|zc<|zi<|zSr<|zVzMi Z<|z8 (zIM k jx Z0 Z Z Z hpg)<|zVGvloadWF Yf Z0 Z Z<|zt (cs := [.int .i64 0, .raw (.slice none 0 0), .raw (.slice none 0 0)]) Zk Z Z<|fun i13 => zVzAi Z<|zn Z0 Z Z Z Z Z Z .head Z<|zd (yf (t := 13) Z .head)<|z2<|AWP.regionDrawR (by kernel_rfl) Z (zm (.r (.r (.r (.r (.r (.l (.l (.l (.l (.l (.l (.rest _)))))))))))))<|yd (i := 0) Z (by kernel_rfl) (by kernel_rfl) (by kernel_rfl) (zMp Z)<|yd (i := 1) Z (by kernel_rfl) (by kernel_rfl) (by kernel_rfl) (y4 Z)<|yd (i := 2) Z (by kernel_rfl) (by kernel_rfl) (by kernel_rfl) (ze j8 Z Zc (by decide) Z Z)<|yd (i := 3) Z (by kernel_rfl) (by kernel_rfl) (by kernel_rfl) (zl (c := .own _ _) Zm Z ⟨_, .head⟩ Z)<|yd (i := 4) Z (by kernel_rfl) (by kernel_rfl) (by kernel_rfl) (zFF js Z j7 Z Z)<|yd (i := 5) Z (by kernel_rfl) (by kernel_rfl) (by kernel_rfl) (zLi j9 Z)<|yd (i := 6) Z (by kernel_rfl) (by kernel_rfl) (by kernel_rfl) (zMp Z)<|yd (i := 7) Z (by kernel_rfl) (by kernel_rfl) (by kernel_rfl) (y4 Z)<|yd (i := 8) Z (by kernel_rfl) (by kernel_rfl) (by kernel_rfl) (ze j8 Z Yp (by decide) Z Z)<|yd (i := 9) Z (by kernel_rfl) (by kernel_rfl) (by kernel_rfl) (zl (c := .own _ _) X1 Z ⟨_, .head⟩ Z)<|yd (i := 10) Z (by kernel_rfl) (by kernel_rfl) (by kernel_rfl) (zFF js Z j7 Z Z)<|yd (i := 11) Z (by kernel_rfl) (by kernel_rfl) (by kernel_rfl) (zLi j9 Z)<|yd (i := 12) Z (by kernel_rfl) (by kernel_rfl) (by kernel_rfl) (zMp Z)<|yd (i := 13) Z (by kernel_rfl) (by kernel_rfl) (by kernel_rfl) (y4 Z)<|yd (i := 14) Z (by kernel_rfl) (by kernel_rfl) (by kernel_rfl) (ze j8 Z jd (by decide) Z Z)<|yd (i := 15) Z (by kernel_rfl) (by kernel_rfl) (by kernel_rfl) (zl (c := .own _ _) jk Z ⟨_, .head⟩ Z)<|yd (i := 16) Z (by kernel_rfl) (by kernel_rfl) (by kernel_rfl) (zFF js Z j7 Z Z)<|yd (i := 17) Z (by kernel_rfl) (by kernel_rfl) (by kernel_rfl) (zLi j9 Z)<|yd (i := 18) Z (by kernel_rfl) (by kernel_rfl) (by kernel_rfl) (zMo Z)<|yd (i := 19) Z (by kernel_rfl) (by kernel_rfl) (by kernel_rfl) (zMo Z)<|yd (i := 20) Z (by kernel_rfl) (by kernel_rfl) (by kernel_rfl) (zMi Z)<|yd (i := 21) Z (by kernel_rfl) (by kernel_rfl) (by kernel_rfl) (yg (j := k) j6 j7 Z Z Z ⟨_, .t4⟩ ((cI_len _).trans (got_len (Nat.le_refl _))) hk2)<|yd (i := 22) Z (by kernel_rfl) (by kernel_rfl) (by kernel_rfl) (yr (j := k) j9 Z ⟨_, .t4⟩ hgg)<|yd (i := 23) Z (by kernel_rfl) (by kernel_rfl) (by kernel_rfl) (yg (j := (phiAt p s.blk).toNat) jp Z9 Z Z (w8 v0).symm ⟨_, .t1⟩ ((cI_len _).trans hl1) (by omega))<|yd (i := 24) Z (by kernel_rfl) (by kernel_rfl) (by kernel_rfl) (yr (j := (phiAt p s.blk).toNat) Yd Z ⟨_, .t1⟩ (vi_get (by omega) v0))<|yd (i := 25) Z (by kernel_rfl) (by kernel_rfl) (by kernel_rfl) (zMo Z)<|yd (i := 26) Z (by kernel_rfl) (by kernel_rfl) (by kernel_rfl) (zMo Z) ?_
    refine yd (i := 27) Z (by kernel_rfl) (by kernel_rfl) (by kernel_rfl) (zMi Z)<|yd (i := 28) Z (by kernel_rfl) (by kernel_rfl) (by kernel_rfl) (yg (j := k) j6 j7 Z Z Z ⟨_, .t4⟩ ((cI_len _).trans (got_len (Nat.le_refl _))) hk2)<|yd (i := 29) Z (by kernel_rfl) (by kernel_rfl) (by kernel_rfl) (yr (j := k) j9 Z ⟨_, .t4⟩ hgg)<|yd (i := 30) Z (by kernel_rfl) (by kernel_rfl) (by kernel_rfl) (yg (j := (phiAt p s.blk).toNat) jm Z5 Z Z (w8 v0).symm ⟨_, .t2⟩ ((cB_len _).trans hl2) (by omega))<|yd (i := 31) Z (by kernel_rfl) (by kernel_rfl) (by kernel_rfl) (Gv.loadB (j := (phiAt p s.blk).toNat) Yy Z ⟨_, .t2⟩ (gb_get (by omega) v0))<|yd (i := 32) Z (by kernel_rfl) (by kernel_rfl) (by kernel_rfl) (zMo Z)<|yd (i := 33) Z (by kernel_rfl) (by kernel_rfl) (by kernel_rfl) (zMo Z)<|yd (i := 34) Z (by kernel_rfl) (by kernel_rfl) (by kernel_rfl) (zMi Z)<|yd (i := 35) Z (by kernel_rfl) (by kernel_rfl) (by kernel_rfl) (yg (j := k) j6 j7 Z Z Z ⟨_, .t4⟩ ((cI_len _).trans (got_len (Nat.le_refl _))) hk2)<|yd (i := 36) Z (by kernel_rfl) (by kernel_rfl) (by kernel_rfl) (yr (j := k) j9 Z ⟨_, .t4⟩ hgg)<|yd (i := 37) Z (by kernel_rfl) (by kernel_rfl) (by kernel_rfl) (yg (j := (phiAt p s.blk).toNat) j6 j7 Z Z (w8 v0).symm ⟨_, .t3⟩ ((cI_len _).trans hl3) (by omega))<|yd (i := 38) Z (by kernel_rfl) (by kernel_rfl) (by kernel_rfl) (yr (j := (phiAt p s.blk).toNat) j9 Z ⟨_, .t3⟩ (vi_get (by omega) v0))<|qn (i := 39) Z (by kernel_rfl)<|z8 (yg (j := p.dst.toNat) jp Z9 Z Z (w8 d0).symm ⟨_, .head⟩ ((cI_len _).trans t1) (by omega))<|z2<|qn (i := 40) Z (by kernel_rfl)<|yt (j := p.dst.toNat) Z9 Z Z .head (by first | omega | (simp; omega))<|z2<|qn (i := 41) Z (by kernel_rfl)<|z8 (yg (j := p.dst.toNat) jm Z5 Z Z (w8 d0).symm ⟨_, .t1⟩ ((cB_len _).trans t2) (by omega))<|z2<|qn (i := 42) Z (by kernel_rfl)<|q8 (j := p.dst.toNat) Z5 Z Z .t1 (by first | omega | (simp; omega))<|z2<|qn (i := 43) Z (by kernel_rfl)<|z8 (yg (j := p.dst.toNat) j6 j7 Z Z (w8 d0).symm ⟨_, .t2⟩ ((cI_len _).trans t3) (by omega))<|z2<|qn (i := 44) Z (by kernel_rfl)<|yt (j := p.dst.toNat) j7 Z Z .t2 (by first | omega | (simp; omega))<|z2<|AAnyR.done (by kernel_rfl)<|zRg<|zVzAd Z Z<|zVzMi Z<|z2 ?_
    exact ⟨k + 1, zR8, zR1, ⟨_, (.refl _), by rw [to_push hk2, hp]; rfl⟩, hk2, by omega⟩
   ·obtain rfl : k = B.phis.length := by simp at ck; omega
    refine zw (GStep.drop .t1)<|zw (GStep.drop .t1)<|zw (GStep.drop .t1)<|zw (GStep.drop .t1)<|y6<|zRg<|zVzMp Z<|zVzMp Z<|zVzMi Z<|zVGvnilCheckO Z<|z8 (ze j8 Z j7 (by decide) Z Z)<|yp (l := [_]) (new := [_, _, _, _, _, _, _, _, _, _, _, _, _, _, _, _, _, _, _, _, _, _, _]) j7 Z Z Z Z Z Z .head Z Z<|zVGvnilCheckO Z<|z8 (ze j8 Z j7 (by decide) Z Z)<|yp (l := [_]) (new := [_, _, _, _, _, _, _, _, _, _, _, _, _, _, _, _, _, _, _, _, _, _, _]) j7 Z Z Z Z Z Z .head Z Z<|z2<|yv ?_
    exact ⟨by rw [hE]; show _ = (toG B.phis s B.phis.length).arrays.length; rw [to_arrays]; exact hids, rfl, by rw [hE]; rfl⟩
end Go.Proofs.YtiojekbkamegdaaGreatDoor
namespace Go.Proofs.YtiojekbkamegdaaGreatDoor
open Go.Proofs.Tryz
open Go.Proofs Go.Lib Go.Shelf Go.RowKit
variable {E : World}
set_option maxRecDepth 20000
theorem step_inst {f : PFunc} {s : GS} {x : PInst} (h : (blkG f s.blk).insts[s.pc]? = some x) : stepG f s = instG { s with pc := s.pc + 1, st := s.st + 1 } x := by unfold stepG; rw [h]
theorem step_end {f : PFunc} {s : GS} (h : (blkG f s.blk).insts[s.pc]? = none) : stepG f s = if (blkG f s.blk).term.kind = 2 then stopG { s with st := s.st + 1, val := vi s.ints (blkG f s.blk).term.var } 0 else enterG f { s with st := s.st + 1 } (nextG f s) := by unfold stepG; rw [h]
theorem term_v {f : PFunc} {t : PTerm} (h : termOK f t = true) (hk : ¬ t.kind = 0) : t.var < f.vars.length ∧ 0 ≤ t.var := has_lt (term_var h hk)
set_option maxHeartbeats 8000000 in
theorem wstep_spec (f : PFunc) (iw ja jb jc jo jt : Nat) (ids : List Nat) (s : GS) (hids : ids.length = s.arrays.length) (hg : GInv f s) (hR : RunP f) (hv : f.vars.length ≤ 1000) (hs : small f) (hst : s.st ≤ 1000000000) (hck : ∀ i, s.ck i ≤ 1000000000) : ACall prog E 52 [.po iw 0] (wO f iw ja jb jc jo jt ids s) (fun y O => ∃ jo' jt' ids', ids'.length = (stepG f s).arrays.length ∧ y = .tup [] ∧ O = wO f iw ja jb jc jo' jt' ids' (stepG f s)) := by
 have hB := blk_get hg.b0 hg.b1
 have hBm := w1 hB
 have hsm := (hs.2.2.2.2 _ hBm).2.2.1
 have hpc := hg.pc
 have hin := hR.insts _ hBm
 have htm := hR.term _ hBm
 have hi := @step_inst f s
 have he := @step_end f s
 obtain ⟨B, hBe⟩ : ∃ B, blkG f s.blk = B := ⟨_, rfl⟩
 have hnx : nextG f s = if B.term.kind = 0 ∨ gb s.bools B.term.var = true then B.term.to0 else B.term.to1 := by rw [← hBe]; rfl
 have hnt := next_to hR hg
 rw [hBe] at hB hsm hpc hin htm hi he hnt
 have hl1 := hg.li
 have hl2 := hg.lb
 have hgu : GInv f { s with st := s.st + 1 } := hg.up _ s.val
 refine zp func52 Z (by decide) Z<|zSr<|zVzMp Z<|zVGvnilCheckO Z<|z8 (ze j8 Z jn (by decide) Z Z)<|z8 (ze ju Z j7 (by decide) Z Z)<|z8 (zl (c := .int _ _) j9 Z ⟨_, .head⟩ Z)<|zVzAd Z Z<|zVGvnilCheckO Z<|z8 (ze j8 Z jn (by decide) Z Z)<|z8 (ze ju Z j7 (by decide) Z Z)<|yp (l := [_]) (new := [_, _, _, _, _, _, _, _, _, _, _, _, _, _, _, _, _, _, _, _, _, _, _]) j7 Z Z Z Z Z Z .head Z Z<|z2<|zc<|zr (fun j => Nat.beq j 12) (by kernel_rfl) Z (zm (.r (.rest _)))<|zTk 0 Z (zMp Z)<|zTk 1 Z (y4 Z)<|zTk 2 Z (ze j8 Z jj (by decide) Z Z)<|zTk 3 Z (ze jh Z Z1 (by decide) Z Z)<|zTk 4 Z (zl (c := .fro _ _) Z8 Z ⟨_, .head⟩ Z)<|zTk 5 Z (zMp Z)<|zTk 6 Z (y4 Z)<|zTk 7 Z (ze j8 Z j7 (by decide) Z Z)<|zTk 8 Z (zl (c := .int _ _) j9 Z ⟨_, .head⟩ Z)<|zTk 9 Z (zIM s.blk.toNat jl jw Z Z (w8 hg.b0).symm hB)<|zTk 10 Z (yl Yc jw Z Z)<|zOn 11 Z<|zt (cs := [.str ⟨#[]⟩, .raw (.slice none 0 0), .raw (.slice none 0 0), .int .i64 0, .int .i64 0, .int .i64 0, .int .i64 0]) Zd Z Z<|fun i2 => z2<|yb<|y8 (i := 12) Z (by kernel_rfl) (by kernel_rfl)<|zn jw Z Z Z Z Z Z .t1 Z<|z2<|ye (by kernel_rfl)<|zw (yf (t := 2) Z .t1)<|zc<|zc<|zr (fun j => false) (by kernel_rfl) Z (zm (.r (.rest _)))<|zTk 0 Z (zMp Z)<|zTk 1 Z (y4 Z) ?_
 refine zTk 2 Z (ze j8 Z j7 (by decide) Z Z)<|zTk 3 Z (zl (c := .int _ _) j9 Z ⟨_, .head⟩ Z)<|zTk 4 Z (zFF je Z Zb Z Z)<|zTk 5 Z (zLf Zw Z)<|zTk 6 Z (Gv.lenM jv Z)<|zTk 7 Z (Gv.lss Z Z)<|zDn<|zo Z (fun cp=>?_) (fun cp=>?_)
 ·have hp : s.pc < B.insts.length := by simp at cp; omega
  obtain ⟨x, hx⟩ : ∃ x, B.insts[s.pc] = x := ⟨_, rfl⟩
  have hxg : B.insts[s.pc]? = some x := by rw [qq hp, hx]
  obtain ⟨hix, h64⟩ := hin x (w1 hxg)
  have hS := hi hxg
  have hg2 : GInv f { s with pc := s.pc + 1, st := s.st + 1 } := ⟨hg.li, hg.lb, hg.la, hg.i64, hg.arr, hg.ls, hg.lr, hg.r64, hg.lt, hg.b0, hg.b1, by show s.pc + 1 ≤ (blkG f s.blk).insts.length; rw [hBe]; exact hp⟩
  refine zSr<|zVzMp Z<|zVGvnilCheckO Z<|z8 (ze j8 Z j7 (by decide) Z Z)<|z8 (zl (c := .int _ _) j9 Z ⟨_, .head⟩ Z)<|zVzAd Z Z<|zVGvnilCheckO Z<|z8 (ze j8 Z j7 (by decide) Z Z)<|yp (l := [_]) (new := [_, _, _, _, _, _, _, _, _, _, _, _, _, _, _, _, _, _, _, _, _, _, _]) j7 Z Z Z Z Z Z .head Z Z<|z2<|zc<|zr (fun j => false) (by kernel_rfl) Z (zm (.rest _))<|zTk 0 Z (zMp Z)<|zTk 1 Z (zFF je Z Zb Z Z)<|zTk 2 Z (zLf Zw Z)<|zTk 3 Z (zMp Z)<|zTk 4 Z (y4 Z)<|zTk 5 Z (ze j8 Z j7 (by decide) Z Z)<|zOn 6 Z<|z8 (zl (c := .int _ _) j9 Z ⟨_, .head⟩ Z)<|z2<|zTk 7 Z (Gv.sub Z Z (by unfold I64; omega))<|zTk 8 Z (zIM s.pc jv Z2 Z Z (by omega) hxg)<|zTk 9 Z (yl Yg Z2 Z Z)<|zOn 10 Z<|zy Z (zm (.l (.l (.l (.l (.l (.l (.l (.rest _))))))))) (winst_spec f iw ja jb jc jo jt ids { s with pc := s.pc + 1, st := s.st + 1 } x hids hg2 hix hv hck) ?_
  rintro r49 O49 ⟨jo', jt', ids', hl', rfl, rfl⟩
  refine z2<|zDn<|zj<|yv ?_
  exact ⟨jo', jt', ids', by rw [hS]; exact hl', rfl, by rw [hS]; rfl⟩
 ·have hp : B.insts[s.pc]? = none := by rw [List.getElem?_eq_none]; simp at cp; omega
  have hS := he hp
  refine zf<|zSr<|zVzFF je Z Ze Z Z<|zVGvloadWF isAgg56 Ze Z Z<|zt (cs := [.int .i64 0, .int .i64 0, .int .i64 0, .int .i64 0]) zeroValue56 Z Z<|fun i3 => zn Ze Z Z Z Z Z Z .head Z<|zd (yf (t := 3) Z .head)<|z2<|zi<|zSr<|zVzFF jf Z Zu Z Z<|zVzLi Y3 Z<|zVGveqlI Z Z<|zVzAb Z<|z2<|zo Z (fun ck=>?_) (fun ck=>?_)
  ·have ck : B.term.kind = 2 := by simpa using ck
   rw [if_pos ck] at hS
   obtain ⟨v1, v0⟩ := term_v htm (by omega)
   refine zc<|zr (fun j => Nat.beq j 12) (by kernel_rfl) Z (zm (.r (.r (.r (.rest _)))))<|zTk 0 Z (zMp Z)<|zTk 1 Z (zMp Z)<|zTk 2 Z (y4 Z)<|zTk 3 Z (ze j8 Z Zc (by decide) Z Z)<|zTk 4 Z (zl (c := .own _ _) Zm Z ⟨_, .head⟩ Z)<|zTk 5 Z (zFF jf Z j7 Z Z)<|zTk 6 Z (zLi j9 Z)<|zTk 7 Z (yg (j := B.term.var.toNat) jp Z9 Z Z (w8 v0).symm ⟨_, .t1⟩ ((cI_len _).trans hl1) (by omega))<|zTk 8 Z (yr (j := B.term.var.toNat) Yd Z ⟨_, .t1⟩ (vi_get (by omega) v0))<|yo (i := 9) Z (by kernel_rfl) (by kernel_rfl) (by kernel_rfl) (by kernel_rfl) (y4 Z)<|yo (i := 10) Z (by kernel_rfl) (by kernel_rfl) (by kernel_rfl) (by kernel_rfl) (ze j8 Z jn (by decide) Z Z)<|zTk 11 Z (ze ju Z Z9 (by decide) Z Z)<|yb<|y8 (i := 12) Z (by kernel_rfl) (by kernel_rfl)<|yp (l := [_]) (new := [_, _, _, _, _, _, _, _, _, _, _, _, _, _, _, _, _, _, _, _, _, _, _]) Z9 Z Z Z Z Z Z .head Z Z<|z2<|ye (by kernel_rfl)<|zRg<|zVzMp Z<|zy Z (zm (.l (.l (.l (.l (.l (.l (.l (.rest _))))))))) (wend_spec f iw ja jb jc jo jt ids { s with st := s.st + 1, val := vi s.ints B.term.var } 0) ?_
   rintro r74 O74 ⟨rfl, rfl⟩
   refine z2<|yv ?_
   exact ⟨jo, jt, ids, by rw [hS]; exact hids, rfl, by rw [hS]; rfl⟩
  ·have ck : ¬ B.term.kind = 2 := by simpa using ck
   rw [if_neg ck] at hS
   obtain ⟨g0, g1⟩ := hnt ck
   refine zc<|zr (fun j => false) (by kernel_rfl) Z (zm (.r (.r (.r (.rest _)))))<|zTk 0 Z (zFF jf Z Zu Z Z)<|zTk 1 Z (zLi Y3 Z)<|zTk 2 Z (Gv.eqlI Z Z)<|zTk 3 Z (zMb Z)<|AAny.case (s := 79) Z (fun c0=>?_) (fun c0=>?_)
   ·have d0 : B.term.kind = 0 := by simpa using c0
    rw [if_pos (.inl d0)] at hnx
    rw [hnx] at hS g0 g1
    refine zTf 4 Z Z Z c0<|zTf 5 Z Z Z c0<|zTf 6 Z Z Z c0<|zTf 7 Z Z Z c0<|zTf 8 Z Z Z c0<|zTf 9 Z Z Z c0<|zTf 10 Z Z Z c0<|zTf 11 Z Z Z c0<|zTk 12 Z (zPt Z c0 Z)<|zTk 13 Z (zAb Z)<|zDn<|yq Z Z<|zRg<|zVzMp Z<|zVzFF jf Z Z6 Z Z<|z8 (yu (j := 0) jy j7 Z Z Z (by decide) Z)<|zVzLi j9 Z<|zy Z (zm (.l (.l (.l (.l (.l (.l (.l (.rest _))))))))) (wenter_spec f iw ja jb jc jo jt ids { s with st := s.st + 1 } B.term.to0 hids hgu hR hv hs g0 g1) ?_
    rintro r93 O93 ⟨hl', rfl, rfl⟩
    refine z2<|yv ?_
    exact ⟨jo, jt, ids, by rw [hS]; exact hl', rfl, by rw [hS]; rfl⟩
   ·have d0 : ¬ B.term.kind = 0 := by simpa using c0
    obtain ⟨v1, v0⟩ := term_v htm d0
    refine zTt 4 Z Z Z c0 (zMp Z)<|zTt 5 Z Z Z c0 (y4 Z)<|zTt 6 Z Z Z c0 (ze j8 Z Yp (by decide) Z Z)<|zTt 7 Z Z Z c0 (zl (c := .own _ _) X1 Z ⟨_, .head⟩ Z)<|zTt 8 Z Z Z c0 (zFF jf Z j7 Z Z)<|zTt 9 Z Z Z c0 (zLi j9 Z)<|zTt 10 Z Z Z c0 (yg (j := B.term.var.toNat) jm Z5 Z Z (w8 v0).symm ⟨_, .t2⟩ ((cB_len _).trans hl2) (by omega))<|zTt 11 Z Z Z c0 (Gv.loadB (j := B.term.var.toNat) Yy Z ⟨_, .t2⟩ (gb_get (by omega) v0))<|zTk 12 Z (zPf Z c0 Z)<|zTk 13 Z (zAb Z)<|zDn<|zu Z (fun cw=>?_) (fun cw=>?_)
    ·have cw : gb s.bools B.term.var = true := cw
     rw [if_pos (.inr cw)] at hnx
     rw [hnx] at hS g0 g1
     refine zRg<|zVzMp Z<|zVzFF jf Z Z6 Z Z<|z8 (yu (j := 0) jy j7 Z Z Z (by decide) Z)<|zVzLi j9 Z<|zy Z (zm (.l (.l (.l (.l (.l (.l (.l (.rest _))))))))) (wenter_spec f iw ja jb jc jo jt ids { s with st := s.st + 1 } B.term.to0 hids hgu hR hv hs g0 g1) ?_
     rintro r93 O93 ⟨hl', rfl, rfl⟩
     refine z2<|yv ?_
     exact ⟨jo, jt, ids, by rw [hS]; exact hl', rfl, by rw [hS]; rfl⟩
    ·have cw : gb s.bools B.term.var = false := cw
     rw [if_neg (by rintro (h | h); exact d0 h; rw [cw] at h; cases h)] at hnx
     rw [hnx] at hS g0 g1
     refine zRg<|zVzMp Z<|zVzFF jf Z Z6 Z Z<|z8 (yu (j := 1) jy j7 Z Z Z (by decide) Z)<|zVzLi j9 Z<|zy Z (zm (.l (.l (.l (.l (.l (.l (.l (.rest _))))))))) (wenter_spec f iw ja jb jc jo jt ids { s with st := s.st + 1 } B.term.to1 hids hgu hR hv hs g0 g1) ?_
     rintro r56 O56 ⟨hl', rfl, rfl⟩
     refine z2<|yv ?_
     exact ⟨jo, jt, ids, by rw [hS]; exact hl', rfl, by rw [hS]; rfl⟩
end Go.Proofs.YtiojekbkamegdaaGreatDoor
