/- A step of the document's machine, how it begins, and runs. Of programs as they are run. -/
import Derived.Test.YtpojdepccecpgaaGreatDoorLp
import Derived.Test.YtpojdepccecpgaaGreatDoorLn
set_option linter.unusedVariables false
set_option linter.unusedSimpArgs false
set_option linter.unusedSectionVars false
namespace Go.Proofs.YtpojdepccecpgaaGreatDoor
open Go.Proofs.Tryz
open Go.Proofs Go.Lib Go.Shelf Go.RowKit
variable {E : World}
set_option maxRecDepth 20000
def phiFi (fr ar : List Int) (b : Int) : Int := ((fr.zip ar).find? fun q => decide (q.1 = b)).elim (-1) (·.2)
theorem phiFi_at {fr ar : List Int} {b : Int} {j : Nat} (h : j < fr.length) (h2 : j < ar.length) : phiFi (fr.drop j) (ar.drop j) b = if fr[j] = b then ar[j] else phiFi (fr.drop (j + 1)) (ar.drop (j + 1)) b := by
 rw [List.drop_eq_getElem_cons h, List.drop_eq_getElem_cons h2]
 unfold phiFi
 rw [List.zip_cons_cons, List.find?_cons]
 by_cases e : fr[j] = b
 ·rw [if_pos e]; simp [e]
 ·rw [if_neg e]; simp [e]
def gotL (l : List PPhi) (b : Int) (k : Nat) : List Int := (l.take k).map fun p => phiAt p b
theorem got_push {l : List PPhi} {b : Int} {k : Nat} (h : k < l.length) : gotL l b k ++ [phiAt l[k] b] = gotL l b (k + 1) := by
 unfold gotL; rw [qn h, qw]; rfl
theorem got_get {l : List PPhi} {b : Int} {k : Nat} (h : k < l.length) : (gotL l b l.length)[k]? = some (phiAt l[k] b) := by
 unfold gotL; rw [qr, qu, qm h]; rfl
theorem got_len {l : List PPhi} {b : Int} {k : Nat} (h : k ≤ l.length) : (gotL l b k).length = k := by
 unfold gotL; rw [qt, qx]; omega
def toG (l : List PPhi) (s : GS) (k : Nat) : GS := (l.take k).foldl (assign s) s
theorem to_push {l : List PPhi} {s : GS} {k : Nat} (h : k < l.length) : toG l s (k + 1) = assign s (toG l s k) l[k] := by
 unfold toG; rw [qn h, List.foldl_append]; rfl
theorem to_arrays (l : List PPhi) (s : GS) (k : Nat) : (toG l s k).arrays = s.arrays := by
 unfold toG
 suffices h : ∀ (l : List PPhi) (t : GS), (l.foldl (assign s) t).arrays = t.arrays from h _ s
 intro l
 induction l with
 | nil => intro t; rfl
 | cons p l ih => intro t; exact ih _
set_option maxHeartbeats 16000000 in
theorem wenter_spec (f : PFunc) (iw ja jb jc jo jt : Nat) (ids : List Nat) (s : GS) (to : Int) (hids : ids.length = s.arrays.length) (hg : GInv f s) (hR : RunP f) (hv : f.vars.length ≤ 1000) (hs : small f) (h0 : 0 ≤ to) (h1 : to < f.blocks.length) : ACall prog E 76 [.po iw 0, .int .i64 to] (wO f iw ja jb jc jo jt ids s) (fun y O => ids.length = (enterG f s to).arrays.length ∧ y = .tup [] ∧ O = wO f iw ja jb jc jo jt ids (enterG f s to)) := by
 have hB := blk_get h0 h1
 have hBm := qv hB
 have hph := hR.phis _ hBm
 have hsm := (hs.2.2.2.2 _ hBm).2.1
 have hsp := (hs.2.2.2.2 _ hBm).2.2.2.1
 obtain ⟨B, hBe⟩ : ∃ B, blkG f to = B := ⟨_, rfl⟩
 have hgo : enterG f s to = if B.phis.all (fun p => decide (0 ≤ phiAt p s.blk)) = true then goG (toG B.phis s B.phis.length) to else stopG (goG s to) 2 := by unfold enterG toG; rw [hBe, qr]
 rw [hBe] at hB hph hsm hsp
 have hl1 := hg.li
 have hl2 := hg.lb
 have hl3 := hg.la
 refine zl func76 Z (by decide) Z<|zSr<|z8 (zAr Z)<|z6<|adopt_wp (t := 4) (k := 1) (T := 3) Z<|fun i4 => y6 (zm (zp .t1))<|zb<|zSr<|zVzMp Z<|zVGvnilCheckO Z<|z8 (zc j9 Z ji (by decide) Z Z)<|z8 (zc j8 Z ju (by decide) Z Z)<|z8 (zi (c := .fro _ _) Z5 Z ⟨_, .head⟩ Z)<|zVzMi Z<|z8 (zIM to.toNat jh jm Z Z (by omega) hB)<|zVzFF j6 Z Z8 Z Z<|zVzLf Zs Z<|zVGvlenM jq Z<|zVzMi Z<|z6<|zh<|y3 (γ := Nat × Nat) [0, 1, 22, 23] (fun g => [(24, .int .i64 g.1), (4, .own g.2 g.1)]) (fun g => (iw, .cells 93 (wCe f ja jb jc jo jt s)) :: (g.2, .grow 1 3 (cI (gotL B.phis s.blk g.1))) :: wR ja jb jc jo jt ids s) (fun g => g.1 ≤ B.phis.length ∧ ∀ p ∈ B.phis.take g.1, 0 ≤ phiAt p s.blk) (fun g => B.phis.length - g.1) (0, i4) zR2 zLe (⟨qp _, fun p hp => by simp at hp⟩) ?_
 rintro ⟨k, i4⟩ ⟨hk, hok⟩
 try dsimp only at *
 refine zSr<|zVGvlss Z Z<|z6<|zb<|zk Z (fun ck=>?_) (fun ck=>?_)
 ·have hk2 : k < B.phis.length := by simp at ck; omega
  obtain ⟨p, hp⟩ : ∃ p, B.phis[k] = p := ⟨_, rfl⟩
  have hpg : B.phis[k]? = some p := by rw [qm hk2, hp]
  have hpm := qv hpg
  obtain ⟨_, hal, _, _, _⟩ := hph p hpm
  have hfl := (hsp p hpm).2
  refine ze<|zb<|zh<|zSr<|z8 (zIM k jq js Z Z Z hpg)<|zVGvloadWF Zt js Z Z<|zu (cs := [.int .i64 0, .raw (.slice none 0 0), .raw (.slice none 0 0)]) Zb Z Z<|fun i6 => zt js Z Z Z Z Z Z .head Z<|zw (yi (t := 6) Z .head)<|z6<|zSr<|zVzAi Z<|z6<|zb<|zSr<|zVzFF jg Z je Z Z<|zVzLf jn Z<|zVGvlenM j4 Z<|z8 (Gv.sub Z Z (by unfold I64; omega))<|zVzAi Z<|z6<|zh<|y3 (γ := Nat) [0, 1, 4, 6, 22, 23, 24] (fun m => [(8, .int .i64 ((m : Int) - 1)), (7, .int .i64 (phiFi (p.from_.drop m) (p.args.drop m) s.blk))]) (fun m => (iw, .cells 93 (wCe f ja jb jc jo jt s)) :: (i4, .grow 1 3 (cI (gotL B.phis s.blk k))) :: wR ja jb jc jo jt ids s) (fun m => m ≤ p.from_.length) (fun m => m) p.from_.length ⟨congrArg (AV.int .i64) (by simp), congrArg (AV.int .i64) (by rw [List.drop_length]; rfl), trivial⟩ zLe (Nat.le_refl _) ?_
  rintro m hm
  refine zb<|zSr<|zVzMi Z<|z8 (qc Z Z)<|z6<|zk Z (fun c8=>?_) (fun c8=>?_)
  ·have hm1 : m - 1 < p.from_.length := by omega
   have hm2 : m - 1 < p.args.length := by omega
   have hst := phiFi_at (b := s.blk) hm1 hm2
   rw [show m - 1 + 1 = m by omega] at hst
   refine ze<|zb<|zh<|zb<|zq (fun j => false) (by kernel_rfl) Z (zr (.r (.rest _)))<|zTk 0 Z (zFF jg Z je Z Z)<|zTk 1 Z (zLf jn Z)<|zTk 2 Z (zMi Z)<|zTk 3 Z (zIM (m - 1) j4 j5 Z Z (by omega) (qm hm1))<|zTk 4 Z (zLi jd Z)<|zTk 5 Z (zMp Z)<|zTk 6 Z (zy Z)<|zTk 7 Z (zc j9 Z j5 (by decide) Z Z)<|zTk 8 Z (zi (c := .int _ _) jd Z ⟨_, .head⟩ Z)<|zTk 9 Z (Gv.eqlI Z Z)<|zDn<|zk Z (fun ce=>?_) (fun ce=>?_)
   ·have ce : p.from_[m - 1] = s.blk := by simpa using ce
    rw [if_pos ce] at hst
    refine zRg<|zVzFF jg Z je Z Z<|zVzLf jn Z<|zVzMi Z<|z8 (zIM (m - 1) j4 j5 Z Z (by omega) (qm hm2))<|zVzLi jd Z<|zVzAi Z<|z6<|zRg<|zVzMi Z<|z8 (Gv.sub Z Z (by unfold I64; omega))<|zVzAi Z<|z6 ?_
    exact ⟨m - 1, zR7, ⟨congrArg (AV.int .i64) (by omega), congrArg (AV.int .i64) hst.symm, trivial⟩, zLe, by omega, by omega⟩
   ·have ce : ¬ p.from_[m - 1] = s.blk := by simpa using ce
    rw [if_neg ce] at hst
    refine ze<|zRg<|zVzMi Z<|z8 (Gv.sub Z Z (by unfold I64; omega))<|zVzAi Z<|z6 ?_
    exact ⟨m - 1, zR7, ⟨congrArg (AV.int .i64) (by omega), congrArg (AV.int .i64) hst.symm, trivial⟩, zLe, by omega, by omega⟩
  ·obtain rfl : m = 0 := by omega
   have hat : phiFi (p.from_.drop 0) (p.args.drop 0) s.blk = phiAt p s.blk := rfl
   rw [hat]
   refine y2<|zb<|zSr<|zVzMi Z<|zVGvlss Z Z<|z6<|zk Z (fun cn=>?_) (fun cn=>?_)
   ·have cn : phiAt p s.blk < 0 := by simpa using cn
    have hE : enterG f s to = stopG (goG s to) 2 := by
     rw [hgo, if_neg]
     intro h
     have := of_decide_eq_true (List.all_eq_true.1 h p hpm)
     omega
    refine y6 (GStep.drop .t1)<|zSr<|zVzMp Z<|zVzMp Z<|zVzMi Z<|zVGvnilCheckO Z<|z8 (zc j9 Z j5 (by decide) Z Z)<|y1 (l := [_]) (new := [_, _, _, _, _, _, _, _, _, _, _, _, _, _, _, _, _, _, _, _, _, _, _]) j5 Z Z Z Z Z Z .head Z Z<|zVGvnilCheckO Z<|z8 (zc j9 Z j5 (by decide) Z Z)<|y1 (l := [_]) (new := [_, _, _, _, _, _, _, _, _, _, _, _, _, _, _, _, _, _, _, _, _, _, _]) j5 Z Z Z Z Z Z .head Z Z<|z6<|zSr<|zVzMp Z<|yh Z (zr (.l (.l (.l (.l (.l (.l (.l (.rest _))))))))) (wend_spec f iw ja jb jc jo jt ids (goG s to) 2) ?_
    rintro r61 O61 ⟨rfl, rfl⟩
    refine z6<|zf<|yt ?_
    exact ⟨by rw [hE]; exact hids, rfl, by rw [hE]; rfl⟩
   ·have cn : 0 ≤ phiAt p s.blk := by simpa using cn
    refine ze<|zRg<|z8 (zMo Z)<|zVzMi Z<|zn (rows := [[_]]) ps23_1 Z Z Z Z Z<|y5 (k := 1) j4 Zi Z Z Z Z Z (fun _ => .t1) (by rw [cI_len, got_len hk]; omega) (by decide) Z (by show (_ + 1) * 8 ≤ _; omega) (by show _ + 1 ≤ _; omega)<|fun i65 => z8 (zAo Z)<|z6<|zRg<|zVzAd Z Z<|zVzMi Z<|z6 ?_
    exact ⟨(k + 1, i65), zR4, zR2, ⟨_, (.refl _), by rw [← got_push hk2, hp, ← cI_app]; rfl⟩, ⟨hk2, fun q hq => by rw [qn hk2] at hq; rcases List.mem_append.1 hq with hq | hq; exact hok q hq; rw [List.mem_singleton.1 hq, hp]; exact cn⟩, by dsimp only; omega⟩
 ·obtain rfl : k = B.phis.length := by simp at ck; omega
  rw [qr] at hok
  have hE : enterG f s to = goG (toG B.phis s B.phis.length) to := by
   rw [hgo, if_pos (List.all_eq_true.2 fun p hp => qy (hok p hp))]
  have hT : ∀ k, GInv f (toG B.phis s k) := fun k => hg.assigns _ s hg rfl fun p hp => ⟨hph p (List.mem_of_mem_take hp), hok p (List.mem_of_mem_take hp)⟩
  refine y2<|zb<|yn (γ := Nat × Nat × Nat) [0, 1, 4] (fun g => [(9, .own g.1 f.vars.length), (10, .own g.2.1 f.vars.length), (11, .own g.2.2 f.vars.length)]) (fun g => (iw, .cells 93 (wCe f ja jb jc jo jt s)) :: (g.1, .grow 1 2 (cI s.ints)) :: (g.2.1, .grow 1 4 (cB s.bools)) :: (g.2.2, .grow 1 3 (cI s.arrs)) :: (i4, .grow 1 3 (cI (gotL B.phis s.blk B.phis.length))) :: wR ja jb jc jo jt ids s) (fun g => True) ?_ (fun _ _ h => h) ?_
  ·refine zq (fun j => false) (by kernel_rfl) Z (zr (.r (.rest _)))<|zTk 1 Z (zMp Z)<|zTk 2 Z (zy Z)<|zTk 3 Z (zc j9 Z Za (by decide) Z Z)<|zTk 4 Z (zi (c := .own _ _) Zn Z ⟨_, .head⟩ Z)<|zTk 7 Z (zMp Z)<|zTk 8 Z (zy Z)<|zTk 9 Z (zc j9 Z Yk (by decide) Z Z)<|zTk 10 Z (zi (c := .own _ _) Yu Z ⟨_, .head⟩ Z)<|zTk 13 Z (zMp Z)<|zTk 14 Z (zy Z)<|zTk 15 Z (zc j9 Z je (by decide) Z Z)<|zTk 16 Z (zi (c := .own _ _) jn Z ⟨_, .head⟩ Z)<|AAny.three (i := 0) (j := 6) (m := 12) Z Z Z (by kernel_rfl) ?_ ?_ ?_
   ·refine yb (k := 1) jj Yg<|fun i67 => z6<|AAny.three (i := 5) (j := 6) (m := 12) Z Z Z (by kernel_rfl) ?_ ?_ ?_
    ·refine y9 (k := 1) jj Yg Z Z Z Z Z (fun _ => .head) ⟨_, .t2⟩ Z (by rw [cI_len, hl1]; omega) (by decide) (cI_cell _) (by show (_ + _) * 8 ≤ _; omega) (by omega)<|fun i72 => z6<|q7 (i := 6) (j := 12) Z Z (by kernel_rfl) ?_ ?_
     ·refine yb (k := 1) jk Y9<|fun i73 => z6<|q7 (i := 11) (j := 12) Z Z (by kernel_rfl) ?_ ?_
      ·refine y9 (k := 1) jk Y9 Z Z Z Z Z (fun _ => .head) ⟨_, .t4⟩ Z (by rw [cB_len, hl2]; omega) (by decide) (cB_cell _) (by show (_ + _) * 1 ≤ _; omega) (by omega)<|fun i78 => z6<|zOn 12 Z<|yb (k := 1) j4 Zi<|fun i79 => z6<|zOn 17 Z<|y9 (k := 1) j4 Zi Z Z Z Z Z (fun _ => .head) ⟨_, .t6⟩ Z (by rw [cI_len, hl3]; omega) (by decide) (cI_cell _) (by show (_ + _) * 8 ≤ _; omega) (by omega)<|fun i84 => zw (zm (zp .head))<|zw (zm (zp .t1))<|zw (zm (zp .t2))<|z6<|zTk 18 Z (zAo Z)<|zTk 19 Z (zAo Z)<|zTk 20 Z (zAo Z)<|zDn ?_
       exact ⟨(i72, i78, i84), zR3, ⟨congrArg (AV.own i72) (Nat.zero_add _), congrArg (AV.own i78) (Nat.zero_add _), congrArg (AV.own i84) (Nat.zero_add _), trivial⟩, zLe, trivial⟩
      ·refine yb (k := 1) j4 Zi<|fun i79 => z6<|zOn 11 Z<|y9 (k := 1) jk Y9 Z Z Z Z Z (fun _ => .t1) ⟨_, .t5⟩ Z (by rw [cB_len, hl2]; omega) (by decide) (cB_cell _) (by show (_ + _) * 1 ≤ _; omega) (by omega)<|fun i78 => z6<|zOn 17 Z<|y9 (k := 1) j4 Zi Z Z Z Z Z (fun _ => .head) ⟨_, .t6⟩ Z (by rw [cI_len, hl3]; omega) (by decide) (cI_cell _) (by show (_ + _) * 8 ≤ _; omega) (by omega)<|fun i84 => zw (zm (zp .head))<|zw (zm (zp .t1))<|zw (zm (zp .t2))<|z6<|zTk 18 Z (zAo Z)<|zTk 19 Z (zAo Z)<|zTk 20 Z (zAo Z)<|zDn ?_
       exact ⟨(i72, i78, i84), zR3, ⟨congrArg (AV.own i72) (Nat.zero_add _), congrArg (AV.own i78) (Nat.zero_add _), congrArg (AV.own i84) (Nat.zero_add _), trivial⟩, zLe, trivial⟩
     ·refine yb (k := 1) j4 Zi<|fun i79 => z6<|zOn 6 Z<|yb (k := 1) jk Y9<|fun i73 => z6<|zOn 11 Z<|y9 (k := 1) jk Y9 Z Z Z Z Z (fun _ => .head) ⟨_, .t5⟩ Z (by rw [cB_len, hl2]; omega) (by decide) (cB_cell _) (by show (_ + _) * 1 ≤ _; omega) (by omega)<|fun i78 => z6<|zOn 17 Z<|y9 (k := 1) j4 Zi Z Z Z Z Z (fun _ => .t1) ⟨_, .t6⟩ Z (by rw [cI_len, hl3]; omega) (by decide) (cI_cell _) (by show (_ + _) * 8 ≤ _; omega) (by omega)<|fun i84 => zw (zm (zp .t1))<|zw (zm (zp .t1))<|zw (zm (zp .t2))<|z6<|zTk 18 Z (zAo Z)<|zTk 19 Z (zAo Z)<|zTk 20 Z (zAo Z)<|zDn ?_
      exact ⟨(i72, i78, i84), zR3, ⟨congrArg (AV.own i72) (Nat.zero_add _), congrArg (AV.own i78) (Nat.zero_add _), congrArg (AV.own i84) (Nat.zero_add _), trivial⟩, zLe, trivial⟩
    ·refine yb (k := 1) jk Y9<|fun i73 => z6<|q7 (i := 5) (j := 12) Z Z (by kernel_rfl) ?_ ?_
     ·refine y9 (k := 1) jj Yg Z Z Z Z Z (fun _ => .t1) ⟨_, .t3⟩ Z (by rw [cI_len, hl1]; omega) (by decide) (cI_cell _) (by show (_ + _) * 8 ≤ _; omega) (by omega)<|fun i72 => z6<|q7 (i := 11) (j := 12) Z Z (by kernel_rfl) ?_ ?_
      ·refine y9 (k := 1) jk Y9 Z Z Z Z Z (fun _ => .head) ⟨_, .t4⟩ Z (by rw [cB_len, hl2]; omega) (by decide) (cB_cell _) (by show (_ + _) * 1 ≤ _; omega) (by omega)<|fun i78 => z6<|zOn 12 Z<|yb (k := 1) j4 Zi<|fun i79 => z6<|zOn 17 Z<|y9 (k := 1) j4 Zi Z Z Z Z Z (fun _ => .head) ⟨_, .t6⟩ Z (by rw [cI_len, hl3]; omega) (by decide) (cI_cell _) (by show (_ + _) * 8 ≤ _; omega) (by omega)<|fun i84 => zw (zm (zp .head))<|zw (zm (zp .t1))<|zw (zm (zp .t2))<|z6<|zTk 18 Z (zAo Z)<|zTk 19 Z (zAo Z)<|zTk 20 Z (zAo Z)<|zDn ?_
       exact ⟨(i72, i78, i84), zR3, ⟨congrArg (AV.own i72) (Nat.zero_add _), congrArg (AV.own i78) (Nat.zero_add _), congrArg (AV.own i84) (Nat.zero_add _), trivial⟩, zLe, trivial⟩
      ·refine yb (k := 1) j4 Zi<|fun i79 => z6<|zOn 11 Z<|y9 (k := 1) jk Y9 Z Z Z Z Z (fun _ => .t1) ⟨_, .t5⟩ Z (by rw [cB_len, hl2]; omega) (by decide) (cB_cell _) (by show (_ + _) * 1 ≤ _; omega) (by omega)<|fun i78 => z6<|zOn 17 Z<|y9 (k := 1) j4 Zi Z Z Z Z Z (fun _ => .head) ⟨_, .t6⟩ Z (by rw [cI_len, hl3]; omega) (by decide) (cI_cell _) (by show (_ + _) * 8 ≤ _; omega) (by omega)<|fun i84 => zw (zm (zp .head))<|zw (zm (zp .t1))<|zw (zm (zp .t2))<|z6<|zTk 18 Z (zAo Z)<|zTk 19 Z (zAo Z)<|zTk 20 Z (zAo Z)<|zDn ?_
       exact ⟨(i72, i78, i84), zR3, ⟨congrArg (AV.own i72) (Nat.zero_add _), congrArg (AV.own i78) (Nat.zero_add _), congrArg (AV.own i84) (Nat.zero_add _), trivial⟩, zLe, trivial⟩
     ·refine yb (k := 1) j4 Zi<|fun i79 => z6<|zOn 5 Z<|y9 (k := 1) jj Yg Z Z Z Z Z (fun _ => .t2) ⟨_, .t4⟩ Z (by rw [cI_len, hl1]; omega) (by decide) (cI_cell _) (by show (_ + _) * 8 ≤ _; omega) (by omega)<|fun i72 => z6<|zOn 11 Z<|y9 (k := 1) jk Y9 Z Z Z Z Z (fun _ => .t1) ⟨_, .t5⟩ Z (by rw [cB_len, hl2]; omega) (by decide) (cB_cell _) (by show (_ + _) * 1 ≤ _; omega) (by omega)<|fun i78 => z6<|zOn 17 Z<|y9 (k := 1) j4 Zi Z Z Z Z Z (fun _ => .head) ⟨_, .t6⟩ Z (by rw [cI_len, hl3]; omega) (by decide) (cI_cell _) (by show (_ + _) * 8 ≤ _; omega) (by omega)<|fun i84 => zw (zm (zp .head))<|zw (zm (zp .t1))<|zw (zm (zp .t2))<|z6<|zTk 18 Z (zAo Z)<|zTk 19 Z (zAo Z)<|zTk 20 Z (zAo Z)<|zDn ?_
      exact ⟨(i72, i78, i84), zR3, ⟨congrArg (AV.own i72) (Nat.zero_add _), congrArg (AV.own i78) (Nat.zero_add _), congrArg (AV.own i84) (Nat.zero_add _), trivial⟩, zLe, trivial⟩
    ·refine yb (k := 1) j4 Zi<|fun i79 => z6<|q7 (i := 5) (j := 6) Z Z (by kernel_rfl) ?_ ?_
     ·refine y9 (k := 1) jj Yg Z Z Z Z Z (fun _ => .t1) ⟨_, .t3⟩ Z (by rw [cI_len, hl1]; omega) (by decide) (cI_cell _) (by show (_ + _) * 8 ≤ _; omega) (by omega)<|fun i72 => z6<|zOn 6 Z<|yb (k := 1) jk Y9<|fun i73 => z6<|zOn 11 Z<|y9 (k := 1) jk Y9 Z Z Z Z Z (fun _ => .head) ⟨_, .t5⟩ Z (by rw [cB_len, hl2]; omega) (by decide) (cB_cell _) (by show (_ + _) * 1 ≤ _; omega) (by omega)<|fun i78 => z6<|zOn 17 Z<|y9 (k := 1) j4 Zi Z Z Z Z Z (fun _ => .t1) ⟨_, .t6⟩ Z (by rw [cI_len, hl3]; omega) (by decide) (cI_cell _) (by show (_ + _) * 8 ≤ _; omega) (by omega)<|fun i84 => zw (zm (zp .t1))<|zw (zm (zp .t1))<|zw (zm (zp .t2))<|z6<|zTk 18 Z (zAo Z)<|zTk 19 Z (zAo Z)<|zTk 20 Z (zAo Z)<|zDn ?_
      exact ⟨(i72, i78, i84), zR3, ⟨congrArg (AV.own i72) (Nat.zero_add _), congrArg (AV.own i78) (Nat.zero_add _), congrArg (AV.own i84) (Nat.zero_add _), trivial⟩, zLe, trivial⟩
     ·refine yb (k := 1) jk Y9<|fun i73 => z6<|zOn 5 Z<|y9 (k := 1) jj Yg Z Z Z Z Z (fun _ => .t2) ⟨_, .t4⟩ Z (by rw [cI_len, hl1]; omega) (by decide) (cI_cell _) (by show (_ + _) * 8 ≤ _; omega) (by omega)<|fun i72 => z6<|zOn 11 Z<|y9 (k := 1) jk Y9 Z Z Z Z Z (fun _ => .head) ⟨_, .t5⟩ Z (by rw [cB_len, hl2]; omega) (by decide) (cB_cell _) (by show (_ + _) * 1 ≤ _; omega) (by omega)<|fun i78 => z6<|zOn 17 Z<|y9 (k := 1) j4 Zi Z Z Z Z Z (fun _ => .t1) ⟨_, .t6⟩ Z (by rw [cI_len, hl3]; omega) (by decide) (cI_cell _) (by show (_ + _) * 8 ≤ _; omega) (by omega)<|fun i84 => zw (zm (zp .t1))<|zw (zm (zp .t1))<|zw (zm (zp .t2))<|z6<|zTk 18 Z (zAo Z)<|zTk 19 Z (zAo Z)<|zTk 20 Z (zAo Z)<|zDn ?_
      exact ⟨(i72, i78, i84), zR3, ⟨congrArg (AV.own i72) (Nat.zero_add _), congrArg (AV.own i78) (Nat.zero_add _), congrArg (AV.own i84) (Nat.zero_add _), trivial⟩, zLe, trivial⟩
   ·refine yb (k := 1) jk Y9<|fun i73 => z6<|q7 (i := 0) (j := 12) Z Z (by kernel_rfl) ?_ ?_
    ·refine yb (k := 1) jj Yg<|fun i67 => z6<|q7 (i := 5) (j := 12) Z Z (by kernel_rfl) ?_ ?_
     ·refine y9 (k := 1) jj Yg Z Z Z Z Z (fun _ => .head) ⟨_, .t3⟩ Z (by rw [cI_len, hl1]; omega) (by decide) (cI_cell _) (by show (_ + _) * 8 ≤ _; omega) (by omega)<|fun i72 => z6<|q7 (i := 11) (j := 12) Z Z (by kernel_rfl) ?_ ?_
      ·refine y9 (k := 1) jk Y9 Z Z Z Z Z (fun _ => .t1) ⟨_, .t4⟩ Z (by rw [cB_len, hl2]; omega) (by decide) (cB_cell _) (by show (_ + _) * 1 ≤ _; omega) (by omega)<|fun i78 => z6<|zOn 12 Z<|yb (k := 1) j4 Zi<|fun i79 => z6<|zOn 17 Z<|y9 (k := 1) j4 Zi Z Z Z Z Z (fun _ => .head) ⟨_, .t6⟩ Z (by rw [cI_len, hl3]; omega) (by decide) (cI_cell _) (by show (_ + _) * 8 ≤ _; omega) (by omega)<|fun i84 => zw (zm (zp .head))<|zw (zm (zp .t2))<|zw (zm (zp .t2))<|z6<|zTk 18 Z (zAo Z)<|zTk 19 Z (zAo Z)<|zTk 20 Z (zAo Z)<|zDn ?_
       exact ⟨(i72, i78, i84), zR3, ⟨congrArg (AV.own i72) (Nat.zero_add _), congrArg (AV.own i78) (Nat.zero_add _), congrArg (AV.own i84) (Nat.zero_add _), trivial⟩, zLe, trivial⟩
      ·refine yb (k := 1) j4 Zi<|fun i79 => z6<|zOn 11 Z<|y9 (k := 1) jk Y9 Z Z Z Z Z (fun _ => .t2) ⟨_, .t5⟩ Z (by rw [cB_len, hl2]; omega) (by decide) (cB_cell _) (by show (_ + _) * 1 ≤ _; omega) (by omega)<|fun i78 => z6<|zOn 17 Z<|y9 (k := 1) j4 Zi Z Z Z Z Z (fun _ => .head) ⟨_, .t6⟩ Z (by rw [cI_len, hl3]; omega) (by decide) (cI_cell _) (by show (_ + _) * 8 ≤ _; omega) (by omega)<|fun i84 => zw (zm (zp .head))<|zw (zm (zp .t2))<|zw (zm (zp .t2))<|z6<|zTk 18 Z (zAo Z)<|zTk 19 Z (zAo Z)<|zTk 20 Z (zAo Z)<|zDn ?_
       exact ⟨(i72, i78, i84), zR3, ⟨congrArg (AV.own i72) (Nat.zero_add _), congrArg (AV.own i78) (Nat.zero_add _), congrArg (AV.own i84) (Nat.zero_add _), trivial⟩, zLe, trivial⟩
     ·refine yb (k := 1) j4 Zi<|fun i79 => z6<|zOn 5 Z<|y9 (k := 1) jj Yg Z Z Z Z Z (fun _ => .t1) ⟨_, .t4⟩ Z (by rw [cI_len, hl1]; omega) (by decide) (cI_cell _) (by show (_ + _) * 8 ≤ _; omega) (by omega)<|fun i72 => z6<|zOn 11 Z<|y9 (k := 1) jk Y9 Z Z Z Z Z (fun _ => .t2) ⟨_, .t5⟩ Z (by rw [cB_len, hl2]; omega) (by decide) (cB_cell _) (by show (_ + _) * 1 ≤ _; omega) (by omega)<|fun i78 => z6<|zOn 17 Z<|y9 (k := 1) j4 Zi Z Z Z Z Z (fun _ => .head) ⟨_, .t6⟩ Z (by rw [cI_len, hl3]; omega) (by decide) (cI_cell _) (by show (_ + _) * 8 ≤ _; omega) (by omega)<|fun i84 => zw (zm (zp .head))<|zw (zm (zp .t2))<|zw (zm (zp .t2))<|z6<|zTk 18 Z (zAo Z)<|zTk 19 Z (zAo Z)<|zTk 20 Z (zAo Z)<|zDn ?_
      exact ⟨(i72, i78, i84), zR3, ⟨congrArg (AV.own i72) (Nat.zero_add _), congrArg (AV.own i78) (Nat.zero_add _), congrArg (AV.own i84) (Nat.zero_add _), trivial⟩, zLe, trivial⟩
    ·refine yb (k := 1) j4 Zi<|fun i79 => z6<|zOn 0 Z<|yb (k := 1) jj Yg<|fun i67 => z6<|zOn 5 Z<|y9 (k := 1) jj Yg Z Z Z Z Z (fun _ => .head) ⟨_, .t4⟩ Z (by rw [cI_len, hl1]; omega) (by decide) (cI_cell _) (by show (_ + _) * 8 ≤ _; omega) (by omega)<|fun i72 => z6<|zOn 11 Z<|y9 (k := 1) jk Y9 Z Z Z Z Z (fun _ => .t2) ⟨_, .t5⟩ Z (by rw [cB_len, hl2]; omega) (by decide) (cB_cell _) (by show (_ + _) * 1 ≤ _; omega) (by omega)<|fun i78 => z6<|zOn 17 Z<|y9 (k := 1) j4 Zi Z Z Z Z Z (fun _ => .t1) ⟨_, .t6⟩ Z (by rw [cI_len, hl3]; omega) (by decide) (cI_cell _) (by show (_ + _) * 8 ≤ _; omega) (by omega)<|fun i84 => zw (zm (zp .t1))<|zw (zm (zp .t2))<|zw (zm (zp .t2))<|z6<|zTk 18 Z (zAo Z)<|zTk 19 Z (zAo Z)<|zTk 20 Z (zAo Z)<|zDn ?_
     exact ⟨(i72, i78, i84), zR3, ⟨congrArg (AV.own i72) (Nat.zero_add _), congrArg (AV.own i78) (Nat.zero_add _), congrArg (AV.own i84) (Nat.zero_add _), trivial⟩, zLe, trivial⟩
   ·refine yb (k := 1) j4 Zi<|fun i79 => z6<|q7 (i := 0) (j := 6) Z Z (by kernel_rfl) ?_ ?_
    ·refine yb (k := 1) jj Yg<|fun i67 => z6<|q7 (i := 5) (j := 6) Z Z (by kernel_rfl) ?_ ?_
     ·refine y9 (k := 1) jj Yg Z Z Z Z Z (fun _ => .head) ⟨_, .t3⟩ Z (by rw [cI_len, hl1]; omega) (by decide) (cI_cell _) (by show (_ + _) * 8 ≤ _; omega) (by omega)<|fun i72 => z6<|zOn 6 Z<|yb (k := 1) jk Y9<|fun i73 => z6<|zOn 11 Z<|y9 (k := 1) jk Y9 Z Z Z Z Z (fun _ => .head) ⟨_, .t5⟩ Z (by rw [cB_len, hl2]; omega) (by decide) (cB_cell _) (by show (_ + _) * 1 ≤ _; omega) (by omega)<|fun i78 => z6<|zOn 17 Z<|y9 (k := 1) j4 Zi Z Z Z Z Z (fun _ => .t2) ⟨_, .t6⟩ Z (by rw [cI_len, hl3]; omega) (by decide) (cI_cell _) (by show (_ + _) * 8 ≤ _; omega) (by omega)<|fun i84 => zw (zm (zp .t2))<|zw (zm (zp .t1))<|zw (zm (zp .t2))<|z6<|zTk 18 Z (zAo Z)<|zTk 19 Z (zAo Z)<|zTk 20 Z (zAo Z)<|zDn ?_
      exact ⟨(i72, i78, i84), zR3, ⟨congrArg (AV.own i72) (Nat.zero_add _), congrArg (AV.own i78) (Nat.zero_add _), congrArg (AV.own i84) (Nat.zero_add _), trivial⟩, zLe, trivial⟩
     ·refine yb (k := 1) jk Y9<|fun i73 => z6<|zOn 5 Z<|y9 (k := 1) jj Yg Z Z Z Z Z (fun _ => .t1) ⟨_, .t4⟩ Z (by rw [cI_len, hl1]; omega) (by decide) (cI_cell _) (by show (_ + _) * 8 ≤ _; omega) (by omega)<|fun i72 => z6<|zOn 11 Z<|y9 (k := 1) jk Y9 Z Z Z Z Z (fun _ => .head) ⟨_, .t5⟩ Z (by rw [cB_len, hl2]; omega) (by decide) (cB_cell _) (by show (_ + _) * 1 ≤ _; omega) (by omega)<|fun i78 => z6<|zOn 17 Z<|y9 (k := 1) j4 Zi Z Z Z Z Z (fun _ => .t2) ⟨_, .t6⟩ Z (by rw [cI_len, hl3]; omega) (by decide) (cI_cell _) (by show (_ + _) * 8 ≤ _; omega) (by omega)<|fun i84 => zw (zm (zp .t2))<|zw (zm (zp .t1))<|zw (zm (zp .t2))<|z6<|zTk 18 Z (zAo Z)<|zTk 19 Z (zAo Z)<|zTk 20 Z (zAo Z)<|zDn ?_
      exact ⟨(i72, i78, i84), zR3, ⟨congrArg (AV.own i72) (Nat.zero_add _), congrArg (AV.own i78) (Nat.zero_add _), congrArg (AV.own i84) (Nat.zero_add _), trivial⟩, zLe, trivial⟩
    ·refine yb (k := 1) jk Y9<|fun i73 => z6<|zOn 0 Z<|yb (k := 1) jj Yg<|fun i67 => z6<|zOn 5 Z<|y9 (k := 1) jj Yg Z Z Z Z Z (fun _ => .head) ⟨_, .t4⟩ Z (by rw [cI_len, hl1]; omega) (by decide) (cI_cell _) (by show (_ + _) * 8 ≤ _; omega) (by omega)<|fun i72 => z6<|zOn 11 Z<|y9 (k := 1) jk Y9 Z Z Z Z Z (fun _ => .t1) ⟨_, .t5⟩ Z (by rw [cB_len, hl2]; omega) (by decide) (cB_cell _) (by show (_ + _) * 1 ≤ _; omega) (by omega)<|fun i78 => z6<|zOn 17 Z<|y9 (k := 1) j4 Zi Z Z Z Z Z (fun _ => .t2) ⟨_, .t6⟩ Z (by rw [cI_len, hl3]; omega) (by decide) (cI_cell _) (by show (_ + _) * 8 ≤ _; omega) (by omega)<|fun i84 => z6<|zTk 18 Z (zAo Z)<|zTk 19 Z (zAo Z)<|zTk 20 Z (zAo Z)<|zDn ?_
     exact ⟨(i72, i78, i84), zR3, ⟨congrArg (AV.own i72) (Nat.zero_add _), congrArg (AV.own i78) (Nat.zero_add _), congrArg (AV.own i84) (Nat.zero_add _), trivial⟩, zLe, trivial⟩
  ·rintro ⟨i72, i78, i84⟩ _
   refine zb<|zSr<|zVzMp Z<|zVGvnilCheckO Z<|z8 (zc j9 Z ji (by decide) Z Z)<|z8 (zc j8 Z ju (by decide) Z Z)<|z8 (zi (c := .fro _ _) Z5 Z ⟨_, .head⟩ Z)<|zVzMi Z<|z8 (zIM to.toNat jh jm Z Z (by omega) hB)<|zVzFF j6 Z Z8 Z Z<|zVzLf Zs Z<|zVGvlenM jq Z<|zVzMi Z<|z6<|zh<|y3 (γ := Nat) [0, 1, 4, 9, 10, 11, 93, 94] (fun k => [(95, .int .i64 k)]) (fun k => (iw, .cells 93 (wCe f ja jb jc jo jt (toG B.phis s k))) :: (i72, .grow 1 2 (cI s.ints)) :: (i78, .grow 1 4 (cB s.bools)) :: (i84, .grow 1 3 (cI s.arrs)) :: (i4, .grow 1 3 (cI (gotL B.phis s.blk B.phis.length))) :: wR ja jb jc jo jt ids (toG B.phis s k)) (fun k => k ≤ B.phis.length) (fun k => B.phis.length - k) 0 zR1 zLe (qp _) ?_
   rintro k hk
   refine zSr<|zVGvlss Z Z<|z6<|zb<|zk Z (fun ck=>?_) (fun ck=>?_)
   ·have hk2 : k < B.phis.length := by simp at ck; omega
    obtain ⟨p, hp⟩ : ∃ p, B.phis[k] = p := ⟨_, rfl⟩
    have hpg : B.phis[k]? = some p := by rw [qm hk2, hp]
    have hpm := qv hpg
    have hp0 := hok p hpm
    obtain ⟨hd, _, _, ha, _⟩ := hph p hpm
    obtain ⟨d1, d0⟩ := has_lt hd
    obtain ⟨v1, v0⟩ := has_lt (List.all_eq_true.1 ha _ (phiAt_mem hp0))
    have hgg : (gotL B.phis s.blk B.phis.length)[k]? = some (phiAt p s.blk) := by rw [got_get hk2, hp]
    have t1 := (hT k).li
    have t2 := (hT k).lb
    have t3 := (hT k).la
    refine ze<|zb<|zh<|zSr<|zVzMi Z<|z8 (zIM k jq js Z Z Z hpg)<|zVGvloadWF Zt js Z Z<|zu (cs := [.int .i64 0, .raw (.slice none 0 0), .raw (.slice none 0 0)]) Zb Z Z<|fun i13 => zVzAi Z<|zt js Z Z Z Z Z Z .head Z<|zw (yi (t := 13) Z .head)<|z6<|AWP.regionDrawR (by kernel_rfl) Z (zr (.r (.r (.r (.r (.r (.l (.l (.l (.l (.l (.l (.rest _)))))))))))))<|y7 (i := 0) Z (by kernel_rfl) (by kernel_rfl) (by kernel_rfl) (zMp Z)<|y7 (i := 1) Z (by kernel_rfl) (by kernel_rfl) (by kernel_rfl) (zy Z)<|y7 (i := 2) Z (by kernel_rfl) (by kernel_rfl) (by kernel_rfl) (zc j9 Z Za (by decide) Z Z)<|y7 (i := 3) Z (by kernel_rfl) (by kernel_rfl) (by kernel_rfl) (zi (c := .own _ _) Zn Z ⟨_, .head⟩ Z)<|y7 (i := 4) Z (by kernel_rfl) (by kernel_rfl) (by kernel_rfl) (zFF jg Z j5 Z Z)<|y7 (i := 5) Z (by kernel_rfl) (by kernel_rfl) (by kernel_rfl) (zLi jd Z)<|y7 (i := 6) Z (by kernel_rfl) (by kernel_rfl) (by kernel_rfl) (zMp Z)<|y7 (i := 7) Z (by kernel_rfl) (by kernel_rfl) (by kernel_rfl) (zy Z)<|y7 (i := 8) Z (by kernel_rfl) (by kernel_rfl) (by kernel_rfl) (zc j9 Z Yk (by decide) Z Z)<|y7 (i := 9) Z (by kernel_rfl) (by kernel_rfl) (by kernel_rfl) (zi (c := .own _ _) Yu Z ⟨_, .head⟩ Z)<|y7 (i := 10) Z (by kernel_rfl) (by kernel_rfl) (by kernel_rfl) (zFF jg Z j5 Z Z)<|y7 (i := 11) Z (by kernel_rfl) (by kernel_rfl) (by kernel_rfl) (zLi jd Z)<|y7 (i := 12) Z (by kernel_rfl) (by kernel_rfl) (by kernel_rfl) (zMp Z)<|y7 (i := 13) Z (by kernel_rfl) (by kernel_rfl) (by kernel_rfl) (zy Z)<|y7 (i := 14) Z (by kernel_rfl) (by kernel_rfl) (by kernel_rfl) (zc j9 Z je (by decide) Z Z)<|y7 (i := 15) Z (by kernel_rfl) (by kernel_rfl) (by kernel_rfl) (zi (c := .own _ _) jn Z ⟨_, .head⟩ Z)<|y7 (i := 16) Z (by kernel_rfl) (by kernel_rfl) (by kernel_rfl) (zFF jg Z j5 Z Z)<|y7 (i := 17) Z (by kernel_rfl) (by kernel_rfl) (by kernel_rfl) (zLi jd Z)<|y7 (i := 18) Z (by kernel_rfl) (by kernel_rfl) (by kernel_rfl) (zMo Z)<|y7 (i := 19) Z (by kernel_rfl) (by kernel_rfl) (by kernel_rfl) (zMo Z)<|y7 (i := 20) Z (by kernel_rfl) (by kernel_rfl) (by kernel_rfl) (zMi Z)<|y7 (i := 21) Z (by kernel_rfl) (by kernel_rfl) (by kernel_rfl) (yj (j := k) j4 j5 Z Z Z ⟨_, .t4⟩ ((cI_len _).trans (got_len (Nat.le_refl _))) hk2)<|y7 (i := 22) Z (by kernel_rfl) (by kernel_rfl) (by kernel_rfl) (qh (j := k) jd Z ⟨_, .t4⟩ hgg)<|y7 (i := 23) Z (by kernel_rfl) (by kernel_rfl) (by kernel_rfl) (yj (j := (phiAt p s.blk).toNat) jj Z3 Z Z (w3 v0).symm ⟨_, .t1⟩ ((cI_len _).trans hl1) (by omega))<|y7 (i := 24) Z (by kernel_rfl) (by kernel_rfl) (by kernel_rfl) (qh (j := (phiAt p s.blk).toNat) Y7 Z ⟨_, .t1⟩ (vi_get (by omega) v0))<|y7 (i := 25) Z (by kernel_rfl) (by kernel_rfl) (by kernel_rfl) (zMo Z)<|y7 (i := 26) Z (by kernel_rfl) (by kernel_rfl) (by kernel_rfl) (zMo Z) ?_
    refine y7 (i := 27) Z (by kernel_rfl) (by kernel_rfl) (by kernel_rfl) (zMi Z)<|y7 (i := 28) Z (by kernel_rfl) (by kernel_rfl) (by kernel_rfl) (yj (j := k) j4 j5 Z Z Z ⟨_, .t4⟩ ((cI_len _).trans (got_len (Nat.le_refl _))) hk2)<|y7 (i := 29) Z (by kernel_rfl) (by kernel_rfl) (by kernel_rfl) (qh (j := k) jd Z ⟨_, .t4⟩ hgg)<|y7 (i := 30) Z (by kernel_rfl) (by kernel_rfl) (by kernel_rfl) (yj (j := (phiAt p s.blk).toNat) jk Z6 Z Z (w3 v0).symm ⟨_, .t2⟩ ((cB_len _).trans hl2) (by omega))<|y7 (i := 31) Z (by kernel_rfl) (by kernel_rfl) (by kernel_rfl) (Gv.loadB (j := (phiAt p s.blk).toNat) Yn Z ⟨_, .t2⟩ (gb_get (by omega) v0))<|y7 (i := 32) Z (by kernel_rfl) (by kernel_rfl) (by kernel_rfl) (zMo Z)<|y7 (i := 33) Z (by kernel_rfl) (by kernel_rfl) (by kernel_rfl) (zMo Z)<|y7 (i := 34) Z (by kernel_rfl) (by kernel_rfl) (by kernel_rfl) (zMi Z)<|y7 (i := 35) Z (by kernel_rfl) (by kernel_rfl) (by kernel_rfl) (yj (j := k) j4 j5 Z Z Z ⟨_, .t4⟩ ((cI_len _).trans (got_len (Nat.le_refl _))) hk2)<|y7 (i := 36) Z (by kernel_rfl) (by kernel_rfl) (by kernel_rfl) (qh (j := k) jd Z ⟨_, .t4⟩ hgg)<|y7 (i := 37) Z (by kernel_rfl) (by kernel_rfl) (by kernel_rfl) (yj (j := (phiAt p s.blk).toNat) j4 j5 Z Z (w3 v0).symm ⟨_, .t3⟩ ((cI_len _).trans hl3) (by omega))<|y7 (i := 38) Z (by kernel_rfl) (by kernel_rfl) (by kernel_rfl) (qh (j := (phiAt p s.blk).toNat) jd Z ⟨_, .t3⟩ (vi_get (by omega) v0))<|ql (i := 39) Z (by kernel_rfl)<|z8 (yj (j := p.dst.toNat) jj Z3 Z Z (w3 d0).symm ⟨_, .head⟩ ((cI_len _).trans t1) (by omega))<|z6<|ql (i := 40) Z (by kernel_rfl)<|q6 (j := p.dst.toNat) Z3 Z Z .head (by first | omega | (simp; omega))<|z6<|ql (i := 41) Z (by kernel_rfl)<|z8 (yj (j := p.dst.toNat) jk Z6 Z Z (w3 d0).symm ⟨_, .t1⟩ ((cB_len _).trans t2) (by omega))<|z6<|ql (i := 42) Z (by kernel_rfl)<|qd (j := p.dst.toNat) Z6 Z Z .t1 (by first | omega | (simp; omega))<|z6<|ql (i := 43) Z (by kernel_rfl)<|z8 (yj (j := p.dst.toNat) j4 j5 Z Z (w3 d0).symm ⟨_, .t2⟩ ((cI_len _).trans t3) (by omega))<|z6<|ql (i := 44) Z (by kernel_rfl)<|q6 (j := p.dst.toNat) j5 Z Z .t2 (by first | omega | (simp; omega))<|z6<|AAnyR.done (by kernel_rfl)<|zRg<|zVzAd Z Z<|zVzMi Z<|z6 ?_
    exact ⟨k + 1, zR8, zR1, ⟨_, (.refl _), by rw [to_push hk2, hp]; rfl⟩, hk2, by omega⟩
   ·obtain rfl : k = B.phis.length := by simp at ck; omega
    refine y6 (GStep.drop .t1)<|y6 (GStep.drop .t1)<|y6 (GStep.drop .t1)<|y6 (GStep.drop .t1)<|y2<|zRg<|zVzMp Z<|zVzMp Z<|zVzMi Z<|zVGvnilCheckO Z<|z8 (zc j9 Z j5 (by decide) Z Z)<|y1 (l := [_]) (new := [_, _, _, _, _, _, _, _, _, _, _, _, _, _, _, _, _, _, _, _, _, _, _]) j5 Z Z Z Z Z Z .head Z Z<|zVGvnilCheckO Z<|z8 (zc j9 Z j5 (by decide) Z Z)<|y1 (l := [_]) (new := [_, _, _, _, _, _, _, _, _, _, _, _, _, _, _, _, _, _, _, _, _, _, _]) j5 Z Z Z Z Z Z .head Z Z<|z6<|yt ?_
    exact ⟨by rw [hE]; show _ = (toG B.phis s B.phis.length).arrays.length; rw [to_arrays]; exact hids, rfl, by rw [hE]; rfl⟩
end Go.Proofs.YtpojdepccecpgaaGreatDoor
namespace Go.Proofs.YtpojdepccecpgaaGreatDoor
open Go.Proofs.Tryz
open Go.Proofs Go.Lib Go.Shelf Go.RowKit
variable {E : World}
set_option maxRecDepth 20000
theorem step_inst {f : PFunc} {s : GS} {x : PInst} (h : (blkG f s.blk).insts[s.pc]? = some x) : stepG f s = instG { s with pc := s.pc + 1, st := s.st + 1 } x := by unfold stepG; rw [h]
theorem step_end {f : PFunc} {s : GS} (h : (blkG f s.blk).insts[s.pc]? = none) : stepG f s = if (blkG f s.blk).term.kind = 2 then stopG { s with st := s.st + 1, val := vi s.ints (blkG f s.blk).term.var } 0 else enterG f { s with st := s.st + 1 } (nextG f s) := by unfold stepG; rw [h]
theorem term_v {f : PFunc} {t : PTerm} (h : termOK f t = true) (hk : ¬ t.kind = 0) : t.var < f.vars.length ∧ 0 ≤ t.var := has_lt (term_var h hk)
set_option maxHeartbeats 8000000 in
theorem wstep_spec (f : PFunc) (iw ja jb jc jo jt : Nat) (ids : List Nat) (s : GS) (hids : ids.length = s.arrays.length) (hg : GInv f s) (hR : RunP f) (hv : f.vars.length ≤ 1000) (hs : small f) (hst : s.st ≤ 1000000000) (hck : ∀ i, s.ck i ≤ 1000000000) : ACall prog E 42 [.po iw 0] (wO f iw ja jb jc jo jt ids s) (fun y O => ∃ jo' jt' ids', ids'.length = (stepG f s).arrays.length ∧ y = .tup [] ∧ O = wO f iw ja jb jc jo' jt' ids' (stepG f s)) := by
 have hB := blk_get hg.b0 hg.b1
 have hBm := qv hB
 have hsm := (hs.2.2.2.2 _ hBm).2.2.1
 have hpc := hg.pc
 have hin := hR.insts _ hBm
 have htm := hR.term _ hBm
 have hi := @step_inst f s
 have he := @step_end f s
 obtain ⟨B, hBe⟩ : ∃ B, blkG f s.blk = B := ⟨_, rfl⟩
 have hnx : nextG f s = if B.term.kind = 0 ∨ gb s.bools B.term.var = true then B.term.to0 else B.term.to1 := by rw [← hBe]; rfl
 have hnt := next_to hR hg
 rw [hBe] at hB hsm hpc hin htm hi he hnt
 have hl1 := hg.li
 have hl2 := hg.lb
 have hgu : GInv f { s with st := s.st + 1 } := hg.up _ s.val
 refine zl func42 Z (by decide) Z<|zSr<|zVzMp Z<|zVGvnilCheckO Z<|z8 (zc j9 Z Z9 (by decide) Z Z)<|z8 (zc jr Z j5 (by decide) Z Z)<|z8 (zi (c := .int _ _) jd Z ⟨_, .head⟩ Z)<|zVzAd Z Z<|zVGvnilCheckO Z<|z8 (zc j9 Z Z9 (by decide) Z Z)<|z8 (zc jr Z j5 (by decide) Z Z)<|y1 (l := [_]) (new := [_, _, _, _, _, _, _, _, _, _, _, _, _, _, _, _, _, _, _, _, _, _, _]) j5 Z Z Z Z Z Z .head Z Z<|z6<|zb<|zq (fun j => Nat.beq j 12) (by kernel_rfl) Z (zr (.r (.rest _)))<|zTk 0 Z (zMp Z)<|zTk 1 Z (zy Z)<|zTk 2 Z (zc j9 Z ji (by decide) Z Z)<|zTk 3 Z (zc j8 Z ju (by decide) Z Z)<|zTk 4 Z (zi (c := .fro _ _) Z5 Z ⟨_, .head⟩ Z)<|zTk 5 Z (zMp Z)<|zTk 6 Z (zy Z)<|zTk 7 Z (zc j9 Z j5 (by decide) Z Z)<|zTk 8 Z (zi (c := .int _ _) jd Z ⟨_, .head⟩ Z)<|zTk 9 Z (zIM s.blk.toNat jh jm Z Z (w3 hg.b0).symm hB)<|zTk 10 Z (yo Zq jm Z Z)<|zOn 11 Z<|zu (cs := [.str ⟨#[]⟩, .raw (.slice none 0 0), .raw (.slice none 0 0), .int .i64 0, .int .i64 0, .int .i64 0, .int .i64 0]) Z4 Z Z<|fun i2 => z6<|yc<|yd (i := 12) Z (by kernel_rfl) (by kernel_rfl)<|zt jm Z Z Z Z Z Z .t1 Z<|z6<|yg (by kernel_rfl)<|y6 (yi (t := 2) Z .t1)<|zb<|zb<|zq (fun j => false) (by kernel_rfl) Z (zr (.r (.rest _)))<|zTk 0 Z (zMp Z)<|zTk 1 Z (zy Z) ?_
 refine zTk 2 Z (zc j9 Z j5 (by decide) Z Z)<|zTk 3 Z (zi (c := .int _ _) jd Z ⟨_, .head⟩ Z)<|zTk 4 Z (zFF j6 Z Zh Z Z)<|zTk 5 Z (zLf Y3 Z)<|zTk 6 Z (Gv.lenM jw Z)<|zTk 7 Z (Gv.lss Z Z)<|zDn<|zk Z (fun cp=>?_) (fun cp=>?_)
 ·have hp : s.pc < B.insts.length := by simp at cp; omega
  obtain ⟨x, hx⟩ : ∃ x, B.insts[s.pc] = x := ⟨_, rfl⟩
  have hxg : B.insts[s.pc]? = some x := by rw [qm hp, hx]
  obtain ⟨hix, h64⟩ := hin x (qv hxg)
  have hS := hi hxg
  have hg2 : GInv f { s with pc := s.pc + 1, st := s.st + 1 } := ⟨hg.li, hg.lb, hg.la, hg.i64, hg.arr, hg.ls, hg.lr, hg.r64, hg.lt, hg.b0, hg.b1, by show s.pc + 1 ≤ (blkG f s.blk).insts.length; rw [hBe]; exact hp⟩
  refine zSr<|zVzMp Z<|zVGvnilCheckO Z<|z8 (zc j9 Z j5 (by decide) Z Z)<|z8 (zi (c := .int _ _) jd Z ⟨_, .head⟩ Z)<|zVzAd Z Z<|zVGvnilCheckO Z<|z8 (zc j9 Z j5 (by decide) Z Z)<|y1 (l := [_]) (new := [_, _, _, _, _, _, _, _, _, _, _, _, _, _, _, _, _, _, _, _, _, _, _]) j5 Z Z Z Z Z Z .head Z Z<|z6<|zb<|zq (fun j => false) (by kernel_rfl) Z (zr (.rest _))<|zTk 0 Z (zMp Z)<|zTk 1 Z (zFF j6 Z Zh Z Z)<|zTk 2 Z (zLf Y3 Z)<|zTk 3 Z (zMp Z)<|zTk 4 Z (zy Z)<|zTk 5 Z (zc j9 Z j5 (by decide) Z Z)<|zOn 6 Z<|z8 (zi (c := .int _ _) jd Z ⟨_, .head⟩ Z)<|z6<|zTk 7 Z (Gv.sub Z Z (by unfold I64; omega))<|zTk 8 Z (zIM s.pc jw jz Z Z (by omega) hxg)<|zTk 9 Z (yo Y8 jz Z Z)<|zOn 10 Z<|yh Z (zr (.l (.l (.l (.l (.l (.l (.l (.rest _))))))))) (winst_spec f iw ja jb jc jo jt ids { s with pc := s.pc + 1, st := s.st + 1 } x hids hg2 hix hv hck) ?_
  rintro r49 O49 ⟨jo', jt', ids', hl', rfl, rfl⟩
  refine z6<|zDn<|zf<|yt ?_
  exact ⟨jo', jt', ids', by rw [hS]; exact hl', rfl, by rw [hS]; rfl⟩
 ·have hp : B.insts[s.pc]? = none := by rw [List.getElem?_eq_none]; simp at cp; omega
  have hS := he hp
  refine ze<|zSr<|zVzFF j6 Z jx Z Z<|zVGvloadWF Ye jx Z Z<|zu (cs := [.int .i64 0, .int .i64 0, .int .i64 0, .int .i64 0]) zeroValue66 Z Z<|fun i3 => zt jx Z Z Z Z Z Z .head Z<|zw (yi (t := 3) Z .head)<|z6<|zh<|zSr<|zVzFF j7 Z Zk Z Z<|zVzLi Zr Z<|zVGveqlI Z Z<|zVzAb Z<|z6<|zk Z (fun ck=>?_) (fun ck=>?_)
  ·have ck : B.term.kind = 2 := by simpa using ck
   rw [if_pos ck] at hS
   obtain ⟨v1, v0⟩ := term_v htm (by omega)
   refine zb<|zq (fun j => Nat.beq j 12) (by kernel_rfl) Z (zr (.r (.r (.r (.rest _)))))<|zTk 0 Z (zMp Z)<|zTk 1 Z (zMp Z)<|zTk 2 Z (zy Z)<|zTk 3 Z (zc j9 Z Za (by decide) Z Z)<|zTk 4 Z (zi (c := .own _ _) Zn Z ⟨_, .head⟩ Z)<|zTk 5 Z (zFF j7 Z j5 Z Z)<|zTk 6 Z (zLi jd Z)<|zTk 7 Z (yj (j := B.term.var.toNat) jj Z3 Z Z (w3 v0).symm ⟨_, .t1⟩ ((cI_len _).trans hl1) (by omega))<|zTk 8 Z (qh (j := B.term.var.toNat) Y7 Z ⟨_, .t1⟩ (vi_get (by omega) v0))<|yk (i := 9) Z (by kernel_rfl) (by kernel_rfl) (by kernel_rfl) (by kernel_rfl) (zy Z)<|yk (i := 10) Z (by kernel_rfl) (by kernel_rfl) (by kernel_rfl) (by kernel_rfl) (zc j9 Z Z9 (by decide) Z Z)<|zTk 11 Z (zc jr Z Z3 (by decide) Z Z)<|yc<|yd (i := 12) Z (by kernel_rfl) (by kernel_rfl)<|y1 (l := [_]) (new := [_, _, _, _, _, _, _, _, _, _, _, _, _, _, _, _, _, _, _, _, _, _, _]) Z3 Z Z Z Z Z Z .head Z Z<|z6<|yg (by kernel_rfl)<|zRg<|zVzMp Z<|yh Z (zr (.l (.l (.l (.l (.l (.l (.l (.rest _))))))))) (wend_spec f iw ja jb jc jo jt ids { s with st := s.st + 1, val := vi s.ints B.term.var } 0) ?_
   rintro r74 O74 ⟨rfl, rfl⟩
   refine z6<|yt ?_
   exact ⟨jo, jt, ids, by rw [hS]; exact hids, rfl, by rw [hS]; rfl⟩
  ·have ck : ¬ B.term.kind = 2 := by simpa using ck
   rw [if_neg ck] at hS
   obtain ⟨g0, g1⟩ := hnt ck
   refine zb<|zq (fun j => false) (by kernel_rfl) Z (zr (.r (.r (.r (.rest _)))))<|zTk 0 Z (zFF j7 Z Zk Z Z)<|zTk 1 Z (zLi Zr Z)<|zTk 2 Z (Gv.eqlI Z Z)<|zTk 3 Z (zMb Z)<|AAny.case (s := 79) Z (fun c0=>?_) (fun c0=>?_)
   ·have d0 : B.term.kind = 0 := by simpa using c0
    rw [if_pos (.inl d0)] at hnx
    rw [hnx] at hS g0 g1
    refine zTf 4 Z Z Z c0<|zTf 5 Z Z Z c0<|zTf 6 Z Z Z c0<|zTf 7 Z Z Z c0<|zTf 8 Z Z Z c0<|zTf 9 Z Z Z c0<|zTf 10 Z Z Z c0<|zTf 11 Z Z Z c0<|zTk 12 Z (zPt Z c0 Z)<|zTk 13 Z (zAb Z)<|zDn<|yq Z Z<|zRg<|zVzMp Z<|zVzFF j7 Z jy Z Z<|z8 (yp (j := 0) jl j5 Z Z Z (by decide) Z)<|zVzLi jd Z<|yh Z (zr (.l (.l (.l (.l (.l (.l (.l (.rest _))))))))) (wenter_spec f iw ja jb jc jo jt ids { s with st := s.st + 1 } B.term.to0 hids hgu hR hv hs g0 g1) ?_
    rintro r93 O93 ⟨hl', rfl, rfl⟩
    refine z6<|yt ?_
    exact ⟨jo, jt, ids, by rw [hS]; exact hl', rfl, by rw [hS]; rfl⟩
   ·have d0 : ¬ B.term.kind = 0 := by simpa using c0
    obtain ⟨v1, v0⟩ := term_v htm d0
    refine zTt 4 Z Z Z c0 (zMp Z)<|zTt 5 Z Z Z c0 (zy Z)<|zTt 6 Z Z Z c0 (zc j9 Z Yk (by decide) Z Z)<|zTt 7 Z Z Z c0 (zi (c := .own _ _) Yu Z ⟨_, .head⟩ Z)<|zTt 8 Z Z Z c0 (zFF j7 Z j5 Z Z)<|zTt 9 Z Z Z c0 (zLi jd Z)<|zTt 10 Z Z Z c0 (yj (j := B.term.var.toNat) jk Z6 Z Z (w3 v0).symm ⟨_, .t2⟩ ((cB_len _).trans hl2) (by omega))<|zTt 11 Z Z Z c0 (Gv.loadB (j := B.term.var.toNat) Yn Z ⟨_, .t2⟩ (gb_get (by omega) v0))<|zTk 12 Z (zPf Z c0 Z)<|zTk 13 Z (zAb Z)<|zDn<|zz Z (fun cw=>?_) (fun cw=>?_)
    ·have cw : gb s.bools B.term.var = true := cw
     rw [if_pos (.inr cw)] at hnx
     rw [hnx] at hS g0 g1
     refine zRg<|zVzMp Z<|zVzFF j7 Z jy Z Z<|z8 (yp (j := 0) jl j5 Z Z Z (by decide) Z)<|zVzLi jd Z<|yh Z (zr (.l (.l (.l (.l (.l (.l (.l (.rest _))))))))) (wenter_spec f iw ja jb jc jo jt ids { s with st := s.st + 1 } B.term.to0 hids hgu hR hv hs g0 g1) ?_
     rintro r93 O93 ⟨hl', rfl, rfl⟩
     refine z6<|yt ?_
     exact ⟨jo, jt, ids, by rw [hS]; exact hl', rfl, by rw [hS]; rfl⟩
    ·have cw : gb s.bools B.term.var = false := cw
     rw [if_neg (by rintro (h | h); exact d0 h; rw [cw] at h; cases h)] at hnx
     rw [hnx] at hS g0 g1
     refine zRg<|zVzMp Z<|zVzFF j7 Z jy Z Z<|z8 (yp (j := 1) jl j5 Z Z Z (by decide) Z)<|zVzLi jd Z<|yh Z (zr (.l (.l (.l (.l (.l (.l (.l (.rest _))))))))) (wenter_spec f iw ja jb jc jo jt ids { s with st := s.st + 1 } B.term.to1 hids hgu hR hv hs g0 g1) ?_
     rintro r56 O56 ⟨hl', rfl, rfl⟩
     refine z6<|yt ?_
     exact ⟨jo, jt, ids, by rw [hS]; exact hl', rfl, by rw [hS]; rfl⟩
end Go.Proofs.YtpojdepccecpgaaGreatDoor
