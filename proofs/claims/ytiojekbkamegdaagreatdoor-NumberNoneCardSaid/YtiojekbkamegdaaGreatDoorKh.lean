/- A copy of a program whose blocks and instructions are one's own: a bag holds these. Of programs that are little. -/
import Derived.Test.YtiojekbkamegdaaGreatDoorKg
import Derived.Test.YtiojekbkamegdaaGreatDoorKf
import Derived.Test.YtiojekbkamegdaaGreatDoorKd
import Derived.Lib.MapLaws
import Derived.Test.YtiojekbkamegdaaGreatDoorKe
set_option linter.unusedVariables false
set_option linter.unusedSimpArgs false
set_option linter.unusedSectionVars false
namespace Go.Proofs.YtiojekbkamegdaaGreatDoor
open Go.Proofs.Tryz
open Go.Proofs Go.Lib Go.Shelf Go.RowKit
set_option maxRecDepth 20000
variable {E : World}
def headDiff (f g : PFunc) : Bool := !decide ((f.vars.length : Int) = g.vars.length) || (!decide (f.params = g.params) || !decide ((f.blocks.length : Int) = g.blocks.length))
def blkDiff (x y : PBlock) : Bool := !decide (x.name = y.name) || (!decide (x.term.kind = y.term.kind ∧ x.term.var = y.term.var ∧ x.term.to0 = y.term.to0 ∧ x.term.to1 = y.term.to1) || (!decide ((x.phis.length : Int) = y.phis.length) || !decide ((x.insts.length : Int) = y.insts.length)))
theorem headDiff_f {f g : PFunc} (h : headDiff f g = false) : f.vars.length = g.vars.length ∧ f.params = g.params ∧ f.blocks.length = g.blocks.length := by
 unfold headDiff at h; simp at h; exact ⟨by omega, h.2.1, by omega⟩
theorem blkDiff_f {f g : PBlock} (h : blkDiff f g = false) : (f.name = g.name ∧ f.term = g.term) ∧ f.phis.length = g.phis.length ∧ f.insts.length = g.insts.length := by
 unfold blkDiff at h; simp at h
 obtain ⟨h1, h2, h3, h4⟩ := h
 refine ⟨⟨h1, ?_⟩, by omega, by omega⟩
 obtain ⟨a, b, c, ⟨d1, d2, d3, d4⟩⟩ := f; obtain ⟨a', b', c', ⟨d1', d2', d3', d4'⟩⟩ := g
 simp_all
theorem blk_ext {x y : PBlock} (h1 : x.name = y.name) (h2 : x.term = y.term) (h3 : x.phis = y.phis) (h4 : x.insts = y.insts) : x = y := by
 cases x; cases y; simp_all
theorem func_ext {x y : PFunc} (h1 : x.vars = y.vars) (h2 : x.params = y.params) (h3 : x.blocks = y.blocks) : x = y := by
 cases x; cases y; simp_all
theorem phi_diff (x y : PPhi) : decide (x = y) = !(!decide (x.dst = y.dst) || (!decide (x.args = y.args) || !decide (x.from_ = y.from_))) := by
 rw [phi_iff]; simp [Bool.and_assoc]
theorem inst_diff (x y : PInst) : decide (x = y) = !(!decide (x.op = y.op) || (!decide (x.dst = y.dst) || (!decide (x.num = y.num) || !decide (x.args = y.args)))) := by
 rw [inst_iff]; simp [Bool.and_assoc]
set_option maxHeartbeats 8000000 in
theorem refSame_spec (f g : PFunc) (hf : okFunc f) : AFun prog E 14 [.agg (encF f), .agg (encF g)] (.bool (decide (f = g))) := by
 obtain ⟨hf1, hf2, hf3, hf4⟩ := hf
 have hl1 := hf1.lt
 have hl3 := hf3.lt
 refine zo func14 Z (by decide) Z<|zSr<|y9 (cs := _) Z Z Z<|y9 (cs := _) Z Z Z<|zVzAb Z<|z6<|za<|za<|yo (γ := Unit) [2, 3] (fun u => [(38, .bool (headDiff f g))]) (fun u => []) (fun u => True) ?_ (fun _ _ h => h) ?_
 ·refine zRg<|zVzFF j9 Z Zm Z Z<|zVzLf Zv Z<|zVGvlenM js Z<|zVzFF j9 Z Zm Z Z<|zVzLf Zv Z<|zVGvlenM js Z<|zVGvneqI Z Z<|zVzMb Z<|zn (s := 22) Z (fun c1=>?_) (fun c1=>?_)
  ·refine z2 Z Z c1<|z2 Z Z c1<|z2 Z Z c1<|z2 Z Z c1<|z2 Z Z c1<|z2 Z Z c1<|zVzPt Z c1 Z<|zVzMb Z<|z2 Z Z Z<|z2 Z Z Z<|z2 Z Z Z<|z2 Z Z Z<|z2 Z Z Z<|z2 Z Z Z<|z2 Z Z Z<|zVzPt Z Z Z<|z6 ?_
   exact ⟨(), zR2, ⟨jb (by simp_all [headDiff]), trivial⟩, zLe, trivial⟩
  ·refine z7 Z Z c1<|zVzFF j9 Z j8 Z Z<|z7 Z Z c1<|zVzLf jg Z<|z7 Z Z c1<|zVzFF j9 Z j8 Z Z<|z7 Z Z c1<|zVzLf jg Z<|z7 Z Z c1<|zk (ints_spec _ _ (by assumption)) Z<|z7 Z Z c1<|zVGvnot Z<|zVzPf Z c1 Z<|zVzMb Z<|zn (s := 30) Z (fun c2=>?_) (fun c2=>?_)
   ·refine z2 Z Z c2<|z2 Z Z c2<|z2 Z Z c2<|z2 Z Z c2<|z2 Z Z c2<|z2 Z Z c2<|z2 Z Z c2<|zVzPt Z c2 Z<|z6 ?_
    exact ⟨(), zR2, ⟨jb (by simp_all [headDiff]), trivial⟩, zLe, trivial⟩
   ·refine z7 Z Z c2<|zVzFF j9 Z jp Z Z<|z7 Z Z c2<|zVzLf jt Z<|z7 Z Z c2<|zVGvlenM jf Z<|z7 Z Z c2<|zVzFF j9 Z jp Z Z<|z7 Z Z c2<|zVzLf jt Z<|z7 Z Z c2<|zVGvlenM jf Z<|z7 Z Z c2<|zVGvneqI Z Z<|zVzPf Z c2 Z<|z6 ?_
    exact ⟨(), zR2, ⟨jb (by simp_all [headDiff]), trivial⟩, zLe, trivial⟩
 ·rintro _ _
  refine zr Z (fun c0=>?_) (fun c0=>?_)
  ·refine zSr<|zVzAb Z<|z6<|zi<|zj (x := .bool _) Z ?_
   rw [qq (fun e => by subst e; simp [headDiff] at c0)]
  ·obtain ⟨hv, hpar, hbl⟩ := headDiff_f c0
   refine ze<|za<|zSr<|zVzFF j9 Z Zm Z Z<|zVzLf Zv Z<|zVGvlenM js Z<|zVzMi Z<|z6<|zg<|zx (γ := Nat) [2, 3, 41] (fun k => [(42, .int .i64 k)]) (fun k => []) (fun k => k ≤ f.vars.length ∧ f.vars.take k = g.vars.take k) (fun k => f.vars.length - k) 0 zR1 zLe (⟨qg _, Z⟩) ?_
   rintro k ⟨hk, hpre⟩
   refine zSr<|zVGvlss Z Z<|z6<|za<|zq Z (fun ck=>?_) (fun ck=>?_)
   ·have hk1 : k < f.vars.length := by omega
    have hk2 : k < g.vars.length := by omega
    refine ze<|za<|zg<|zSr<|zVzMi Z<|zVzAi Z<|z6<|za<|y8 (fun j => false) (by kernel_rfl) Z (zp (.rest _))<|zTk 0 Z (zFF j9 Z Zm Z Z)<|zTk 1 Z (zLf Zv Z)<|zTk 2 Z (zMi Z)<|zTk 3 Z (ym js Zn Z Z Z (qd (by omega)))<|zTk 4 Z (yk isAgg79 Zn Z Z)<|zTk 5 Z (zFF j9 Z Zm Z Z)<|zTk 6 Z (zLf Zv Z)<|zTk 7 Z (zMi Z)<|zTk 8 Z (ym js Zn Z Z Z (qd (by omega)))<|zTk 9 Z (yk isAgg79 Zn Z Z)<|zTk 10 Z (Gv.neqP (xs := [.string _, .int _ _]) (ys := [.string _, .int _ _]) (by kernel_rfl) Z Z (fun w => eq_var _ _ _ _ w))<|zDn<|zr Z (fun cd=>?_) (fun cd=>?_)
    ·refine zSr<|zVzAb Z<|z6<|zi<|zj (x := .bool _) Z ?_
     rw [qq (fun e => by subst e; simp at cd)]
    ·refine ze<|zRg<|zVzAd Z Z<|zVzMi Z<|z6 ?_
     exact ⟨k + 1, zR3, zR1, zLe, ⟨hk1, take_push hk1 hk2 hpre (var_ext (by simpa using cd))⟩, by omega⟩
   ·have hvars := take_done hv (by omega) hpre
    refine zw<|za<|zSr<|zVzFF j9 Z jp Z Z<|zVzLf jt Z<|zVGvlenM jf Z<|zVzMi Z<|z6<|zg<|zx (γ := Nat) [3, 58, 59] (fun k => [(60, .int .i64 k)]) (fun k => []) (fun k => k ≤ f.blocks.length ∧ f.blocks.take k = g.blocks.take k) (fun k => f.blocks.length - k) 0 zR1 zLe (⟨qg _, Z⟩) ?_
    rintro k ⟨hk, hpre2⟩
    refine zSr<|zVGvlss Z Z<|z6<|za<|zq Z (fun ck=>?_) (fun ck=>?_)
    ·have hi1 : k < f.blocks.length := by omega
     have hi2 : k < g.blocks.length := by omega
     obtain ⟨hx1, hx2, hx3, hx4⟩ := hf4 _ (qh hi1)
     have hl4 := hx1.lt
     have hl5 := hx2.lt
     refine ze<|za<|zg<|zSr<|zVzMi Z<|z8 (ym jf jk Z Z Z (qd (by omega)))<|zVGvloadWF Zk jk Z Z<|zz (cs := [.str ⟨#[]⟩, .raw (.slice none 0 0), .raw (.slice none 0 0), .int .i64 0, .int .i64 0, .int .i64 0, .int .i64 0]) ju Z Z<|fun i7 => zVzAi Z<|zu jk Z Z Z Z Z Z .head Z<|z6<|zSr<|zVzFF j9 Z jp Z Z<|zVzLf jt Z<|zVzMi Z<|z8 (ym jf jk Z Z Z (qd (by omega)))<|zVGvloadWF Zk jk Z Z<|zz (cs := [.str ⟨#[]⟩, .raw (.slice none 0 0), .raw (.slice none 0 0), .int .i64 0, .int .i64 0, .int .i64 0, .int .i64 0]) ju Z Z<|fun i8 => zu jk Z Z Z Z Z Z .head Z<|z6<|za<|za<|yo (γ := Unit) [3, 7, 8, 58, 59, 60] (fun u => [(99, .bool (blkDiff f.blocks[k] g.blocks[k]))]) (fun u => [(i8, .cells 58 (encBlk g.blocks[k])), (i7, .cells 58 (encBlk f.blocks[k]))]) (fun u => True) ?_ (fun _ _ h => h) ?_
     ·refine zRg<|z8 (zl j7 Z Z7 (by decide) Z Z)<|z8 (zm (c := .str _) Zi Z ⟨_, .t1⟩ Z)<|z8 (zl j7 Z Z7 (by decide) Z Z)<|z8 (zm (c := .str _) Zi Z ⟨_, .head⟩ Z)<|z8 (Gv.neqT Z Z)<|zVzMb Z<|zn (s := 75) Z (fun c3=>?_) (fun c3=>?_)
      ·refine z2 Z Z c3<|z2 Z Z c3<|z2 Z Z c3<|z2 Z Z c3<|z2 Z Z c3<|zVzPt Z c3 Z<|zVzMb Z<|z2 Z Z Z<|z2 Z Z Z<|z2 Z Z Z<|z2 Z Z Z<|z2 Z Z Z<|z2 Z Z Z<|z2 Z Z Z<|zVzPt Z Z Z<|zVzMb Z<|z2 Z Z Z<|z2 Z Z Z<|z2 Z Z Z<|z2 Z Z Z<|z2 Z Z Z<|z2 Z Z Z<|z2 Z Z Z<|zVzPt Z Z Z<|z6 ?_
       exact ⟨(), zR6, ⟨jb (by simp_all [blkDiff]), trivial⟩, zLe, trivial⟩
      ·refine z7 Z Z c3<|z8 (zl j7 Z jy (by decide) Z Z)<|z7 Z Z c3<|z8 (Gv.loadAC (l := [_, _, _, _]) isAgg56 jy Z ⟨_, .t1⟩ Z Z)<|z7 Z Z c3<|z8 (zl j7 Z jy (by decide) Z Z)<|z7 Z Z c3<|z8 (Gv.loadAC (l := [_, _, _, _]) isAgg56 jy Z ⟨_, .head⟩ Z Z)<|z7 Z Z c3<|z8 (Gv.neqP (xs := [.int _ _, .int _ _, .int _ _, .int _ _]) (ys := [.int _ _, .int _ _, .int _ _, .int _ _]) (by kernel_rfl) Z Z (fun w => eq_term _ _ _ _ _ _ _ _ w))<|zVzPf Z c3 Z<|zVzMb Z<|zn (s := 82) Z (fun c4=>?_) (fun c4=>?_)
       ·refine z2 Z Z c4<|z2 Z Z c4<|z2 Z Z c4<|z2 Z Z c4<|z2 Z Z c4<|z2 Z Z c4<|z2 Z Z c4<|zVzPt Z c4 Z<|zVzMb Z<|z2 Z Z Z<|z2 Z Z Z<|z2 Z Z Z<|z2 Z Z Z<|z2 Z Z Z<|z2 Z Z Z<|z2 Z Z Z<|zVzPt Z Z Z<|z6 ?_
        exact ⟨(), zR6, ⟨jb (by simp_all [blkDiff]), trivial⟩, zLe, trivial⟩
       ·refine z7 Z Z c4<|z8 (zl j7 Z Z4 (by decide) Z Z)<|z7 Z Z c4<|z8 (zm (c := .fro _ _) Zj Z ⟨_, .t1⟩ Z)<|z7 Z Z c4<|zVGvlenM jl Z<|z7 Z Z c4<|z8 (zl j7 Z Z4 (by decide) Z Z)<|z7 Z Z c4<|z8 (zm (c := .fro _ _) Zj Z ⟨_, .head⟩ Z)<|z7 Z Z c4<|zVGvlenM jl Z<|z7 Z Z c4<|zVGvneqI Z Z<|zVzPf Z c4 Z<|zVzMb Z<|zn (s := 91) Z (fun c5=>?_) (fun c5=>?_)
        ·refine z2 Z Z c5<|z2 Z Z c5<|z2 Z Z c5<|z2 Z Z c5<|z2 Z Z c5<|z2 Z Z c5<|z2 Z Z c5<|zVzPt Z c5 Z<|z6 ?_
         exact ⟨(), zR6, ⟨jb (by simp_all [blkDiff]), trivial⟩, zLe, trivial⟩
        ·refine z7 Z Z c5<|z8 (zl j7 Z jv (by decide) Z Z)<|z7 Z Z c5<|z8 (zm (c := .fro _ _) Z5 Z ⟨_, .t1⟩ Z)<|z7 Z Z c5<|zVGvlenM jh Z<|z7 Z Z c5<|z8 (zl j7 Z jv (by decide) Z Z)<|z7 Z Z c5<|z8 (zm (c := .fro _ _) Z5 Z ⟨_, .head⟩ Z)<|z7 Z Z c5<|zVGvlenM jh Z<|z7 Z Z c5<|zVGvneqI Z Z<|zVzPf Z c5 Z<|z6 ?_
         exact ⟨(), zR6, ⟨jb (by simp_all [blkDiff]), trivial⟩, zLe, trivial⟩
     ·rintro _ _
      refine zr Z (fun cb=>?_) (fun cb=>?_)
      ·refine zSr<|zVzAb Z<|z6<|zi<|zj (x := .bool _) Z ?_
       rw [qq (fun e => by subst e; simp [blkDiff] at cb)]
      ·obtain ⟨⟨hbn, hbt⟩, hbp, hbi⟩ := blkDiff_f cb
       refine ze<|za<|zSr<|z8 (zl j7 Z Z4 (by decide) Z Z)<|z8 (zm (c := .fro _ _) Zj Z ⟨_, .t1⟩ Z)<|zVGvlenM jl Z<|zVzMi Z<|z6<|zg<|zx (γ := Nat) [3, 7, 8, 58, 59, 60, 101, 102] (fun m => [(103, .int .i64 m)]) (fun m => [(i8, .cells 58 (encBlk g.blocks[k])), (i7, .cells 58 (encBlk f.blocks[k]))]) (fun m => m ≤ f.blocks[k].phis.length ∧ f.blocks[k].phis.take m = g.blocks[k].phis.take m) (fun m => f.blocks[k].phis.length - m) 0 zR1 zLe (⟨qg _, Z⟩) ?_
       rintro m ⟨hm, hpre3⟩
       refine zSr<|zVGvlss Z Z<|z6<|za<|zq Z (fun cm=>?_) (fun cm=>?_)
       ·have hj1 : m < f.blocks[k].phis.length := by omega
        have hj2 : m < g.blocks[k].phis.length := by omega
        obtain ⟨hy1, hy2⟩ := hx3 _ (qh hj1)
        refine ze<|za<|zg<|zSr<|zVzMi Z<|z8 (ym jl jo Z Z Z (qd (by omega)))<|zVGvloadWF Zs jo Z Z<|zz (cs := [.int .i64 0, .raw (.slice none 0 0), .raw (.slice none 0 0)]) Z3 Z Z<|fun i10 => zVzAi Z<|zu jo Z Z Z Z Z Z .head Z<|z6<|zSr<|z8 (zl j7 Z Z4 (by decide) Z Z)<|z8 (zm (c := .fro _ _) Zj Z ⟨_, .t1⟩ Z)<|zVzMi Z<|z8 (ym jl jo Z Z Z (qd (by omega)))<|zVGvloadWF Zs jo Z Z<|zz (cs := [.int .i64 0, .raw (.slice none 0 0), .raw (.slice none 0 0)]) Z3 Z Z<|fun i11 => zu jo Z Z Z Z Z Z .head Z<|z6<|za<|yo (γ := Unit) [3, 7, 8, 58, 59, 60, 101, 102, 103] (fun u => [(133, .bool (!decide (f.blocks[k].phis[m] = g.blocks[k].phis[m])))]) (fun u => [(i8, .cells 58 (encBlk g.blocks[k])), (i7, .cells 58 (encBlk f.blocks[k]))]) (fun u => True) ?_ (fun _ _ h => h) ?_
        ·refine zRg<|z8 (zl jj Z j5 (by decide) Z Z)<|z8 (zm (c := .int _ _) jd Z ⟨_, .t1⟩ Z)<|z8 (zl jj Z j5 (by decide) Z Z)<|z8 (zm (c := .int _ _) jd Z ⟨_, .head⟩ Z)<|zVGvneqI Z Z<|zVzMb Z<|zn (s := 118) Z (fun c6=>?_) (fun c6=>?_)
         ·refine z2 Z Z c6<|z2 Z Z c6<|z2 Z Z c6<|z2 Z Z c6<|z2 Z Z c6<|z2 Z Z c6<|zVzPt Z c6 Z<|zVzMb Z<|z2 Z Z Z<|z2 Z Z Z<|z2 Z Z Z<|z2 Z Z Z<|z2 Z Z Z<|z2 Z Z Z<|zVzPt Z Z Z<|z6 ?_
          exact ⟨(), zR9, ⟨jb (by rw [phi_diff, Bool.not_not]; simp_all), trivial⟩, ⟨_, (.drop (.drop (.refl _))), rfl⟩, trivial⟩
         ·refine z7 Z Z c6<|z8 (zl jj Z j8 (by decide) Z Z)<|z7 Z Z c6<|z8 (zm (c := .fro _ _) jg Z ⟨_, .t1⟩ Z)<|z7 Z Z c6<|z8 (zl jj Z j8 (by decide) Z Z)<|z7 Z Z c6<|z8 (zm (c := .fro _ _) jg Z ⟨_, .head⟩ Z)<|z7 Z Z c6<|zk (ints_spec _ _ (by assumption)) Z<|z7 Z Z c6<|zVGvnot Z<|zVzPf Z c6 Z<|zVzMb Z<|zn (s := 126) Z (fun c7=>?_) (fun c7=>?_)
          ·refine z2 Z Z c7<|z2 Z Z c7<|z2 Z Z c7<|z2 Z Z c7<|z2 Z Z c7<|z2 Z Z c7<|zVzPt Z c7 Z<|z6 ?_
           exact ⟨(), zR9, ⟨jb (by rw [phi_diff, Bool.not_not]; simp_all), trivial⟩, ⟨_, (.drop (.drop (.refl _))), rfl⟩, trivial⟩
          ·refine z7 Z Z c7<|z8 (zl jj Z j8 (by decide) Z Z)<|z7 Z Z c7<|z8 (zm (c := .fro _ _) jg Z ⟨_, .t1⟩ Z)<|z7 Z Z c7<|z8 (zl jj Z j8 (by decide) Z Z)<|z7 Z Z c7<|z8 (zm (c := .fro _ _) jg Z ⟨_, .head⟩ Z)<|z7 Z Z c7<|zk (ints_spec _ _ (by assumption)) Z<|z7 Z Z c7<|zVGvnot Z<|zVzPf Z c7 Z<|z6 ?_
           exact ⟨(), zR9, ⟨jb (by rw [phi_diff, Bool.not_not]; simp_all), trivial⟩, ⟨_, (.drop (.drop (.refl _))), rfl⟩, trivial⟩
        ·rintro _ _
         refine zr Z (fun cp=>?_) (fun cp=>?_)
         ·refine zSr<|zVzAb Z<|z6<|zi<|zj (x := .bool _) Z ?_
          rw [qq (fun e => by subst e; simp at cp)]
         ·refine ze<|zRg<|zVzAd Z Z<|zVzMi Z<|z6 ?_
          exact ⟨m + 1, zR8, zR1, zLe, ⟨hj1, take_push hj1 hj2 hpre3 (by simpa using cp)⟩, by omega⟩
       ·have hphis := take_done hbp (by omega) hpre3
        refine zw<|zSr<|z8 (zl j7 Z jv (by decide) Z Z)<|z8 (zm (c := .fro _ _) Z5 Z ⟨_, .t1⟩ Z)<|zVGvlenM jh Z<|zVzMi Z<|z6<|zg<|zx (γ := Nat) [3, 8, 58, 59, 60, 136, 137] (fun m => [(138, .int .i64 m)]) (fun m => [(i8, .cells 58 (encBlk g.blocks[k])), (i7, .cells 58 (encBlk f.blocks[k]))]) (fun m => m ≤ f.blocks[k].insts.length ∧ f.blocks[k].insts.take m = g.blocks[k].insts.take m) (fun m => f.blocks[k].insts.length - m) 0 zR1 zLe (⟨qg _, Z⟩) ?_
        rintro m ⟨hm, hpre3⟩
        refine zSr<|zVGvlss Z Z<|z6<|za<|zq Z (fun cm=>?_) (fun cm=>?_)
        ·have hj1 : m < f.blocks[k].insts.length := by omega
         have hj2 : m < g.blocks[k].insts.length := by omega
         have hy1 := hx4 _ (qh hj1)
         refine ze<|za<|zg<|zSr<|zVzMi Z<|z8 (ym jh jm Z Z Z (qd (by omega)))<|zVGvloadWF Zh jm Z Z<|zz (cs := [.int .i64 0, .int .i64 0, .raw (.slice none 0 0), .int .i64 0]) jz Z Z<|fun i13 => zVzAi Z<|zu jm Z Z Z Z Z Z .head Z<|z6<|zSr<|z8 (zl j7 Z jv (by decide) Z Z)<|z8 (zm (c := .fro _ _) Z5 Z ⟨_, .t1⟩ Z)<|zVzMi Z<|z8 (ym jh jm Z Z Z (qd (by omega)))<|zVGvloadWF Zh jm Z Z<|zz (cs := [.int .i64 0, .int .i64 0, .raw (.slice none 0 0), .int .i64 0]) jz Z Z<|fun i14 => zu jm Z Z Z Z Z Z .head Z<|z6<|za<|yo (γ := Unit) [3, 8, 58, 59, 60, 136, 137, 138] (fun u => [(174, .bool (!decide (f.blocks[k].insts[m] = g.blocks[k].insts[m])))]) (fun u => [(i8, .cells 58 (encBlk g.blocks[k])), (i7, .cells 58 (encBlk f.blocks[k]))]) (fun u => True) ?_ (fun _ _ h => h) ?_
         ·refine zRg<|z8 (zl j6 Z Z1 (by decide) Z Z)<|z8 (zm (c := .int _ _) Za Z ⟨_, .t1⟩ Z)<|z8 (zl j6 Z Z1 (by decide) Z Z)<|z8 (zm (c := .int _ _) Za Z ⟨_, .head⟩ Z)<|zVGvneqI Z Z<|zVzMb Z<|zn (s := 153) Z (fun c8=>?_) (fun c8=>?_)
          ·refine z2 Z Z c8<|z2 Z Z c8<|z2 Z Z c8<|z2 Z Z c8<|z2 Z Z c8<|zVzPt Z c8 Z<|zVzMb Z<|z2 Z Z Z<|z2 Z Z Z<|z2 Z Z Z<|z2 Z Z Z<|z2 Z Z Z<|zVzPt Z Z Z<|zVzMb Z<|z2 Z Z Z<|z2 Z Z Z<|z2 Z Z Z<|z2 Z Z Z<|z2 Z Z Z<|z2 Z Z Z<|zVzPt Z Z Z<|z6 ?_
           exact ⟨(), zR8, ⟨jb (by rw [inst_diff, Bool.not_not]; simp_all), trivial⟩, ⟨_, (.drop (.drop (.refl _))), rfl⟩, trivial⟩
          ·refine z7 Z Z c8<|z8 (zl j6 Z j5 (by decide) Z Z)<|z7 Z Z c8<|z8 (zm (c := .int _ _) jd Z ⟨_, .t1⟩ Z)<|z7 Z Z c8<|z8 (zl j6 Z j5 (by decide) Z Z)<|z7 Z Z c8<|z8 (zm (c := .int _ _) jd Z ⟨_, .head⟩ Z)<|z7 Z Z c8<|zVGvneqI Z Z<|zVzPf Z c8 Z<|zVzMb Z<|zn (s := 160) Z (fun c9=>?_) (fun c9=>?_)
           ·refine z2 Z Z c9<|z2 Z Z c9<|z2 Z Z c9<|z2 Z Z c9<|z2 Z Z c9<|zVzPt Z c9 Z<|zVzMb Z<|z2 Z Z Z<|z2 Z Z Z<|z2 Z Z Z<|z2 Z Z Z<|z2 Z Z Z<|z2 Z Z Z<|zVzPt Z Z Z<|z6 ?_
            exact ⟨(), zR8, ⟨jb (by rw [inst_diff, Bool.not_not]; simp_all), trivial⟩, ⟨_, (.drop (.drop (.refl _))), rfl⟩, trivial⟩
           ·refine z7 Z Z c9<|z8 (zl j6 Z Y5 (by decide) Z Z)<|z7 Z Z c9<|z8 (zm (c := .int _ _) Y7 Z ⟨_, .t1⟩ Z)<|z7 Z Z c9<|z8 (zl j6 Z Y5 (by decide) Z Z)<|z7 Z Z c9<|z8 (zm (c := .int _ _) Y7 Z ⟨_, .head⟩ Z)<|z7 Z Z c9<|zVGvneqI Z Z<|zVzPf Z c9 Z<|zVzMb Z<|zn (s := 167) Z (fun c10=>?_) (fun c10=>?_)
            ·refine z2 Z Z c10<|z2 Z Z c10<|z2 Z Z c10<|z2 Z Z c10<|z2 Z Z c10<|z2 Z Z c10<|zVzPt Z c10 Z<|z6 ?_
             exact ⟨(), zR8, ⟨jb (by rw [inst_diff, Bool.not_not]; simp_all), trivial⟩, ⟨_, (.drop (.drop (.refl _))), rfl⟩, trivial⟩
            ·refine z7 Z Z c10<|z8 (zl j6 Z j8 (by decide) Z Z)<|z7 Z Z c10<|z8 (zm (c := .fro _ _) jg Z ⟨_, .t1⟩ Z)<|z7 Z Z c10<|z8 (zl j6 Z j8 (by decide) Z Z)<|z7 Z Z c10<|z8 (zm (c := .fro _ _) jg Z ⟨_, .head⟩ Z)<|z7 Z Z c10<|zk (ints_spec _ _ (by assumption)) Z<|z7 Z Z c10<|zVGvnot Z<|zVzPf Z c10 Z<|z6 ?_
             exact ⟨(), zR8, ⟨jb (by rw [inst_diff, Bool.not_not]; simp_all), trivial⟩, ⟨_, (.drop (.drop (.refl _))), rfl⟩, trivial⟩
         ·rintro _ _
          refine zr Z (fun cp=>?_) (fun cp=>?_)
          ·refine zSr<|zVzAb Z<|z6<|zi<|zj (x := .bool _) Z ?_
           rw [qq (fun e => by subst e; simp at cp)]
          ·refine ze<|zRg<|zVzAd Z Z<|zVzMi Z<|z6 ?_
           exact ⟨m + 1, zR7, zR1, zLe, ⟨hj1, take_push hj1 hj2 hpre3 (by simpa using cp)⟩, by omega⟩
        ·have hinsts := take_done hbi (by omega) hpre3
         refine zw<|zRg<|zVzAd Z Z<|zVzMi Z<|z6 ?_
         exact ⟨k + 1, zR3, zR1, ⟨_, (.drop (.drop (.refl _))), rfl⟩, ⟨hi1, take_push hi1 hi2 hpre2 (blk_ext hbn hbt hphis hinsts)⟩, by omega⟩
    ·have hblocks := take_done hbl (by omega) hpre2
     refine zw<|zSr<|zVzAb Z<|z6<|zi<|zj (x := .bool _) Z ?_
     rw [qp (func_ext hvars hpar hblocks)]
end Go.Proofs.YtiojekbkamegdaaGreatDoor
namespace Go.Proofs.YtiojekbkamegdaaGreatDoor
open Go.Proofs.Tryz
open Go.Proofs Go.Lib Go.Shelf Go.RowKit
set_option maxRecDepth 20000
variable {E : World}
def wV (l : List PVar) : Nat := (l.map fun v => v.name.size).sum
def wP (l : List PPhi) : Nat := (l.map fun p => p.args.length + p.from_.length).sum
def wX (l : List PInst) : Nat := (l.map fun x => x.args.length).sum
def wB (b : PBlock) : Nat := b.name.size + 10 * (b.phis.length + b.insts.length) + wP b.phis + wX b.insts
def wBs (l : List PBlock) : Nat := (l.map wB).sum
theorem wV_succ {l : List PVar} {k : Nat} (h : k < l.length) : wV (l.take (k + 1)) = wV (l.take k) + l[k].name.size := by
 unfold wV; rw [qe h, qn, List.sum_append]; simp only [List.map_cons, List.map_nil, List.sum_cons, List.sum_nil, Nat.add_zero]
theorem wP_succ {l : List PPhi} {k : Nat} (h : k < l.length) : wP (l.take (k + 1)) = wP (l.take k) + (l[k].args.length + l[k].from_.length) := by
 unfold wP; rw [qe h, qn, List.sum_append]; simp only [List.map_cons, List.map_nil, List.sum_cons, List.sum_nil, Nat.add_zero]
theorem wX_succ {l : List PInst} {k : Nat} (h : k < l.length) : wX (l.take (k + 1)) = wX (l.take k) + l[k].args.length := by
 unfold wX; rw [qe h, qn, List.sum_append]; simp only [List.map_cons, List.map_nil, List.sum_cons, List.sum_nil, Nat.add_zero]
theorem wBs_succ {l : List PBlock} {k : Nat} (h : k < l.length) : wBs (l.take (k + 1)) = wBs (l.take k) + wB l[k] := by
 unfold wBs; rw [qe h, qn, List.sum_append]; simp only [List.map_cons, List.map_nil, List.sum_cons, List.sum_nil, Nat.add_zero]
def littleB (b : PBlock) : Prop := b.name.size ≤ 400 ∧ b.phis.length ≤ 400 ∧ b.insts.length ≤ 400 ∧ (∀ p ∈ b.phis, p.args.length ≤ 400 ∧ p.from_.length ≤ 400) ∧ ∀ x ∈ b.insts, x.args.length ≤ 400
def little (f : PFunc) : Prop := f.vars.length ≤ 100 ∧ f.blocks.length ≤ 40 ∧ f.params.length ≤ 20 ∧ (∀ v ∈ f.vars, v.name.size ≤ 400) ∧ (∀ b ∈ f.blocks, littleB b) ∧ (f.blocks ≠ [] → wV f.vars + wBs f.blocks ≤ 4000)
theorem little.small {f : PFunc} (h : little f) : small f := by
 obtain ⟨h1, h2, h3, h4, h5, _⟩ := h
 refine ⟨by omega, by omega, by omega, fun v hv => by have := h4 v hv; omega, fun b hb => ?_⟩
 obtain ⟨g1, g2, g3, g4, g5⟩ := h5 b hb
 exact ⟨by omega, by omega, by omega, fun p hp => by have := g4 p hp; omega, fun x hx => by have := g5 x hx; omega⟩
def wL {α : Type} (l : List α) : Prop := l.length ≤ 9223372036854775807
def wPhi (p : PPhi) : Prop := wL p.args ∧ wL p.from_
def wBlk (b : PBlock) : Prop := wL b.phis ∧ wL b.insts ∧ (∀ p ∈ b.phis, wPhi p) ∧ (∀ x ∈ b.insts, wL x.args)
def wFunc (f : PFunc) : Prop := wL f.vars ∧ wL f.params ∧ wL f.blocks ∧ ∀ b ∈ f.blocks, wBlk b
theorem wL.lt {α : Type} {l : List α} (h : wL l) : l.length ≤ 9223372036854775807 := h
def few1 (f : PFunc) : Bool := decide ((100 : Int) < f.vars.length) || (decide ((40 : Int) < f.blocks.length) || decide ((20 : Int) < f.params.length))
def few2 (b : PBlock) : Bool := decide ((400 : Int) < b.name.size) || (decide ((400 : Int) < b.phis.length) || decide ((400 : Int) < b.insts.length))
end Go.Proofs.YtiojekbkamegdaaGreatDoor
namespace Go.Proofs.YtiojekbkamegdaaGreatDoor
open Go.Proofs.Tryz
open Go.Proofs Go.Lib Go.Shelf Go.RowKit
set_option maxRecDepth 20000
variable {E : World}
end Go.Proofs.YtiojekbkamegdaaGreatDoor
namespace Go.Proofs.YtiojekbkamegdaaGreatDoor
open Go.Proofs.Tryz
open Go.Proofs Go.Lib Go.Shelf Go.RowKit
set_option maxRecDepth 20000
variable {E : World}
theorem rows_27 : ∀ r ∈ kindT, r.1 ≠ ⟨#[]⟩ := by decide
theorem word_ne {op : Int} (h : 0 ≤ op ∧ op ≤ 26) : (kRow op).1 ≠ ⟨#[]⟩ := by
 have hm : kRow op ∈ kindT := by
  unfold kRow
  rw [if_pos h.1, qd (show _ < 27 by omega)]
  exact qh _
 exact rows_27 _ hm
theorem word_num : ∀ j : Nat, j < 27 → isNum (j : Int) = (decide ((kRow (j : Int)).1 = ⟨#[99, 111, 110, 115, 116]⟩) || decide ((kRow (j : Int)).1 = ⟨#[112, 105]⟩)) := by decide
theorem wordB_num {x : PInst} (h : 0 ≤ x.op ∧ x.op ≤ 26) : wordB x = isNum x.op := by
 have := word_num x.op.toNat (by omega)
 rw [Int.toNat_of_nonneg h.1] at this
 unfold wordB; exact this.symm
theorem takes_len (op : Int) : (takesL op).length = (kRow op).2.1.size := by unfold takesL; rw [qk]; exact Array.length_toList
theorem bytes_nil (b : ByteArray) : b.data.toList.isEmpty = decide (b = ⟨#[]⟩) := by
 obtain ⟨⟨l⟩⟩ := b
 cases l <;> simp
theorem makesB_eq (op : Int) : makesB op = !decide ((kRow op).2.2 = ⟨#[]⟩) := by unfold makesB; rw [bytes_nil]
theorem kRow_none {op : Int} (h : ¬ (0 ≤ op ∧ op ≤ 26)) : kRow op = (⟨#[]⟩, ⟨#[]⟩, ⟨#[]⟩) := kRow_out (by unfold isOp; simp; omega)
theorem instOK_iff (f : PFunc) (x : PInst) : instOK f x = true ↔ InstP f x := by
 by_cases h : 0 ≤ x.op ∧ x.op ≤ 26
 ·have hw := word_ne h
  have hn := wordB_num h
  unfold instOK inst1 inst2 InstP bad2
  rw [takes_len, makesB_eq, hn]
  by_cases h1 : x.args.length = (kRow x.op).2.1.size <;> by_cases h2 : (kRow x.op).2.2 = ⟨#[]⟩ <;> by_cases h3 : x.dst = -1 <;> by_cases h4 : x.num = 0 <;> by_cases h5 : x.args.all (hasV f) = true <;> simp_all [Int.ofNat_inj] <;> (try (unfold hasV; simp)) <;> (try grind)
 ·constructor
  ·intro h2
   have := kRow_none h
   unfold instOK inst1 at h2
   rw [this] at h2; simp at h2
  ·intro h2; exact absurd ⟨h2.1, h2.2.1⟩ h
def only (f : PFunc) (x : PInst) : PFunc := { f with blocks := [⟨⟨#[111, 110, 108, 121]⟩, [], [x], ⟨0, 0, 0, 0⟩⟩] }
def ended (f : PFunc) (b0 : PBlock) (bs : List PBlock) (t : PTerm) : PFunc := { f with blocks := { b0 with term := t } :: bs }
end Go.Proofs.YtiojekbkamegdaaGreatDoor
namespace Go.Proofs.YtiojekbkamegdaaGreatDoor
open Go.Proofs.Tryz
open Go.Proofs Go.Lib Go.Shelf Go.RowKit
set_option maxRecDepth 20000
variable {E : World}
def letterC (c : Int) : Bool := isLetterU c && !decide (c = 65533)
def digitC (c : Int) : Bool := decide (48 ≤ c) && decide (c ≤ 57)
def innerC (c : Int) : Bool := letterC c || (digitC c || (decide (c = 46) || decide (c = 95)))
theorem zletter_spec (c : Int) (h1 : -2147483648 ≤ c) (h2 : c ≤ 2147483647) (hL : Letters E) : AFun prog E 284 [.int .i32 c] (.bool (letterC c)) := by
 refine zo func284 Z (by decide) Z<|zSr<|zVzAb Z<|z6<|zSr<|zVzMi Z<|zk (letter_spec c h1 h2 hL) Z<|zVzMb Z<|zn (s := 5) Z (fun c1=>?_) (fun c1=>?_)
 ·refine z7 Z Z c1<|zVzMi Z<|z7 Z Z c1<|zVGvneqI Z Z<|zVzPt Z c1 Z<|zVzAb Z<|z6<|zi<|zj (x := .bool _) Z ?_
  exact jb (by simp_all [letterC])
 ·refine z2 Z Z c1<|z2 Z Z c1<|zVzPf Z c1 Z<|zVzAb Z<|z6<|zi<|zj (x := .bool _) Z ?_
  exact jb (by simp_all [letterC])
theorem zdigit_spec (c : Int) : AFun prog E 287 [.int .i32 c] (.bool (digitC c)) := by
 refine zo func287 Z (by decide) Z<|zSr<|zVzAb Z<|z6<|zSr<|zVzMi Z<|z8 (qb Z Z)<|zVzMb Z<|zn (s := 5) Z (fun c2=>?_) (fun c2=>?_)
 ·refine z7 Z Z c2<|zVzMi Z<|z7 Z Z c2<|z8 (Gv.leq Z Z)<|zVzPt Z c2 Z<|zVzAb Z<|z6<|zi<|zj (x := .bool _) Z ?_
  exact jb (by simp_all [digitC] <;> (intros; omega))
 ·refine z2 Z Z c2<|z2 Z Z c2<|zVzPf Z c2 Z<|zVzAb Z<|z6<|zi<|zj (x := .bool _) Z ?_
  exact jb (by simp_all [digitC] <;> (intros; omega))
theorem zinner_spec (c : Int) (h1 : -2147483648 ≤ c) (h2 : c ≤ 2147483647) (hL : Letters E) : AFun prog E 285 [.int .i32 c] (.bool (innerC c)) := by
 refine zo func285 Z (by decide) Z<|zSr<|zVzAb Z<|z6<|zSr<|zVzMi Z<|zk (zletter_spec c h1 h2 hL) Z<|zVzMb Z<|zn (s := 5) Z (fun c3=>?_) (fun c3=>?_)
 ·refine z2 Z Z c3<|z2 Z Z c3<|zVzPt Z c3 Z<|zVzMb Z<|z2 Z Z Z<|z2 Z Z Z<|zVzPt Z Z Z<|zVzMb Z<|z2 Z Z Z<|z2 Z Z Z<|zVzPt Z Z Z<|zVzAb Z<|z6<|zi<|zj (x := .bool _) Z ?_
  exact jb (by simp_all [innerC])
 ·refine z7 Z Z c3<|zVzMi Z<|z7 Z Z c3<|zk (zdigit_spec _) Z<|zVzPf Z c3 Z<|zVzMb Z<|zn (s := 9) Z (fun c4=>?_) (fun c4=>?_)
  ·refine z2 Z Z c4<|z2 Z Z c4<|zVzPt Z c4 Z<|zVzMb Z<|z2 Z Z Z<|z2 Z Z Z<|zVzPt Z Z Z<|zVzAb Z<|z6<|zi<|zj (x := .bool _) Z ?_
   exact jb (by simp_all [innerC])
  ·refine z7 Z Z c4<|zVzMi Z<|z7 Z Z c4<|zVGveqlI Z Z<|zVzPf Z c4 Z<|zVzMb Z<|zn (s := 13) Z (fun c5=>?_) (fun c5=>?_)
   ·refine z2 Z Z c5<|z2 Z Z c5<|zVzPt Z c5 Z<|zVzAb Z<|z6<|zi<|zj (x := .bool _) Z ?_
    exact jb (by simp_all [innerC])
   ·refine z7 Z Z c5<|zVzMi Z<|z7 Z Z c5<|zVGveqlI Z Z<|zVzPf Z c5 Z<|zVzAb Z<|z6<|zi<|zj (x := .bool _) Z ?_
    exact jb (by simp_all [innerC])
def runesFrom (s : ByteArray) (p : Nat) : List Int := if h : p < s.size then ((Utf8.decode s p).1 : Int) :: runesFrom s (p + (Utf8.decode s p).2) else []
termination_by s.size - p
decreasing_by have := (decode_ok s p).1; omega
theorem runesFrom_lt {s : ByteArray} {p : Nat} (h : p < s.size) : runesFrom s p = ((Utf8.decode s p).1 : Int) :: runesFrom s (p + (Utf8.decode s p).2) := by rw [runesFrom, dif_pos h]
theorem runesFrom_ge {s : ByteArray} {p : Nat} (h : ¬ p < s.size) : runesFrom s p = [] := by rw [runesFrom, dif_neg h]
theorem runesFrom_len (s : ByteArray) : ∀ k p, s.size - p ≤ k → (runesFrom s p).length ≤ k := by
 intro k
 induction k with
 | zero => intro p h; rw [runesFrom_ge (by omega)]; simp
 | succ k ih =>
  intro p h
  by_cases hp : p < s.size
  ·rw [runesFrom_lt hp]
   have := (decode_ok s p).1
   have := ih (p + (Utf8.decode s p).2) (by omega)
   simp; omega
  ·rw [runesFrom_ge hp]; simp
theorem runes_spec (s : ByteArray) (hs : s.size ≤ 140737488355328) : AFun prog E 286 [.str s] (.int .i64 (runesFrom s 0).length) := by
 have h0 := runesFrom_len s s.size 0 (by omega)
 refine zo func286 Z (by decide) Z<|zSr<|zVzAi Z<|z6<|zSr<|zVzAi Z<|z6<|za<|zSr<|z8 (yf (v := .str _) Z)<|AOps.rangeT Z2 Z<|fun i5 => z6<|zg<|zx (γ := Nat × Nat) [5] (fun g => [(3, .int .i64 g.2)]) (fun g => [(i5, .iter s g.1)]) (fun g => g.2 + (runesFrom s g.1).length = (runesFrom s 0).length) (fun g => s.size - g.1) (0, 0) zR1 zLe (by simp) ?_
 rintro ⟨p, n⟩ hp
 try dsimp only at *
 by_cases hlt : p < s.size
 ·have hd := (decode_ok s p).1
  rw [runesFrom_lt hlt] at hp
  simp only [List.length_cons] at hp
  refine zSr<|AOps.nextT Z .head hlt<|z8 (zXb Z Z)<|z6<|za<|yi Z Z<|ze<|zg<|zRg<|zVzMi Z<|zVzAd Z Z<|zVzAi Z<|z6 ?_
  exact ⟨(p + (Utf8.decode s p).2, n + 1), zR1, zR1, zLe, by dsimp only; omega, by dsimp only; omega⟩
 ·rw [runesFrom_ge hlt] at hp
  simp only [List.length_nil] at hp
  refine zSr<|AOps.nextTover Z .head hlt<|z8 (zXb Z Z)<|z6<|za<|yg Z Z<|zw<|zSr<|zVzMi Z<|zVzAi Z<|z6<|zi<|zj (x := .int _ _) Z ?_
  exact congrArg (AV.int .i64) (by omega)
def nmGo (s : ByteArray) (p : Nat) : Bool := if h : p < s.size then (if (decide (p = 0) && !letterC ((Utf8.decode s p).1 : Int)) || !innerC ((Utf8.decode s p).1 : Int) then false else nmGo s (p + (Utf8.decode s p).2)) else (decide (¬ s = ⟨#[]⟩) && decide (((runesFrom s 0).length : Int) ≤ 16))
termination_by s.size - p
decreasing_by have := (decode_ok s p).1; omega
def scanName (s : ByteArray) : Bool := nmGo s 0
theorem zname_spec (s : ByteArray) (hs : s.size ≤ 140737488355328) (hL : Letters E) : AFun prog E 279 [.str s] (.bool (scanName s)) := by
 refine zo func279 Z (by decide) Z<|zSr<|zVzAb Z<|z6<|za<|zSr<|z8 (yf (v := .str _) Z)<|AOps.rangeT Z2 Z<|fun i6 => z6<|zg<|zx (γ := Nat) [0, 6] (fun p => []) (fun p => [(i6, .iter s p)]) (fun p => nmGo s p = scanName s) (fun p => s.size - p) 0 trivial zLe (Z) ?_
 rintro p hp
 by_cases hlt : p < s.size
 ·obtain ⟨hd1, hd2⟩ := decode_ok s p
  have hstep := hp
  rw [nmGo, dif_pos hlt] at hstep
  refine zSr<|AOps.nextT Z .head hlt<|z8 (zXb Z Z)<|z6<|za<|yi Z Z<|ze<|zg<|zSr<|z8 (zXi Z Z)<|z8 (zXi Z Z)<|zVzAi Z<|zVzAi Z<|z6<|zSr<|zVzMi Z<|zVGveqlI Z Z<|zVzMb Z<|zn (s := 13) Z (fun c6=>?_) (fun c6=>?_)
  ·refine z7 Z Z c6<|zVzMi Z<|z7 Z Z c6<|zk (zletter_spec _ (by omega) (by omega) hL) Z<|z7 Z Z c6<|zVGvnot Z<|zVzPt Z c6 Z<|zVzMb Z<|zn (s := 18) Z (fun c7=>?_) (fun c7=>?_)
   ·refine z2 Z Z c7<|z2 Z Z c7<|z2 Z Z c7<|zVzPt Z c7 Z<|z6<|yi Z Z<|zSr<|zVzAb Z<|z6<|zi<|zj (x := .bool _) Z ?_
    rw [if_pos (by simp_all <;> omega)] at hstep; exact jb hstep
   ·refine z7 Z Z c7<|zVzMi Z<|z7 Z Z c7<|zk (zinner_spec _ (by omega) (by omega) hL) Z<|z7 Z Z c7<|zVGvnot Z<|zVzPf Z c7 Z<|z6<|zr Z (fun c8=>?_) (fun c8=>?_)
    ·refine zSr<|zVzAb Z<|z6<|zi<|zj (x := .bool _) Z ?_
     rw [if_pos (by simp_all <;> omega)] at hstep; exact jb hstep
    ·refine ze ?_
     exact ⟨p + (Utf8.decode s p).2, zR2, trivial, zLe, by rw [if_neg (by simp_all <;> omega)] at hstep; exact hstep, by omega⟩
  ·refine z2 Z Z c6<|z2 Z Z c6<|z2 Z Z c6<|zVzPf Z c6 Z<|zVzMb Z<|z7 Z Z Z<|zVzMi Z<|z7 Z Z Z<|zk (zinner_spec _ (by omega) (by omega) hL) Z<|z7 Z Z Z<|zVGvnot Z<|zVzPf Z Z Z<|z6<|zr Z (fun c9=>?_) (fun c9=>?_)
   ·refine zSr<|zVzAb Z<|z6<|zi<|zj (x := .bool _) Z ?_
    rw [if_pos (by simp_all <;> omega)] at hstep; exact jb hstep
   ·refine ze ?_
    exact ⟨p + (Utf8.decode s p).2, zR2, trivial, zLe, by rw [if_neg (by simp_all <;> omega)] at hstep; exact hstep, by omega⟩
 ·rw [nmGo, dif_neg hlt] at hp
  refine zSr<|AOps.nextTover Z .head hlt<|z8 (zXb Z Z)<|z6<|za<|yg Z Z<|zw<|zSr<|z8 (yf (v := .str _) Z)<|z8 (Gv.neqT Z Z)<|zVzMb Z<|zn (s := 25) Z (fun c10=>?_) (fun c10=>?_)
  ·refine z7 Z Z c10<|z8 (yf (v := .str _) Z)<|z7 Z Z c10<|zk (runes_spec _ (by assumption)) Z<|z7 Z Z c10<|z8 (Gv.leq Z Z)<|zVzPt Z c10 Z<|zVzAb Z<|z6<|zi<|zj (x := .bool _) Z ?_
   rw [← hp]; exact jb (by simp_all <;> (try omega))
  ·refine z2 Z Z c10<|z2 Z Z c10<|z2 Z Z c10<|zVzPf Z c10 Z<|zVzAb Z<|z6<|zi<|zj (x := .bool _) Z ?_
   rw [← hp]; exact jb (by simp_all <;> (try omega))
end Go.Proofs.YtiojekbkamegdaaGreatDoor
namespace Go.Proofs.YtiojekbkamegdaaGreatDoor
open Go.Proofs.Tryz
open Go.Proofs Go.Lib Go.Shelf Go.RowKit
set_option maxRecDepth 20000
variable {E : World}
def tyWord (t : Int) : ByteArray := if t = 0 then ⟨#[105, 110, 116]⟩ else if t = 1 then ⟨#[98, 111, 111, 108]⟩ else if t = 2 then ⟨#[97, 114, 114]⟩ else ⟨#[]⟩
theorem strL_of (s : ByteArray) : strL s.data.toList = s := by unfold strL; simp
def nameR : List Int → Bool
 | [] => false
 | c :: rs => letterC c && (rs.all innerC && decide (rs.length + 1 ≤ 16))
theorem letter_inner {c : Int} (h : letterC c = true) : innerC c = true := by unfold innerC; rw [h]; rfl
theorem nmGo_pos (s : ByteArray) : ∀ (n p : Nat), s.size - p ≤ n → 0 < p → p ≤ s.size → nmGo s p = ((runesFrom s p).all innerC && decide ((runesFrom s 0).length ≤ 16)) := by
 intro n
 induction n with
 | zero =>
  intro p h hp hps
  have hne : ¬ s = ⟨#[]⟩ := fun e => by subst e; have : p ≤ 0 := hps; omega
  rw [nmGo, dif_neg (by omega), runesFrom_ge (p := p) (by omega)]
  simp [hne]; omega
 | succ n ih =>
  intro p h hp hps
  by_cases hlt : p < s.size
  ·have hd := (decode_ok s p).1
   have hw : p + (Utf8.decode s p).2 ≤ s.size := by
    have := decodeL_le (s.data.toList.drop p) (by intro e; have := congrArg List.length e; rw [List.length_drop] at this; have h2 : s.data.toList.length = s.size := Array.length_toList; simp only [List.length_nil] at this; omega)
    rw [decodeL_drop, List.length_drop] at this
    have h2 : s.data.toList.length = s.size := Array.length_toList
    omega
   rw [nmGo, dif_pos hlt, runesFrom_lt hlt, List.all_cons]
   have hp0 : decide (p = 0) = false := qq (by omega)
   rw [hp0, Bool.false_and, Bool.false_or]
   cases hi : innerC ((Utf8.decode s p).1 : Int) with
   | false => simp
   | true => rw [if_neg (by simp), ih _ (by omega) (by omega) hw]; simp
  ·have hne : ¬ s = ⟨#[]⟩ := fun e => by subst e; have : p ≤ 0 := hps; omega
   rw [nmGo, dif_neg hlt, runesFrom_ge (p := p) hlt]
   simp [hne]; omega
theorem step_le {s : ByteArray} {p : Nat} (hlt : p < s.size) : p + (Utf8.decode s p).2 ≤ s.size := by
 have h2 : s.data.toList.length = s.size := Array.length_toList
 have := decodeL_le (s.data.toList.drop p) (by intro e; have := congrArg List.length e; rw [List.length_drop] at this; simp only [List.length_nil] at this; omega)
 rw [decodeL_drop, List.length_drop] at this
 omega
theorem scanName_R (s : ByteArray) : scanName s = nameR (runesFrom s 0) := by
 unfold scanName
 by_cases hlt : 0 < s.size
 ·have hd := (decode_ok s 0).1
  have hw := step_le hlt
  have hr := runesFrom_lt hlt
  have hl := congrArg List.length hr
  rw [List.length_cons] at hl
  rw [nmGo, dif_pos hlt]
  have h2 : nameR (runesFrom s 0) = (letterC ((Utf8.decode s 0).1 : Int) && ((runesFrom s (0 + (Utf8.decode s 0).2)).all innerC && decide ((runesFrom s (0 + (Utf8.decode s 0).2)).length + 1 ≤ 16))) := by rw [hr]; rfl
  rw [h2]
  cases hc : letterC ((Utf8.decode s 0).1 : Int) with
  | false => simp
  | true =>
   rw [letter_inner hc, if_neg (by simp), nmGo_pos s _ _ (Nat.le_refl _) (by omega) hw, hl]; rfl
 ·rw [nmGo, dif_neg hlt, runesFrom_ge hlt]
  have : s = ⟨#[]⟩ := by
   have h2 : s.data.toList.length = s.size := Array.length_toList
   have h3 : s.data.toList = [] := List.eq_nil_of_length_eq_zero (by omega)
   rw [← strL_of s, h3]; rfl
  simp [this, nameR]
theorem cnt_end (k : Nat) : (decide ((1 : Int) ≤ ((k + 1 : Nat) : Int)) && decide (((k + 1 : Nat) : Int) ≤ 16)) = (([] : List Int).all innerC && decide (k + 1 + ([] : List Int).length ≤ 16)) := by
 rw [qp (by omega), Bool.true_and]
 show _ = (true && _)
 rw [Bool.true_and, decide_eq_decide]
 show ((k + 1 : Nat) : Int) ≤ 16 ↔ k + 1 + 0 ≤ 16
 omega
theorem nameFrom_pos (s : ByteArray) : ∀ (n p k : Nat), s.size - p ≤ n → nameFrom s p (k + 1) = ((runesFrom s p).all innerC && decide (k + 1 + (runesFrom s p).length ≤ 16)) := by
 intro n
 induction n with
 | zero =>
  intro p k h
  rw [nameFrom, dif_neg (by omega), runesFrom_ge (by omega)]
  exact cnt_end k
 | succ n ih =>
  intro p k h
  by_cases hlt : p < s.size
  ·have hd := (decode_ok s p).1
   rw [nameFrom, dif_pos hlt, runesFrom_lt hlt, List.all_cons]
   have ho : okRune ((Utf8.decode s p).1 : Int) (k + 1) = innerC ((Utf8.decode s p).1 : Int) := by
    unfold okRune innerC letterC digitC
    have : decide (((k + 1 : Nat) : Int) = 0) = false := qq (by omega)
    rw [this]; simp [Bool.or_assoc]
   rw [ho]
   cases hi : innerC ((Utf8.decode s p).1 : Int) with
   | false => simp
   | true => rw [if_pos rfl, ih _ _ (by omega), Bool.true_and, List.length_cons]; congr 2; simp; omega
  ·rw [nameFrom, dif_neg hlt, runesFrom_ge hlt]
   exact cnt_end k
theorem nameB_R (s : ByteArray) : nameB s = nameR (runesFrom s 0) := by
 unfold nameB
 by_cases hlt : 0 < s.size
 ·rw [nameFrom, dif_pos hlt, runesFrom_lt hlt]
  have ho : okRune ((Utf8.decode s 0).1 : Int) 0 = letterC ((Utf8.decode s 0).1 : Int) := by unfold okRune letterC; simp
  rw [ho]
  show _ = (letterC ((Utf8.decode s 0).1 : Int) && _)
  cases hc : letterC ((Utf8.decode s 0).1 : Int) with
  | false => simp
  | true => rw [if_pos rfl, nameFrom_pos s _ _ _ (Nat.le_refl _), Bool.true_and]; congr 2; simp; omega
 ·rw [nameFrom, dif_neg hlt, runesFrom_ge hlt]; rfl
theorem name_eq (s : ByteArray) : nameB s = scanName s := by rw [nameB_R, scanName_R]
structure InstF (f : PFunc) (x : PInst) : Prop where
 op : 0 ≤ x.op ∧ x.op ≤ 26
 len : x.args.length = (takesL x.op).length
 dst : (makesB x.op = false ∧ x.dst = -1) ∨ (makesB x.op = true ∧ x.dst ≠ -1 ∧ hasV f x.dst = true)
 num : isNum x.op = false → x.num = 0
 args : ∀ a ∈ x.args, hasV f a = true
theorem instP_F {f : PFunc} {x : PInst} (h : InstP f x) : InstF f x := by
 obtain ⟨h1, h2, h3, h4⟩ := h
 have hw := wordB_num ⟨h1, h2⟩
 unfold bad2 at h3
 simp only [Bool.or_eq_false_iff, Bool.not_eq_false', qt, Bool.and_eq_false_iff, beq_iff_eq] at h3
 obtain ⟨g1, g2, g3, g4⟩ := h3
 refine ⟨⟨h1, h2⟩, by rw [takes_len]; omega, ?_, fun hn=>?_, List.all_eq_true.1 h4⟩
 ·rw [makesB_eq]
  by_cases hd : x.dst = -1
  ·left
   rw [qp hd] at g2
   exact ⟨by rw [g2]; rfl, hd⟩
  ·right
   rw [qq hd] at g2
   refine ⟨by rw [g2]; rfl, hd, ?_⟩
   rcases g3 with g | g
   ·exact absurd g hd
   ·exact g
 ·rcases g4 with g | g
  ·exact g
  ·rw [hw, hn] at g; cases g
theorem tyWord_spec (t : Int) : AFun prog E 254 [.int .i64 t] (.str (tyWord t)) := by
 refine zo func254 Z (by decide) Z<|zSr<|z8 (yc (v := .str _) Z)<|z6<|za<|zSr<|zVzMi Z<|z6<|zg<|zSr<|zVGveqlI Z Z<|zVzAb Z<|z6<|zr Z (fun c1=>?_) (fun c1=>?_)
 ·refine zSr<|z8 (yc (v := .str _) Z)<|z6<|zi<|zj (x := .str _) Z ?_
  exact congrArg AV.str (by simp_all [tyWord])
 ·refine zSr<|zVGveqlI Z Z<|zVzAb Z<|z6<|zr Z (fun c2=>?_) (fun c2=>?_)
  ·refine zSr<|z8 (yc (v := .str _) Z)<|z6<|zi<|zj (x := .str _) Z ?_
   exact congrArg AV.str (by simp_all [tyWord])
  ·refine zSr<|zVGveqlI Z Z<|zVzAb Z<|z6<|zr Z (fun c3=>?_) (fun c3=>?_)
   ·refine zSr<|z8 (yc (v := .str _) Z)<|z6<|zi<|zj (x := .str _) Z ?_
    exact congrArg AV.str (by simp_all [tyWord])
   ·refine ze<|zSr<|z8 (yc (v := .str _) Z)<|z6<|zi<|zj (x := .str _) Z ?_
    exact congrArg AV.str (by simp_all [tyWord])
end Go.Proofs.YtiojekbkamegdaaGreatDoor
namespace Go.Proofs.YtiojekbkamegdaaGreatDoor
open Go.Proofs.Tryz
def firstR (f : PFunc) (v : Int) : Rng := if v < f.params.length then rType (tyV f v) else (0, 0)
def first0R (f : PFunc) (v : Int) : Rng := if (makerT f v).1 < 0 then firstR f v else noR
def firstL (f : PFunc) : List Rng := (List.range f.vars.length).map fun (v : Nat) => first0R f v
def madePh (b : PBlock) : List (Int × Bool) := b.phis.map fun p => (p.dst, true)
def madeIn (xs : List PInst) : List (Int × Bool) := (xs.filter fun x => decide (0 ≤ x.dst)).map fun x => (x.dst, false)
def madeL (f : PFunc) : List (Int × Bool) := f.blocks.flatMap fun b => madePh b ++ madeIn b.insts
end Go.Proofs.YtiojekbkamegdaaGreatDoor
namespace Go.Proofs.YtiojekbkamegdaaGreatDoor
open Go.Proofs.Tryz
def isChk (q : Int) : Prop := 21 ≤ q ∧ q ≤ 23
instance (q : Int) : Decidable (isChk q) := by unfold isChk; infer_instance
def Done (f : PFunc) (i k : Nat) (v : Int) : Prop := ∃ (i' k' : Nat) (b : PBlock) (z : PInst), f.blocks[i']? = some b ∧ b.insts[k']? = some z ∧ z.dst = v ∧ chkX f z i' k' = true ∧ (i' < i ∨ i' = i ∧ k' < k)
theorem Done.step {f : PFunc} {i k : Nat} {b : PBlock} {z : PInst} (h1 : f.blocks[i]? = some b) (h2 : b.insts[k]? = some z) (v : Int) : Done f i (k + 1) v ↔ Done f i k v ∨ (v = z.dst ∧ chkX f z i k = true) := by
 constructor
 ·rintro ⟨i', k', b', z', g1, g2, g3, g4, g5⟩
  by_cases e : i' = i ∧ k' = k
  ·obtain ⟨rfl, rfl⟩ := e
   rw [h1] at g1; cases g1
   rw [h2] at g2; cases g2
   exact .inr ⟨g3.symm, g4⟩
  ·exact .inl ⟨i', k', b', z', g1, g2, g3, g4, by omega⟩
 ·rintro (⟨i', k', b', z', g1, g2, g3, g4, g5⟩ | ⟨rfl, h⟩)
  ·exact ⟨i', k', b', z', g1, g2, g3, g4, by omega⟩
  ·exact ⟨i, k, b, z, h1, h2, rfl, h, .inr ⟨rfl, by omega⟩⟩
theorem Done.next {f : PFunc} {i : Nat} {b : PBlock} (h1 : f.blocks[i]? = some b) (v : Int) : Done f (i + 1) 0 v ↔ Done f i b.insts.length v := by
 constructor
 ·rintro ⟨i', k', b', z', g1, g2, g3, g4, g5⟩
  refine ⟨i', k', b', z', g1, g2, g3, g4, ?_⟩
  by_cases e : i' = i
  ·subst e
   rw [h1] at g1; cases g1
   exact .inr ⟨rfl, (List.getElem?_eq_some_iff.1 g2).1⟩
  ·exact .inl (by omega)
 ·rintro ⟨i', k', b', z', g1, g2, g3, g4, g5⟩
  exact ⟨i', k', b', z', g1, g2, g3, g4, .inl (by omega)⟩
theorem Done.zero (f : PFunc) (v : Int) : ¬ Done f 0 0 v := by
 rintro ⟨i', k', b', z', g1, g2, g3, g4, g5⟩; omega
theorem Done.all {f : PFunc} (ho : OnceP f) {v : Nat} (hv : v < f.vars.length) : Done f f.blocks.length 0 v ↔ chkV f v = true := by
 constructor
 ·rintro ⟨i', k', b', z', g1, g2, g3, g4, g5⟩
  have hm : ((i' : Int), (k' : Int)) ∈ makings f v := mem_makings.2 ⟨i', b', g1, mem_mkBlk.2 (.inr ⟨k', z', g2, g3, rfl⟩)⟩
  have := maker_eq (ho v hv).1 hm
  rw [chkV_at g1 g2 this]; exact g4
 ·intro h
  by_cases h0 : 0 ≤ (makerT f v).1
  ·obtain ⟨i, b, h1, ⟨p, h2, h3, h4⟩ | ⟨k, x, h2, h3, h4⟩⟩ := maker_cases h0
   ·unfold chkV instAt at h
    rw [h4, if_neg (by dsimp only; omega)] at h
    cases h
   ·rw [chkV_at h1 h2 h4] at h
    exact ⟨i, k, b, x, h1, h2, h3, h, .inl (List.getElem?_eq_some_iff.1 h1).1⟩
  ·unfold chkV instAt at h
   rw [if_neg (fun hh => h0 hh.1)] at h
   cases h
end Go.Proofs.YtiojekbkamegdaaGreatDoor
namespace Go.Proofs.YtiojekbkamegdaaGreatDoor
open Go.Proofs.Tryz
def rF (f : PFunc) : List Rng → Int → Rng := ruleR f (chkV f)
def madeV (f : PFunc) : List Int := (madeL f).map (·.1)
def widF (f : PFunc) (n : Nat) (v : Int) : Option Rng := if 4 ≤ n ∧ (makerT f v).2 = -1 then some (rType (tyV f v)) else none
def rndF (f : PFunc) : Nat → List Rng
 | 0 => firstL f
 | i + 1 => growA (rF f) (widF f (i + 1)) (madeV f) (rndF f i)
structure Stops (f : PFunc) (K : Nat) : Prop where
 still : rndF f (K + 1) = rndF f K
 moves : ∀ i, i < K → rndF f (i + 1) ≠ rndF f i
theorem Stops.eq {f : PFunc} {K K' : Nat} (h : Stops f K) (h' : Stops f K') : K = K' := by
 rcases Nat.lt_trichotomy K K' with c | c | c
 ·exact absurd h.still (h'.moves K c)
 ·exact c
 ·exact absurd h'.still (h.moves K' c)
end Go.Proofs.YtiojekbkamegdaaGreatDoor
namespace Go.Proofs.YtiojekbkamegdaaGreatDoor
open Go.Proofs.Tryz
section
variable {n : Nat} {rule : List Rng → Int → Rng} {vs : List Int} {phi : Int → Prop} {rank : Int → Nat}
def SameR (vs : List Int) (phi : Int → Prop) (rank : Int → Nat) (m : Nat) (l l' : List Rng) : Prop := ∀ u : Int, 0 ≤ u → (u ∉ vs ∨ phi u ∨ rank u < m) → lv l u = lv l' u
theorem SameR.le {m k : Nat} {l l' : List Rng} (h : SameR vs phi rank m l l') (hk : k ≤ m) : SameR vs phi rank k l l' := fun u hu hc => h u hu (by
 rcases hc with hc | hc | hc
 ·exact .inl hc
 ·exact .inr (.inl hc)
 ·exact .inr (.inr (by omega)))
end
section
variable {n : Nat} {rule : List Rng → Int → Rng} {vs : List Int} {phi : Int → Prop} {t : Int → Rng}
end
end Go.Proofs.YtiojekbkamegdaaGreatDoor
namespace Go.Proofs.YtiojekbkamegdaaGreatDoor
open Go.Proofs.Tryz
def hAdd (h : Rng × Bool) (n : Int) (fits : Bool) (e : Int) : Rng × Bool := (rJoin h.1 (rOf (if fits then n else e)), h.2 || !fits)
def h4 (h : Rng × Bool) (a b : Rng) (n : Int → Int → Int) (fit : Int → Int → Bool) (e : Int → Int → Int) : Rng × Bool :=
 hAdd (hAdd (hAdd (hAdd h (n a.1 b.1) (fit a.1 b.1) (e a.1 b.1)) (n a.1 b.2) (fit a.1 b.2) (e a.1 b.2)) (n a.2 b.1) (fit a.2 b.1) (e a.2 b.1)) (n a.2 b.2) (fit a.2 b.2) (e a.2 b.2)
instance (k : Nat) (x y : Int) : Decidable (fit3 k x y) := by unfold fit3 is64; infer_instance
instance (k : Nat) (a b : Rng) : Decidable (cornF k a b) := by unfold cornF; infer_instance
end Go.Proofs.YtiojekbkamegdaaGreatDoor
namespace Go.Proofs.YtiojekbkamegdaaGreatDoor
open Go.Proofs.Tryz
open Go.Proofs
def encZ (r : Rng) : List AV := [.int .i64 r.1, .int .i64 r.2]
end Go.Proofs.YtiojekbkamegdaaGreatDoor
namespace Go.Proofs.YtiojekbkamegdaaGreatDoor
open Go.Proofs.Tryz
open Go.Proofs
theorem wrap_s (z : Int) : IntKind.i64.wrap z = (z + 9223372036854775808) % 18446744073709551616 - 9223372036854775808 := by
 unfold IntKind.wrap; simp [IntKind.bits, IntKind.signed]; (try split) <;> omega
end Go.Proofs.YtiojekbkamegdaaGreatDoor
namespace Go.Proofs.YtiojekbkamegdaaGreatDoor
open Go.Proofs.Tryz
structure GS where
 ints : List Int
 bools : List Bool
 arrs : List Int
 arrays : List (List Int)
 blk : Int
 pc : Nat
 en : Int
 val : Int
 tr : Int
 trace : List Int
 st : Nat
 ck : Nat → Nat
 ended : Bool
def vi (l : List Int) (v : Int) : Int := (l[v.toNat]?).getD 0
def ar0 (x : PInst) : Int := (x.args[0]?).getD 0
def ar1 (x : PInst) : Int := (x.args[1]?).getD 0
def ar2 (x : PInst) : Int := (x.args[2]?).getD 0
def rowG (s : GS) (a : Int) : List Int := (s.arrays[a.toNat]?).getD []
def placeG (s : GS) (a i : Int) : Bool := decide (0 ≤ a ∧ a < s.arrays.length ∧ 0 ≤ i ∧ i < (rowG s a).length)
def bIf (l : List Int) (ints : List Int) : Int := if 1 < l.length then vi ints ((l[1]?).getD 0) else 0
def passG (s : GS) (op : Int) (l : List Int) : Bool :=
 if op = 18 then placeG s (vi s.arrs ((l[0]?).getD 0)) (bIf l s.ints)
 else if op = 19 then decide (0 ≤ vi s.arrs ((l[0]?).getD 0))
 else if op = 20 then decide (vi s.ints ((l[0]?).getD 0) ≠ 0)
 else if op = 21 then decide (fit3 0 (vi s.ints ((l[0]?).getD 0)) (bIf l s.ints))
 else if op = 22 then decide (fit3 1 (vi s.ints ((l[0]?).getD 0)) (bIf l s.ints))
 else if op = 23 then decide (fit3 2 (vi s.ints ((l[0]?).getD 0)) (bIf l s.ints))
 else decide (0 ≤ vi s.ints ((l[0]?).getD 0) ∧ vi s.ints ((l[0]?).getD 0) ≤ 64)
def bumpG (s : GS) (t : Nat) : GS := { s with ck := fun i => if i = t then s.ck i + 1 else s.ck i }
def stopG (s : GS) (e : Int) : GS := { s with en := e, ended := true }
def trapG (s : GS) (t : Int) : GS := { s with en := 1, tr := t, ended := true }
def stI (s : GS) (d v : Int) : GS := { s with ints := s.ints.set d.toNat v }
def stB (s : GS) (d : Int) (v : Bool) : GS := { s with bools := s.bools.set d.toNat v }
def stA (s : GS) (d v : Int) : GS := { s with arrs := s.arrs.set d.toNat v }
def quoG (a b : Int) : Int := IntKind.i64.wrap (a.tdiv b)
def remG (a b : Int) : Int := if b = -1 then 0 else IntKind.i64.wrap (a - IntKind.i64.wrap (IntKind.i64.wrap (a.tdiv b) * b))
def aG (s : GS) (x : PInst) : Int := vi s.ints (ar0 x)
def bG (s : GS) (x : PInst) : Int := vi s.ints (ar1 x)
def pG (s : GS) (x : PInst) : Bool := gb s.bools (ar0 x)
def qG (s : GS) (x : PInst) : Bool := gb s.bools (ar1 x)
def rG (s : GS) (x : PInst) : Int := vi s.arrs (ar0 x)
def doG (s : GS) (x : PInst) : GS :=
 if x.op = 0 then stI s x.dst x.num
 else if x.op = 1 ∨ x.op = 25 ∨ x.op = 26 then stA (stB (stI s x.dst (aG s x)) x.dst (pG s x)) x.dst (rG s x)
 else if x.op = 2 then stI s x.dst (IntKind.i64.wrap (op3 0 (aG s x) (bG s x)))
 else if x.op = 3 then stI s x.dst (IntKind.i64.wrap (op3 1 (aG s x) (bG s x)))
 else if x.op = 4 then stI s x.dst (IntKind.i64.wrap (op3 2 (aG s x) (bG s x)))
 else if x.op = 5 then (if bG s x = 0 then stopG s 2 else stI s x.dst (quoG (aG s x) (bG s x)))
 else if x.op = 6 then (if bG s x = 0 then stopG s 2 else stI s x.dst (remG (aG s x) (bG s x)))
 else if x.op = 7 then stB s x.dst (decide (aG s x = bG s x))
 else if x.op = 8 then stB s x.dst (decide (aG s x < bG s x))
 else if x.op = 9 then stB s x.dst (decide (aG s x ≤ bG s x))
 else if x.op = 10 then stB s x.dst (!pG s x)
 else if x.op = 11 then stB s x.dst (pG s x && qG s x)
 else if x.op = 12 then (if rG s x < 0 then stopG s 2 else stI s x.dst ((rowG s (rG s x)).length))
 else if x.op = 13 then (if placeG s (rG s x) (bG s x) = true then stI s x.dst (vi (rowG s (rG s x)) (bG s x)) else stopG s 2)
 else if x.op = 14 then (if placeG s (rG s x) (bG s x) = true then { s with arrays := s.arrays.set (rG s x).toNat ((rowG s (rG s x)).set (bG s x).toNat (vi s.ints (ar2 x))) } else stopG s 2)
 else if x.op = 15 then (if aG s x < 0 ∨ 64 < aG s x then stopG s 2 else if 32 ≤ s.arrays.length then stopG s 3 else stA { s with arrays := s.arrays ++ [List.replicate (aG s x).toNat 0] } x.dst s.arrays.length)
 else if x.op = 16 then stA s x.dst (-1)
 else (if 4096 ≤ s.trace.length then stopG s 3 else { s with trace := s.trace ++ [aG s x] })
def instG (s : GS) (x : PInst) : GS :=
 if 18 ≤ x.op ∧ x.op ≤ 24 then (if passG s x.op x.args = true then bumpG s (x.op - 17).toNat else trapG (bumpG s (x.op - 17).toNat) (x.op - 17))
 else doG s x
def blkG (f : PFunc) (b : Int) : PBlock := (f.blocks[b.toNat]?).getD ⟨⟨#[]⟩, [], [], ⟨2, 0, 0, 0⟩⟩
def phiAt (p : PPhi) (b : Int) : Int := ((p.from_.zip p.args).find? fun q => decide (q.1 = b)).elim (-1) (·.2)
def assign (s t : GS) (p : PPhi) : GS := stA (stB (stI t p.dst (vi s.ints (phiAt p s.blk))) p.dst (gb s.bools (phiAt p s.blk))) p.dst (vi s.arrs (phiAt p s.blk))
def goG (s : GS) (to : Int) : GS := { s with blk := to, pc := 0 }
def enterG (f : PFunc) (s : GS) (to : Int) : GS :=
 if (blkG f to).phis.all (fun p => decide (0 ≤ phiAt p s.blk)) = true then goG ((blkG f to).phis.foldl (assign s) s) to else stopG (goG s to) 2
def nextG (f : PFunc) (s : GS) : Int := if (blkG f s.blk).term.kind = 0 ∨ gb s.bools (blkG f s.blk).term.var = true then (blkG f s.blk).term.to0 else (blkG f s.blk).term.to1
def stepG (f : PFunc) (s : GS) : GS :=
 match (blkG f s.blk).insts[s.pc]? with
 | some x => instG { s with pc := s.pc + 1, st := s.st + 1 } x
 | none => if (blkG f s.blk).term.kind = 2 then stopG { s with st := s.st + 1, val := vi s.ints (blkG f s.blk).term.var } 0 else enterG f { s with st := s.st + 1 } (nextG f s)
structure GInv (f : PFunc) (s : GS) : Prop where
 li : s.ints.length = f.vars.length
 lb : s.bools.length = f.vars.length
 la : s.arrs.length = f.vars.length
 i64 : ∀ x ∈ s.ints, is64 x
 arr : ∀ x ∈ s.arrs, -1 ≤ x ∧ x < s.arrays.length
 ls : s.arrays.length ≤ 40
 lr : ∀ r ∈ s.arrays, r.length ≤ 100
 r64 : ∀ r ∈ s.arrays, ∀ x ∈ r, is64 x
 lt : s.trace.length ≤ 4096
 b0 : 0 ≤ s.blk
 b1 : s.blk < f.blocks.length
 pc : s.pc ≤ (blkG f s.blk).insts.length
theorem vi_get {l : List Int} {v : Int} (h1 : v < l.length) (h0 : 0 ≤ v) : l[v.toNat]? = some (vi l v) := by
 unfold vi; rw [qd (by omega)]; rfl
theorem vi_mem {l : List Int} {v : Int} (h1 : v < l.length) (h0 : 0 ≤ v) : vi l v ∈ l := qm (vi_get h1 h0)
theorem vi_64 {l : List Int} {v : Int} (h : ∀ x ∈ l, is64 x) : is64 (vi l v) := by
 unfold vi
 cases e : l[v.toNat]? with
 | none => exact ⟨by decide, by decide⟩
 | some x => exact h x (qm e)
theorem row_get {s : GS} {a : Int} (h0 : 0 ≤ a) (h1 : a < s.arrays.length) : s.arrays[a.toNat]? = some (rowG s a) := by
 unfold rowG; rw [qd (by omega)]; rfl
theorem row_mem {s : GS} {a : Int} (h0 : 0 ≤ a) (h1 : a < s.arrays.length) : rowG s a ∈ s.arrays := qm (row_get h0 h1)
theorem mem_set_or {α : Type} {l : List α} {n : Nat} {a x : α} (h : x ∈ l.set n a) : x ∈ l ∨ x = a := List.mem_or_eq_of_mem_set h
theorem GInv.stI {f : PFunc} {s : GS} (h : GInv f s) {d v : Int} (hv : is64 v) : GInv f (stI s d v) :=
 ⟨by simp [Go.Proofs.YtiojekbkamegdaaGreatDoor.stI, h.li], h.lb, h.la, fun x hx => (mem_set_or hx).elim (h.i64 x) (fun e => e ▸ hv), h.arr, h.ls, h.lr, h.r64, h.lt, h.b0, h.b1, h.pc⟩
theorem GInv.stB {f : PFunc} {s : GS} (h : GInv f s) {d : Int} {v : Bool} : GInv f (stB s d v) :=
 ⟨h.li, by simp [Go.Proofs.YtiojekbkamegdaaGreatDoor.stB, h.lb], h.la, h.i64, h.arr, h.ls, h.lr, h.r64, h.lt, h.b0, h.b1, h.pc⟩
theorem GInv.stA {f : PFunc} {s : GS} (h : GInv f s) {d v : Int} (hv : -1 ≤ v ∧ v < s.arrays.length) : GInv f (stA s d v) :=
 ⟨h.li, h.lb, by simp [Go.Proofs.YtiojekbkamegdaaGreatDoor.stA, h.la], h.i64, fun x hx => (mem_set_or hx).elim (h.arr x) (fun e => e ▸ hv), h.ls, h.lr, h.r64, h.lt, h.b0, h.b1, h.pc⟩
theorem GInv.stop {f : PFunc} {s : GS} (h : GInv f s) (e : Int) : GInv f (stopG s e) := ⟨h.li, h.lb, h.la, h.i64, h.arr, h.ls, h.lr, h.r64, h.lt, h.b0, h.b1, h.pc⟩
theorem GInv.trap {f : PFunc} {s : GS} (h : GInv f s) (t : Int) : GInv f (trapG s t) := ⟨h.li, h.lb, h.la, h.i64, h.arr, h.ls, h.lr, h.r64, h.lt, h.b0, h.b1, h.pc⟩
theorem GInv.bump {f : PFunc} {s : GS} (h : GInv f s) (t : Nat) : GInv f (bumpG s t) := ⟨h.li, h.lb, h.la, h.i64, h.arr, h.ls, h.lr, h.r64, h.lt, h.b0, h.b1, h.pc⟩
theorem arr_at {f : PFunc} {s : GS} (h : GInv f s) {v : Int} (h1 : v < f.vars.length) (h0 : 0 ≤ v) : -1 ≤ vi s.arrs v ∧ vi s.arrs v < s.arrays.length :=
 h.arr _ (vi_mem (by rw [h.la]; exact h1) h0)
theorem arr_any {f : PFunc} {s : GS} (h : GInv f s) {v : Int} (hn : v < f.vars.length ∧ 0 ≤ v) : -1 ≤ vi s.arrs v ∧ vi s.arrs v < s.arrays.length := arr_at h hn.1 hn.2
theorem place_iff {s : GS} {a i : Int} : placeG s a i = true ↔ 0 ≤ a ∧ a < s.arrays.length ∧ 0 ≤ i ∧ i < (rowG s a).length := by unfold placeG; rw [qt]
theorem wrap_64 (x : Int) : is64 (IntKind.i64.wrap x) := by
 rw [wrap_s]; unfold is64; omega
theorem rem_64 (a b : Int) : is64 (remG a b) := by
 unfold remG; split
 ·exact ⟨by decide, by decide⟩
 ·exact wrap_64 _
theorem has_lt {f : PFunc} {v : Int} (h : hasV f v = true) : v < f.vars.length ∧ 0 ≤ v := by
 unfold hasV at h; simp at h; exact ⟨h.2, h.1⟩
theorem InstF.a0 {f : PFunc} {x : PInst} (h : InstF f x) (hl : 0 < x.args.length) : ar0 x < f.vars.length ∧ 0 ≤ ar0 x := by
 unfold ar0; rw [qd hl]; exact has_lt (h.args _ (qh hl))
theorem InstF.a1 {f : PFunc} {x : PInst} (h : InstF f x) (hl : 1 < x.args.length) : ar1 x < f.vars.length ∧ 0 ≤ ar1 x := by
 unfold ar1; rw [qd hl]; exact has_lt (h.args _ (qh hl))
theorem InstF.a2 {f : PFunc} {x : PInst} (h : InstF f x) (hl : 2 < x.args.length) : ar2 x < f.vars.length ∧ 0 ≤ ar2 x := by
 unfold ar2; rw [qd hl]; exact has_lt (h.args _ (qh hl))
theorem takesN : ∀ j : Nat, j < 27 → (takesL (j : Int)).length = ([0, 1, 2, 2, 2, 2, 2, 2, 2, 2, 1, 2, 1, 2, 3, 1, 0, 1, 2, 1, 1, 2, 2, 2, 1, 2, 2][j]?).getD 0 := by decide
theorem InstF.argc {f : PFunc} {x : PInst} (h : InstF f x) : x.args.length = ([0, 1, 2, 2, 2, 2, 2, 2, 2, 2, 1, 2, 1, 2, 3, 1, 0, 1, 2, 1, 1, 2, 2, 2, 1, 2, 2][x.op.toNat]?).getD 0 := by
 have h1 := h.op
 obtain ⟨j, e⟩ : ∃ j : Nat, x.op = (j : Int) := ⟨x.op.toNat, by omega⟩
 rw [h.len, e, takesN j (by omega), Int.toNat_natCast]
theorem makesN : ∀ j : Nat, j < 27 → makesB (j : Int) = ([true, true, true, true, true, true, true, true, true, true, true, true, true, true, false, true, true, false, false, false, false, false, false, false, false, true, true][j]?).getD false := by decide
theorem InstF.made {f : PFunc} {x : PInst} (h : InstF f x) (hm : ([true, true, true, true, true, true, true, true, true, true, true, true, true, true, false, true, true, false, false, false, false, false, false, false, false, true, true][x.op.toNat]?).getD false = true) : x.dst < f.vars.length ∧ 0 ≤ x.dst := by
 have h1 := h.op
 obtain ⟨j, e⟩ : ∃ j : Nat, x.op = (j : Int) := ⟨x.op.toNat, by omega⟩
 rw [e, Int.toNat_natCast, ← makesN j (by omega), ← e] at hm
 rcases h.dst with g | g
 ·rw [g.1] at hm; cases hm
 ·exact has_lt g.2.2
theorem GInv.doG {f : PFunc} {s : GS} (h : GInv f s) {x : PInst} (hx : InstF f x) (h64 : is64 x.num) : GInv f (doG s x) := by
 have hc := hx.argc
 have st : ∀ e, GInv f (stopG s e) := h.stop
 have wr : ∀ d v, GInv f (Go.Proofs.YtiojekbkamegdaaGreatDoor.stI s d (IntKind.i64.wrap v)) := fun _ _ => h.stI (wrap_64 _)
 have bo : ∀ d v, GInv f (Go.Proofs.YtiojekbkamegdaaGreatDoor.stB s d v) := fun _ _ => h.stB
 unfold Go.Proofs.YtiojekbkamegdaaGreatDoor.doG
 by_cases e : x.op = 0
 ·rw [if_pos e]; exact h.stI h64
 rw [if_neg e]; clear e
 by_cases e : x.op = 1 ∨ x.op = 25 ∨ x.op = 26
 ·rw [if_pos e]
  refine GInv.stA (s := Go.Proofs.YtiojekbkamegdaaGreatDoor.stB (Go.Proofs.YtiojekbkamegdaaGreatDoor.stI s x.dst (aG s x)) x.dst (pG s x)) (h.stI (vi_64 h.i64)).stB ?_
  exact arr_any h (hx.a0 (by rcases e with e | e | e <;> (rw [e] at hc; rw [hc]; decide)))
 rw [if_neg e]; clear e
 by_cases e : x.op = 2
 ·rw [if_pos e]; exact wr _ _
 rw [if_neg e]; clear e
 by_cases e : x.op = 3
 ·rw [if_pos e]; exact wr _ _
 rw [if_neg e]; clear e
 by_cases e : x.op = 4
 ·rw [if_pos e]; exact wr _ _
 rw [if_neg e]; clear e
 by_cases e : x.op = 5
 ·rw [if_pos e]
  split
  ·exact st 2
  ·exact wr _ _
 rw [if_neg e]; clear e
 by_cases e : x.op = 6
 ·rw [if_pos e]
  split
  ·exact st 2
  ·exact h.stI (rem_64 _ _)
 rw [if_neg e]; clear e
 by_cases e : x.op = 7
 ·rw [if_pos e]; exact bo _ _
 rw [if_neg e]; clear e
 by_cases e : x.op = 8
 ·rw [if_pos e]; exact bo _ _
 rw [if_neg e]; clear e
 by_cases e : x.op = 9
 ·rw [if_pos e]; exact bo _ _
 rw [if_neg e]; clear e
 by_cases e : x.op = 10
 ·rw [if_pos e]; exact bo _ _
 rw [if_neg e]; clear e
 by_cases e : x.op = 11
 ·rw [if_pos e]; exact bo _ _
 rw [if_neg e]; clear e
 by_cases e : x.op = 12
 ·rw [if_pos e]
  split
  ·exact st 2
  ·rename_i hr
   have hl := h.lr _ (row_mem (by omega) (arr_any h (hx.a0 (by rw [e] at hc; rw [hc]; decide))).2 : rowG s (rG s x) ∈ s.arrays)
   exact h.stI ⟨by omega, by omega⟩
 rw [if_neg e]; clear e
 by_cases e : x.op = 13
 ·rw [if_pos e]
  split
  ·rename_i hp
   obtain ⟨h1, h2, _⟩ := place_iff.1 hp
   exact h.stI (vi_64 (h.r64 _ (row_mem h1 h2)))
  ·exact st 2
 rw [if_neg e]; clear e
 by_cases e : x.op = 14
 ·rw [if_pos e]
  split
  ·rename_i hp
   obtain ⟨h1, h2, _⟩ := place_iff.1 hp
   refine ⟨h.li, h.lb, h.la, h.i64, fun y hy => by simpa using h.arr y hy, by simpa using h.ls, fun r hr => ?_, fun r hr => ?_, h.lt, h.b0, h.b1, h.pc⟩
   ·rcases mem_set_or hr with hr | hr
    ·exact h.lr r hr
    ·rw [hr, List.length_set]; exact h.lr _ (row_mem h1 h2)
   ·rcases mem_set_or hr with hr | hr
    ·exact h.r64 r hr
    ·intro y hy
     rw [hr] at hy
     rcases mem_set_or hy with hy | hy
     ·exact h.r64 _ (row_mem h1 h2) y hy
     ·rw [hy]; exact vi_64 h.i64
  ·exact st 2
 rw [if_neg e]; clear e
 by_cases e : x.op = 15
 ·rw [if_pos e]
  split
  ·exact st 2
  ·rename_i ha
   split
   ·exact st 3
   ·rename_i hs
    refine GInv.stA (s := { s with arrays := s.arrays ++ [List.replicate (aG s x).toNat 0] }) ⟨h.li, h.lb, h.la, h.i64, fun y hy => ?_, ?_, fun r hr => ?_, fun r hr => ?_, h.lt, h.b0, h.b1, h.pc⟩ ?_
    ·have := h.arr y hy
     simp only [qj, List.length_singleton]; omega
    ·simp only [qj, List.length_singleton]; omega
    ·rcases List.mem_append.1 hr with hr | hr
     ·exact h.lr r hr
     ·rw [List.mem_singleton.1 hr, List.length_replicate]; omega
    ·rcases List.mem_append.1 hr with hr | hr
     ·exact h.r64 r hr
     ·intro y hy
      rw [List.mem_singleton.1 hr] at hy
      rw [(List.mem_replicate.1 hy).2]; exact ⟨by decide, by decide⟩
    ·simp only [qj, List.length_singleton]; omega
 rw [if_neg e]; clear e
 by_cases e : x.op = 16
 ·rw [if_pos e]; exact h.stA ⟨by omega, by omega⟩
 rw [if_neg e]; clear e
 split
 ·exact st 3
 ·rename_i ht
  exact ⟨h.li, h.lb, h.la, h.i64, h.arr, h.ls, h.lr, h.r64, by simp only [qj, List.length_singleton]; omega, h.b0, h.b1, h.pc⟩
theorem GInv.inst {f : PFunc} {s : GS} (h : GInv f s) {x : PInst} (hx : InstF f x) (h64 : is64 x.num) : GInv f (instG s x) := by
 unfold instG
 split
 ·split
  ·exact h.bump _
  ·exact (h.bump _).trap _
 ·exact h.doG hx h64
structure RunP (f : PFunc) : Prop where
 pos : 0 < f.blocks.length
 phis : ∀ b ∈ f.blocks, ∀ p ∈ b.phis, PhiP f p
 insts : ∀ b ∈ f.blocks, ∀ x ∈ b.insts, InstF f x ∧ is64 x.num
 term : ∀ b ∈ f.blocks, termOK f b.term = true
theorem blk_get {f : PFunc} {b : Int} (h0 : 0 ≤ b) (h1 : b < f.blocks.length) : f.blocks[b.toNat]? = some (blkG f b) := by
 unfold blkG; rw [qd (by omega)]; rfl
theorem blk_mem {f : PFunc} {b : Int} (h0 : 0 ≤ b) (h1 : b < f.blocks.length) : blkG f b ∈ f.blocks := qm (blk_get h0 h1)
theorem phiAt_mem {p : PPhi} {b : Int} (h : 0 ≤ phiAt p b) : phiAt p b ∈ p.args := by
 unfold phiAt at h ⊢
 cases e : (p.from_.zip p.args).find? fun q => decide (q.1 = b) with
 | none => rw [e] at h; simp at h
 | some q => exact (List.of_mem_zip (List.mem_of_find?_eq_some e)).2
theorem GInv.assign {f : PFunc} {s t : GS} (h : GInv f s) (ht : GInv f t) (ha : t.arrays = s.arrays) {p : PPhi} (hp : PhiP f p) (h0 : 0 ≤ phiAt p s.blk) : GInv f (assign s t p) ∧ (assign s t p).arrays = s.arrays := by
 have hv := has_lt (List.all_eq_true.1 hp.2.2.2.1 _ (phiAt_mem h0))
 refine ⟨GInv.stA (s := Go.Proofs.YtiojekbkamegdaaGreatDoor.stB (Go.Proofs.YtiojekbkamegdaaGreatDoor.stI t p.dst _) p.dst _) (ht.stI (vi_64 h.i64)).stB ?_, ha⟩
 show _ ∧ _ < (t.arrays.length : Int)
 rw [ha]; exact arr_any h hv
theorem GInv.assigns {f : PFunc} {s : GS} (h : GInv f s) : ∀ (l : List PPhi) (t : GS), GInv f t → t.arrays = s.arrays → (∀ p ∈ l, PhiP f p ∧ 0 ≤ phiAt p s.blk) → GInv f (l.foldl (Go.Proofs.YtiojekbkamegdaaGreatDoor.assign s) t)
 | [], t, ht, _, _ => ht
 | p :: l, t, ht, ha, hl => by
  obtain ⟨h1, h2⟩ := h.assign ht ha (hl p (.head _)).1 (hl p (.head _)).2
  exact h.assigns l _ h1 h2 fun q hq => hl q (.tail _ hq)
theorem GInv.goG {f : PFunc} {s : GS} (h : GInv f s) {to : Int} (h0 : 0 ≤ to) (h1 : to < f.blocks.length) : GInv f (goG s to) := ⟨h.li, h.lb, h.la, h.i64, h.arr, h.ls, h.lr, h.r64, h.lt, h0, h1, qg _⟩
theorem GInv.enter {f : PFunc} {s : GS} (hR : RunP f) (h : GInv f s) {to : Int} (h0 : 0 ≤ to) (h1 : to < f.blocks.length) : GInv f (enterG f s to) := by
 unfold enterG
 split
 ·rename_i ha
  exact (h.assigns _ s h rfl fun p hp => ⟨hR.phis _ (blk_mem h0 h1) p hp, of_decide_eq_true (List.all_eq_true.1 ha p hp)⟩).goG h0 h1
 ·exact (h.goG h0 h1).stop 2
theorem term_to {f : PFunc} {t : PTerm} (h : termOK f t = true) (hk : ¬ t.kind = 2) : (0 ≤ t.to0 ∧ t.to0 < f.blocks.length) ∧ (¬ t.kind = 0 → t.kind = 1 ∧ (0 ≤ t.to1 ∧ t.to1 < f.blocks.length)) := by
 unfold termOK at h
 split at h
 ·rename_i e
  simp only [qr, hasB, qt] at h
  exact ⟨h.1.1, fun g => absurd e g⟩
 ·split at h
  ·rename_i e
   simp only [qr, hasB, qt] at h
   exact ⟨h.1.2, fun _ => ⟨e, h.2⟩⟩
  ·simp [hk] at h
theorem next_to {f : PFunc} (hR : RunP f) {s : GS} (h : GInv f s) (hk : ¬ (blkG f s.blk).term.kind = 2) : 0 ≤ nextG f s ∧ nextG f s < f.blocks.length := by
 have ht := term_to (hR.term _ (blk_mem h.b0 h.b1)) hk
 unfold nextG
 split
 ·exact ht.1
 ·rename_i e
  exact (ht.2 fun g => e (.inl g)).2
theorem GInv.up {f : PFunc} {s : GS} (h : GInv f s) (n : Nat) (v : Int) : GInv f { s with st := n, val := v } := ⟨h.li, h.lb, h.la, h.i64, h.arr, h.ls, h.lr, h.r64, h.lt, h.b0, h.b1, h.pc⟩
theorem GInv.step {f : PFunc} (hR : RunP f) {s : GS} (h : GInv f s) : GInv f (stepG f s) := by
 unfold stepG
 split
 ·rename_i x hx
  obtain ⟨hi, h64⟩ := hR.insts _ (blk_mem h.b0 h.b1) x (qm hx)
  obtain ⟨hp, _⟩ := List.getElem?_eq_some_iff.1 hx
  exact GInv.inst (s := { s with pc := s.pc + 1, st := s.st + 1 }) ⟨h.li, h.lb, h.la, h.i64, h.arr, h.ls, h.lr, h.r64, h.lt, h.b0, h.b1, hp⟩ hi h64
 ·split
  ·exact (h.up _ _).stop 0
  ·rename_i hk
   obtain ⟨h0, h1⟩ := next_to hR h hk
   exact GInv.enter hR (s := { s with st := s.st + 1 }) (h.up _ s.val) h0 h1
end Go.Proofs.YtiojekbkamegdaaGreatDoor
namespace Go.Proofs.YtiojekbkamegdaaGreatDoor
open Go.Proofs.Tryz
open Go.Proofs
def lC (l : List Rng) : List AV := eP.av l
theorem lC_len (l : List Rng) : (lC l).length = l.length * 2 := eP.av_len l
theorem lC_cons (r : Rng) (l : List Rng) : lC (r :: l) = .int .i64 r.1 :: .int .i64 r.2 :: lC l := rfl
theorem lC_drop : ∀ (l : List Rng) (j : Nat), (lC l).drop (j * 2) = lC (l.drop j)
 | l, 0 => by simp
 | [], j + 1 => by simp [lC, Enc.av]
 | r :: l, j + 1 => by
  rw [show (j + 1) * 2 = j * 2 + 1 + 1 by omega, lC_cons, List.drop_succ_cons, List.drop_succ_cons, lC_drop l j, List.drop_succ_cons]
theorem lC_get {l : List Rng} {j : Nat} {r : Rng} (h : l[j]? = some r) : (lC l).drop (j * 2) = .int .i64 r.1 :: .int .i64 r.2 :: lC (l.drop (j + 1)) := by
 obtain ⟨hj, e⟩ := List.getElem?_eq_some_iff.1 h
 rw [lC_drop, List.drop_eq_getElem_cons hj, e, lC_cons]
theorem lC_ne {l : List Rng} {j : Nat} (h : j < l.length) : lC l ≠ [] := fun e => by have := lC_len l; rw [e] at this; simp at this; omega
section
variable {E : World} {P : Program} {ops : Array Oper} {K : AEnv → OL → Prop} {env : AEnv} {O O' O'' : OL} {rest : List Oper} {n : Nat}
variable {d ty : Nat} {pos : String} {af : Array Edge} {x y z : Operand} {t u e T : TypeId}
theorem Gv.idxR {i n j : Nat} {a : Int} {T : TypeId} {l : List Rng} (ht : P.underlying t = some (.slice e)) (hs : ∀ w, (sizeOf e).run P w = .ok 2 w) (hx : aev env x = .own i n) (hy : aev env y = .int .i64 a) (hi : a = (j : Int)) (hO : Has O i (.grow 2 T (lC l))) (hn : l.length = n) (hj : j < n) :
  Gv P env O (Oper.mk (some d) (.indexAddr t x y) ty pos af none) (.po i (j * 2)) := Gv.idxO ht hs hx hy hi hO (lC_ne (j := j) (by omega)) hj
theorem Gv.loadR {i j : Nat} {T : TypeId} {l : List Rng} {r : Rng} (ha : ∀ w, (isAgg t).run P w = .ok true w) (hs : ∀ w, (sizeOf t).run P w = .ok 2 w) (hx : aev env x = .po i (j * 2)) (hO : Has O i (.grow 2 T (lC l))) (hv : l[j]? = some r) :
  Gv P env O (Oper.mk (some d) (.load t x) ty pos af none) (.agg (encZ r)) := by
 have hj := (List.getElem?_eq_some_iff.1 hv).1
 exact Gv.loadAG ha hs hx hO (lC_ne hj) (by rw [lC_len]; omega) (by rw [lC_get hv]; rfl)
end
structure RdL (P : Program) (te ee : TypeId) (Lv : AV) (ptr : Nat → AV) (i : Nat) (HL : AObj) (l : List Rng) : Prop where
 idx : ∀ {env : AEnv} {O : OL} {d ty : Nat} {pos : String} {af : Array Edge} {x y : Operand} {a : Int} {j : Nat}, aev env x = Lv → aev env y = .int .i64 a → a = (j : Int) → j < l.length → Has O i HL → Gv P env O (Oper.mk (some d) (.indexAddr te x y) ty pos af none) (ptr j)
 load : ∀ {env : AEnv} {O : OL} {d ty : Nat} {pos : String} {af : Array Edge} {x : Operand} {j : Nat} {r : Rng}, aev env x = ptr j → l[j]? = some r → Has O i HL → Gv P env O (Oper.mk (some d) (.load ee x) ty pos af none) (.agg (encZ r))
def ptrF (l : List Rng) (j : Nat) : AV := .pf (encZ ((l[j]?).getD noR))
def ptrO (i : Nat) (j : Nat) : AV := .po i (j * 2)
theorem RdL.fro {P : Program} {te ee : TypeId} (ht : P.underlying te = some (.slice ee)) (hs : ∀ w, (sizeOf ee).run P w = .ok 2 w) (ha : ∀ w, (isAgg ee).run P w = .ok true w) (i : Nat) (HL : AObj) (l : List Rng) : RdL P te ee (.fro 2 (l.map encZ)) (ptrF l) i HL l where
 idx hx hy hi hj _ := ym ht hs hx hy hi (by rw [qd hj]; rfl)
 load hx hv _ := yk ha hs (cs := encZ _) (by rw [hx]; unfold ptrF; rw [hv]; rfl) rfl
theorem RdL.own {P : Program} {te ee : TypeId} (ht : P.underlying te = some (.slice ee)) (hs : ∀ w, (sizeOf ee).run P w = .ok 2 w) (ha : ∀ w, (isAgg ee).run P w = .ok true w) (i : Nat) (T : TypeId) (l : List Rng) (n : Nat) (hn : l.length = n) : RdL P te ee (.own i n) (ptrO i) i (.grow 2 T (lC l)) l where
 idx hx hy hi hj hO := Gv.idxR ht hs hx hy hi hO hn (by omega)
 load hx hv hO := Gv.loadR ha hs hx hO hv
end Go.Proofs.YtiojekbkamegdaaGreatDoor
namespace Go.Proofs.YtiojekbkamegdaaGreatDoor
open Go.Proofs.Tryz
open Go.Proofs
end Go.Proofs.YtiojekbkamegdaaGreatDoor
namespace Go.Proofs.YtiojekbkamegdaaGreatDoor
open Go.Proofs.Tryz
open Go.Proofs
end Go.Proofs.YtiojekbkamegdaaGreatDoor
namespace Go.Proofs.YtiojekbkamegdaaGreatDoor
open Go.Proofs.Tryz
def bag (X : OL) : AObj := .heapG (fun I L => ∃ L', RepOs I X L' ∧ L.Perm L') fun I J L h hp => by obtain ⟨L', h1, h2⟩ := hp; exact ⟨L', h1.mono h, h2⟩
section
variable {E : World} {env : AEnv} {O O1 O' : OL} {m i : Nat} {o : AObj} {X X' : OL}
theorem GStep.bagNew : GStep E env O env ((0, bag []) :: O) := fun I F ρ w h1 ⟨ht, L, hL, hS⟩ => ⟨I, .refl _, h1, ht, L, ⟨[], L, rfl, ⟨[], rfl, .refl _⟩, hL⟩, hS⟩
theorem GStep.bagOut (hX : X.Perm ((i, o) :: X')) (hO : Put O m (bag X) (bag X') O') : GStep E env O env ((i, o) :: O') := fun I F ρ w h1 ⟨ht, L, hL, hS⟩ => by
 obtain ⟨A, B, hp, ⟨L', hA, hpA⟩, hback⟩ := hO.rep hL
 obtain ⟨L2, h2, h3⟩ := hA.perm hX
 obtain ⟨C, D, rfl, h4, h5⟩ := h2
 obtain ⟨L3, h6, h7⟩ := hback (q4 I) (A' := D) ⟨D, h5, .refl _⟩
 refine ⟨I, .refl _, h1, ht, C ++ L3, ⟨C, L3, Z, h4, h6⟩, hS.perm (List.Perm.append_right F ?_)⟩
 refine (h7.append_left C).trans ?_
 rw [← qf]
 exact (((hpA.trans h3).append_right B).symm).trans hp.symm
theorem GStep.bagIn (hP : Pick O i o O1) (hX : ((i, o) :: X).Perm X') (hO : Put O1 m (bag X) (bag X') O') : GStep E env O env O' := fun I F ρ w h1 ⟨ht, L, hL, hS⟩ => by
 obtain ⟨A, B, hp, hA, hB⟩ := hP.rep hL
 obtain ⟨A2, B2, hp2, ⟨L', h3, h4⟩, hback⟩ := hO.rep hB
 obtain ⟨L4, h5, h6⟩ := (show RepOs I ((i, o) :: X) (A ++ L') from ⟨A, L', rfl, hA, h3⟩).perm hX
 obtain ⟨L5, h7, h8⟩ := hback (q4 I) (A' := A ++ A2) ⟨L4, h5, (h4.append_left A).trans h6⟩
 refine ⟨I, .refl _, h1, ht, L5, h7, hS.perm (List.Perm.append_right F ?_)⟩
 refine h8.trans ?_
 rw [qf]
 exact ((hp2.append_left A).symm).trans hp.symm
end
theorem zip_out {α β γ : Type} (g : α → β → γ) : ∀ (xs : List α) (ys : List β) (j : Nat) {a : α} {b : β}, xs[j]? = some a → ys[j]? = some b → ∃ X, (List.zipWith g xs ys).Perm (g a b :: X) ∧ ∀ a' b', (g a' b' :: X).Perm (List.zipWith g (xs.set j a') (ys.set j b'))
 | [], _, j, _, _, h, _ => by simp at h
 | _ :: _, [], j, _, _, _, h => by simp at h
 | x :: xs, y :: ys, 0, a, b, h1, h2 => by
  simp at h1 h2
  subst h1 h2
  exact ⟨List.zipWith g xs ys, .refl _, fun _ _ => .refl _⟩
 | x :: xs, y :: ys, j + 1, a, b, h1, h2 => by
  obtain ⟨X, h3, h4⟩ := zip_out g xs ys j (by simpa using h1) (by simpa using h2)
  refine ⟨g x y :: X, (h3.cons _).trans (.swap _ _ _), fun a' b' => ?_⟩
  exact (List.Perm.swap _ _ _).trans ((h4 a' b').cons _)
theorem own_fro {I J : G} {id k : Nat} {T : TypeId} {rows : List (List AV)} {L : List (Nat × Obj)} (hk : ∀ r ∈ rows, r.length = k) (hk0 : 0 < k) (h : RepO I (id, .grow k T rows.flatten) L) (hle : I.le J) (hJ : ∀ x ∈ L, J.k x.1 = some x.2) {v : Value} (hv : RepV I (.own id rows.length) v) : RepV J (.fro k rows) v := by
 obtain ⟨b, c, n, vs, e1, hvs, hvc, hown⟩ := h
 simp only at e1
 have hflat := flat_len hk
 have hnm : n = rows.length := by
  have h5 := hown.1
  have h6 := hvs.length
  have : n * k = rows.length * k := by omega
  exact Nat.eq_of_mul_eq_mul_right hk0 this
 obtain ⟨b2, c2, e2, rfl⟩ := hv
 rw [e1] at e2
 simp only [Option.some.injEq, Prod.mk.injEq] at e2
 obtain ⟨rfl, rfl⟩ := e2
 obtain ⟨h5, h6, h7⟩ := hown
 rcases h7 with ⟨ea, rfl, rfl⟩ | ⟨b', junk, ea, rfl, hj⟩
 ·have h0 : rows = [] := List.eq_nil_of_length_eq_zero (by omega)
  subst h0
  exact ⟨adr b, 0, 0, rfl, rfl, Nat.le_refl _, fun _ => rfl, trivial⟩
 ·cases b with
  | none => simp [adr] at ea
  | some b =>
   simp [adr] at ea
   subst ea
   have hb := hJ _ (.head _)
   simp only at hb
   refine ⟨adr (some b), rows.length, c, Z, Z, by omega, fun h => by simp [adr] at h, RepR.of_flat hb rows vs 0 hk (RepL.mono hle _ _ hvs) fun i u hu => ?_⟩
   rw [Nat.zero_mul, Nat.zero_add, List.getElem?_toArray, List.getElem?_append_left (List.getElem?_eq_some_iff.1 hu).1]
   exact hu
section
variable {E : World} {env : AEnv} {O O1 O' : OL} {m i k : Nat} {T : TypeId} {cs cs' : List AV} {X : OL}
theorem GStep.bagKnow (hB : Pick O m (bag X) O1) (hP : Put O1 i (.grow k T cs) (.grow k T cs') O')
  (hc : ∀ (I J : G) L vs, I.le J → RepOs I X L → (∀ x ∈ L, J.k x.1 = some x.2) → RepL I cs vs → RepL J cs' vs) : GStep E env O env O' := fun I F ρ w h1 ⟨ht, L, hL, hS⟩ => by
 obtain ⟨A, B, hp, ⟨L', hX, hA⟩, hB2⟩ := hB.rep hL
 have hS2 : SL I.k (A ++ (B ++ F)) E w := hS.perm (by rw [← qf]; exact (hp.append_right F).symm)
 obtain ⟨J, j1, j2, j3⟩ := SL.freezeAllN hS2
 have hle : I.le ⟨J, I.h⟩ := ⟨j1, fun _ _ h => h⟩
 obtain ⟨A2, B2, hp2, ⟨b, c, n, vs, e1, hvs, hvc, hown⟩, hback⟩ := hP.rep hB2
 obtain ⟨L3, h4, h5⟩ := hback hle (A' := A2) ⟨b, c, n, vs, e1, hc I ⟨J, I.h⟩ L' vs hle hX (fun x hx => j3 x (hA.mem_iff.2 hx)) hvs, hvc, hown⟩
 exact ⟨⟨J, I.h⟩, hle, h1.mono hle, ht, L3, h4, j2.perm ((h5.trans hp2.symm).append_right F)⟩
end
theorem RepL.cut {I : G} {xs ys : List AV} {vs : List Value} (h : RepL I (xs ++ ys) vs) : ∃ a b, vs = a ++ b ∧ RepL I xs a ∧ RepL I ys b := by
 have e1 := h.take xs.length
 have e2 := h.drop xs.length
 rw [List.take_left] at e1
 rw [List.drop_left] at e2
 exact ⟨_, _, (List.take_append_drop _ _).symm, e1, e2⟩
end Go.Proofs.YtiojekbkamegdaaGreatDoor
namespace Go.Proofs.YtiojekbkamegdaaGreatDoor
open Go.Proofs.Tryz
open Go.Proofs Go.Lib Go.Shelf Go.RowKit
set_option maxRecDepth 20000
variable {E : World}
theorem zip_push {α β γ : Type} (g : α → β → γ) {xs : List α} {ys : List β} {k : Nat} (a : α) (h : xs.length = k) (hk : k < ys.length) : List.zipWith g (xs ++ [a]) (ys.take (k + 1)) = List.zipWith g xs (ys.take k) ++ [g a ys[k]] := by
 rw [qe hk, List.zipWith_append (by rw [qo]; omega)]; rfl
theorem AOps.storeGN {P : Program} {ops : Array Oper} {K : AEnv → OL → Prop} {env : AEnv} {O O' : OL} {rest : List Oper} {ty : Nat} {pos : String} {af : Array Edge} {x y : Operand} {t : TypeId} {i off k : Nat} {T : TypeId} {v : AV} {cs new : List AV} (hs : ∀ w, (sizeOf t).run P w = .ok 1 w) (hx : aev env x = .po i off) (hy : aev env y = v) (hv : v.sto = true) (hl : v.cs = [v]) (hl1 : v.cell = true)
  (hO : Put O i (.grow k T cs) (.grow k T new) O') (hb : off < cs.length) (hnew : cs.set off v = new) (kk : AOps P E ops K rest env O') : AOps P E ops K (Oper.mk none (.store t x y) ty pos af none :: rest) env O := by
 subst hnew; exact AOps.storeG1 hs hx hy hv hl hl1 hO hb kk
end Go.Proofs.YtiojekbkamegdaaGreatDoor
