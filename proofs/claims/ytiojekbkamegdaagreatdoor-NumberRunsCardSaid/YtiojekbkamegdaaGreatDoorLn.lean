/- The document's ways: which block leads to which, what is reached, joined. Of programs that are little. -/
import Derived.Test.YtiojekbkamegdaaGreatDoorLm
import Derived.Test.YtiojekbkamegdaaGreatDoorLg
set_option linter.unusedVariables false
set_option linter.unusedSimpArgs false
set_option linter.unusedSectionVars false
namespace Go.Proofs.YtiojekbkamegdaaGreatDoor
open Go.Proofs.Tryz
open Go.Proofs Go.Lib Go.Shelf Go.RowKit
theorem pl144 : Places prog 144 #[(0, 1), (1, 1)] [.int .i64 0, .int .i64 0] := ⟨_, _, underlying144, zeroValue144, fun w => by kernel_rfl, rfl⟩
theorem ps139_1 : PlacesS prog 139 144 1 2 [.int .i64 0, .int .i64 0] := ⟨_, Zp, Yx, zeroValue144, by decide, by decide, by kernel_rfl⟩
variable {E : World}
set_option maxRecDepth 20000
theorem ShapedP.dstPhi {f : PFunc} (h : ShapedP f) {b : PBlock} (hb : b ∈ f.blocks) {p : PPhi} (hp : p ∈ b.phis) : 0 ≤ p.dst ∧ p.dst < f.vars.length := by
 have := ((h.2.2.2.2.2 b hb).1 p hp).1
 simpa [hasV] using this
theorem ShapedP.dstInst {f : PFunc} (h : ShapedP f) {b : PBlock} (hb : b ∈ f.blocks) {x : PInst} (hx : x ∈ b.insts) (h0 : 0 ≤ x.dst) : x.dst < f.vars.length := by
 rcases (instP_F ((h.2.2.2.2.2 b hb).2.1 x hx)).dst with ⟨_, d⟩ | ⟨_, _, d⟩
 ·omega
 ·have : 0 ≤ x.dst ∧ x.dst < f.vars.length := by simpa [hasV] using d
  exact this.2
theorem small.evs {f : PFunc} (hf : small f) {k : Nat} (hk : k ≤ f.blocks.length) : (evTo f k).length ≤ 2000000 := by
 have h1 := evTo_len (m := 2000) (fun b hb => by have := hf.2.2.2.2 b hb; have h2 := this.2.1; have h3 := this.2.2.1; omega) k hk
 have := hf.2.2.1
 omega
set_option maxHeartbeats 4000000 in
theorem makings_own (f : PFunc) (hf : small f) (hS : ShapedP f) : ACall prog E 147 [.agg (encF f)] []
  fun x O => ∃ b : Nat, x = nref b f.vars.length ∧ O = [(0, nestO eP 139 144 b (makesR f))] := by
 have hv := hf.1
 have hn := hf.2.2.1
 refine zp func147 Z (by decide) Z<|zSr<|yc (cs := _) Z Z Z<|z8 (zAr Z)<|z2<|zSr<|zVzFF jh Z Ya Z Z<|zVzLf Yk Z<|zVGvlenM Z4 Z<|y9 (m := f.vars.length) Zz type139 Z Z Z Z Z (by simp) (by simp) (by show (24 : Int) * _ ≤ _; omega) (by omega) eP 144<|fun b13 => z8 (qf (v := nref _ _) Z)<|z2<|zc<|zSr<|zVzFF jh Z Z1 Z Z<|zVzLf Z8 Z<|zVGvlenM jl Z<|zVzMi Z<|z2<|zi<|y7 (γ := Nat) [3, 15, 16] (fun k => [(17, .int .i64 k)]) (fun k => [(0, nestO eP 139 144 b13 (rowsOf f.vars.length (evTo f k)))]) (fun k => k ≤ f.blocks.length) (fun k => f.blocks.length - k) 0 zR1 ⟨_, (.refl _), by rw [rowsOf_nil]; rfl⟩ (qt _) ?_
 rintro k hk
 refine zSr<|zVGvlss Z Z<|z2<|zc<|zo Z (fun ck=>?_) (fun ck=>?_)
 ·have hk2 : k < f.blocks.length := by simp at ck; omega
  obtain ⟨b, hbk⟩ : ∃ b, f.blocks[k] = b := ⟨_, rfl⟩
  have hget : f.blocks[k]? = some b := by rw [qq hk2, hbk]
  have hmem : b ∈ f.blocks := hbk ▸ qu hk2
  obtain ⟨hb0, hb1, hb2, hb3, hb4⟩ := hf.2.2.2.2 b hmem
  have hevl := hf.evs hk
  refine zf<|zc<|zi<|zSr<|zVzMi Z<|z8 (zIM k jl jw Z Z Z hget)<|zVGvloadWF Yc jw Z Z<|zt (cs := [.str ⟨#[]⟩, .raw (.slice none 0 0), .raw (.slice none 0 0), .int .i64 0, .int .i64 0, .int .i64 0, .int .i64 0]) Zd Z Z<|fun i5 => zVzAi Z<|zn jw Z Z Z Z Z Z .head Z<|zd (yf (t := 5) Z .head)<|z2<|zc<|zSr<|zVzFF je Z Zn Z Z<|zVzLf Y4 Z<|zVGvlenM jx Z<|zVzMi Z<|z2<|zi<|y7 (γ := Nat) [3, 4, 5, 15, 16, 17, 23, 24] (fun j => [(25, .int .i64 j)]) (fun j => [(0, nestO eP 139 144 b13 (rowsOf f.vars.length (evTo f k ++ evPh k (b.phis.take j))))]) (fun j => j ≤ b.phis.length) (fun j => b.phis.length - j) 0 zR1 ⟨_, (.refl _), by rw [show evPh k (b.phis.take 0) = [] from rfl, List.append_nil]⟩ (qt _) ?_
  rintro j hj
  refine zSr<|zVGvlss Z Z<|z2<|zc<|zo Z (fun cj=>?_) (fun cj=>?_)
  ·have hj2 : j < b.phis.length := by simp at cj; omega
   obtain ⟨p, hp⟩ : ∃ p, b.phis[j] = p := ⟨_, rfl⟩
   obtain ⟨hd0, hdn⟩ := hS.dstPhi hmem (hp ▸ qu hj2)
   obtain ⟨rows, hrows⟩ : ∃ rows, rowsOf f.vars.length (evTo f k ++ evPh k (b.phis.take j)) = rows := ⟨_, rfl⟩
   have hdl : p.dst.toNat < (rowsOf f.vars.length (evTo f k ++ evPh k (b.phis.take j))).length := by rw [rowsOf_len]; omega
   have hrl := rowsOf_row hdl
   have hsucc := rowsOf_push (x := ((k : Int), (-1 : Int))) hd0 hdl
   have hrn := rowsOf_len f.vars.length (evTo f k ++ evPh k (b.phis.take j))
   have hel : (evTo f k ++ evPh k (b.phis.take j)).length ≤ 2001000 := by rw [qw, evPh, qx, w3]; omega
   rw [qs, show evPh k (b.phis.take j) ++ [(p.dst, ((k : Int), (-1 : Int)))] = evPh k (b.phis.take (j + 1)) by rw [evPh_succ k hj2, hp]] at hsucc
   simp only [hrows] at hdl hrl hsucc hrn
   rw [hrows]
   refine zf<|zc<|zi<|zSr<|z8 (zIM j jx Z0 Z Z Z (by rw [qq hj2, hp])) ?_
   refine zVGvloadWF Yf Z0 Z Z<|zt (cs := [.int .i64 0, .raw (.slice none 0 0), .raw (.slice none 0 0)]) Zk Z Z<|fun i7 => zn Z0 Z Z Z Z Z Z .head Z<|zd (yf (t := 7) Z .head)<|z2<|yn (γ := Unit) [3, 4, 5, 15, 16, 17, 23, 24, 25] (fun u => []) (fun u => [(0, nestO eP 139 144 b13 (rows.set p.dst.toNat (rows[p.dst.toNat] ++ [((k : Int), -1)])))]) (fun u => True) ?_ (fun _ _ h => h) ?_
   ·refine zr (fun j => Nat.beq j 13) (by kernel_rfl) Z (zm (.rest _))<|zTk 0 Z (yw (v := nref _ _) Z)<|zTk 1 Z (zFF js Z j7 Z Z)<|zTk 2 Z (zLi j9 Z)<|zTk 3 Z (yw (v := nref _ _) Z)<|zTk 4 Z (zFF js Z j7 Z Z)<|zTk 5 Z (zLi j9 Z)<|zTk 6 Z (qj (j := p.dst.toNat) Zz Yi Z Z (by omega) (by omega))<|zTk 8 Z (zMi Z)<|zTk 9 Z (zz (cps := [(0, [_]), (1, [_])]) (rs := [_, _]) pl144 Z Z Z)<|yi (i := 7) (j := 10) Z Z (by kernel_rfl) ?_ ?_
    ·refine qa (j := p.dst.toNat) (r := rows[p.dst.toNat]) X6 Z (qq hdl) (fun _ => .head)<|fun i36 => z2<|zOn 10 Z<|zx (rows := [[_, _]]) ps139_1 Z Z Z Z Z<|z2<|zOn 11 Z<|ym (k := 2) Zp type144 Z Z Z Z Z (fun _ => .head) (by rw [eP.av_len]; rfl) (by decide) Z (by show (_ + 1) * 16 ≤ _; omega) (by show _ + 1 ≤ _; omega)<|fun i40 => z2<|zTk 12 Z (qj (j := p.dst.toNat) Zz Yi Z Z (by omega) (by omega))<|yb<|y8 (i := 13) Z (by kernel_rfl) (by kernel_rfl)<|ql (j := p.dst.toNat) (r := rows[p.dst.toNat] ++ [((k : Int), -1)]) Yi Z Z (by omega) .head .head Z (eP.av_push rows[p.dst.toNat] ((k : Int), (-1 : Int))) (by simp)<|z2<|ye (by kernel_rfl) ?_
     exact ⟨(), zR9, trivial, zLe, trivial⟩
    ·refine zx (rows := [[_, _]]) ps139_1 Z Z Z Z Z<|z2<|zOn 7 Z<|qa (j := p.dst.toNat) (r := rows[p.dst.toNat]) X6 Z (qq hdl) (fun _ => .head)<|fun i36 => z2<|zOn 11 Z<|ym (k := 2) Zp type144 Z Z Z Z Z (fun _ => .head) (by rw [eP.av_len]; rfl) (by decide) Z (by show (_ + 1) * 16 ≤ _; omega) (by show _ + 1 ≤ _; omega)<|fun i40 => z2<|zTk 12 Z (qj (j := p.dst.toNat) Zz Yi Z Z (by omega) (by omega))<|yb<|y8 (i := 13) Z (by kernel_rfl) (by kernel_rfl)<|ql (j := p.dst.toNat) (r := rows[p.dst.toNat] ++ [((k : Int), -1)]) Yi Z Z (by omega) .head .head Z (eP.av_push rows[p.dst.toNat] ((k : Int), (-1 : Int))) (by simp)<|z2<|ye (by kernel_rfl) ?_
     exact ⟨(), zR9, trivial, zLe, trivial⟩
   ·rintro _ _
    refine zRg<|zVzAd Z Z<|zVzMi Z<|z2 ?_
    exact ⟨j + 1, zR8, zR1, ⟨_, (.refl _), by rw [hsucc]⟩, hj2, by omega⟩
  ·have hjn : j = b.phis.length := by simp at cj; omega
   subst hjn
   rw [qv]
   refine y6<|zSr<|zVzFF je Z Zb Z Z<|zVzLf Zw Z<|zVGvlenM jv Z<|zVzMi Z<|z2<|zi<|y7 (γ := Nat) [3, 4, 15, 16, 17, 44, 45] (fun j => [(46, .int .i64 j)]) (fun j => [(0, nestO eP 139 144 b13 (rowsOf f.vars.length (evTo f k ++ evPh k b.phis ++ evIn k (b.insts.take j))))]) (fun j => j ≤ b.insts.length) (fun j => b.insts.length - j) 0 zR1 ⟨_, (.refl _), by rw [show evIn k (b.insts.take 0) = [] from rfl, List.append_nil]⟩ (qt _) ?_
   rintro j hj
   refine zSr<|zVGvlss Z Z<|z2<|zc<|zo Z (fun cj=>?_) (fun cj=>?_)
   ·have hj2 : j < b.insts.length := by simp at cj; omega
    obtain ⟨p, hp⟩ : ∃ p, b.insts[j] = p := ⟨_, rfl⟩
    have hev := evIn_succ k hj2
    rw [hp] at hev
    refine zf<|zc<|zi<|zSr<|zVzMi Z<|z8 (zIM j jv Z2 Z Z Z (by rw [qq hj2, hp])) ?_
    refine zVGvloadWF Yg Z2 Z Z<|zt (cs := [.int .i64 0, .int .i64 0, .raw (.slice none 0 0), .int .i64 0]) Zy Z Z<|fun i9 => zVzAi Z<|zn Z2 Z Z Z Z Z Z .head Z<|zd (yf (t := 9) Z .head)<|z2<|zSr<|zVzFF ji Z j7 Z Z<|zVzLi j9 Z<|z8 (qd Z Z)<|z2<|zu Z (fun cd=>?_) (fun cd=>?_)
    ·have hd0 : 0 ≤ p.dst := by simpa using cd
     have hdn := hS.dstInst hmem (hp ▸ qu hj2) hd0
     rw [if_pos hd0] at hev
     obtain ⟨rows, hrows⟩ : ∃ rows, rowsOf f.vars.length (evTo f k ++ evPh k b.phis ++ evIn k (b.insts.take j)) = rows := ⟨_, rfl⟩
     have hdl : p.dst.toNat < (rowsOf f.vars.length (evTo f k ++ evPh k b.phis ++ evIn k (b.insts.take j))).length := by rw [rowsOf_len]; omega
     have hrl := rowsOf_row hdl
     have hsucc := rowsOf_push (x := ((k : Int), (j : Int))) hd0 hdl
     have hrn := rowsOf_len f.vars.length (evTo f k ++ evPh k b.phis ++ evIn k (b.insts.take j))
     have hel : (evTo f k ++ evPh k b.phis ++ evIn k (b.insts.take j)).length ≤ 2002000 := by
      have := evIn_len k (b.insts.take j)
      rw [w3] at this
      rw [qw, qw, evPh, qx]; omega
     rw [qs (evTo f k ++ evPh k b.phis) (evIn k (b.insts.take j)) [(p.dst, ((k : Int), (j : Int)))], ← hev] at hsucc
     simp only [hrows] at hdl hrl hsucc hrn
     rw [hrows]
     refine yn (γ := Unit) [3, 4, 15, 16, 17, 44, 45, 46] (fun u => []) (fun u => [(0, nestO eP 139 144 b13 (rows.set p.dst.toNat (rows[p.dst.toNat] ++ [((k : Int), (j : Int))])))]) (fun u => True) ?_ (fun _ _ h => h) ?_
     ·refine zr (fun j => Nat.beq j 14) (by kernel_rfl) Z (zm (.rest _))<|zTk 0 Z (yw (v := nref _ _) Z)<|zTk 1 Z (zFF ji Z j7 Z Z)<|zTk 2 Z (zLi j9 Z)<|zTk 3 Z (yw (v := nref _ _) Z)<|zTk 4 Z (zFF ji Z j7 Z Z)<|zTk 5 Z (zLi j9 Z)<|zTk 6 Z (qj (j := p.dst.toNat) Zz Yi Z Z (by omega) (by omega))<|zTk 8 Z (zMi Z)<|zTk 9 Z (zMi Z)<|zTk 10 Z (zz (cps := [(0, [_]), (1, [_])]) (rs := [_, _]) pl144 Z Z Z)<|yi (i := 7) (j := 11) Z Z (by kernel_rfl) ?_ ?_
      ·refine qa (j := p.dst.toNat) (r := rows[p.dst.toNat]) X6 Z (qq hdl) (fun _ => .head)<|fun i61 => z2<|zOn 11 Z<|zx (rows := [[_, _]]) ps139_1 Z Z Z Z Z<|z2<|zOn 12 Z<|ym (k := 2) Zp type144 Z Z Z Z Z (fun _ => .head) (by rw [eP.av_len]; rfl) (by decide) Z (by show (_ + 1) * 16 ≤ _; omega) (by show _ + 1 ≤ _; omega)<|fun i66 => z2<|zTk 13 Z (qj (j := p.dst.toNat) Zz Yi Z Z (by omega) (by omega))<|yb<|y8 (i := 14) Z (by kernel_rfl) (by kernel_rfl)<|ql (j := p.dst.toNat) (r := rows[p.dst.toNat] ++ [((k : Int), (j : Int))]) Yi Z Z (by omega) .head .head Z (eP.av_push rows[p.dst.toNat] ((k : Int), (j : Int))) (by simp)<|z2<|ye (by kernel_rfl) ?_
       exact ⟨(), zR8, trivial, zLe, trivial⟩
      ·refine zx (rows := [[_, _]]) ps139_1 Z Z Z Z Z<|z2<|zOn 7 Z<|qa (j := p.dst.toNat) (r := rows[p.dst.toNat]) X6 Z (qq hdl) (fun _ => .head)<|fun i61 => z2<|zOn 12 Z<|ym (k := 2) Zp type144 Z Z Z Z Z (fun _ => .head) (by rw [eP.av_len]; rfl) (by decide) Z (by show (_ + 1) * 16 ≤ _; omega) (by show _ + 1 ≤ _; omega)<|fun i66 => z2<|zTk 13 Z (qj (j := p.dst.toNat) Zz Yi Z Z (by omega) (by omega))<|yb<|y8 (i := 14) Z (by kernel_rfl) (by kernel_rfl)<|ql (j := p.dst.toNat) (r := rows[p.dst.toNat] ++ [((k : Int), (j : Int))]) Yi Z Z (by omega) .head .head Z (eP.av_push rows[p.dst.toNat] ((k : Int), (j : Int))) (by simp)<|z2<|ye (by kernel_rfl) ?_
       exact ⟨(), zR8, trivial, zLe, trivial⟩
     ·rintro _ _
      refine zRg<|zVzAd Z Z<|zVzMi Z<|z2 ?_
      exact ⟨j + 1, zR7, zR1, ⟨_, (.refl _), by rw [hsucc]⟩, hj2, by omega⟩
    ·have hd0 : ¬ 0 ≤ p.dst := by simpa using cd
     rw [if_neg hd0, List.append_nil] at hev
     refine zf<|zRg<|zVzAd Z Z<|zVzMi Z<|z2 ?_
     exact ⟨j + 1, zR7, zR1, ⟨_, (.refl _), by rw [hev]⟩, hj2, by omega⟩
   ·have hjn : j = b.insts.length := by simp at cj; omega
    subst hjn
    rw [qv]
    refine y6<|zRg<|zVzAd Z Z<|zVzMi Z<|z2 ?_
    exact ⟨k + 1, zR3, zR1, ⟨_, (.refl _), by rw [evTo_succ hk2, hbk, evBl, qs]⟩, hk2, by omega⟩
 ·have hkn : k = f.blocks.length := by simp at ck; omega
  subst hkn
  refine y6<|zSr<|z8 (yw (v := nref _ _) Z)<|z8 (qf (v := nref _ _) Z)<|z2<|zj<|zk (x := nref _ _) Z ?_
  exact ⟨b13, rfl, rfl⟩
end Go.Proofs.YtiojekbkamegdaaGreatDoor
namespace Go.Proofs.YtiojekbkamegdaaGreatDoor
open Go.Proofs.Tryz
open Go.Proofs Go.Lib Go.Shelf Go.RowKit
variable {E : World}
set_option maxRecDepth 20000
theorem typedB_shaped {f : PFunc} (h : typedB f = true) : ShapedP f := by
 unfold typedB at h
 rw [w6, shapedB_eq] at h
 exact of_decide_eq_true h.1
theorem row0 (l : List Plc) : ((eP.av l ++ [AV.int .i64 (-1), AV.int .i64 0]).drop 0).take 2 = [AV.int .i64 (l.head?.getD (-1, 0)).1, AV.int .i64 (l.head?.getD (-1, 0)).2] := by cases l <;> rfl
theorem makings_rows {f : PFunc} (hf : small f) {v : Nat} (h : v < f.vars.length) : (makings f v).length ≤ 2000000 := by
 have h1 := rowsOf_get (evTo f f.blocks.length) h
 have h2 : v < (rowsOf f.vars.length (evTo f f.blocks.length)).length := by rw [rowsOf_len]; exact h
 have h3 := rowsOf_row h2
 have h4 := hf.evs (Nat.le_refl _)
 rw [qq h2, evTo_of] at h1
 rw [Option.some.inj h1] at h3
 omega
theorem Makers_spec (f : PFunc) (hf : small f) (hL : Letters E) (ht : typedB f = true) : AFun prog E 85 [.agg (encF f)] (.fro 2 ((makersT f).map eP.row)) := by
 have hv := hf.1
 refine zp func85 Z (by decide) Z<|zSr<|yc (cs := _) Z Z Z<|z8 (zAr Z)<|z2<|zc<|zSr<|zVGvloadWF jq jj Z Z<|zg (Typed_spec f hf hL) Z<|zVGvneqI Z Z<|z2<|yj Z (by rw [ht]; rfl)<|zf<|zSr<|z8 (zAr Z)<|z2<|zc<|zSr<|zVGvloadWF jq jj Z Z<|zy Z (zm (.rest _)) (makings_own f hf (typedB_shaped ht)) ?_
 rintro r10 O10 ⟨b10, rfl, rfl⟩
 refine z8 (Gv.lenN Zz Z)<|zVzMi Z<|z2<|adopt_wp (t := 3) (k := 2) (T := 144) Z<|fun i3 => zw (GStep.nestTail .t1)<|zi<|y7 (γ := Nat × Nat) [10, 11] (fun g => [(12, .int .i64 g.1), (3, .own g.2 g.1)]) (fun g => [(g.2, .grow 2 144 (((makersT f).take g.1).map eP.row).flatten), (0, nestT eP 139 144 b10 (makesR f) g.1)]) (fun g => g.1 ≤ f.vars.length) (fun g => f.vars.length - g.1) (0, i3) zR2 zLe (qt _) ?_
 rintro ⟨k, i3⟩ hk
 try dsimp only at *
 refine zSr<|zVGvlss Z Z<|z2<|zc<|zo Z (fun ck=>?_) (fun ck=>?_)
 ·have hk2 : k < f.vars.length := by simp at ck; omega
  have hml := makings_rows hf hk2
  have hmt : (makersT f)[k]? = some (makerT f k) := makersT_get hk2
  have hkm : k < (makersT f).length := by rw [makersT_len]; exact hk2
  have hmk : (makersT f)[k] = makerT f k := by rw [qq hkm] at hmt; exact Option.some.inj hmt
  refine zf<|zc<|zi<|zSr<|z8 (qj (j := k) Zz Yi Z Z Z (by omega))<|AOps.nestShift X6 Z (makesR_get hk2) .t1<|fun i15 => z8 (zAo Z)<|z2<|zSr<|z8 (zMo Z)<|z8 (zz (cps := [(0, [_]), (1, [_])]) (rs := [_, _]) pl144 Z Z Z)<|zx (rows := [[_, _]]) ps139_1 Z Z Z Z Z<|ym (k := 2) Zp type144 Z Z Z Z Z (fun _ => .head) (by rw [eP.av_len]; rfl) (by decide) Z (by show (_ + 1) * 16 ≤ _; omega) (by show _ + 1 ≤ _; omega)<|fun i19 => z8 (zAo Z)<|z2<|zRg<|z8 (zMo Z)<|z8 (zMo Z)<|z8 (Gv.idxO (j := 0) Zp Yx Z Z Z ⟨_, .head⟩ (by simp) (by show 0 < _ + 1; omega))<|z8 (Gv.loadAG (l := [_, _]) isAgg144 Yx Z ⟨_, .head⟩ (by simp) (by simp) (row0 _))<|zx (rows := [[_, _]]) ps139_1 Z Z Z Z Z<|ym (k := 2) Zp type144 Z Z Z Z Z (fun _ => .t1) (by rw [grow_len (k := 2) (fun _ => rfl), w3, Nat.min_eq_left (by omega)]) (by decide) Z (by show (_ + 1) * 16 ≤ _; omega) (by show _ + 1 ≤ _; omega)<|fun i25 => z8 (zAo Z)<|z2<|zw (GStep.drop .head)<|zRg<|zVzAd Z Z<|zVzMi Z<|z2 ?_
  exact ⟨(k + 1, i25), zR2, zR2, ⟨_, (.refl _), by rw [← grow_push (qr hkm), hmk]; rfl⟩, hk2, by dsimp only; omega⟩
 ·have hkn : k = f.vars.length := by simp at ck; omega
  subst hkn
  rw [show (makersT f).take f.vars.length = makersT f by rw [← makersT_len f, qv]]
  refine y6<|zSr<|z8 (zMo Z)<|z8 (zAo Z)<|z2<|zj ?_
  repeat (first | refine aseqQ_ret ?_ | refine ablockQ_ret ?_)
  refine yx (GStep.know (t := 2) (rows := (makersT f).map eP.row) Z .head (by first | (intro r hr; obtain ⟨x, _, rfl⟩ := List.mem_map.1 hr; rfl) | simp [encI, encVar, encPhi, encInst, encBlk]) (by decide) (by rw [qx, makersT_len]))<|zk (x := .fro _ _) Z ?_
  rfl
theorem once_spec (f : PFunc) (hf : small f) (hS : ShapedP f) : AFun prog E 84 [.agg (encF f)] (.bool (onceB f)) := by
 have hv := hf.1
 refine zp func84 Z (by decide) Z<|zSr<|yc (cs := _) Z Z Z<|zVzAb Z<|z2<|zc<|zSr<|zVGvloadWF jq jj Z Z<|zy Z (zm (.rest _)) (makings_own f hf hS) ?_
 rintro r6 O6 ⟨b6, rfl, rfl⟩
 refine z8 (Gv.lenN Zz Z)<|zVzMi Z<|z2<|zw (GStep.nestKnow (s := 6) Z .head (makesR_len f))<|zi<|y7 (γ := Nat) [1, 6, 7] (fun k => [(8, .int .i64 k)]) (fun k => []) (fun k => k ≤ f.vars.length ∧ (List.range k).all (onceV f) = true) (fun k => f.vars.length - k) 0 zR1 zLe (⟨qt _, Z⟩) ?_
 rintro k ⟨hk, hall⟩
 refine zSr<|zVGvlss Z Z<|z2<|zc<|zo Z (fun ck=>?_) (fun ck=>?_)
 ·have hk2 : k < f.vars.length := by simp at ck; omega
  refine zf<|zc<|zi<|zSr<|zVzMi Z<|z8 (zIM k Zz Yi Z Z Z (makesR_get hk2))<|zVzLf X6 Z<|zVzAi Z<|z8 (zAf Z)<|z2<|zSr<|zVzMf Z<|zVGvlenM Zp Z<|zVGvgtr Z Z<|zVzMb Z<|zq (s := 16) Z (fun c1=>?_) (fun c1=>?_)
  ·have d1 : 1 < (makings f k).length := by have h0 : (1 : Int) < ((makings f k).length : Int) := (by simpa using c1); omega
   refine z6 Z Z c1<|z6 Z Z c1<|z6 Z Z c1<|z6 Z Z c1<|zh Z Z<|zh Z Z<|zh Z Z<|zh Z Z<|zh Z Z<|z6 Z Z c1<|zVzPt Z c1 Z<|z2<|yq Z Z<|zSr<|zVzAb Z<|z2<|zj<|zk (x := .bool _) Z ?_
   rw [show onceB f = false from range_all_bad hk2 (by unfold onceV; simp [d1])]
  ·have d1 : ¬ 1 < (makings f k).length := by have h0 : ¬ (1 : Int) < ((makings f k).length : Int) := (by simpa using c1); omega
   refine z7 Z Z c1<|zVzMf Z<|z7 Z Z c1<|zVGvlenM Zp Z<|z7 Z Z c1<|zVGvgtr Z Z<|z7 Z Z c1<|zVzMb Z<|zq (s := 20) Z (fun c2=>?_) (fun c2=>?_)
   ·have d2 : makings f k ≠ [] := by have h0 : 0 < (makings f k).length := (by simpa using c2); exact List.ne_nil_of_length_pos h0
    refine z7 Z Z c2<|zVzMi Z<|z7 Z Z c2<|zVzFF jh Z jd Z Z<|z7 Z Z c2<|zVzLf jk Z<|z7 Z Z c2<|zVGvlenM j6 Z<|z7 Z Z c2<|zVGvlss Z Z<|z7 Z Z c1<|zVzPt Z c2 Z<|zVzPf Z c1 Z<|z2<|zu Z (fun c3=>?_) (fun c3=>?_)
    ·have d3 : k < f.params.length := by simpa using c3
     refine zSr<|zVzAb Z<|z2<|zj<|zk (x := .bool _) Z ?_
     rw [show onceB f = false from range_all_bad hk2 (by unfold onceV; simp [d2, d3, List.length_pos_iff])]
    ·have d3 : ¬ k < f.params.length := by simpa using c3
     refine zf<|zRg<|zVzAd Z Z<|zVzMi Z<|z2 ?_
     exact ⟨k + 1, zR3, zR1, zLe, ⟨hk2, range_all_succ hall (by unfold onceV; simp [d1, d3])⟩, by omega⟩
   ·have d2 : makings f k = [] := by simpa using c2
    refine z6 Z Z c2<|z6 Z Z c2<|z6 Z Z c2<|z6 Z Z c2<|z6 Z Z c2<|z7 Z Z c1<|zVzPf Z c2 Z<|zVzPf Z c1 Z<|z2<|yj Z Z<|zf<|zRg<|zVzAd Z Z<|zVzMi Z<|z2 ?_
    exact ⟨k + 1, zR3, zR1, zLe, ⟨hk2, range_all_succ hall (by unfold onceV; simp [d2])⟩, by omega⟩
 ·have hkn : k = f.vars.length := by simp at ck; omega
  subst hkn
  refine y6<|zSr<|zVzAb Z<|z2<|zj<|zk (x := .bool _) Z ?_
  rw [show onceB f = true from hall]
end Go.Proofs.YtiojekbkamegdaaGreatDoor
namespace Go.Proofs.YtiojekbkamegdaaGreatDoor
open Go.Proofs.Tryz
open Go.Proofs Go.Lib Go.Shelf Go.RowKit
variable {E : World}
set_option maxRecDepth 20000
theorem indexFuncM_spec {p : Int → Bool} {fn : FuncId} {c : List AV} (xs : List Int) (hl : xs.length ≤ 281474976710656) (hp : ∀ x ∈ xs, AFun prog E fn ([.int .i64 x] ++ c) (.bool (p x))) :
  AFun prog E 187 [.fro 1 (xs.map encI), .fn fn [] c] (.int .i64 (firstI p xs 0)) := by
 refine zp func187 Z (by decide) Z<|zSr<|zVzAi Z<|z2<|zc<|zSr<|zVzMf Z<|zVGvlenM j6 Z<|zVzMi Z<|z2<|zi<|y7 (γ := Nat) [0, 1, 7] (fun k => [(8, .int .i64 k)]) (fun k => []) (fun k => k ≤ xs.length ∧ (xs.take k).all (fun x => !p x)) (fun k => xs.length - k) 0 zR1 zLe (⟨qt _, Z⟩) ?_
 rintro k ⟨hk, hall⟩
 refine zSr<|zVGvlss Z Z<|z2<|zc<|zo Z (fun ck=>?_) (fun ck=>?_)
 ·have hk2 : k < xs.length := by simp at ck; omega
  refine zf<|zc<|zi<|zSr<|zVzMi Z<|zVzAi Z<|z2<|zSr<|z8 (yw (v := .fn _ _ _) Z)<|zVzMf Z<|zVzMi Z<|z8 (zIM k j6 j7 Z Z Z (qq hk2))<|zVzLi j9 Z<|AOps.callVP Z (hp _ (qu hk2)) Z<|z2<|zu Z (fun cp=>?_) (fun cp=>?_)
  ·refine zSr<|zVzMi Z<|zVzAi Z<|z2<|zj<|zk (x := .int _ _) Z ?_
   rw [firstI_drop p xs k hk hall, List.drop_eq_getElem_cons hk2, firstI, if_pos cp]
  ·refine zf<|zRg<|zVzAd Z Z<|zVzMi Z<|z2 ?_
   exact ⟨k + 1, zR3, zR1, zLe, ⟨hk2, by rw [qr hk2, List.all_append, hall]; simp [cp]⟩, by omega⟩
 ·have hkn : k = xs.length := by simp at ck; omega
  refine y6<|zSr<|zVzAi Z<|z2<|zj<|zk (x := .int _ _) Z ?_
  rw [firstI_drop p xs k hk hall, hkn, List.drop_length, firstI]
theorem containsFuncM_spec {p : Int → Bool} {fn : FuncId} {c : List AV} (xs : List Int) (hl : xs.length ≤ 281474976710656) (hp : ∀ x ∈ xs, AFun prog E fn ([.int .i64 x] ++ c) (.bool (p x))) :
  AFun prog E 148 [.fro 1 (xs.map encI), .fn fn [] c] (.bool (xs.any p)) := by
 refine zp func148 Z (by decide) Z<|zSr<|zVzAb Z<|z2<|zSr<|zVzMf Z<|z8 (yw (v := .fn _ _ _) Z)<|zg (indexFuncM_spec xs hl hp) Z<|z8 (qd Z Z)<|zVzAb Z<|z2<|zj<|zk (x := .bool _) Z ?_
 rw [firstI_ge]
theorem ahead_spec (f : PFunc) (hE : EndsOk f) (hn : f.blocks.length ≤ 1000) (m : Plc) (b a : Int) (x y : AV) : AFun prog E 141 [treeV f x y, .agg [.int .i64 m.1, .int .i64 m.2], .int .i64 b, .int .i64 a] (.bool (aheadB f m b a)) := by
 refine zp func141 Z (by decide) Z<|zSr<|yc (cs := _) Z Z Z<|zVzAb Z<|z2<|zc<|zi<|zSr<|zVzFF underlying144 Z j7 Z Z<|zVzLi j9 Z<|zVGvlss Z Z<|zVzAb Z<|z2<|zo Z (fun c0=>?_) (fun c0=>?_)
 ·refine zSr<|zVzAb Z<|z2<|zj<|zk (x := .bool _) Z ?_
  rw [aheadB, if_pos c0]
 ·refine zSr<|zVzFF underlying144 Z j7 Z Z<|zVzLi j9 Z<|zVzMi Z<|zVGveqlI Z Z<|zVzAb Z<|z2<|zu Z (fun c1=>?_) (fun c1=>?_)
  ·have d1 : m.1 = b := by simpa using c1
   refine zSr<|zVzFF underlying144 Z j7 Z Z<|zVzLi j9 Z<|zVzMi Z<|zVGvlss Z Z<|zVzAb Z<|z2<|zj<|zk (x := .bool _) Z ?_
   rw [aheadB, if_neg c0, if_pos d1]
  ·have d1 : ¬ m.1 = b := by simpa using c1
   refine zf<|zSr<|z8 (zMg Z)<|zVzFF underlying144 Z j7 Z Z<|zVzLi j9 Z<|zVzMi Z<|zg (Over_spec f hE hn m.1 b x y) Z<|zVzAb Z<|z2<|zj<|zk (x := .bool _) Z ?_
   rw [aheadB, if_neg c0, if_neg d1]
theorem makers_idx {f : PFunc} {v : Int} (h : hasV f v = true) : 0 ≤ v ∧ (makersT f)[v.toNat]? = some (makerT f v) := by
 have h1 : 0 ≤ v ∧ v < f.vars.length := by simpa [hasV] using h
 refine ⟨h1.1, ?_⟩
 have := makersT_get (f := f) (v := v.toNat) (by omega)
 rwa [show ((v.toNat : Nat) : Int) = v by omega] at this
theorem behind1_spec (f : PFunc) (hE : EndsOk f) (hn : f.blocks.length ≤ 1000) (i k : Nat) (v : Int) (hv : hasV f v = true) (x y : AV) :
  AFun prog E 149 ([.int .i64 v] ++ [.pf [treeV f x y], .pf [.fro 2 ((makersT f).map eP.row)], .pf [.int .i64 i], .pf [.int .i64 k]]) (.bool (!aheadB f (makerT f v) i k)) := by
 obtain ⟨hv0, hvg⟩ := makers_idx hv
 refine zp func149 Z (by decide) Z<|zSr<|zVzAb Z<|z2<|zc<|zr (fun j => false) (by kernel_rfl) Z (zm (.rest _))<|zTk 0 Z (q9 (c := .pf _) isAgg83 Z)<|zTk 1 Z (zLf X6 Z)<|zTk 2 Z (zMi Z)<|zTk 3 Z (zIM v.toNat Zp Yx Z Z (by omega) hvg)<|zTk 4 Z (yl isAgg144 Yx Z Z)<|zTk 5 Z (zLi j9 Z)<|zTk 6 Z (zLi j9 Z)<|zOn 7 Z<|zg (ahead_spec f hE hn (makerT f v) i k x y) Z<|z2<|zTk 8 Z (Gv.not Z)<|zTk 9 Z (zAb Z)<|zDn<|zj<|zk (x := .bool _) Z ?_
 rfl
set_option maxHeartbeats 4000000 in
theorem behind_spec (f : PFunc) (hE : EndsOk f) (hf : small f) (hS : ShapedP f) (i : Nat) (hi : i < f.blocks.length) (x y : AV) :
  AFun prog E 86 [.agg (encF f), treeV f x y, .fro 2 ((makersT f).map eP.row), .int .i64 i] (.bool (atA f i)) := by
 have hn := hf.2.2.1
 obtain ⟨b, hbk⟩ : ∃ b, f.blocks[i] = b := ⟨_, rfl⟩
 have hget : f.blocks[i]? = some b := by rw [qq hi, hbk]
 have hmem : b ∈ f.blocks := hbk ▸ qu hi
 obtain ⟨hb0, hb1, hb2, hb3, hb4⟩ := hf.2.2.2.2 b hmem
 obtain ⟨hPh, hIn, hTm⟩ := hS.2.2.2.2.2 b hmem
 rw [atA_at hget]
 refine zp func86 Z (by decide) Z<|zSr<|yc (cs := _) Z Z Z<|yc (cs := [_]) Z Z Z<|yc (cs := [_]) Z Z Z<|yc (cs := [_]) Z Z Z<|zVzAb Z<|z2<|zSr<|zVzFF jh Z Z1 Z Z<|zVzLf Z8 Z<|zVzLi j9 Z<|z8 (zIM i jl jw Z Z Z hget)<|zVGvloadWF Yc jw Z Z<|zt (cs := [.str ⟨#[]⟩, .raw (.slice none 0 0), .raw (.slice none 0 0), .int .i64 0, .int .i64 0, .int .i64 0, .int .i64 0]) Zd Z Z<|fun i9 => zn jw Z Z Z Z Z Z .head Z<|zd (yf (t := 9) Z .head)<|z2<|zc<|zSr<|zVzFF je Z Zn Z Z<|zVzLf Y4 Z<|zVGvlenM jx Z<|zVzMi Z<|z2<|zi<|y7 (γ := Nat) [4, 5, 6, 7, 9, 23, 24] (fun j => [(25, .int .i64 j)]) (fun j => []) (fun j => j ≤ b.phis.length ∧ (b.phis.take j).all (phA f) = true) (fun j => b.phis.length - j) 0 zR1 zLe (⟨qt _, Z⟩) ?_
 rintro j ⟨hj, hjall⟩
 refine zSr<|zVGvlss Z Z<|z2<|zc<|zo Z (fun cj=>?_) (fun cj=>?_)
 ·have hj2 : j < b.phis.length := by simp at cj; omega
  obtain ⟨p, hp⟩ : ∃ p, b.phis[j] = p := ⟨_, rfl⟩
  have hpm : p ∈ b.phis := hp ▸ qu hj2
  obtain ⟨hpd, hpl, hpn, hpa, hpf⟩ := hPh p hpm
  have hpb := hb3 p hpm
  refine zf<|zc<|zi<|zSr<|z8 (zIM j jx Z0 Z Z Z (by rw [qq hj2, hp])) ?_
  refine zVGvloadWF Yf Z0 Z Z<|zt (cs := [.int .i64 0, .raw (.slice none 0 0), .raw (.slice none 0 0)]) Zk Z Z<|fun i11 => zn Z0 Z Z Z Z Z Z .head Z<|zd (yf (t := 11) Z .head)<|z2<|zSr<|zVzFF js Z jd Z Z<|zVzLf jk Z<|zVGvlenM j6 Z<|zVzMi Z<|z2<|zi<|y7 (γ := Nat) [4, 5, 6, 7, 9, 11, 23, 24, 25, 30, 31] (fun k => [(32, .int .i64 k)]) (fun k => []) (fun k => k ≤ p.args.length ∧ ((p.args.zip p.from_).take k).all (fun q => aheadB f (makerT f q.1) q.2 (lenAt f q.2)) = true) (fun k => p.args.length - k) 0 zR1 zLe (⟨qt _, Z⟩) ?_
  rintro k ⟨hk, hkall⟩
  refine zSr<|zVGvlss Z Z<|z2<|zc<|zo Z (fun ck=>?_) (fun ck=>?_)
  ·have hk2 : k < p.args.length := by simp at ck; omega
   have hk3 : k < p.from_.length := by omega
   obtain ⟨v, hv⟩ : ∃ v, p.args[k] = v := ⟨_, rfl⟩
   obtain ⟨c, hc⟩ : ∃ c, p.from_[k] = c := ⟨_, rfl⟩
   obtain ⟨hv0, hvg⟩ := makers_idx (List.all_eq_true.1 hpa v (hv ▸ qu hk2))
   have hcr : 0 ≤ c ∧ c < f.blocks.length := by have := List.all_eq_true.1 hpf c (hc ▸ qu hk3); simpa [hasB] using this
   obtain ⟨d, hd⟩ : ∃ d, f.blocks[c.toNat]'(by omega) = d := ⟨_, rfl⟩
   have hdg : f.blocks[c.toNat]? = some d := by rw [qq (by omega), hd]
   have hla : lenAt f c = d.insts.length := by unfold lenAt; rw [hdg]; rfl
   have hz : k < (p.args.zip p.from_).length := by rw [List.length_zip]; omega
   have hzk : (p.args.zip p.from_)[k] = (v, c) := by rw [List.getElem_zip, hv, hc]
   refine zf<|zc<|zi<|zSr<|zVzMi Z<|z8 (zIM k j6 j7 Z Z Z (by rw [qq hk2, hv])) ?_
   refine zVzLi j9 Z<|zVzAi Z<|zVzAi Z<|z2<|zSr<|zVzFF js Z jd Z Z<|zVzLf jk Z<|zVzMi Z<|z8 (zIM k j6 j7 Z Z Z (by rw [qq hk3, hc])) ?_
   refine zVzLi j9 Z<|zVzAi Z<|z2<|zc<|zr (fun j => false) (by kernel_rfl) Z (zm (.rest _))<|zTk 0 Z (q9 (c := .pf _) isAgg83 Z)<|zTk 1 Z (zLf X6 Z)<|zTk 2 Z (zMi Z)<|zTk 3 Z (zIM v.toNat Zp Yx Z Z (by omega) hvg)<|zTk 4 Z (yl isAgg144 Yx Z Z)<|zTk 5 Z (zMi Z)<|zTk 6 Z (zFF jh Z Z1 Z Z)<|zTk 7 Z (zLf Z8 Z)<|zTk 8 Z (zMi Z)<|zTk 9 Z (zIM c.toNat jl jw Z Z (by omega) hdg)<|zTk 10 Z (zFF je Z Zb Z Z)<|zTk 11 Z (zLf Zw Z)<|zTk 12 Z (Gv.lenM jv Z)<|zOn 13 Z<|zg (ahead_spec f hE hn (makerT f v) c d.insts.length x y) Z<|z2<|zTk 14 Z (Gv.not Z)<|zDn<|zu Z (fun cq=>?_) (fun cq=>?_)
   ·have hq : aheadB f (makerT f v) c (lenAt f c) = false := by rw [hla]; simpa using cq
    refine zSr<|zVzAb Z<|z2<|zj<|zk (x := .bool _) Z ?_
    rw [blkA, show b.phis.all (phA f) = false from Bool.eq_false_iff.2 (all_bad hj2 (by rw [hp]; unfold phA; exact Bool.eq_false_iff.2 (all_bad hz (by rw [hzk]; exact hq))))]; rfl
   ·have hq : aheadB f (makerT f v) c (lenAt f c) = true := by rw [hla]; simpa using cq
    refine zf<|zRg<|zVzAd Z Z<|zVzMi Z<|z2 ?_
    exact ⟨k + 1, zR11, zR1, zLe, ⟨hk2, all_take hz hkall (by rw [hzk]; exact hq)⟩, by omega⟩
  ·have hkn : k = p.args.length := by simp at ck; omega
   have hzl : (p.args.zip p.from_).length = p.args.length := by rw [List.length_zip]; omega
   rw [hkn, ← hzl, qv] at hkall
   refine y6<|zRg<|zVzAd Z Z<|zVzMi Z<|z2 ?_
   exact ⟨j + 1, zR7, zR1, zLe, ⟨hj2, all_take hj2 hjall (by rw [hp]; exact hkall)⟩, by omega⟩
 ·have hjn : j = b.phis.length := by simp at cj; omega
  subst hjn
  rw [qv] at hjall
  refine y6<|zc<|zSr<|zVzFF je Z Zb Z Z<|zVzLf Zw Z<|zVGvlenM jv Z<|zVzMi Z<|z2<|zi<|y7 (γ := Nat) [5, 6, 7, 9, 60, 61] (fun k => [(62, .int .i64 k)]) (fun k => []) (fun k => k ≤ b.insts.length ∧ ((b.insts.zipIdx).take k).all (inA f i) = true) (fun k => b.insts.length - k) 0 zR1 zLe (⟨qt _, Z⟩) ?_
  rintro k ⟨hk, hkall⟩
  refine zSr<|zVGvlss Z Z<|z2<|zc<|zo Z (fun ck=>?_) (fun ck=>?_)
  ·have hk2 : k < b.insts.length := by simp at ck; omega
   obtain ⟨z, hzk⟩ : ∃ z, b.insts[k] = z := ⟨_, rfl⟩
   have hzm : z ∈ b.insts := hzk ▸ qu hk2
   have hI := instP_F (hIn z hzm)
   have hzl := hb4 z hzm
   have hzi : k < b.insts.zipIdx.length := by simp; exact hk2
   have hze : b.insts.zipIdx[k] = (z, k) := by simp [hzk]
   refine zf<|zc<|zi<|zSr<|zVzMi Z<|z8 (zIM k jv Z2 Z Z Z (by rw [qq hk2, hzk])) ?_
   refine zVGvloadWF Yg Z2 Z Z<|zt (cs := [.int .i64 0]) Yo Z Z<|fun i15 => zt (cs := [.int .i64 0, .int .i64 0, .raw (.slice none 0 0), .int .i64 0]) Zy Z Z<|fun i16 => zn j7 Z Z Z Z Z Z .t1 Z<|zd (yf (t := 15) Z .t1)<|zn Z2 Z Z Z Z Z Z .head Z<|zd (yf (t := 16) Z .head)<|z2<|zSr<|zVzFF ji Z jd Z Z<|zVzLf jk Z<|z8 (Gv.func Z Z)<|zg (containsFuncM_spec z.args (by omega) (fun v hv => behind1_spec f hE hn i k v (hI.args v hv) x y)) Z<|z2<|zu Z (fun cq=>?_) (fun cq=>?_)
   ·have hq : inA f i (z, k) = false := by
     unfold inA
     rw [Bool.eq_false_iff]; intro h
     obtain ⟨v, hv1, hv2⟩ := List.any_eq_true.1 (show (z.args.any fun v => !aheadB f (makerT f v) i k) = true by simpa using cq)
     have := List.all_eq_true.1 h v hv1
     rw [this] at hv2; cases hv2
    refine zSr<|zVzAb Z<|z2<|zj<|zk (x := .bool _) Z ?_
    rw [blkA, hjall, show b.insts.zipIdx.all (inA f i) = false from Bool.eq_false_iff.2 (all_bad hzi (by rw [hze]; exact hq))]; rfl
   ·have hq : inA f i (z, k) = true := by
     unfold inA
     rw [w7]; intro v hv
     have h0 : (z.args.any fun v => !aheadB f (makerT f v) i k) = false := by simpa using cq
     have := List.any_eq_false.1 h0 v hv
     simpa using this
    refine zf<|zRg<|zVzAd Z Z<|zVzMi Z<|z2 ?_
    exact ⟨k + 1, zR6, zR1, zLe, ⟨hk2, all_take hzi hkall (by rw [hze]; exact hq)⟩, by omega⟩
  ·have hkn : k = b.insts.length := by simp at ck; omega
   rw [hkn, show b.insts.length = b.insts.zipIdx.length by simp, qv] at hkall
   refine y6<|zc<|zr (fun j => false) (by kernel_rfl) Z (zm (.rest _))<|zTk 0 Z (zFF je Z Ze Z Z)<|zTk 1 Z (zFF jf Z Zu Z Z)<|zTk 2 Z (zLi Y3 Z)<|zTk 3 Z (Gv.eqlI Z Z)<|zTk 4 Z (zMb Z)<|AAny.case (s := 76) Z (fun c0=>?_) (fun c0=>?_)
   ·have d0 : b.term.kind = 0 := by simpa using c0
    refine zTf 5 Z Z Z c0<|zTf 6 Z Z Z c0<|zTf 7 Z Z Z c0<|zTf 8 Z Z Z c0<|zTf 9 Z Z Z c0<|zTf 10 Z Z Z c0<|zTf 11 Z Z Z c0<|zTf 12 Z Z Z c0<|zTf 13 Z Z Z c0<|zTf 14 Z Z Z c0<|zTf 15 Z Z Z c0<|zTf 16 Z Z Z c0<|zTk 17 Z (zPt Z c0 Z)<|zTk 18 Z (zAb Z)<|zDn<|zj<|zk (x := .bool _) Z ?_
    rw [blkA, hjall, hkall, tmA, d0]; rfl
   ·have d0 : ¬ b.term.kind = 0 := by simpa using c0
    obtain ⟨hv0, hvg⟩ := makers_idx (term_var hTm d0)
    refine zTt 5 Z Z Z c0 (q9 (c := .pf _) isAgg83 Z)<|zTt 6 Z Z Z c0 (zLf X6 Z)<|zTt 7 Z Z Z c0 (zFF je Z Ze Z Z)<|zTt 8 Z Z Z c0 (zFF jf Z j7 Z Z)<|zTt 9 Z Z Z c0 (zLi j9 Z)<|zTt 10 Z Z Z c0 (zIM b.term.var.toNat Zp Yx Z Z (by omega) hvg)<|zTt 11 Z Z Z c0 (yl isAgg144 Yx Z Z)<|zTt 12 Z Z Z c0 (zLi j9 Z)<|zTt 13 Z Z Z c0 (zFF je Z Zb Z Z)<|zTt 14 Z Z Z c0 (zLf Zw Z)<|zTt 15 Z Z Z c0 (Gv.lenM jv Z)<|zOn 16 Z<|z7 Z Z c0<|zg (ahead_spec f hE hn (makerT f b.term.var) i b.insts.length x y) Z<|z2<|zTk 17 Z (zPf Z c0 Z)<|zTk 18 Z (zAb Z)<|zDn<|zj<|zk (x := .bool _) Z ?_
    rw [blkA, hjall, hkall, tmA, w5 d0]; rfl
theorem SingRight_spec (f : PFunc) (hf : small f) (hL : Letters E) : AFun prog E 39 [.agg (encF f)] (.int .i64 (if (typedB f && singB f) = true then 0 else 3)) := by
 have hn := hf.2.2.1
 refine zp func39 Z (by decide) Z<|zSr<|yc (cs := _) Z Z Z<|zVzAi Z<|z2<|zc<|zSr<|zVGvloadWF jq jj Z Z<|zg (joinedX_spec f hf hL) Z<|zVGvneqI Z Z<|zVzMb Z<|zq (s := 10) Z (fun c1=>?_) (fun c1=>?_)
 ·have d1 : (typedB f && joinedB f) = false := by
   cases h : (typedB f && joinedB f) with
   | false => rfl
   | true => rw [h] at c1; simp at c1
  refine z6 Z Z c1<|z6 Z Z c1<|z6 Z Z c1<|zVzPt Z c1 Z<|zVzMb Z<|z6 Z Z Z<|z6 Z Z Z<|z6 Z Z Z<|zVzPt Z Z Z<|z2<|yq Z Z<|zSr<|zVzAi Z<|z2<|zj<|zk (x := .int _ _) Z ?_
  rw [show (typedB f && singB f) = false by unfold singB; cases h : typedB f <;> simp_all]; rfl
 ·have d1 : (typedB f && joinedB f) = true := by
   cases h : (typedB f && joinedB f) with
   | true => rfl
   | false => rw [h] at c1; simp at c1
  have ht : typedB f = true := by simp at d1; exact d1.1
  have hj : joinedB f = true := by simp at d1; exact d1.2
  have hE := typedB_ends ht
  have hS := typedB_shaped ht
  refine z7 Z Z c1<|zVGvloadWF jq jj Z Z<|z7 Z Z c1<|zg (reachX_spec f hf hL ht) Z<|z7 Z Z c1<|zg (containsB_spec (reachB (EndsOf f) f.blocks.length) false (by rw [reachB_len]; omega)) Z<|zVzPf Z c1 Z<|zVzMb Z<|zq (s := 15) Z (fun c2=>?_) (fun c2=>?_)
  ·refine z6 Z Z c2<|z6 Z Z c2<|z6 Z Z c2<|zVzPt Z c2 Z<|z2<|yq Z Z<|zSr<|zVzAi Z<|z2<|zj<|zk (x := .int _ _) Z ?_
   rw [show singB f = false by unfold singB; simp_all]; simp
  ·refine z7 Z Z c2<|zVGvloadWF jq jj Z Z<|z7 Z Z c2<|zg (once_spec f hf hS) Z<|z7 Z Z c2<|zVGvnot Z<|zVzPf Z c2 Z<|z2<|zu Z (fun c3=>?_) (fun c3=>?_)
   ·refine zSr<|zVzAi Z<|z2<|zj<|zk (x := .int _ _) Z ?_
    rw [show singB f = false by unfold singB; simp_all]; simp
   ·refine zf<|zSr<|zVGvloadWF jq jj Z Z<|zg (New_spec f hf hL ht) Z<|z8 (zMu Z)<|z8 (Gv.extract (v := .pf _) Z Z)<|z8 (zXi Z Z)<|z8 (qf (v := .pf _) Z)<|zVzAi Z<|z2<|zc<|zSr<|zVzMi Z<|zVGvneqI Z Z<|z2<|yj Z Z<|zf<|zSr<|zVGvloadWF jq jj Z Z<|zg (Makers_spec f hf hL ht) Z<|z8 (zAf Z)<|z2<|zc<|zSr<|zVzFF jh Z Z1 Z Z<|zVzLf Z8 Z<|zVGvlenM jl Z<|zVzMi Z<|z2<|zi<|y7 (γ := Nat) [1, 3, 5, 32] (fun k => [(33, .int .i64 k)]) (fun k => []) (fun k => k ≤ f.blocks.length ∧ (List.range k).all (atA f) = true) (fun k => f.blocks.length - k) 0 zR1 zLe (⟨qt _, Z⟩) ?_
    rintro k ⟨hk, hall⟩
    refine zSr<|zVGvlss Z Z<|z2<|zc<|zo Z (fun ck=>?_) (fun ck=>?_)
    ·have hk2 : k < f.blocks.length := by simp at ck; omega
     refine zf<|zc<|zi<|zSr<|zVzMi Z<|zVzAi Z<|z2<|zSr<|zVGvloadWF jq jj Z Z<|z8 (zMg Z)<|zVzMf Z<|zVzMi Z<|zg (behind_spec f hE hf hS k hk2 (froN eI (kidsR f)) .any) Z<|zVGvnot Z<|z2<|zu Z (fun cq=>?_) (fun cq=>?_)
     ·refine zSr<|zVzAi Z<|z2<|zj<|zk (x := .int _ _) Z ?_
      rw [show singB f = false by unfold singB; rw [show behB f = false from range_all_bad hk2 (by simpa using cq)]; simp]; simp
     ·refine zf<|zRg<|zVzAd Z Z<|zVzMi Z<|z2 ?_
      exact ⟨k + 1, zR4, zR1, zLe, ⟨hk2, range_all_succ hall (by simpa using cq)⟩, by omega⟩
    ·have hkn : k = f.blocks.length := by simp at ck; omega
     subst hkn
     refine y6<|zSr<|zVzAi Z<|z2<|zj<|zk (x := .int _ _) Z ?_
     rw [ht, show singB f = true by unfold singB; rw [show behB f = true from hall]; simp_all]; rfl
end Go.Proofs.YtiojekbkamegdaaGreatDoor
namespace Go.Proofs.YtiojekbkamegdaaGreatDoor
open Go.Proofs.Tryz
open Go.Proofs Go.Lib Go.Shelf Go.RowKit
variable {E : World}
set_option maxRecDepth 20000
theorem mem_endsL (t : PTerm) (b : Int) : b ∈ endsL t ↔ (t.kind = 0 ∧ t.to0 = b) ∨ (t.kind = 1 ∧ (t.to0 = b ∨ t.to1 = b)) := by
 unfold endsL
 by_cases h0 : t.kind = 0
 ·rw [if_pos h0]; simp [h0]; exact eq_comm
 ·rw [if_neg h0]
  by_cases h1 : t.kind = 1
  ·rw [if_pos h1]
   by_cases h2 : t.to0 = t.to1
   ·rw [if_pos h2]; simp [h1, h2]; exact eq_comm
   ·rw [if_neg h2]; simp [h1]
    constructor
    ·rintro (h | h); exact .inl h.symm; exact .inr h.symm
    ·rintro (h | h); exact .inl h.symm; exact .inr h.symm
  ·rw [if_neg h1]; simp [h0, h1]
theorem leads_spec (f : PFunc) (hn : f.blocks.length ≤ 1000) (a b : Int) (h0 : 0 ≤ a) (ha : a < f.blocks.length) : AFun prog E 117 [.agg (encF f), .int .i64 a, .int .i64 b] (.bool (decide (b ∈ EndsOf f a))) := by
 obtain ⟨c, hc⟩ : ∃ c, f.blocks[a.toNat]'(by omega) = c := ⟨_, rfl⟩
 have hget : f.blocks[a.toNat]? = some c := by rw [qq (by omega), hc]
 have hE : EndsOf f a = endsL c.term := by rw [EndsOf_get h0 (by omega), hc]
 rw [hE]
 refine zp func117 Z (by decide) Z<|zSr<|yc (cs := _) Z Z Z<|zVzAb Z<|z2<|zSr<|zVzFF jh Z Z1 Z Z<|zVzLf Z8 Z<|zVzMi Z<|z8 (zIM a.toNat jl jw Z Z (by omega) hget)<|zVzFF je Z Ze Z Z<|zVGvloadWF isAgg56 Ze Z Z<|zt (cs := [.int .i64 0, .int .i64 0, .int .i64 0, .int .i64 0]) zeroValue56 Z Z<|fun i7 => zn Ze Z Z Z Z Z Z .head Z<|zd (yf (t := 7) Z .head)<|z2<|zSr<|zVzFF jf Z Zu Z Z<|zVzLi Y3 Z<|zVGveqlI Z Z<|zVzMb Z<|zq (s := 17) Z (fun c1=>?_) (fun c1=>?_)
 ·refine z7 Z Z c1<|zVzFF jf Z Z6 Z Z<|z7 Z Z c1<|z8 (yu (j := 0) jy j7 Z Z Z (by decide) Z)<|z7 Z Z c1<|zVzLi j9 Z<|z7 Z Z c1<|zVzMi Z<|z7 Z Z c1<|zVGveqlI Z Z<|zVzPt Z c1 Z<|zVzMb Z<|zq (s := 24) Z (fun c2=>?_) (fun c2=>?_)
  ·refine z6 Z Z c2<|z6 Z Z c2<|z6 Z Z c2<|z6 Z Z c2<|zh Z Z<|zh Z Z<|zh Z Z<|zh Z Z<|zh Z Z<|zh Z Z<|zh Z Z<|zh Z Z<|zh Z Z<|zh Z Z<|zh Z Z<|zh Z Z<|z6 Z Z c2<|zVzPt Z c2 Z<|zVzAb Z<|z2<|zj<|zk (x := .bool _) Z<|congrArg AV.bool ?_; rw [qz]; simp only [w9, mem_endsL]; simp_all
  ·refine z7 Z Z c2<|zVzFF jf Z Zu Z Z<|z7 Z Z c2<|zVzLi Y3 Z<|z7 Z Z c2<|zVGveqlI Z Z<|z7 Z Z c2<|zVzMb Z<|zq (s := 28) Z (fun c3=>?_) (fun c3=>?_)
   ·refine z7 Z Z c3<|zVzFF jf Z Z6 Z Z<|z7 Z Z c3<|z8 (yu (j := 0) jy j7 Z Z Z (by decide) Z)<|z7 Z Z c3<|zVzLi j9 Z<|z7 Z Z c3<|zVzMi Z<|z7 Z Z c3<|zVGveqlI Z Z<|z7 Z Z c3<|zVzMb Z<|zq (s := 34) Z (fun c4=>?_) (fun c4=>?_)
    ·refine z6 Z Z c4<|z6 Z Z c4<|z6 Z Z c4<|z6 Z Z c4<|z6 Z Z c4<|z7 Z Z c3<|zVzPt Z c4 Z<|z7 Z Z c2<|zVzPt Z c3 Z<|zVzPf Z c2 Z<|zVzAb Z<|z2<|zj<|zk (x := .bool _) Z<|congrArg AV.bool ?_; rw [qz]; simp only [w9, mem_endsL]; simp_all
    ·refine z7 Z Z c4<|zVzFF jf Z Z6 Z Z<|z7 Z Z c4<|z8 (yu (j := 1) jy j7 Z Z Z (by decide) Z)<|z7 Z Z c4<|zVzLi j9 Z<|z7 Z Z c4<|zVzMi Z<|z7 Z Z c4<|zVGveqlI Z Z<|z7 Z Z c3<|zVzPf Z c4 Z<|z7 Z Z c2<|zVzPt Z c3 Z<|zVzPf Z c2 Z<|zVzAb Z<|z2<|zj<|zk (x := .bool _) Z<|congrArg AV.bool ?_; rw [qz]; simp only [w9, mem_endsL]; simp_all
   ·refine z6 Z Z c3<|z6 Z Z c3<|z6 Z Z c3<|z6 Z Z c3<|z6 Z Z c3<|z6 Z Z c3<|zh Z Z<|zh Z Z<|zh Z Z<|zh Z Z<|zh Z Z<|z6 Z Z c3<|z7 Z Z c2<|zVzPf Z c3 Z<|zVzPf Z c2 Z<|zVzAb Z<|z2<|zj<|zk (x := .bool _) Z<|congrArg AV.bool ?_; rw [qz]; simp only [w9, mem_endsL]; simp_all
 ·refine z6 Z Z c1<|z6 Z Z c1<|z6 Z Z c1<|z6 Z Z c1<|z6 Z Z c1<|zVzPf Z c1 Z<|zVzMb Z<|z7 Z Z Z<|zVzFF jf Z Zu Z Z<|z7 Z Z Z<|zVzLi Y3 Z<|z7 Z Z Z<|zVGveqlI Z Z<|z7 Z Z Z<|zVzMb Z<|zq (s := 28) Z (fun c5=>?_) (fun c5=>?_)
  ·refine z7 Z Z c5<|zVzFF jf Z Z6 Z Z<|z7 Z Z c5<|z8 (yu (j := 0) jy j7 Z Z Z (by decide) Z)<|z7 Z Z c5<|zVzLi j9 Z<|z7 Z Z c5<|zVzMi Z<|z7 Z Z c5<|zVGveqlI Z Z<|z7 Z Z c5<|zVzMb Z<|zq (s := 34) Z (fun c6=>?_) (fun c6=>?_)
   ·refine z6 Z Z c6<|z6 Z Z c6<|z6 Z Z c6<|z6 Z Z c6<|z6 Z Z c6<|z7 Z Z c5<|zVzPt Z c6 Z<|z7 Z Z Z<|zVzPt Z c5 Z<|zVzPf Z Z Z<|zVzAb Z<|z2<|zj<|zk (x := .bool _) Z<|congrArg AV.bool ?_; rw [qz]; simp only [w9, mem_endsL]; simp_all
   ·refine z7 Z Z c6<|zVzFF jf Z Z6 Z Z<|z7 Z Z c6<|z8 (yu (j := 1) jy j7 Z Z Z (by decide) Z)<|z7 Z Z c6<|zVzLi j9 Z<|z7 Z Z c6<|zVzMi Z<|z7 Z Z c6<|zVGveqlI Z Z<|z7 Z Z c5<|zVzPf Z c6 Z<|z7 Z Z Z<|zVzPt Z c5 Z<|zVzPf Z Z Z<|zVzAb Z<|z2<|zj<|zk (x := .bool _) Z<|congrArg AV.bool ?_; rw [qz]; simp only [w9, mem_endsL]; simp_all
  ·refine z6 Z Z c5<|z6 Z Z c5<|z6 Z Z c5<|z6 Z Z c5<|z6 Z Z c5<|z6 Z Z c5<|zh Z Z<|zh Z Z<|zh Z Z<|zh Z Z<|zh Z Z<|z6 Z Z c5<|z7 Z Z Z<|zVzPf Z c5 Z<|zVzPf Z Z Z<|zVzAb Z<|z2<|zj<|zk (x := .bool _) Z<|congrArg AV.bool ?_; rw [qz]; simp only [w9, mem_endsL]; simp_all
theorem okX_set {a shut x : Int} {out : List Bool} {y : Nat} (hx : okX a out shut x) (h0 : 0 ≤ x) (hy : y < out.length) : okX a (out.set y true) shut x := by
 refine ⟨hx.1, ?_⟩
 rcases hx.2 with h | h
 ·exact .inl h
 ·right
  unfold gb at h ⊢
  rw [List.getElem?_set]
  by_cases e : y = x.toNat
  ·rw [if_pos e, if_pos (by omega)]; rfl
  ·rw [if_neg e]; exact h
set_option maxHeartbeats 4000000 in
theorem from_own (f : PFunc) (hE : EndsOk f) (hn : f.blocks.length ≤ 1000) (a shut : Int) (h0 : 0 ≤ a) (ha : a < f.blocks.length) : ACall prog E 107 [.agg (encF f), .int .i64 a, .int .i64 shut] []
  fun x O => ∃ i : Nat, x = .own i f.blocks.length ∧ O = [(i, .grow 1 4 (cB (fromT (EndsOf f) f.blocks.length a shut)))] := by
 have hG := hE.grph
 obtain ⟨n, hnn⟩ : ∃ n, f.blocks.length = n := ⟨_, rfl⟩
 rw [hnn] at hG hn ha ⊢
 refine zp func107 Z (by decide) Z<|zSr<|yc (cs := _) Z Z Z<|z8 (zAr Z)<|z2<|zSr<|zVzFF jh Z Z1 Z Z<|zVzLf Z8 Z<|zVGvlenM jl Z<|zVzAi Z<|z2<|zSr<|zVzMi Z<|AOps.makeB (m := n) jm Yb Z Z Z Z Z (by omega) (by omega) (by show (1 : Int) * _ ≤ _; omega) (by omega)<|fun i16 => z8 (zAo Z)<|z2<|zc<|zSr<|zVzAb Z<|z2<|zi<|y7 (γ := List Bool × Bool) [1, 2, 3, 7, 8] (fun g => [(9, .bool g.2)]) (fun g => [(i16, .grow 1 4 (cB g.1))]) (fun g => FrS (EndsOf f) a shut n g.1 ∧ (g.2 = false → clTo (EndsOf f) a shut g.1 n)) (fun g => 2 * nFalse g.1 + (if g.2 = true then 1 else 0)) (List.replicate n false, true) zR1 zLe (⟨FrS.begin _ _ _ _, fun h => by cases h⟩) ?_
 rintro ⟨o0, again⟩ ⟨hS0, hfin⟩
 try dsimp only at *
 refine zc<|zSr<|zVzMb Z<|z2<|zu Z (fun ca=>?_) (fun ca=>?_)
 ·have ca : again = true := by simpa using ca
  subst ca
  refine zf<|zi<|zSr<|zVzAb Z<|z2<|zSr<|zVzMi Z<|zVzMi Z<|z2<|zi<|y7 (γ := Nat × List Bool × Bool) [1, 2, 3, 7, 8, 18] (fun g => [(19, .int .i64 g.1), (9, .bool g.2.2)]) (fun g => [(i16, .grow 1 4 (cB g.2.1))]) (fun g => g.1 ≤ n ∧ FrR (EndsOf f) a shut n o0 g.2.1 g.2.2 ∧ (g.2.2 = false → clTo (EndsOf f) a shut g.2.1 g.1)) (fun g => n - g.1) (0, o0, false) zR2 zLe (⟨qt _, ⟨hS0, Nat.le_refl _, fun h => (by cases h), fun _ => Z⟩, fun _ x hx => by omega⟩) ?_
  rintro ⟨x, out, ag⟩ ⟨hx, hR, hcl⟩
  try dsimp only at *
  have hol := hR.len
  refine zSr<|zVGvlss Z Z<|z2<|zc<|zo Z (fun cx=>?_) (fun cx=>?_)
  ·have hx2 : x < n := by omega
   have hgx : out[x]? = some (gb out (x : Int)) := gb_some (by omega)
   refine zf<|zc<|zi<|zSr<|zVzMi Z<|zVzAi Z<|z2<|zc<|zc<|yn (γ := Bool) [1, 2, 3, 7, 8, 9, 10, 18, 19] (fun u => [(36, .bool u)]) (fun u => [(i16, .grow 1 4 (cB out))]) (fun u => u = !decide (okX a out shut x)) ?_ (fun _ _ h => h) ?_
   ·refine zRg<|zVzMi Z<|zVzMi Z<|zVGveqlI Z Z<|zVzMb Z<|zq (s := 25) Z (fun c7=>?_) (fun c7=>?_)
    ·refine z6 Z Z c7<|z6 Z Z c7<|z6 Z Z c7<|z6 Z Z c7<|zh Z Z<|zh Z Z<|zh Z Z<|zh Z Z<|zh Z Z<|z6 Z Z c7<|zVzPt Z c7 Z<|z2 ?_
     exact ⟨_, zR9, zR1, zLe, by simp_all [okX]⟩
    ·refine z7 Z Z c7<|zVzMi Z<|z7 Z Z c7<|zVzMi Z<|z7 Z Z c7<|zVGvneqI Z Z<|z7 Z Z c7<|zVzMb Z<|zq (s := 29) Z (fun c8=>?_) (fun c8=>?_)
     ·refine z7 Z Z c8<|z8 (zMo Z)<|z7 Z Z c8<|zVzMi Z<|z7 Z Z c8<|z8 (yg (j := x) jm Z5 Z Z Z ⟨_, .head⟩ (by first | rfl | (simp [cI_len, cB_len]; done) | (simp [cI_len, cB_len]; omega)) hx2)<|z7 Z Z c8<|z8 (Gv.loadB (j := x) Yy Z ⟨_, .head⟩ hgx)<|z7 Z Z c8<|zVGvnot Z<|z7 Z Z c7<|zVzPt Z c8 Z<|zVzPf Z c7 Z<|z2 ?_
      exact ⟨_, zR9, zR1, zLe, by simp_all [okX]⟩
     ·refine z6 Z Z c8<|z6 Z Z c8<|z6 Z Z c8<|z6 Z Z c8<|z6 Z Z c8<|z7 Z Z c7<|zVzPf Z c8 Z<|zVzPf Z c7 Z<|z2 ?_
      exact ⟨_, zR9, zR1, zLe, by simp_all [okX]⟩
   ·rintro u hu
    subst hu
    refine zu Z (fun co=>?_) (fun co=>?_)
    ·have hno : ¬ okX a out shut x := by simpa using co
     refine y6<|zRg<|zVzAd Z Z<|zVzMi Z<|z2 ?_
     exact ⟨(x + 1, out, ag), zR6, zR2, zLe, ⟨hx2, hR, fun h z hz hok => by rcases Nat.lt_succ_iff_lt_or_eq.1 hz with h1 | h1; exact hcl h z h1 hok; exact absurd (h1 ▸ hok) hno⟩, by dsimp only; omega⟩
    ·have hok : okX a out shut x := by simpa using co
     refine zf<|zSr<|zVzMi Z<|zVzMi Z<|z2<|zi<|y7 (γ := Nat × List Bool × Bool) [1, 2, 3, 7, 8, 10, 18, 19, 37] (fun g => [(38, .int .i64 g.1), (9, .bool g.2.2)]) (fun g => [(i16, .grow 1 4 (cB g.2.1))]) (fun g => g.1 ≤ n ∧ FrR (EndsOf f) a shut n o0 g.2.1 g.2.2 ∧ okX a g.2.1 shut x ∧ (g.2.2 = false → clTo (EndsOf f) a shut g.2.1 x ∧ clAt (EndsOf f) a shut g.2.1 x g.1)) (fun g => n - g.1) (0, out, ag) zR2 zLe (⟨qt _, hR, hok, fun h => ⟨hcl h, fun _ y hy => by omega⟩⟩) ?_
     rintro ⟨y, out, ag⟩ ⟨hy, hR, hok, hcl⟩
     try dsimp only at *
     have hol := hR.len
     refine zSr<|zVGvlss Z Z<|z2<|zc<|zo Z (fun cy=>?_) (fun cy=>?_)
     ·have hy2 : y < n := by omega
      have hgy : out[y]? = some (gb out (y : Int)) := gb_some (by omega)
      have hstep : (ag = false → (y : Int) ∈ EndsOf f x → (y : Int) ≠ shut → gb out y = true) → (ag = false → clTo (EndsOf f) a shut out x ∧ clAt (EndsOf f) a shut out x (y + 1)) := fun h1 h2 => ⟨(hcl h2).1, fun ho z hz he hs => by
       rcases Nat.lt_succ_iff_lt_or_eq.1 hz with h3 | h3
       ·exact (hcl h2).2 ho z h3 he hs
       ·subst h3; exact h1 h2 he hs⟩
      refine zf<|zc<|zi<|zSr<|zVzMi Z<|zVzAi Z<|z2<|zSr<|zVzMi Z<|zVzMi Z<|zVGvneqI Z Z<|zVzMb Z<|zq (s := 44) Z (fun c1=>?_) (fun c1=>?_)
      ·have d1 : (y : Int) ≠ shut := by simpa using c1
       refine z7 Z Z c1<|z8 (zMo Z)<|z7 Z Z c1<|zVzMi Z<|z7 Z Z c1<|z8 (yg (j := y) jm Z5 Z Z Z ⟨_, .head⟩ (by first | rfl | (simp [cI_len, cB_len]; done) | (simp [cI_len, cB_len]; omega)) hy2)<|z7 Z Z c1<|z8 (Gv.loadB (j := y) Yy Z ⟨_, .head⟩ hgy)<|z7 Z Z c1<|zVGvnot Z<|zVzPt Z c1 Z<|zVzMb Z<|zq (s := 51) Z (fun c2=>?_) (fun c2=>?_)
       ·have d2 : gb out (y : Int) = false := by simpa using c2
        refine z7 Z Z c2<|zVGvloadWF jq jj Z Z<|z7 Z Z c2<|zVzMi Z<|z7 Z Z c2<|zVzMi Z<|z7 Z Z c2<|zg (leads_spec f (by omega) (x : Int) (y : Int) (by omega) (by omega)) Z<|zVzPt Z c2 Z<|z2<|zu Z (fun c3=>?_) (fun c3=>?_)
        ·have d3 : (y : Int) ∈ EndsOf f x := by simpa using c3
         refine zSr<|z8 (zMo Z)<|zVzMi Z<|z8 (yg (j := y) jm Z5 Z Z Z ⟨_, .head⟩ (by first | rfl | (simp [cI_len, cB_len]; done) | (simp [cI_len, cB_len]; omega)) hy2)<|q8 (j := y) Z5 Z Z .head (by first | omega | (simp; omega))<|z2<|zRg<|zVzAb Z<|z2<|zRg<|zVzAd Z Z<|zVzMi Z<|z2 ?_
         exact ⟨(y + 1, out.set y true, true), zR9, zR2, zLe, ⟨hy2, hR.hit hok d3 d1 hy2 d2, okX_set hok (by omega) (by omega), fun h => by cases h⟩, by dsimp only; omega⟩
        ·have d3 : ¬ (y : Int) ∈ EndsOf f x := by simpa using c3
         refine zf<|zRg<|zVzAd Z Z<|zVzMi Z<|z2 ?_
         exact ⟨(y + 1, out, ag), zR9, zR2, zLe, ⟨hy2, hR, hok, hstep fun _ h _ => absurd h d3⟩, by dsimp only; omega⟩
       ·have d2 : gb out (y : Int) = true := by simpa using c2
        refine z6 Z Z c2<|z6 Z Z c2<|z6 Z Z c2<|z6 Z Z c2<|zVzPf Z c2 Z<|z2<|yj Z Z<|zf<|zRg<|zVzAd Z Z<|zVzMi Z<|z2 ?_
        exact ⟨(y + 1, out, ag), zR9, zR2, zLe, ⟨hy2, hR, hok, hstep fun _ _ _ => d2⟩, by dsimp only; omega⟩
      ·have d1 : (y : Int) = shut := by simpa using c1
       refine z6 Z Z c1<|z6 Z Z c1<|z6 Z Z c1<|z6 Z Z c1<|z6 Z Z c1<|zVzPf Z c1 Z<|zVzMb Z<|z6 Z Z Z<|z6 Z Z Z<|z6 Z Z Z<|z6 Z Z Z<|zVzPf Z Z Z<|z2<|yj Z Z<|zf<|zRg<|zVzAd Z Z<|zVzMi Z<|z2 ?_
       exact ⟨(y + 1, out, ag), zR9, zR2, zLe, ⟨hy2, hR, hok, hstep fun _ _ h => absurd d1 h⟩, by dsimp only; omega⟩
     ·have hyn : y = n := by omega
      refine y6<|zRg<|zVzAd Z Z<|zVzMi Z<|z2 ?_
      exact ⟨(x + 1, out, ag), zR6, zR2, zLe, ⟨hx2, hR, fun h z hz ho => by rcases Nat.lt_succ_iff_lt_or_eq.1 hz with h1 | h1; exact (hcl h).1 z h1 ho; subst h1; exact fun y2 he hs => (by by_cases hlt : y2 < n; exact (hcl h).2 ho y2 (by omega) he hs; exact absurd (hG.rng z (by omega) (by omega) _ he).2 (by omega))⟩, by dsimp only; omega⟩
  ·have hxn : x = n := by omega
   subst hxn
   refine y6 ?_
   exact ⟨(out, ag), zR5, zR1, zLe, ⟨hR.toFrS, hcl⟩, by dsimp only; have h1 := hR.less; have h2 := hR.more; cases ag; simp; omega; have := h2 rfl; simp; omega⟩
 ·have ca : again = false := by simpa using ca
  rw [hS0.eq hG ⟨h0, ha⟩ (hfin ca)]
  refine y6<|zSr<|z8 (zMo Z)<|z8 (zAo Z)<|z2<|zj<|zk (x := .own _ _) Z ?_
  exact ⟨i16, rfl, rfl⟩
theorem reached_spec (f : PFunc) (hE : EndsOk f) (hn : f.blocks.length ≤ 1000) (shut : Int) : AFun prog E 59 [.agg (encF f), .int .i64 shut] (.fro 1 ((reachT (EndsOf f) f.blocks.length shut).map encB)) := by
 have hpos := hE.grph.npos
 refine zp func59 Z (by decide) Z<|zSr<|yc (cs := _) Z Z Z<|z8 (zAr Z)<|z2<|zSr<|zVGvloadWF jq jj Z Z<|zVzMi Z<|zy Z (zm (.rest _)) (from_own f hE hn 0 shut (Int.le_refl _) (by omega)) ?_
 rintro r8 O8 ⟨i8, rfl, rfl⟩
 refine z8 (zAo Z)<|z2<|zSr<|z8 (zMo Z)<|zVzMi Z<|zVGvneqI Z Z<|z8 (yg (j := 0) jm Z5 Z Z Z ⟨_, .head⟩ (by rw [cB_len, fromT_len]) hpos)<|q8 (j := 0) Z5 Z Z .head (by rw [fromT_len]; exact hpos)<|z2<|zSr<|z8 (zMo Z)<|z8 (zAo Z)<|z2 ?_
 rw [show (!decide (shut = 0)) = decide (shut ≠ 0) by simp, reachT_eq]
 refine zw (GStep.knowB (t := 4) Z .head (reachT_len _ _ _))<|zj<|zk (x := .fro _ _) Z ?_
 rfl
end Go.Proofs.YtiojekbkamegdaaGreatDoor
