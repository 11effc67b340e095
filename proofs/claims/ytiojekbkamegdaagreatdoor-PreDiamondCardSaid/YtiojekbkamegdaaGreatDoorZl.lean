/- The document's typed; the laws' typed, single and plain. Of programs that are little. -/
import Derived.Test.YtiojekbkamegdaaGreatDoorZk
import Derived.Test.YtiojekbkamegdaaGreatDoorZe
import Derived.Test.YtiojekbkamegdaaGreatDoorZi
set_option linter.unusedVariables false
set_option linter.unusedSimpArgs false
set_option linter.unusedSectionVars false
namespace Go.Proofs.YtiojekbkamegdaaGreatDoor
open Go.Proofs.Tryz
open Go.Proofs Go.Lib Go.Shelf Go.RowKit
theorem pl144 : Places prog 144 #[(0, 1), (1, 1)] [.int .i64 0, .int .i64 0] := ⟨_, _, underlying144, zeroValue144, fun w => by kernel_rfl, rfl⟩
theorem ps139_1 : PlacesS prog 139 144 1 2 [.int .i64 0, .int .i64 0] := ⟨_, underlying139, sizeOf144, zeroValue144, by decide, by decide, by kernel_rfl⟩
variable {E : World}
set_option maxRecDepth 20000
theorem ShapedP.dstPhi {f : PFunc} (h : ShapedP f) {b : PBlock} (hb : b ∈ f.blocks) {p : PPhi} (hp : p ∈ b.phis) : 0 ≤ p.dst ∧ p.dst < f.vars.length := by
 have := ((h.2.2.2.2.2 b hb).1 p hp).1
 simpa [hasV] using this
theorem ShapedP.dstInst {f : PFunc} (h : ShapedP f) {b : PBlock} (hb : b ∈ f.blocks) {x : PInst} (hx : x ∈ b.insts) (h0 : 0 ≤ x.dst) : x.dst < f.vars.length := by
 rcases (instP_F ((h.2.2.2.2.2 b hb).2.1 x hx)).dst with ⟨_, d⟩ | ⟨_, _, d⟩
 ·omega
 ·have : 0 ≤ x.dst ∧ x.dst < f.vars.length := by simpa [hasV] using d
  exact this.2
theorem small.evs {f : PFunc} (hf : small f) {k : Nat} (hk : k ≤ f.blocks.length) : (evTo f k).length ≤ 2000000 := by
 have h1 := evTo_len (m := 2000) (fun b hb => by have := hf.2.2.2.2 b hb; have h2 := this.2.1; have h3 := this.2.2.1; omega) k hk
 have := hf.2.2.1
 omega
set_option maxHeartbeats 4000000 in
theorem makings_own (f : PFunc) (hf : small f) (hS : ShapedP f) : ACall prog E 147 [.agg (encF f)] []
  fun x O => ∃ b : Nat, x = nref b f.vars.length ∧ O = [(0, nestO eP 139 144 b (makesR f))] := by
 have hv := hf.1
 have hn := hf.2.2.1
 refine zo func147 rfl (by decide) rfl<|zSr<|y9 (cs := _) rfl rfl rfl<|z2 (zAr rfl)<|z6<|zSr<|z2 (zFF underlying26 rfl sizeOf22 rfl rfl)<|z2 (zLf isAgg22 rfl)<|z2 (y2 underlying22 rfl)<|y3 (m := f.vars.length) underlying216 type139 rfl rfl rfl rfl rfl (by simp) (by simp) (by show (24 : Int) * _ ≤ _; omega) (by omega) eP 144<|fun b13 => z2 (q7 (v := nref _ _) rfl)<|z6<|zd<|zSr<|z2 (zFF underlying26 rfl sizeOf24 rfl rfl)<|z2 (zLf isAgg24 rfl)<|z2 (y2 underlying24 rfl)<|z2 (zMi rfl)<|z6<|zi<|y5 (γ := Nat) [3, 15, 16] (fun k => [(17, .int .i64 k)]) (fun k => [(0, nestO eP 139 144 b13 (rowsOf f.vars.length (evTo f k)))]) (fun k => k ≤ f.blocks.length) (fun k => f.blocks.length - k) 0 zR1 ⟨_, (.refl _), by rw [rowsOf_nil]; rfl⟩ (qt _) ?_
 rintro k hk
 refine zSr<|z2 (yb rfl rfl)<|z6<|zd<|zr rfl (fun ck=>?_) (fun ck=>?_)
 ·have hk2 : k < f.blocks.length := by simp at ck; omega
  obtain ⟨b, hbk⟩ : ∃ b, f.blocks[k] = b := ⟨_, rfl⟩
  have hget : f.blocks[k]? = some b := by rw [qq hk2, hbk]
  have hmem : b ∈ f.blocks := hbk ▸ qu hk2
  obtain ⟨hb0, hb1, hb2, hb3, hb4⟩ := hf.2.2.2.2 b hmem
  have hevl := hf.evs hk
  refine zh<|zd<|zi<|zSr<|z2 (zMi rfl)<|z2 (zIM k underlying24 sizeOf58 rfl rfl rfl hget)<|z2 (zp isAgg58 sizeOf58 rfl rfl)<|zy (cs := [.str ⟨#[]⟩, .raw (.slice none 0 0), .raw (.slice none 0 0), .int .i64 0, .int .i64 0, .int .i64 0, .int .i64 0]) zeroValue58 rfl rfl<|fun i5 => z2 (zAi rfl)<|zq sizeOf58 rfl rfl rfl rfl rfl rfl .head rfl<|zc (yk (t := 5) rfl .head)<|z6<|zd<|zSr<|z2 (zFF underlying58 rfl sizeOf51 rfl rfl)<|z2 (zLf isAgg51 rfl)<|z2 (y2 underlying51 rfl)<|z2 (zMi rfl)<|z6<|zi<|y5 (γ := Nat) [3, 4, 5, 15, 16, 17, 23, 24] (fun j => [(25, .int .i64 j)]) (fun j => [(0, nestO eP 139 144 b13 (rowsOf f.vars.length (evTo f k ++ evPh k (b.phis.take j))))]) (fun j => j ≤ b.phis.length) (fun j => b.phis.length - j) 0 zR1 ⟨_, (.refl _), by rw [show evPh k (b.phis.take 0) = [] from rfl, List.append_nil]⟩ (qt _) ?_
  rintro j hj
  refine zSr<|z2 (yb rfl rfl)<|z6<|zd<|zr rfl (fun cj=>?_) (fun cj=>?_)
  ·have hj2 : j < b.phis.length := by simp at cj; omega
   obtain ⟨p, hp⟩ : ∃ p, b.phis[j] = p := ⟨_, rfl⟩
   obtain ⟨hd0, hdn⟩ := hS.dstPhi hmem (hp ▸ qu hj2)
   obtain ⟨rows, hrows⟩ : ∃ rows, rowsOf f.vars.length (evTo f k ++ evPh k (b.phis.take j)) = rows := ⟨_, rfl⟩
   have hdl : p.dst.toNat < (rowsOf f.vars.length (evTo f k ++ evPh k (b.phis.take j))).length := by rw [rowsOf_len]; omega
   have hrl := rowsOf_row hdl
   have hsucc := rowsOf_push (x := ((k : Int), (-1 : Int))) hd0 hdl
   have hrn := rowsOf_len f.vars.length (evTo f k ++ evPh k (b.phis.take j))
   have hel : (evTo f k ++ evPh k (b.phis.take j)).length ≤ 2001000 := by rw [qw, evPh, qx, qz]; omega
   rw [qs, show evPh k (b.phis.take j) ++ [(p.dst, ((k : Int), (-1 : Int)))] = evPh k (b.phis.take (j + 1)) by rw [evPh_succ k hj2, hp]] at hsucc
   simp only [hrows] at hdl hrl hsucc hrn
   rw [hrows]
   refine zh<|zd<|zi<|zSr<|z2 (zIM j underlying51 sizeOf81 rfl rfl rfl (by rw [qq hj2, hp])) ?_
   refine z2 (zp isAgg81 sizeOf81 rfl rfl)<|zy (cs := [.int .i64 0, .raw (.slice none 0 0), .raw (.slice none 0 0)]) zeroValue81 rfl rfl<|fun i7 => zq sizeOf81 rfl rfl rfl rfl rfl rfl .head rfl<|zc (yk (t := 7) rfl .head)<|z6<|yp (γ := Unit) [3, 4, 5, 15, 16, 17, 23, 24, 25] (fun u => []) (fun u => [(0, nestO eP 139 144 b13 (rows.set p.dst.toNat (rows[p.dst.toNat] ++ [((k : Int), -1)])))]) (fun u => True) ?_ (fun _ _ h => h) ?_
   ·refine zu (fun j => Nat.beq j 13) (by kernel_rfl) rfl (zm (.rest _))<|zTk 0 rfl (yq (v := nref _ _) rfl)<|zTk 1 rfl (zFF underlying81 rfl sizeOf3 rfl rfl)<|zTk 2 rfl (zLi isAgg3 rfl)<|zTk 3 rfl (yq (v := nref _ _) rfl)<|zTk 4 rfl (zFF underlying81 rfl sizeOf3 rfl rfl)<|zTk 5 rfl (zLi isAgg3 rfl)<|zTk 6 rfl (qi (j := p.dst.toNat) underlying216 sizeOf139 rfl rfl (by omega) (by omega))<|zTk 8 rfl (zMi rfl)<|zTk 9 rfl (zx (cps := [(0, [_]), (1, [_])]) (rs := [_, _]) pl144 rfl rfl rfl)<|yh (i := 7) (j := 10) rfl rfl (by kernel_rfl) ?_ ?_
    ·refine q8 (j := p.dst.toNat) (r := rows[p.dst.toNat]) isAgg139 rfl (qq hdl) (fun _ => .head)<|fun i36 => z6<|zOn 10 rfl<|zw (rows := [[_, _]]) ps139_1 rfl rfl rfl rfl rfl<|z6<|zOn 11 rfl<|yg (k := 2) underlying139 type144 rfl rfl rfl rfl rfl (fun _ => .head) (by rw [eP.av_len]; rfl) (by decide) rfl (by show (_ + 1) * 16 ≤ _; omega) (by show _ + 1 ≤ _; omega)<|fun i40 => z6<|zTk 12 rfl (qi (j := p.dst.toNat) underlying216 sizeOf139 rfl rfl (by omega) (by omega))<|y8<|ya (i := 13) rfl (by kernel_rfl) (by kernel_rfl)<|qj (j := p.dst.toNat) (r := rows[p.dst.toNat] ++ [((k : Int), -1)]) sizeOf139 rfl rfl (by omega) .head .head rfl (eP.av_push rows[p.dst.toNat] ((k : Int), (-1 : Int))) (by simp)<|z6<|yd (by kernel_rfl) ?_
     exact ⟨(), zR9, trivial, zLe, trivial⟩
    ·refine zw (rows := [[_, _]]) ps139_1 rfl rfl rfl rfl rfl<|z6<|zOn 7 rfl<|q8 (j := p.dst.toNat) (r := rows[p.dst.toNat]) isAgg139 rfl (qq hdl) (fun _ => .head)<|fun i36 => z6<|zOn 11 rfl<|yg (k := 2) underlying139 type144 rfl rfl rfl rfl rfl (fun _ => .head) (by rw [eP.av_len]; rfl) (by decide) rfl (by show (_ + 1) * 16 ≤ _; omega) (by show _ + 1 ≤ _; omega)<|fun i40 => z6<|zTk 12 rfl (qi (j := p.dst.toNat) underlying216 sizeOf139 rfl rfl (by omega) (by omega))<|y8<|ya (i := 13) rfl (by kernel_rfl) (by kernel_rfl)<|qj (j := p.dst.toNat) (r := rows[p.dst.toNat] ++ [((k : Int), -1)]) sizeOf139 rfl rfl (by omega) .head .head rfl (eP.av_push rows[p.dst.toNat] ((k : Int), (-1 : Int))) (by simp)<|z6<|yd (by kernel_rfl) ?_
     exact ⟨(), zR9, trivial, zLe, trivial⟩
   ·rintro _ _
    refine zRg<|z2 (zAd rfl rfl)<|z2 (zMi rfl)<|z6 ?_
    exact ⟨j + 1, zR8, zR1, ⟨_, (.refl _), by rw [hsucc]⟩, hj2, by omega⟩
  ·have hjn : j = b.phis.length := by simp at cj; omega
   subst hjn
   rw [qv]
   refine y4<|zSr<|z2 (zFF underlying58 rfl sizeOf52 rfl rfl)<|z2 (zLf isAgg52 rfl)<|z2 (y2 underlying52 rfl)<|z2 (zMi rfl)<|z6<|zi<|y5 (γ := Nat) [3, 4, 15, 16, 17, 44, 45] (fun j => [(46, .int .i64 j)]) (fun j => [(0, nestO eP 139 144 b13 (rowsOf f.vars.length (evTo f k ++ evPh k b.phis ++ evIn k (b.insts.take j))))]) (fun j => j ≤ b.insts.length) (fun j => b.insts.length - j) 0 zR1 ⟨_, (.refl _), by rw [show evIn k (b.insts.take 0) = [] from rfl, List.append_nil]⟩ (qt _) ?_
   rintro j hj
   refine zSr<|z2 (yb rfl rfl)<|z6<|zd<|zr rfl (fun cj=>?_) (fun cj=>?_)
   ·have hj2 : j < b.insts.length := by simp at cj; omega
    obtain ⟨p, hp⟩ : ∃ p, b.insts[j] = p := ⟨_, rfl⟩
    have hev := evIn_succ k hj2
    rw [hp] at hev
    refine zh<|zd<|zi<|zSr<|z2 (zMi rfl)<|z2 (zIM j underlying52 sizeOf61 rfl rfl rfl (by rw [qq hj2, hp])) ?_
    refine z2 (zp isAgg61 sizeOf61 rfl rfl)<|zy (cs := [.int .i64 0, .int .i64 0, .raw (.slice none 0 0), .int .i64 0]) zeroValue61 rfl rfl<|fun i9 => z2 (zAi rfl)<|zq sizeOf61 rfl rfl rfl rfl rfl rfl .head rfl<|zc (yk (t := 9) rfl .head)<|z6<|zSr<|z2 (zFF underlying61 rfl sizeOf3 rfl rfl)<|z2 (zLi isAgg3 rfl)<|z2 (q6 rfl rfl)<|z6<|zz rfl (fun cd=>?_) (fun cd=>?_)
    ·have hd0 : 0 ≤ p.dst := by simpa using cd
     have hdn := hS.dstInst hmem (hp ▸ qu hj2) hd0
     rw [if_pos hd0] at hev
     obtain ⟨rows, hrows⟩ : ∃ rows, rowsOf f.vars.length (evTo f k ++ evPh k b.phis ++ evIn k (b.insts.take j)) = rows := ⟨_, rfl⟩
     have hdl : p.dst.toNat < (rowsOf f.vars.length (evTo f k ++ evPh k b.phis ++ evIn k (b.insts.take j))).length := by rw [rowsOf_len]; omega
     have hrl := rowsOf_row hdl
     have hsucc := rowsOf_push (x := ((k : Int), (j : Int))) hd0 hdl
     have hrn := rowsOf_len f.vars.length (evTo f k ++ evPh k b.phis ++ evIn k (b.insts.take j))
     have hel : (evTo f k ++ evPh k b.phis ++ evIn k (b.insts.take j)).length ≤ 2002000 := by
      have := evIn_len k (b.insts.take j)
      rw [qz] at this
      rw [qw, qw, evPh, qx]; omega
     rw [qs (evTo f k ++ evPh k b.phis) (evIn k (b.insts.take j)) [(p.dst, ((k : Int), (j : Int)))], ← hev] at hsucc
     simp only [hrows] at hdl hrl hsucc hrn
     rw [hrows]
     refine yp (γ := Unit) [3, 4, 15, 16, 17, 44, 45, 46] (fun u => []) (fun u => [(0, nestO eP 139 144 b13 (rows.set p.dst.toNat (rows[p.dst.toNat] ++ [((k : Int), (j : Int))])))]) (fun u => True) ?_ (fun _ _ h => h) ?_
     ·refine zu (fun j => Nat.beq j 14) (by kernel_rfl) rfl (zm (.rest _))<|zTk 0 rfl (yq (v := nref _ _) rfl)<|zTk 1 rfl (zFF underlying61 rfl sizeOf3 rfl rfl)<|zTk 2 rfl (zLi isAgg3 rfl)<|zTk 3 rfl (yq (v := nref _ _) rfl)<|zTk 4 rfl (zFF underlying61 rfl sizeOf3 rfl rfl)<|zTk 5 rfl (zLi isAgg3 rfl)<|zTk 6 rfl (qi (j := p.dst.toNat) underlying216 sizeOf139 rfl rfl (by omega) (by omega))<|zTk 8 rfl (zMi rfl)<|zTk 9 rfl (zMi rfl)<|zTk 10 rfl (zx (cps := [(0, [_]), (1, [_])]) (rs := [_, _]) pl144 rfl rfl rfl)<|yh (i := 7) (j := 11) rfl rfl (by kernel_rfl) ?_ ?_
      ·refine q8 (j := p.dst.toNat) (r := rows[p.dst.toNat]) isAgg139 rfl (qq hdl) (fun _ => .head)<|fun i61 => z6<|zOn 11 rfl<|zw (rows := [[_, _]]) ps139_1 rfl rfl rfl rfl rfl<|z6<|zOn 12 rfl<|yg (k := 2) underlying139 type144 rfl rfl rfl rfl rfl (fun _ => .head) (by rw [eP.av_len]; rfl) (by decide) rfl (by show (_ + 1) * 16 ≤ _; omega) (by show _ + 1 ≤ _; omega)<|fun i66 => z6<|zTk 13 rfl (qi (j := p.dst.toNat) underlying216 sizeOf139 rfl rfl (by omega) (by omega))<|y8<|ya (i := 14) rfl (by kernel_rfl) (by kernel_rfl)<|qj (j := p.dst.toNat) (r := rows[p.dst.toNat] ++ [((k : Int), (j : Int))]) sizeOf139 rfl rfl (by omega) .head .head rfl (eP.av_push rows[p.dst.toNat] ((k : Int), (j : Int))) (by simp)<|z6<|yd (by kernel_rfl) ?_
       exact ⟨(), zR8, trivial, zLe, trivial⟩
      ·refine zw (rows := [[_, _]]) ps139_1 rfl rfl rfl rfl rfl<|z6<|zOn 7 rfl<|q8 (j := p.dst.toNat) (r := rows[p.dst.toNat]) isAgg139 rfl (qq hdl) (fun _ => .head)<|fun i61 => z6<|zOn 12 rfl<|yg (k := 2) underlying139 type144 rfl rfl rfl rfl rfl (fun _ => .head) (by rw [eP.av_len]; rfl) (by decide) rfl (by show (_ + 1) * 16 ≤ _; omega) (by show _ + 1 ≤ _; omega)<|fun i66 => z6<|zTk 13 rfl (qi (j := p.dst.toNat) underlying216 sizeOf139 rfl rfl (by omega) (by omega))<|y8<|ya (i := 14) rfl (by kernel_rfl) (by kernel_rfl)<|qj (j := p.dst.toNat) (r := rows[p.dst.toNat] ++ [((k : Int), (j : Int))]) sizeOf139 rfl rfl (by omega) .head .head rfl (eP.av_push rows[p.dst.toNat] ((k : Int), (j : Int))) (by simp)<|z6<|yd (by kernel_rfl) ?_
       exact ⟨(), zR8, trivial, zLe, trivial⟩
     ·rintro _ _
      refine zRg<|z2 (zAd rfl rfl)<|z2 (zMi rfl)<|z6 ?_
      exact ⟨j + 1, zR7, zR1, ⟨_, (.refl _), by rw [hsucc]⟩, hj2, by omega⟩
    ·have hd0 : ¬ 0 ≤ p.dst := by simpa using cd
     rw [if_neg hd0, List.append_nil] at hev
     refine zh<|zRg<|z2 (zAd rfl rfl)<|z2 (zMi rfl)<|z6 ?_
     exact ⟨j + 1, zR7, zR1, ⟨_, (.refl _), by rw [hev]⟩, hj2, by omega⟩
   ·have hjn : j = b.insts.length := by simp at cj; omega
    subst hjn
    rw [qv]
    refine y4<|zRg<|z2 (zAd rfl rfl)<|z2 (zMi rfl)<|z6 ?_
    exact ⟨k + 1, zR3, zR1, ⟨_, (.refl _), by rw [evTo_succ hk2, hbk, evBl, qs]⟩, hk2, by omega⟩
 ·have hkn : k = f.blocks.length := by simp at ck; omega
  subst hkn
  refine y4<|zSr<|z2 (yq (v := nref _ _) rfl)<|z2 (q7 (v := nref _ _) rfl)<|z6<|zg<|zk (x := nref _ _) rfl ?_
  exact ⟨b13, rfl, rfl⟩
end Go.Proofs.YtiojekbkamegdaaGreatDoor
namespace Go.Proofs.YtiojekbkamegdaaGreatDoor
open Go.Proofs.Tryz
open Go.Proofs Go.Lib Go.Shelf Go.RowKit
variable {E : World}
set_option maxRecDepth 20000
theorem typedB_shaped {f : PFunc} (h : typedB f = true) : ShapedP f := by
 unfold typedB at h
 rw [Bool.and_eq_true, shapedB_eq] at h
 exact of_decide_eq_true h.1
theorem row0 (l : List Plc) : ((eP.av l ++ [AV.int .i64 (-1), AV.int .i64 0]).drop 0).take 2 = [AV.int .i64 (l.head?.getD (-1, 0)).1, AV.int .i64 (l.head?.getD (-1, 0)).2] := by cases l <;> rfl
theorem makings_rows {f : PFunc} (hf : small f) {v : Nat} (h : v < f.vars.length) : (makings f v).length ≤ 2000000 := by
 have h1 := rowsOf_get (evTo f f.blocks.length) h
 have h2 : v < (rowsOf f.vars.length (evTo f f.blocks.length)).length := by rw [rowsOf_len]; exact h
 have h3 := rowsOf_row h2
 have h4 := hf.evs (Nat.le_refl _)
 rw [qq h2, evTo_of] at h1
 rw [Option.some.inj h1] at h3
 omega
theorem Makers_spec (f : PFunc) (hf : small f) (hL : Letters E) (ht : typedB f = true) : AFun prog E 85 [.agg (encF f)] (.fro 2 ((makersT f).map eP.row)) := by
 have hv := hf.1
 refine zo func85 rfl (by decide) rfl<|zSr<|y9 (cs := _) rfl rfl rfl<|z2 (zAr rfl)<|z6<|zd<|zSr<|z2 (zp isAgg26 sizeOf26 rfl rfl)<|zf (Typed_spec f hf hL) rfl<|z2 (yj rfl rfl)<|z6<|ym rfl (by rw [ht]; rfl)<|zh<|zSr<|z2 (zAr rfl)<|z6<|zd<|zSr<|z2 (zp isAgg26 sizeOf26 rfl rfl)<|y1 rfl (zm (.rest _)) (makings_own f hf (typedB_shaped ht)) ?_
 rintro r10 O10 ⟨b10, rfl, rfl⟩
 refine z2 (Gv.lenN underlying216 rfl)<|z2 (zMi rfl)<|z6<|adopt_wp (t := 3) (k := 2) (T := 144) rfl<|fun i3 => yc (GStep.nestTail .t1)<|zi<|y5 (γ := Nat × Nat) [10, 11] (fun g => [(12, .int .i64 g.1), (3, .own g.2 g.1)]) (fun g => [(g.2, .grow 2 144 (((makersT f).take g.1).map eP.row).flatten), (0, nestT eP 139 144 b10 (makesR f) g.1)]) (fun g => g.1 ≤ f.vars.length) (fun g => f.vars.length - g.1) (0, i3) zR2 zLe (qt _) ?_
 rintro ⟨k, i3⟩ hk
 try dsimp only at *
 refine zSr<|z2 (yb rfl rfl)<|z6<|zd<|zr rfl (fun ck=>?_) (fun ck=>?_)
 ·have hk2 : k < f.vars.length := by simp at ck; omega
  have hml := makings_rows hf hk2
  have hmt : (makersT f)[k]? = some (makerT f k) := makersT_get hk2
  have hkm : k < (makersT f).length := by rw [makersT_len]; exact hk2
  have hmk : (makersT f)[k] = makerT f k := by rw [qq hkm] at hmt; exact Option.some.inj hmt
  refine zh<|zd<|zi<|zSr<|z2 (qi (j := k) underlying216 sizeOf139 rfl rfl rfl (by omega))<|AOps.nestShift isAgg139 rfl (makesR_get hk2) .t1<|fun i15 => z2 (zAo rfl)<|z6<|zSr<|z2 (zMo rfl)<|z2 (zx (cps := [(0, [_]), (1, [_])]) (rs := [_, _]) pl144 rfl rfl rfl)<|zw (rows := [[_, _]]) ps139_1 rfl rfl rfl rfl rfl<|yg (k := 2) underlying139 type144 rfl rfl rfl rfl rfl (fun _ => .head) (by rw [eP.av_len]; rfl) (by decide) rfl (by show (_ + 1) * 16 ≤ _; omega) (by show _ + 1 ≤ _; omega)<|fun i19 => z2 (zAo rfl)<|z6<|zRg<|z2 (zMo rfl)<|z2 (zMo rfl)<|z2 (Gv.idxO (j := 0) underlying139 sizeOf144 rfl rfl rfl ⟨_, .head⟩ (by simp) (by show 0 < _ + 1; omega))<|z2 (Gv.loadAG (l := [_, _]) isAgg144 sizeOf144 rfl ⟨_, .head⟩ (by simp) (by simp) (row0 _))<|zw (rows := [[_, _]]) ps139_1 rfl rfl rfl rfl rfl<|yg (k := 2) underlying139 type144 rfl rfl rfl rfl rfl (fun _ => .t1) (by rw [grow_len (k := 2) (fun _ => rfl), qz, Nat.min_eq_left (by omega)]) (by decide) rfl (by show (_ + 1) * 16 ≤ _; omega) (by show _ + 1 ≤ _; omega)<|fun i25 => z2 (zAo rfl)<|z6<|yc (GStep.drop .head)<|zRg<|z2 (zAd rfl rfl)<|z2 (zMi rfl)<|z6 ?_
  exact ⟨(k + 1, i25), zR2, zR2, ⟨_, (.refl _), by rw [← grow_push (qr hkm), hmk]; rfl⟩, hk2, by dsimp only; omega⟩
 ·have hkn : k = f.vars.length := by simp at ck; omega
  subst hkn
  rw [show (makersT f).take f.vars.length = makersT f by rw [← makersT_len f, qv]]
  refine y4<|zSr<|z2 (zMo rfl)<|z2 (zAo rfl)<|z6<|zg ?_
  repeat (first | refine aseqQ_ret ?_ | refine ablockQ_ret ?_)
  refine yw (GStep.know (t := 2) (rows := (makersT f).map eP.row) rfl .head (by first | (intro r hr; obtain ⟨x, _, rfl⟩ := List.mem_map.1 hr; rfl) | simp [encI, encVar, encPhi, encInst, encBlk]) (by decide) (by rw [qx, makersT_len]))<|zk (x := .fro _ _) rfl ?_
  rfl
theorem once_spec (f : PFunc) (hf : small f) (hS : ShapedP f) : AFun prog E 84 [.agg (encF f)] (.bool (onceB f)) := by
 have hv := hf.1
 refine zo func84 rfl (by decide) rfl<|zSr<|y9 (cs := _) rfl rfl rfl<|z2 (zAb rfl)<|z6<|zd<|zSr<|z2 (zp isAgg26 sizeOf26 rfl rfl)<|y1 rfl (zm (.rest _)) (makings_own f hf hS) ?_
 rintro r6 O6 ⟨b6, rfl, rfl⟩
 refine z2 (Gv.lenN underlying216 rfl)<|z2 (zMi rfl)<|z6<|yc (GStep.nestKnow (s := 6) rfl .head (makesR_len f))<|zi<|y5 (γ := Nat) [1, 6, 7] (fun k => [(8, .int .i64 k)]) (fun k => []) (fun k => k ≤ f.vars.length ∧ (List.range k).all (onceV f) = true) (fun k => f.vars.length - k) 0 zR1 zLe (⟨qt _, rfl⟩) ?_
 rintro k ⟨hk, hall⟩
 refine zSr<|z2 (yb rfl rfl)<|z6<|zd<|zr rfl (fun ck=>?_) (fun ck=>?_)
 ·have hk2 : k < f.vars.length := by simp at ck; omega
  refine zh<|zd<|zi<|zSr<|z2 (zMi rfl)<|z2 (zIM k underlying216 sizeOf139 rfl rfl rfl (makesR_get hk2))<|z2 (zLf isAgg139 rfl)<|z2 (zAi rfl)<|z2 (zAf rfl)<|z6<|zSr<|z2 (zMf rfl)<|z2 (y2 underlying139 rfl)<|z2 (q4 rfl rfl)<|z2 (zMb rfl)<|zt (s := 16) rfl (fun c1=>?_) (fun c1=>?_)
  ·have d1 : 1 < (makings f k).length := by have h0 : (1 : Int) < ((makings f k).length : Int) := (by simpa using c1); omega
   refine z7 rfl rfl c1<|z7 rfl rfl c1<|z7 rfl rfl c1<|z7 rfl rfl c1<|zj rfl rfl<|zj rfl rfl<|zj rfl rfl<|zj rfl rfl<|zj rfl rfl<|z7 rfl rfl c1<|z2 (zPt rfl c1 rfl)<|z6<|yo rfl rfl<|zSr<|z2 (zAb rfl)<|z6<|zg<|zk (x := .bool _) rfl ?_
   rw [show onceB f = false from range_all_bad hk2 (by unfold onceV; simp [d1])]
  ·have d1 : ¬ 1 < (makings f k).length := by have h0 : ¬ (1 : Int) < ((makings f k).length : Int) := (by simpa using c1); omega
   refine z8 rfl rfl c1<|z2 (zMf rfl)<|z8 rfl rfl c1<|z2 (y2 underlying139 rfl)<|z8 rfl rfl c1<|z2 (q4 rfl rfl)<|z8 rfl rfl c1<|z2 (zMb rfl)<|zt (s := 20) rfl (fun c2=>?_) (fun c2=>?_)
   ·have d2 : makings f k ≠ [] := by have h0 : 0 < (makings f k).length := (by simpa using c2); exact List.ne_nil_of_length_pos h0
    refine z8 rfl rfl c2<|z2 (zMi rfl)<|z8 rfl rfl c2<|z2 (zFF underlying26 rfl sizeOf23 rfl rfl)<|z8 rfl rfl c2<|z2 (zLf isAgg23 rfl)<|z8 rfl rfl c2<|z2 (y2 underlying23 rfl)<|z8 rfl rfl c2<|z2 (yb rfl rfl)<|z8 rfl rfl c1<|z2 (zPt rfl c2 rfl)<|z2 (zPf rfl c1 rfl)<|z6<|zz rfl (fun c3=>?_) (fun c3=>?_)
    ·have d3 : k < f.params.length := by simpa using c3
     refine zSr<|z2 (zAb rfl)<|z6<|zg<|zk (x := .bool _) rfl ?_
     rw [show onceB f = false from range_all_bad hk2 (by unfold onceV; simp [d2, d3, List.length_pos_iff])]
    ·have d3 : ¬ k < f.params.length := by simpa using c3
     refine zh<|zRg<|z2 (zAd rfl rfl)<|z2 (zMi rfl)<|z6 ?_
     exact ⟨k + 1, zR3, zR1, zLe, ⟨hk2, range_all_succ hall (by unfold onceV; simp [d1, d3])⟩, by omega⟩
   ·have d2 : makings f k = [] := by simpa using c2
    refine z7 rfl rfl c2<|z7 rfl rfl c2<|z7 rfl rfl c2<|z7 rfl rfl c2<|z7 rfl rfl c2<|z8 rfl rfl c1<|z2 (zPf rfl c2 rfl)<|z2 (zPf rfl c1 rfl)<|z6<|ym rfl rfl<|zh<|zRg<|z2 (zAd rfl rfl)<|z2 (zMi rfl)<|z6 ?_
    exact ⟨k + 1, zR3, zR1, zLe, ⟨hk2, range_all_succ hall (by unfold onceV; simp [d2])⟩, by omega⟩
 ·have hkn : k = f.vars.length := by simp at ck; omega
  subst hkn
  refine y4<|zSr<|z2 (zAb rfl)<|z6<|zg<|zk (x := .bool _) rfl ?_
  rw [show onceB f = true from hall]
end Go.Proofs.YtiojekbkamegdaaGreatDoor
namespace Go.Proofs.YtiojekbkamegdaaGreatDoor
open Go.Proofs.Tryz
open Go.Proofs Go.Lib Go.Shelf Go.RowKit
variable {E : World}
set_option maxRecDepth 20000
theorem indexFuncM_spec {p : Int → Bool} {fn : FuncId} {c : List AV} (xs : List Int) (hl : xs.length ≤ 281474976710656) (hp : ∀ x ∈ xs, AFun prog E fn ([.int .i64 x] ++ c) (.bool (p x))) :
  AFun prog E 187 [.fro 1 (xs.map encI), .fn fn [] c] (.int .i64 (firstI p xs 0)) := by
 refine zo func187 rfl (by decide) rfl<|zSr<|z2 (zAi rfl)<|z6<|zd<|zSr<|z2 (zMf rfl)<|z2 (y2 underlying23 rfl)<|z2 (zMi rfl)<|z6<|zi<|y5 (γ := Nat) [0, 1, 7] (fun k => [(8, .int .i64 k)]) (fun k => []) (fun k => k ≤ xs.length ∧ (xs.take k).all (fun x => !p x)) (fun k => xs.length - k) 0 zR1 zLe (⟨qt _, rfl⟩) ?_
 rintro k ⟨hk, hall⟩
 refine zSr<|z2 (yb rfl rfl)<|z6<|zd<|zr rfl (fun ck=>?_) (fun ck=>?_)
 ·have hk2 : k < xs.length := by simp at ck; omega
  refine zh<|zd<|zi<|zSr<|z2 (zMi rfl)<|z2 (zAi rfl)<|z6<|zSr<|z2 (yq (v := .fn _ _ _) rfl)<|z2 (zMf rfl)<|z2 (zMi rfl)<|z2 (zIM k underlying23 sizeOf3 rfl rfl rfl (qq hk2))<|z2 (zLi isAgg3 rfl)<|AOps.callVP rfl (hp _ (qu hk2)) rfl<|z6<|zz rfl (fun cp=>?_) (fun cp=>?_)
  ·refine zSr<|z2 (zMi rfl)<|z2 (zAi rfl)<|z6<|zg<|zk (x := .int _ _) rfl ?_
   rw [firstI_drop p xs k hk hall, List.drop_eq_getElem_cons hk2, firstI, if_pos cp]
  ·refine zh<|zRg<|z2 (zAd rfl rfl)<|z2 (zMi rfl)<|z6 ?_
   exact ⟨k + 1, zR3, zR1, zLe, ⟨hk2, by rw [qr hk2, List.all_append, hall]; simp [cp]⟩, by omega⟩
 ·have hkn : k = xs.length := by simp at ck; omega
  refine y4<|zSr<|z2 (zAi rfl)<|z6<|zg<|zk (x := .int _ _) rfl ?_
  rw [firstI_drop p xs k hk hall, hkn, List.drop_length, firstI]
theorem containsFuncM_spec {p : Int → Bool} {fn : FuncId} {c : List AV} (xs : List Int) (hl : xs.length ≤ 281474976710656) (hp : ∀ x ∈ xs, AFun prog E fn ([.int .i64 x] ++ c) (.bool (p x))) :
  AFun prog E 148 [.fro 1 (xs.map encI), .fn fn [] c] (.bool (xs.any p)) := by
 refine zo func148 rfl (by decide) rfl<|zSr<|z2 (zAb rfl)<|z6<|zSr<|z2 (zMf rfl)<|z2 (yq (v := .fn _ _ _) rfl)<|zf (indexFuncM_spec xs hl hp) rfl<|z2 (q6 rfl rfl)<|z2 (zAb rfl)<|z6<|zg<|zk (x := .bool _) rfl ?_
 rw [firstI_ge]
theorem ahead_spec (f : PFunc) (hE : EndsOk f) (hn : f.blocks.length ≤ 1000) (m : Plc) (b a : Int) (x y : AV) : AFun prog E 141 [treeV f x y, .agg [.int .i64 m.1, .int .i64 m.2], .int .i64 b, .int .i64 a] (.bool (aheadB f m b a)) := by
 refine zo func141 rfl (by decide) rfl<|zSr<|y9 (cs := _) rfl rfl rfl<|z2 (zAb rfl)<|z6<|zd<|zi<|zSr<|z2 (zFF underlying144 rfl sizeOf3 rfl rfl)<|z2 (zLi isAgg3 rfl)<|z2 (yb rfl rfl)<|z2 (zAb rfl)<|z6<|zr rfl (fun c0=>?_) (fun c0=>?_)
 ·refine zSr<|z2 (zAb rfl)<|z6<|zg<|zk (x := .bool _) rfl ?_
  rw [aheadB, if_pos c0]
 ·refine zSr<|z2 (zFF underlying144 rfl sizeOf3 rfl rfl)<|z2 (zLi isAgg3 rfl)<|z2 (zMi rfl)<|z2 (y7 rfl rfl)<|z2 (zAb rfl)<|z6<|zz rfl (fun c1=>?_) (fun c1=>?_)
  ·have d1 : m.1 = b := by simpa using c1
   refine zSr<|z2 (zFF underlying144 rfl sizeOf3 rfl rfl)<|z2 (zLi isAgg3 rfl)<|z2 (zMi rfl)<|z2 (yb rfl rfl)<|z2 (zAb rfl)<|z6<|zg<|zk (x := .bool _) rfl ?_
   rw [aheadB, if_neg c0, if_pos d1]
  ·have d1 : ¬ m.1 = b := by simpa using c1
   refine zh<|zSr<|z2 (zMg rfl)<|z2 (zFF underlying144 rfl sizeOf3 rfl rfl)<|z2 (zLi isAgg3 rfl)<|z2 (zMi rfl)<|zf (Over_spec f hE hn m.1 b x y) rfl<|z2 (zAb rfl)<|z6<|zg<|zk (x := .bool _) rfl ?_
   rw [aheadB, if_neg c0, if_neg d1]
theorem makers_idx {f : PFunc} {v : Int} (h : hasV f v = true) : 0 ≤ v ∧ (makersT f)[v.toNat]? = some (makerT f v) := by
 have h1 : 0 ≤ v ∧ v < f.vars.length := by simpa [hasV] using h
 refine ⟨h1.1, ?_⟩
 have := makersT_get (f := f) (v := v.toNat) (by omega)
 rwa [show ((v.toNat : Nat) : Int) = v by omega] at this
theorem behind1_spec (f : PFunc) (hE : EndsOk f) (hn : f.blocks.length ≤ 1000) (i k : Nat) (v : Int) (hv : hasV f v = true) (x y : AV) :
  AFun prog E 149 ([.int .i64 v] ++ [.pf [treeV f x y], .pf [.fro 2 ((makersT f).map eP.row)], .pf [.int .i64 i], .pf [.int .i64 k]]) (.bool (!aheadB f (makerT f v) i k)) := by
 obtain ⟨hv0, hvg⟩ := makers_idx hv
 refine zo func149 rfl (by decide) rfl<|zSr<|z2 (zAb rfl)<|z6<|zd<|zu (fun j => false) (by kernel_rfl) rfl (zm (.rest _))<|zTk 0 rfl (qa (c := .pf _) isAgg83 rfl)<|zTk 1 rfl (zLf isAgg139 rfl)<|zTk 2 rfl (zMi rfl)<|zTk 3 rfl (zIM v.toNat underlying139 sizeOf144 rfl rfl (by omega) hvg)<|zTk 4 rfl (zp isAgg144 sizeOf144 rfl rfl)<|zTk 5 rfl (zLi isAgg3 rfl)<|zTk 6 rfl (zLi isAgg3 rfl)<|zOn 7 rfl<|zf (ahead_spec f hE hn (makerT f v) i k x y) rfl<|z6<|zTk 8 rfl (yl rfl)<|zTk 9 rfl (zAb rfl)<|zDn<|zg<|zk (x := .bool _) rfl ?_
 rfl
theorem plain1_spec (x : PInst) : AFun prog E 109 ([.agg (encInst x)] ++ []) (.bool (decide (x.op = 25) || decide (x.op = 26))) := by
 refine zo func109 rfl (by decide) rfl<|zSr<|y9 (cs := _) rfl rfl rfl<|z2 (zAb rfl)<|z6<|zSr<|z2 (zFF underlying61 rfl sizeOf59 rfl rfl)<|z2 (zLi isAgg59 rfl)<|z2 (y7 rfl rfl)<|z2 (zMb rfl)<|zt (s := 6) rfl (fun c1=>?_) (fun c1=>?_)
 ·refine z7 rfl rfl c1<|z7 rfl rfl c1<|z7 rfl rfl c1<|z2 (zPt rfl c1 rfl)<|z2 (zAb rfl)<|z6<|zg<|zk (x := .bool _) rfl ?_
  simp_all
 ·refine z8 rfl rfl c1<|z2 (zFF underlying61 rfl sizeOf59 rfl rfl)<|z8 rfl rfl c1<|z2 (zLi isAgg59 rfl)<|z8 rfl rfl c1<|z2 (y7 rfl rfl)<|z2 (zPf rfl c1 rfl)<|z2 (zAb rfl)<|z6<|zg<|zk (x := .bool _) rfl ?_
  simp_all
theorem plain2 (b : PBlock) (hl : b.insts.length ≤ 1000) : AFun prog E 108 [.fro 4 (b.insts.map encInst), .fn 109 [] []] (.bool (b.insts.any fun x => decide (x.op = 25) || decide (x.op = 26))) := containsFuncX_spec b.insts (by omega) (fun x _ => plain1_spec x)
set_option maxHeartbeats 4000000 in
theorem behind_spec (f : PFunc) (hE : EndsOk f) (hf : small f) (hS : ShapedP f) (i : Nat) (hi : i < f.blocks.length) (x y : AV) :
  AFun prog E 86 [.agg (encF f), treeV f x y, .fro 2 ((makersT f).map eP.row), .int .i64 i] (.bool (atA f i)) := by
 have hn := hf.2.2.1
 obtain ⟨b, hbk⟩ : ∃ b, f.blocks[i] = b := ⟨_, rfl⟩
 have hget : f.blocks[i]? = some b := by rw [qq hi, hbk]
 have hmem : b ∈ f.blocks := hbk ▸ qu hi
 obtain ⟨hb0, hb1, hb2, hb3, hb4⟩ := hf.2.2.2.2 b hmem
 obtain ⟨hPh, hIn, hTm⟩ := hS.2.2.2.2.2 b hmem
 rw [atA_at hget]
 refine zo func86 rfl (by decide) rfl<|zSr<|y9 (cs := _) rfl rfl rfl<|y9 (cs := [_]) rfl rfl rfl<|y9 (cs := [_]) rfl rfl rfl<|y9 (cs := [_]) rfl rfl rfl<|z2 (zAb rfl)<|z6<|zSr<|z2 (zFF underlying26 rfl sizeOf24 rfl rfl)<|z2 (zLf isAgg24 rfl)<|z2 (zLi isAgg3 rfl)<|z2 (zIM i underlying24 sizeOf58 rfl rfl rfl hget)<|z2 (zp isAgg58 sizeOf58 rfl rfl)<|zy (cs := [.str ⟨#[]⟩, .raw (.slice none 0 0), .raw (.slice none 0 0), .int .i64 0, .int .i64 0, .int .i64 0, .int .i64 0]) zeroValue58 rfl rfl<|fun i9 => zq sizeOf58 rfl rfl rfl rfl rfl rfl .head rfl<|zc (yk (t := 9) rfl .head)<|z6<|zd<|zSr<|z2 (zFF underlying58 rfl sizeOf51 rfl rfl)<|z2 (zLf isAgg51 rfl)<|z2 (y2 underlying51 rfl)<|z2 (zMi rfl)<|z6<|zi<|y5 (γ := Nat) [4, 5, 6, 7, 9, 23, 24] (fun j => [(25, .int .i64 j)]) (fun j => []) (fun j => j ≤ b.phis.length ∧ (b.phis.take j).all (phA f) = true) (fun j => b.phis.length - j) 0 zR1 zLe (⟨qt _, rfl⟩) ?_
 rintro j ⟨hj, hjall⟩
 refine zSr<|z2 (yb rfl rfl)<|z6<|zd<|zr rfl (fun cj=>?_) (fun cj=>?_)
 ·have hj2 : j < b.phis.length := by simp at cj; omega
  obtain ⟨p, hp⟩ : ∃ p, b.phis[j] = p := ⟨_, rfl⟩
  have hpm : p ∈ b.phis := hp ▸ qu hj2
  obtain ⟨hpd, hpl, hpn, hpa, hpf⟩ := hPh p hpm
  have hpb := hb3 p hpm
  refine zh<|zd<|zi<|zSr<|z2 (zIM j underlying51 sizeOf81 rfl rfl rfl (by rw [qq hj2, hp])) ?_
  refine z2 (zp isAgg81 sizeOf81 rfl rfl)<|zy (cs := [.int .i64 0, .raw (.slice none 0 0), .raw (.slice none 0 0)]) zeroValue81 rfl rfl<|fun i11 => zq sizeOf81 rfl rfl rfl rfl rfl rfl .head rfl<|zc (yk (t := 11) rfl .head)<|z6<|zSr<|z2 (zFF underlying81 rfl sizeOf23 rfl rfl)<|z2 (zLf isAgg23 rfl)<|z2 (y2 underlying23 rfl)<|z2 (zMi rfl)<|z6<|zi<|y5 (γ := Nat) [4, 5, 6, 7, 9, 11, 23, 24, 25, 30, 31] (fun k => [(32, .int .i64 k)]) (fun k => []) (fun k => k ≤ p.args.length ∧ ((p.args.zip p.from_).take k).all (fun q => aheadB f (makerT f q.1) q.2 (lenAt f q.2)) = true) (fun k => p.args.length - k) 0 zR1 zLe (⟨qt _, rfl⟩) ?_
  rintro k ⟨hk, hkall⟩
  refine zSr<|z2 (yb rfl rfl)<|z6<|zd<|zr rfl (fun ck=>?_) (fun ck=>?_)
  ·have hk2 : k < p.args.length := by simp at ck; omega
   have hk3 : k < p.from_.length := by omega
   obtain ⟨v, hv⟩ : ∃ v, p.args[k] = v := ⟨_, rfl⟩
   obtain ⟨c, hc⟩ : ∃ c, p.from_[k] = c := ⟨_, rfl⟩
   obtain ⟨hv0, hvg⟩ := makers_idx (List.all_eq_true.1 hpa v (hv ▸ qu hk2))
   have hcr : 0 ≤ c ∧ c < f.blocks.length := by have := List.all_eq_true.1 hpf c (hc ▸ qu hk3); simpa [hasB] using this
   obtain ⟨d, hd⟩ : ∃ d, f.blocks[c.toNat]'(by omega) = d := ⟨_, rfl⟩
   have hdg : f.blocks[c.toNat]? = some d := by rw [qq (by omega), hd]
   have hla : lenAt f c = d.insts.length := by unfold lenAt; rw [hdg]; rfl
   have hz : k < (p.args.zip p.from_).length := by rw [List.length_zip]; omega
   have hzk : (p.args.zip p.from_)[k] = (v, c) := by rw [List.getElem_zip, hv, hc]
   refine zh<|zd<|zi<|zSr<|z2 (zMi rfl)<|z2 (zIM k underlying23 sizeOf3 rfl rfl rfl (by rw [qq hk2, hv])) ?_
   refine z2 (zLi isAgg3 rfl)<|z2 (zAi rfl)<|z2 (zAi rfl)<|z6<|zSr<|z2 (zFF underlying81 rfl sizeOf23 rfl rfl)<|z2 (zLf isAgg23 rfl)<|z2 (zMi rfl)<|z2 (zIM k underlying23 sizeOf3 rfl rfl rfl (by rw [qq hk3, hc])) ?_
   refine z2 (zLi isAgg3 rfl)<|z2 (zAi rfl)<|z6<|zd<|zu (fun j => false) (by kernel_rfl) rfl (zm (.rest _))<|zTk 0 rfl (qa (c := .pf _) isAgg83 rfl)<|zTk 1 rfl (zLf isAgg139 rfl)<|zTk 2 rfl (zMi rfl)<|zTk 3 rfl (zIM v.toNat underlying139 sizeOf144 rfl rfl (by omega) hvg)<|zTk 4 rfl (zp isAgg144 sizeOf144 rfl rfl)<|zTk 5 rfl (zMi rfl)<|zTk 6 rfl (zFF underlying26 rfl sizeOf24 rfl rfl)<|zTk 7 rfl (zLf isAgg24 rfl)<|zTk 8 rfl (zMi rfl)<|zTk 9 rfl (zIM c.toNat underlying24 sizeOf58 rfl rfl (by omega) hdg)<|zTk 10 rfl (zFF underlying58 rfl sizeOf52 rfl rfl)<|zTk 11 rfl (zLf isAgg52 rfl)<|zTk 12 rfl (y2 underlying52 rfl)<|zOn 13 rfl<|zf (ahead_spec f hE hn (makerT f v) c d.insts.length x y) rfl<|z6<|zTk 14 rfl (yl rfl)<|zDn<|zz rfl (fun cq=>?_) (fun cq=>?_)
   ·have hq : aheadB f (makerT f v) c (lenAt f c) = false := by rw [hla]; simpa using cq
    refine zSr<|z2 (zAb rfl)<|z6<|zg<|zk (x := .bool _) rfl ?_
    rw [blkA, show b.phis.all (phA f) = false from Bool.eq_false_iff.2 (all_bad hj2 (by rw [hp]; unfold phA; exact Bool.eq_false_iff.2 (all_bad hz (by rw [hzk]; exact hq))))]; rfl
   ·have hq : aheadB f (makerT f v) c (lenAt f c) = true := by rw [hla]; simpa using cq
    refine zh<|zRg<|z2 (zAd rfl rfl)<|z2 (zMi rfl)<|z6 ?_
    exact ⟨k + 1, zR11, zR1, zLe, ⟨hk2, all_take hz hkall (by rw [hzk]; exact hq)⟩, by omega⟩
  ·have hkn : k = p.args.length := by simp at ck; omega
   have hzl : (p.args.zip p.from_).length = p.args.length := by rw [List.length_zip]; omega
   rw [hkn, ← hzl, qv] at hkall
   refine y4<|zRg<|z2 (zAd rfl rfl)<|z2 (zMi rfl)<|z6 ?_
   exact ⟨j + 1, zR7, zR1, zLe, ⟨hj2, all_take hj2 hjall (by rw [hp]; exact hkall)⟩, by omega⟩
 ·have hjn : j = b.phis.length := by simp at cj; omega
  subst hjn
  rw [qv] at hjall
  refine y4<|zd<|zSr<|z2 (zFF underlying58 rfl sizeOf52 rfl rfl)<|z2 (zLf isAgg52 rfl)<|z2 (y2 underlying52 rfl)<|z2 (zMi rfl)<|z6<|zi<|y5 (γ := Nat) [5, 6, 7, 9, 60, 61] (fun k => [(62, .int .i64 k)]) (fun k => []) (fun k => k ≤ b.insts.length ∧ ((b.insts.zipIdx).take k).all (inA f i) = true) (fun k => b.insts.length - k) 0 zR1 zLe (⟨qt _, rfl⟩) ?_
  rintro k ⟨hk, hkall⟩
  refine zSr<|z2 (yb rfl rfl)<|z6<|zd<|zr rfl (fun ck=>?_) (fun ck=>?_)
  ·have hk2 : k < b.insts.length := by simp at ck; omega
   obtain ⟨z, hzk⟩ : ∃ z, b.insts[k] = z := ⟨_, rfl⟩
   have hzm : z ∈ b.insts := hzk ▸ qu hk2
   have hI := instP_F (hIn z hzm)
   have hzl := hb4 z hzm
   have hzi : k < b.insts.zipIdx.length := by simp; exact hk2
   have hze : b.insts.zipIdx[k] = (z, k) := by simp [hzk]
   refine zh<|zd<|zi<|zSr<|z2 (zMi rfl)<|z2 (zIM k underlying52 sizeOf61 rfl rfl rfl (by rw [qq hk2, hzk])) ?_
   refine z2 (zp isAgg61 sizeOf61 rfl rfl)<|zy (cs := [.int .i64 0]) zeroValue3 rfl rfl<|fun i15 => zy (cs := [.int .i64 0, .int .i64 0, .raw (.slice none 0 0), .int .i64 0]) zeroValue61 rfl rfl<|fun i16 => zq sizeOf3 rfl rfl rfl rfl rfl rfl .t1 rfl<|zc (yk (t := 15) rfl .t1)<|zq sizeOf61 rfl rfl rfl rfl rfl rfl .head rfl<|zc (yk (t := 16) rfl .head)<|z6<|zSr<|z2 (zFF underlying61 rfl sizeOf23 rfl rfl)<|z2 (zLf isAgg23 rfl)<|z2 (Gv.func rfl rfl)<|zf (containsFuncM_spec z.args (by omega) (fun v hv => behind1_spec f hE hn i k v (hI.args v hv) x y)) rfl<|z6<|zz rfl (fun cq=>?_) (fun cq=>?_)
   ·have hq : inA f i (z, k) = false := by
     unfold inA
     rw [Bool.eq_false_iff]; intro h
     obtain ⟨v, hv1, hv2⟩ := List.any_eq_true.1 (show (z.args.any fun v => !aheadB f (makerT f v) i k) = true by simpa using cq)
     have := List.all_eq_true.1 h v hv1
     rw [this] at hv2; cases hv2
    refine zSr<|z2 (zAb rfl)<|z6<|zg<|zk (x := .bool _) rfl ?_
    rw [blkA, hjall, show b.insts.zipIdx.all (inA f i) = false from Bool.eq_false_iff.2 (all_bad hzi (by rw [hze]; exact hq))]; rfl
   ·have hq : inA f i (z, k) = true := by
     unfold inA
     rw [List.all_eq_true]; intro v hv
     have h0 : (z.args.any fun v => !aheadB f (makerT f v) i k) = false := by simpa using cq
     have := List.any_eq_false.1 h0 v hv
     simpa using this
    refine zh<|zRg<|z2 (zAd rfl rfl)<|z2 (zMi rfl)<|z6 ?_
    exact ⟨k + 1, zR6, zR1, zLe, ⟨hk2, all_take hzi hkall (by rw [hze]; exact hq)⟩, by omega⟩
  ·have hkn : k = b.insts.length := by simp at ck; omega
   rw [hkn, show b.insts.length = b.insts.zipIdx.length by simp, qv] at hkall
   refine y4<|zd<|zu (fun j => false) (by kernel_rfl) rfl (zm (.rest _))<|zTk 0 rfl (zFF underlying58 rfl sizeOf56 rfl rfl)<|zTk 1 rfl (zFF underlying56 rfl sizeOf53 rfl rfl)<|zTk 2 rfl (zLi isAgg53 rfl)<|zTk 3 rfl (y7 rfl rfl)<|zTk 4 rfl (zMb rfl)<|qh (s := 76) rfl (fun c0=>?_) (fun c0=>?_)
   ·have d0 : b.term.kind = 0 := by simpa using c0
    refine zTf 5 rfl rfl rfl c0<|zTf 6 rfl rfl rfl c0<|zTf 7 rfl rfl rfl c0<|zTf 8 rfl rfl rfl c0<|zTf 9 rfl rfl rfl c0<|zTf 10 rfl rfl rfl c0<|zTf 11 rfl rfl rfl c0<|zTf 12 rfl rfl rfl c0<|zTf 13 rfl rfl rfl c0<|zTf 14 rfl rfl rfl c0<|zTf 15 rfl rfl rfl c0<|zTf 16 rfl rfl rfl c0<|zTk 17 rfl (zPt rfl c0 rfl)<|zTk 18 rfl (zAb rfl)<|zDn<|zg<|zk (x := .bool _) rfl ?_
    rw [blkA, hjall, hkall, tmA, d0]; rfl
   ·have d0 : ¬ b.term.kind = 0 := by simpa using c0
    obtain ⟨hv0, hvg⟩ := makers_idx (term_var hTm d0)
    refine zTt 5 rfl rfl rfl c0 (qa (c := .pf _) isAgg83 rfl)<|zTt 6 rfl rfl rfl c0 (zLf isAgg139 rfl)<|zTt 7 rfl rfl rfl c0 (zFF underlying58 rfl sizeOf56 rfl rfl)<|zTt 8 rfl rfl rfl c0 (zFF underlying56 rfl sizeOf3 rfl rfl)<|zTt 9 rfl rfl rfl c0 (zLi isAgg3 rfl)<|zTt 10 rfl rfl rfl c0 (zIM b.term.var.toNat underlying139 sizeOf144 rfl rfl (by omega) hvg)<|zTt 11 rfl rfl rfl c0 (zp isAgg144 sizeOf144 rfl rfl)<|zTt 12 rfl rfl rfl c0 (zLi isAgg3 rfl)<|zTt 13 rfl rfl rfl c0 (zFF underlying58 rfl sizeOf52 rfl rfl)<|zTt 14 rfl rfl rfl c0 (zLf isAgg52 rfl)<|zTt 15 rfl rfl rfl c0 (y2 underlying52 rfl)<|zOn 16 rfl<|z8 rfl rfl c0<|zf (ahead_spec f hE hn (makerT f b.term.var) i b.insts.length x y) rfl<|z6<|zTk 17 rfl (zPf rfl c0 rfl)<|zTk 18 rfl (zAb rfl)<|zDn<|zg<|zk (x := .bool _) rfl ?_
    rw [blkA, hjall, hkall, tmA, w4 d0]; rfl
theorem SingRight_spec (f : PFunc) (hf : small f) (hL : Letters E) : AFun prog E 39 [.agg (encF f)] (.int .i64 (if (typedB f && singB f) = true then 0 else 3)) := by
 have hn := hf.2.2.1
 refine zo func39 rfl (by decide) rfl<|zSr<|y9 (cs := _) rfl rfl rfl<|z2 (zAi rfl)<|z6<|zd<|zSr<|z2 (zp isAgg26 sizeOf26 rfl rfl)<|zf (joinedX_spec f hf hL) rfl<|z2 (yj rfl rfl)<|z2 (zMb rfl)<|zt (s := 10) rfl (fun c1=>?_) (fun c1=>?_)
 ·have d1 : (typedB f && joinedB f) = false := by
   cases h : (typedB f && joinedB f) with
   | false => rfl
   | true => rw [h] at c1; simp at c1
  refine z7 rfl rfl c1<|z7 rfl rfl c1<|z7 rfl rfl c1<|z2 (zPt rfl c1 rfl)<|z2 (zMb rfl)<|z7 rfl rfl rfl<|z7 rfl rfl rfl<|z7 rfl rfl rfl<|z2 (zPt rfl rfl rfl)<|z6<|yo rfl rfl<|zSr<|z2 (zAi rfl)<|z6<|zg<|zk (x := .int _ _) rfl ?_
  rw [show (typedB f && singB f) = false by unfold singB; cases h : typedB f <;> simp_all]; rfl
 ·have d1 : (typedB f && joinedB f) = true := by
   cases h : (typedB f && joinedB f) with
   | true => rfl
   | false => rw [h] at c1; simp at c1
  have ht : typedB f = true := by simp at d1; exact d1.1
  have hj : joinedB f = true := by simp at d1; exact d1.2
  have hE := typedB_ends ht
  have hS := typedB_shaped ht
  refine z8 rfl rfl c1<|z2 (zp isAgg26 sizeOf26 rfl rfl)<|z8 rfl rfl c1<|zf (reachX_spec f hf hL ht) rfl<|z8 rfl rfl c1<|zf (containsB_spec (reachB (EndsOf f) f.blocks.length) false (by rw [reachB_len]; omega)) rfl<|z2 (zPf rfl c1 rfl)<|z2 (zMb rfl)<|zt (s := 15) rfl (fun c2=>?_) (fun c2=>?_)
  ·refine z7 rfl rfl c2<|z7 rfl rfl c2<|z7 rfl rfl c2<|z2 (zPt rfl c2 rfl)<|z6<|yo rfl rfl<|zSr<|z2 (zAi rfl)<|z6<|zg<|zk (x := .int _ _) rfl ?_
   rw [show singB f = false by unfold singB; simp_all]; simp
  ·refine z8 rfl rfl c2<|z2 (zp isAgg26 sizeOf26 rfl rfl)<|z8 rfl rfl c2<|zf (once_spec f hf hS) rfl<|z8 rfl rfl c2<|z2 (yl rfl)<|z2 (zPf rfl c2 rfl)<|z6<|zz rfl (fun c3=>?_) (fun c3=>?_)
   ·refine zSr<|z2 (zAi rfl)<|z6<|zg<|zk (x := .int _ _) rfl ?_
    rw [show singB f = false by unfold singB; simp_all]; simp
   ·refine zh<|zSr<|z2 (zp isAgg26 sizeOf26 rfl rfl)<|zf (New_spec f hf hL ht) rfl<|z2 (zMu rfl)<|z2 (Gv.extract (v := .pf _) rfl rfl)<|z2 (zXi rfl rfl)<|z2 (q7 (v := .pf _) rfl)<|z2 (zAi rfl)<|z6<|zd<|zSr<|z2 (zMi rfl)<|z2 (yj rfl rfl)<|z6<|ym rfl rfl<|zh<|zSr<|z2 (zp isAgg26 sizeOf26 rfl rfl)<|zf (Makers_spec f hf hL ht) rfl<|z2 (zAf rfl)<|z6<|zd<|zSr<|z2 (zFF underlying26 rfl sizeOf24 rfl rfl)<|z2 (zLf isAgg24 rfl)<|z2 (y2 underlying24 rfl)<|z2 (zMi rfl)<|z6<|zi<|y5 (γ := Nat) [1, 3, 5, 32] (fun k => [(33, .int .i64 k)]) (fun k => []) (fun k => k ≤ f.blocks.length ∧ (List.range k).all (atA f) = true) (fun k => f.blocks.length - k) 0 zR1 zLe (⟨qt _, rfl⟩) ?_
    rintro k ⟨hk, hall⟩
    refine zSr<|z2 (yb rfl rfl)<|z6<|zd<|zr rfl (fun ck=>?_) (fun ck=>?_)
    ·have hk2 : k < f.blocks.length := by simp at ck; omega
     refine zh<|zd<|zi<|zSr<|z2 (zMi rfl)<|z2 (zAi rfl)<|z6<|zSr<|z2 (zp isAgg26 sizeOf26 rfl rfl)<|z2 (zMg rfl)<|z2 (zMf rfl)<|z2 (zMi rfl)<|zf (behind_spec f hE hf hS k hk2 (froN eI (kidsR f)) .any) rfl<|z2 (yl rfl)<|z6<|zz rfl (fun cq=>?_) (fun cq=>?_)
     ·refine zSr<|z2 (zAi rfl)<|z6<|zg<|zk (x := .int _ _) rfl ?_
      rw [show singB f = false by unfold singB; rw [show behB f = false from range_all_bad hk2 (by simpa using cq)]; simp]; simp
     ·refine zh<|zRg<|z2 (zAd rfl rfl)<|z2 (zMi rfl)<|z6 ?_
      exact ⟨k + 1, zR4, zR1, zLe, ⟨hk2, range_all_succ hall (by simpa using cq)⟩, by omega⟩
    ·have hkn : k = f.blocks.length := by simp at ck; omega
     subst hkn
     refine y4<|zSr<|z2 (zAi rfl)<|z6<|zg<|zk (x := .int _ _) rfl ?_
     rw [ht, show singB f = true by unfold singB; rw [show behB f = true from hall]; simp_all]; rfl
def plainB (f : PFunc) : Bool := f.blocks.all fun b => !(b.insts.any fun x => decide (x.op = 25) || decide (x.op = 26))
theorem SingPlain_spec (f : PFunc) (hf : small f) (hL : Letters E) : AFun prog E 60 [.agg (encF f)] (.int .i64 (if (typedB f && (singB f && plainB f)) = true then 0 else 3)) := by
 have hn := hf.2.2.1
 refine zo func60 rfl (by decide) rfl<|zSr<|y9 (cs := _) rfl rfl rfl<|z2 (zAi rfl)<|z6<|zd<|zSr<|z2 (zp isAgg26 sizeOf26 rfl rfl)<|zf (SingRight_spec f hf hL) rfl<|z2 (zAi rfl)<|z6<|zSr<|z2 (zMi rfl)<|z2 (yj rfl rfl)<|z6<|zz rfl (fun c1=>?_) (fun c1=>?_)
 ·have d1 : (typedB f && singB f) = false := by
   cases h : (typedB f && singB f) with
   | false => rfl
   | true => rw [h] at c1; simp at c1
  refine zSr<|z2 (zMi rfl)<|z2 (zAi rfl)<|z6<|zg<|zk (x := .int _ _) rfl ?_
  rw [d1, show (typedB f && (singB f && plainB f)) = false by cases h : typedB f <;> simp_all]
 ·have d1 : (typedB f && singB f) = true := by
   cases h : (typedB f && singB f) with
   | true => rfl
   | false => rw [h] at c1; simp at c1
  have ht : typedB f = true := by simp at d1; exact d1.1
  have hs : singB f = true := by simp at d1; exact d1.2
  refine zh<|zd<|zSr<|z2 (zFF underlying26 rfl sizeOf24 rfl rfl)<|z2 (zLf isAgg24 rfl)<|z2 (y2 underlying24 rfl)<|z2 (zMi rfl)<|z6<|zi<|y5 (γ := Nat) [12, 13] (fun k => [(14, .int .i64 k)]) (fun k => []) (fun k => k ≤ f.blocks.length ∧ (f.blocks.take k).all (fun b => !(b.insts.any fun x => decide (x.op = 25) || decide (x.op = 26))) = true) (fun k => f.blocks.length - k) 0 zR1 zLe (⟨qt _, rfl⟩) ?_
  rintro k ⟨hk, hall⟩
  refine zSr<|z2 (yb rfl rfl)<|z6<|zd<|zr rfl (fun ck=>?_) (fun ck=>?_)
  ·have hk2 : k < f.blocks.length := by simp at ck; omega
   obtain ⟨b, hbk⟩ : ∃ b, f.blocks[k] = b := ⟨_, rfl⟩
   have hget : f.blocks[k]? = some b := by rw [qq hk2, hbk]
   have hb2 := (hf.2.2.2.2 b (hbk ▸ qu hk2)).2.2.1
   refine zh<|zd<|zi<|zSr<|z2 (zIM k underlying24 sizeOf58 rfl rfl rfl hget)<|z2 (zp isAgg58 sizeOf58 rfl rfl)<|zy (cs := [.str ⟨#[]⟩, .raw (.slice none 0 0), .raw (.slice none 0 0), .int .i64 0, .int .i64 0, .int .i64 0, .int .i64 0]) zeroValue58 rfl rfl<|fun i5 => zq sizeOf58 rfl rfl rfl rfl rfl rfl .head rfl<|zc (yk (t := 5) rfl .head)<|z6<|zSr<|z2 (zFF underlying58 rfl sizeOf52 rfl rfl)<|z2 (zLf isAgg52 rfl)<|zf (plain2 b hb2) rfl<|z6<|zz rfl (fun cq=>?_) (fun cq=>?_)
   ·refine zSr<|z2 (zAi rfl)<|z6<|zg<|zk (x := .int _ _) rfl ?_
    rw [show plainB f = false from Bool.eq_false_iff.2 (all_bad hk2 (by rw [hbk]; simpa using cq))]; simp
   ·refine zh<|zRg<|z2 (zAd rfl rfl)<|z2 (zMi rfl)<|z6 ?_
    exact ⟨k + 1, zR2, zR1, zLe, ⟨hk2, all_take hk2 hall (by rw [hbk]; simpa using cq)⟩, by omega⟩
  ·have hkn : k = f.blocks.length := by simp at ck; omega
   subst hkn
   rw [qv] at hall
   refine y4<|zSr<|z2 (zAi rfl)<|z6<|zg<|zk (x := .int _ _) rfl ?_
   rw [ht, hs, show plainB f = true from hall]; rfl
end Go.Proofs.YtiojekbkamegdaaGreatDoor
namespace Go.Proofs.YtiojekbkamegdaaGreatDoor
open Go.Proofs.Tryz
structure FrS (E : Int → List Int) (a shut : Int) (n : Nat) (out : List Bool) : Prop where
 len : out.length = n
 sound : ∀ b : Nat, out[b]? = some true → FromP E a shut b
def okX (a : Int) (out : List Bool) (shut x : Int) : Prop := x ≠ shut ∧ (x = a ∨ gb out x = true)
instance (a : Int) (out : List Bool) (shut x : Int) : Decidable (okX a out shut x) := by unfold okX; infer_instance
def clTo (E : Int → List Int) (a shut : Int) (out : List Bool) (k : Nat) : Prop := ∀ x : Nat, x < k → okX a out shut x → ∀ y : Nat, (y : Int) ∈ E x → (y : Int) ≠ shut → gb out y = true
theorem gb_nat (out : List Bool) (k : Nat) : gb out (k : Int) = (out[k]?).getD false := rfl
theorem gb_some {out : List Bool} {k : Nat} (h : k < out.length) : out[k]? = some (gb out k) := by
 rw [gb_nat, qq h]; rfl
theorem FrS.begin (E : Int → List Int) (a shut : Int) (n : Nat) : FrS E a shut n (List.replicate n false) := ⟨by simp, fun b h => by
 rw [List.getElem?_replicate] at h; split at h <;> simp at h⟩
theorem FrS.set {E : Int → List Int} {a shut : Int} {n : Nat} {out : List Bool} (h : FrS E a shut n out) {x y : Nat} (hx : okX a out shut x) (ha : a ≠ shut ∨ (x : Int) ≠ a) (he : (y : Int) ∈ E x) (hy : (y : Int) ≠ shut) : FrS E a shut n (out.set y true) := by
 refine ⟨by rw [List.length_set]; exact h.len, fun b hb => ?_⟩
 by_cases e : b = y
 ·subst e
  refine FromP.step (x := x) ?_ he hy
  rcases hx.2 with e | hg
  ·left
   refine ⟨e, ?_⟩
   rw [← e]; exact hx.1
  ·right
   by_cases hlt : x < out.length
   ·exact h.sound x (by rw [gb_some hlt, hg])
   ·rw [gb_nat, List.getElem?_eq_none (by omega)] at hg; simp at hg
 ·rw [List.getElem?_set_ne (fun e2 => e e2.symm)] at hb; exact h.sound b hb
theorem FrS.all {E : Int → List Int} {a shut : Int} {n : Nat} {out : List Bool} (hE : Grph E n) (ha : a = a ∧ 0 ≤ a ∧ a < n) (h : FrS E a shut n out) (hc : clTo E a shut out n) (b : Nat) (hb : b < n) : gb out b = true ↔ FromP E a shut b := by
 constructor
 ·intro hg; exact h.sound b (by rw [gb_some (by rw [h.len]; exact hb), hg])
 ·intro hf
  have := FromP.closed (out := fun x : Int => 0 ≤ x ∧ x < n ∧ gb out x = true) (fun x y h1 h2 h3 h4 => by
   have hxr : 0 ≤ x ∧ x < n := by
    rcases h2 with e | h2
    ·rw [e]; exact ha.2
    ·exact ⟨h2.1, h2.2.1⟩
   have hy := hE.rng x hxr.1 hxr.2 y h3
   have e1 : ((x.toNat : Nat) : Int) = x := w5 hxr.1
   have e2 : ((y.toNat : Nat) : Int) = y := w5 hy.1
   refine ⟨hy.1, hy.2, ?_⟩
   have := hc x.toNat (by omega) ⟨by rw [e1]; exact h1, by
    rw [e1]
    rcases h2 with e | h2
    ·exact .inl e
    ·exact .inr h2.2.2⟩ y.toNat (by rw [e1, e2]; exact h3) (by rw [e2]; exact h4)
   rwa [e2] at this) hf
  exact this.2.2
end Go.Proofs.YtiojekbkamegdaaGreatDoor
namespace Go.Proofs.YtiojekbkamegdaaGreatDoor
open Go.Proofs.Tryz
open Go.Proofs Go.Lib Go.Shelf Go.RowKit
variable {E : World}
set_option maxRecDepth 20000
end Go.Proofs.YtiojekbkamegdaaGreatDoor
namespace Go.Proofs.YtiojekbkamegdaaGreatDoor
open Go.Proofs.Tryz
noncomputable section
end
end Go.Proofs.YtiojekbkamegdaaGreatDoor
namespace Go.Proofs.YtiojekbkamegdaaGreatDoor
open Go.Proofs.Tryz
open Go.Proofs Go.Lib Go.Shelf Go.RowKit
variable {E : World}
set_option maxRecDepth 20000
end Go.Proofs.YtiojekbkamegdaaGreatDoor
namespace Go.Proofs.YtiojekbkamegdaaGreatDoor
open Go.Proofs.Tryz
open Go.Proofs Go.Lib Go.Shelf Go.RowKit
variable {E : World}
set_option maxRecDepth 20000
end Go.Proofs.YtiojekbkamegdaaGreatDoor
namespace Go.Proofs.YtiojekbkamegdaaGreatDoor
open Go.Proofs.Tryz
open Go.Proofs Go.Lib Go.Shelf Go.RowKit
variable {E : World}
set_option maxRecDepth 20000
end Go.Proofs.YtiojekbkamegdaaGreatDoor
namespace Go.Proofs.YtiojekbkamegdaaGreatDoor
open Go.Proofs.Tryz
open Go.Proofs Go.Lib Go.Shelf Go.RowKit
variable {E : World}
set_option maxRecDepth 20000
theorem rof_spec (f : PFunc) (v : Int) (hv : hasV f v = true) : AFun prog E 101 [.agg (encF f), .int .i64 v] (.int .i64 (kindV f v)) := by
 obtain ⟨x, hx, hv2, hk⟩ := hasV_get hv
 rw [hk]
 refine zo func101 rfl (by decide) rfl<|zSr<|y9 (cs := _) rfl rfl rfl<|z2 (zAi rfl)<|z6<|zSr<|z2 (zFF underlying26 rfl sizeOf22 rfl rfl)<|z2 (zLf isAgg22 rfl)<|z2 (zMi rfl)<|z2 (zIM v.toNat underlying22 sizeOf79 rfl rfl hv2 hx)<|z2 (zFF underlying79 rfl sizeOf77 rfl rfl)<|z2 (zLi isAgg77 rfl)<|z2 (zAi rfl)<|z6<|zg<|zk (x := .int _ _) rfl ?_
 rfl
theorem rtype_spec (c : Int) : AFun prog E 103 [.int .u8 c] (.int .i64 (typeOf c)) := by
 refine zo func103 rfl (by decide) rfl<|zSr<|z2 (zAi rfl)<|z6<|zd<|zSr<|z2 (zMi rfl)<|z6<|zi<|zSr<|z2 (y7 rfl rfl)<|z2 (zAb rfl)<|z6<|zz rfl (fun c1=>?_) (fun c1=>?_)
 ·refine zSr<|z2 (zAi rfl)<|z6<|zg<|zk (x := .int _ _) rfl ?_
  unfold typeOf; simp_all
 ·refine zSr<|z2 (y7 rfl rfl)<|z2 (zAb rfl)<|z6<|zz rfl (fun c2=>?_) (fun c2=>?_)
  ·refine zSr<|z2 (zAi rfl)<|z6<|zg<|zk (x := .int _ _) rfl ?_
   unfold typeOf; simp_all
  ·refine zh<|zSr<|z2 (zAi rfl)<|z6<|zg<|zk (x := .int _ _) rfl ?_
   unfold typeOf; simp_all
theorem copy_word : ∀ j : Nat, j < 27 → decide ((kRow (j : Int)).1 = ⟨#[99, 111, 112, 121]⟩) = decide (j = 1) := by decide
theorem copy_op {op : Int} (h : 0 ≤ op ∧ op ≤ 26) : ((kRow op).1 = ⟨#[99, 111, 112, 121]⟩) ↔ op = 1 := by
 have h1 := copy_word op.toNat (by omega)
 rw [w5 h.1] at h1
 constructor
 ·intro e
  have : decide (op.toNat = 1) = true := by rw [← h1]; exact w3 e
  have := of_decide_eq_true this
  omega
 ·intro e
  have h2 : op.toNat = 1 := by omega
  have : decide ((kRow op).1 = ⟨#[99, 111, 112, 121]⟩) = true := by rw [h1]; exact w3 h2
  exact of_decide_eq_true this
theorem kRow_get {op : Int} (h : 0 ≤ op ∧ op ≤ 26) : kindT[op.toNat]? = some (kRow op) := by
 unfold kRow
 have hl : op.toNat < kindT.length := by have : kindT.length = 27 := rfl; omega
 rw [if_pos h.1, qq hl]; rfl
def wantL (f : PFunc) (x : PInst) : List Int := if x.op = 1 then [kindV f x.dst] else takesL x.op
theorem wantL_len {f : PFunc} {x : PInst} (h : InstF f x) : x.args.length = (wantL f x).length := by
 rw [h.len]
 unfold wantL
 split
 ·rename_i e; rw [e]; rfl
 ·rfl
theorem instT_want {f : PFunc} {x : PInst} (h : InstF f x) : instT f x = (decide (x.args.map (kindV f) = wantL f x) && (!makesB x.op || (decide (x.op = 1) || decide (kindV f x.dst = makesT x.op)))) := by
 unfold instT wantL
 by_cases e : x.op = 1
 ·have hl := h.len
  rw [e, show (takesL 1).length = 1 from rfl] at hl
  obtain ⟨a, ha⟩ := List.length_eq_one_iff.1 hl
  rw [if_pos e, if_pos e, ha]
  simp [e]
  exact eq_comm
 ·rw [if_neg e, if_neg e]; simp [e]
theorem takes_byte {op : Int} {m : Nat} (h : m < (takesL op).length) : ∃ c : UInt8, (kRow op).2.1.data[m]? = some c ∧ (takesL op)[m] = typeOf (c.toNat : Int) := by
 have h1 : m < (kRow op).2.1.data.size := by rw [takes_len] at h; exact h
 have e : (takesL op)[m]? = ((kRow op).2.1.data.toList[m]?).map fun b => typeOf b.toNat := by unfold takesL; rw [List.getElem?_map]
 rw [qq h, Array.getElem?_toList, Array.getElem?_eq_getElem h1] at e
 exact ⟨(kRow op).2.1.data[m], by rw [Array.getElem?_eq_getElem h1], by simpa using e⟩
theorem makes_byte {op : Int} (h : ¬ (kRow op).2.2 = ⟨#[]⟩) : ∃ c : UInt8, (kRow op).2.2.data[0]? = some c ∧ makesT op = typeOf (c.toNat : Int) := by
 unfold makesT
 generalize (kRow op).2.2 = m at h ⊢
 obtain ⟨⟨l⟩⟩ := m
 cases l with
 | nil => exact absurd rfl h
 | cons c l => exact ⟨c, by simp, rfl⟩
end Go.Proofs.YtiojekbkamegdaaGreatDoor
