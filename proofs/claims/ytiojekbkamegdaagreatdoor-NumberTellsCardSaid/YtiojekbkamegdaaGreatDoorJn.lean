/- The document's ways: which block leads to which, what is reached, joined. Of programs that are little. -/
import Derived.Test.YtiojekbkamegdaaGreatDoorJm
import Derived.Test.YtiojekbkamegdaaGreatDoorJd
set_option linter.unusedVariables false
set_option linter.unusedSimpArgs false
set_option linter.unusedSectionVars false
namespace Go.Proofs.YtiojekbkamegdaaGreatDoor
open Go.Proofs.Tryz
open Go.Proofs Go.Lib Go.Shelf Go.RowKit
theorem pl144 : Places prog 144 #[(0, 1), (1, 1)] [.int .i64 0, .int .i64 0] := ⟨_, _, underlying144, zeroValue144, fun w => by kernel_rfl, rfl⟩
theorem ps139_1 : PlacesS prog 139 144 1 2 [.int .i64 0, .int .i64 0] := ⟨_, underlying139, sizeOf144, zeroValue144, by decide, by decide, by kernel_rfl⟩
variable {E : World}
set_option maxRecDepth 20000
theorem ShapedP.dstPhi {f : PFunc} (h : ShapedP f) {b : PBlock} (hb : b ∈ f.blocks) {p : PPhi} (hp : p ∈ b.phis) : 0 ≤ p.dst ∧ p.dst < f.vars.length := by
 have := ((h.2.2.2.2.2 b hb).1 p hp).1
 simpa [hasV] using this
theorem ShapedP.dstInst {f : PFunc} (h : ShapedP f) {b : PBlock} (hb : b ∈ f.blocks) {x : PInst} (hx : x ∈ b.insts) (h0 : 0 ≤ x.dst) : x.dst < f.vars.length := by
 rcases (instP_F ((h.2.2.2.2.2 b hb).2.1 x hx)).dst with ⟨_, d⟩ | ⟨_, _, d⟩
 ·omega
 ·have : 0 ≤ x.dst ∧ x.dst < f.vars.length := by simpa [hasV] using d
  exact this.2
theorem small.evs {f : PFunc} (hf : small f) {k : Nat} (hk : k ≤ f.blocks.length) : (evTo f k).length ≤ 2000000 := by
 have h1 := evTo_len (m := 2000) (fun b hb => by have := hf.2.2.2.2 b hb; have h2 := this.2.1; have h3 := this.2.2.1; omega) k hk
 have := hf.2.2.1
 omega
set_option maxHeartbeats 4000000 in
theorem makings_own (f : PFunc) (hf : small f) (hS : ShapedP f) : ACall prog E 147 [.agg (encF f)] []
  fun x O => ∃ b : Nat, x = nref b f.vars.length ∧ O = [(0, nestO eP 139 144 b (makesR f))] := by
 have hv := hf.1
 have hn := hf.2.2.1
 refine zn func147 rfl (by decide) rfl<|zSr<|yd (cs := _) rfl rfl rfl<|z2 (zAr rfl)<|z6<|zSr<|z2 (zFF underlying26 rfl sizeOf22 rfl rfl)<|z2 (zLf isAgg22 rfl)<|z2 (zu underlying22 rfl)<|y7 (m := f.vars.length) underlying216 type139 rfl rfl rfl rfl rfl (by simp) (by simp) (by show (24 : Int) * _ ≤ _; omega) (by omega) eP 144<|fun b13 => z2 (yf (v := nref _ _) rfl)<|z6<|za<|zSr<|z2 (zFF underlying26 rfl sizeOf24 rfl rfl)<|z2 (zLf isAgg24 rfl)<|z2 (zu underlying24 rfl)<|z2 (zMi rfl)<|z6<|zf<|zz (γ := Nat) [3, 15, 16] (fun k => [(17, .int .i64 k)]) (fun k => [(0, nestO eP 139 144 b13 (rowsOf f.vars.length (evTo f k)))]) (fun k => k ≤ f.blocks.length) (fun k => f.blocks.length - k) 0 zR1 ⟨_, (.refl _), by rw [rowsOf_nil]; rfl⟩ (qm _) ?_
 rintro k hk
 refine zSr<|z2 (yc rfl rfl)<|z6<|za<|zp rfl (fun ck=>?_) (fun ck=>?_)
 ·have hk2 : k < f.blocks.length := by simp at ck; omega
  obtain ⟨b, hbk⟩ : ∃ b, f.blocks[k] = b := ⟨_, rfl⟩
  have hget : f.blocks[k]? = some b := by rw [qj hk2, hbk]
  have hmem : b ∈ f.blocks := hbk ▸ qn hk2
  obtain ⟨hb0, hb1, hb2, hb3, hb4⟩ := hf.2.2.2.2 b hmem
  have hevl := hf.evs hk
  refine zd<|za<|zf<|zSr<|z2 (zMi rfl)<|z2 (zIM k underlying24 sizeOf58 rfl rfl rfl hget)<|z2 (zl isAgg58 sizeOf58 rfl rfl)<|y4 (cs := [.str ⟨#[]⟩, .raw (.slice none 0 0), .raw (.slice none 0 0), .int .i64 0, .int .i64 0, .int .i64 0, .int .i64 0]) zeroValue58 rfl rfl<|fun i5 => z2 (zAi rfl)<|zw sizeOf58 rfl rfl rfl rfl rfl rfl .head rfl<|ze (yh (t := 5) rfl .head)<|z6<|za<|zSr<|z2 (zFF underlying58 rfl sizeOf51 rfl rfl)<|z2 (zLf isAgg51 rfl)<|z2 (zu underlying51 rfl)<|z2 (zMi rfl)<|z6<|zf<|zz (γ := Nat) [3, 4, 5, 15, 16, 17, 23, 24] (fun j => [(25, .int .i64 j)]) (fun j => [(0, nestO eP 139 144 b13 (rowsOf f.vars.length (evTo f k ++ evPh k (b.phis.take j))))]) (fun j => j ≤ b.phis.length) (fun j => b.phis.length - j) 0 zR1 ⟨_, (.refl _), by rw [show evPh k (b.phis.take 0) = [] from rfl, List.append_nil]⟩ (qm _) ?_
  rintro j hj
  refine zSr<|z2 (yc rfl rfl)<|z6<|za<|zp rfl (fun cj=>?_) (fun cj=>?_)
  ·have hj2 : j < b.phis.length := by simp at cj; omega
   obtain ⟨p, hp⟩ : ∃ p, b.phis[j] = p := ⟨_, rfl⟩
   obtain ⟨hd0, hdn⟩ := hS.dstPhi hmem (hp ▸ qn hj2)
   obtain ⟨rows, hrows⟩ : ∃ rows, rowsOf f.vars.length (evTo f k ++ evPh k (b.phis.take j)) = rows := ⟨_, rfl⟩
   have hdl : p.dst.toNat < (rowsOf f.vars.length (evTo f k ++ evPh k (b.phis.take j))).length := by rw [rowsOf_len]; omega
   have hrl := rowsOf_row hdl
   have hsucc := rowsOf_push (x := ((k : Int), (-1 : Int))) hd0 hdl
   have hrn := rowsOf_len f.vars.length (evTo f k ++ evPh k (b.phis.take j))
   have hel : (evTo f k ++ evPh k (b.phis.take j)).length ≤ 2001000 := by rw [qp, evPh, qq, qu]; omega
   rw [ql, show evPh k (b.phis.take j) ++ [(p.dst, ((k : Int), (-1 : Int)))] = evPh k (b.phis.take (j + 1)) by rw [evPh_succ k hj2, hp]] at hsucc
   simp only [hrows] at hdl hrl hsucc hrn
   rw [hrows]
   refine zd<|za<|zf<|zSr<|z2 (zIM j underlying51 sizeOf81 rfl rfl rfl (by rw [qj hj2, hp])) ?_
   refine z2 (zl isAgg81 sizeOf81 rfl rfl)<|y4 (cs := [.int .i64 0, .raw (.slice none 0 0), .raw (.slice none 0 0)]) zeroValue81 rfl rfl<|fun i7 => zw sizeOf81 rfl rfl rfl rfl rfl rfl .head rfl<|ze (yh (t := 7) rfl .head)<|z6<|yp (γ := Unit) [3, 4, 5, 15, 16, 17, 23, 24, 25] (fun u => []) (fun u => [(0, nestO eP 139 144 b13 (rows.set p.dst.toNat (rows[p.dst.toNat] ++ [((k : Int), -1)])))]) (fun u => True) ?_ (fun _ _ h => h) ?_
   ·refine yb (fun j => Nat.beq j 13) (by kernel_rfl) rfl (zq (.rest _))<|zTk 0 rfl (yj (v := nref _ _) rfl)<|zTk 1 rfl (zFF underlying81 rfl sizeOf3 rfl rfl)<|zTk 2 rfl (zLi isAgg3 rfl)<|zTk 3 rfl (yj (v := nref _ _) rfl)<|zTk 4 rfl (zFF underlying81 rfl sizeOf3 rfl rfl)<|zTk 5 rfl (zLi isAgg3 rfl)<|zTk 6 rfl (qh (j := p.dst.toNat) underlying216 sizeOf139 rfl rfl (by omega) (by omega))<|zTk 8 rfl (zMi rfl)<|zTk 9 rfl (y8 (cps := [(0, [_]), (1, [_])]) (rs := [_, _]) pl144 rfl rfl rfl)<|yq (i := 7) (j := 10) rfl rfl (by kernel_rfl) ?_ ?_
    ·refine q6 (j := p.dst.toNat) (r := rows[p.dst.toNat]) isAgg139 rfl (qj hdl) (fun _ => .head)<|fun i36 => z6<|zOn 10 rfl<|zt (rows := [[_, _]]) ps139_1 rfl rfl rfl rfl rfl<|z6<|zOn 11 rfl<|yn (k := 2) underlying139 type144 rfl rfl rfl rfl rfl (fun _ => .head) (by rw [eP.av_len]; rfl) (by decide) rfl (by show (_ + 1) * 16 ≤ _; omega) (by show _ + 1 ≤ _; omega)<|fun i40 => z6<|zTk 12 rfl (qh (j := p.dst.toNat) underlying216 sizeOf139 rfl rfl (by omega) (by omega))<|yu<|q5 (i := 13) rfl (by kernel_rfl) (by kernel_rfl)<|qi (j := p.dst.toNat) (r := rows[p.dst.toNat] ++ [((k : Int), -1)]) sizeOf139 rfl rfl (by omega) .head .head rfl (eP.av_push rows[p.dst.toNat] ((k : Int), (-1 : Int))) (by simp)<|z6<|yz (by kernel_rfl) ?_
     exact ⟨(), zR9, trivial, zLe, trivial⟩
    ·refine zt (rows := [[_, _]]) ps139_1 rfl rfl rfl rfl rfl<|z6<|zOn 7 rfl<|q6 (j := p.dst.toNat) (r := rows[p.dst.toNat]) isAgg139 rfl (qj hdl) (fun _ => .head)<|fun i36 => z6<|zOn 11 rfl<|yn (k := 2) underlying139 type144 rfl rfl rfl rfl rfl (fun _ => .head) (by rw [eP.av_len]; rfl) (by decide) rfl (by show (_ + 1) * 16 ≤ _; omega) (by show _ + 1 ≤ _; omega)<|fun i40 => z6<|zTk 12 rfl (qh (j := p.dst.toNat) underlying216 sizeOf139 rfl rfl (by omega) (by omega))<|yu<|q5 (i := 13) rfl (by kernel_rfl) (by kernel_rfl)<|qi (j := p.dst.toNat) (r := rows[p.dst.toNat] ++ [((k : Int), -1)]) sizeOf139 rfl rfl (by omega) .head .head rfl (eP.av_push rows[p.dst.toNat] ((k : Int), (-1 : Int))) (by simp)<|z6<|yz (by kernel_rfl) ?_
     exact ⟨(), zR9, trivial, zLe, trivial⟩
   ·rintro _ _
    refine zRg<|z2 (zAd rfl rfl)<|z2 (zMi rfl)<|z6 ?_
    exact ⟨j + 1, zR8, zR1, ⟨_, (.refl _), by rw [hsucc]⟩, hj2, by omega⟩
  ·have hjn : j = b.phis.length := by simp at cj; omega
   subst hjn
   rw [qo]
   refine zx<|zSr<|z2 (zFF underlying58 rfl sizeOf52 rfl rfl)<|z2 (zLf isAgg52 rfl)<|z2 (zu underlying52 rfl)<|z2 (zMi rfl)<|z6<|zf<|zz (γ := Nat) [3, 4, 15, 16, 17, 44, 45] (fun j => [(46, .int .i64 j)]) (fun j => [(0, nestO eP 139 144 b13 (rowsOf f.vars.length (evTo f k ++ evPh k b.phis ++ evIn k (b.insts.take j))))]) (fun j => j ≤ b.insts.length) (fun j => b.insts.length - j) 0 zR1 ⟨_, (.refl _), by rw [show evIn k (b.insts.take 0) = [] from rfl, List.append_nil]⟩ (qm _) ?_
   rintro j hj
   refine zSr<|z2 (yc rfl rfl)<|z6<|za<|zp rfl (fun cj=>?_) (fun cj=>?_)
   ·have hj2 : j < b.insts.length := by simp at cj; omega
    obtain ⟨p, hp⟩ : ∃ p, b.insts[j] = p := ⟨_, rfl⟩
    have hev := evIn_succ k hj2
    rw [hp] at hev
    refine zd<|za<|zf<|zSr<|z2 (zMi rfl)<|z2 (zIM j underlying52 sizeOf61 rfl rfl rfl (by rw [qj hj2, hp])) ?_
    refine z2 (zl isAgg61 sizeOf61 rfl rfl)<|y4 (cs := [.int .i64 0, .int .i64 0, .raw (.slice none 0 0), .int .i64 0]) zeroValue61 rfl rfl<|fun i9 => z2 (zAi rfl)<|zw sizeOf61 rfl rfl rfl rfl rfl rfl .head rfl<|ze (yh (t := 9) rfl .head)<|z6<|zSr<|z2 (zFF underlying61 rfl sizeOf3 rfl rfl)<|z2 (zLi isAgg3 rfl)<|z2 (Gv.geq rfl rfl)<|z6<|zr rfl (fun cd=>?_) (fun cd=>?_)
    ·have hd0 : 0 ≤ p.dst := by simpa using cd
     have hdn := hS.dstInst hmem (hp ▸ qn hj2) hd0
     rw [if_pos hd0] at hev
     obtain ⟨rows, hrows⟩ : ∃ rows, rowsOf f.vars.length (evTo f k ++ evPh k b.phis ++ evIn k (b.insts.take j)) = rows := ⟨_, rfl⟩
     have hdl : p.dst.toNat < (rowsOf f.vars.length (evTo f k ++ evPh k b.phis ++ evIn k (b.insts.take j))).length := by rw [rowsOf_len]; omega
     have hrl := rowsOf_row hdl
     have hsucc := rowsOf_push (x := ((k : Int), (j : Int))) hd0 hdl
     have hrn := rowsOf_len f.vars.length (evTo f k ++ evPh k b.phis ++ evIn k (b.insts.take j))
     have hel : (evTo f k ++ evPh k b.phis ++ evIn k (b.insts.take j)).length ≤ 2002000 := by
      have := evIn_len k (b.insts.take j)
      rw [qu] at this
      rw [qp, qp, evPh, qq]; omega
     rw [ql (evTo f k ++ evPh k b.phis) (evIn k (b.insts.take j)) [(p.dst, ((k : Int), (j : Int)))], ← hev] at hsucc
     simp only [hrows] at hdl hrl hsucc hrn
     rw [hrows]
     refine yp (γ := Unit) [3, 4, 15, 16, 17, 44, 45, 46] (fun u => []) (fun u => [(0, nestO eP 139 144 b13 (rows.set p.dst.toNat (rows[p.dst.toNat] ++ [((k : Int), (j : Int))])))]) (fun u => True) ?_ (fun _ _ h => h) ?_
     ·refine yb (fun j => Nat.beq j 14) (by kernel_rfl) rfl (zq (.rest _))<|zTk 0 rfl (yj (v := nref _ _) rfl)<|zTk 1 rfl (zFF underlying61 rfl sizeOf3 rfl rfl)<|zTk 2 rfl (zLi isAgg3 rfl)<|zTk 3 rfl (yj (v := nref _ _) rfl)<|zTk 4 rfl (zFF underlying61 rfl sizeOf3 rfl rfl)<|zTk 5 rfl (zLi isAgg3 rfl)<|zTk 6 rfl (qh (j := p.dst.toNat) underlying216 sizeOf139 rfl rfl (by omega) (by omega))<|zTk 8 rfl (zMi rfl)<|zTk 9 rfl (zMi rfl)<|zTk 10 rfl (y8 (cps := [(0, [_]), (1, [_])]) (rs := [_, _]) pl144 rfl rfl rfl)<|yq (i := 7) (j := 11) rfl rfl (by kernel_rfl) ?_ ?_
      ·refine q6 (j := p.dst.toNat) (r := rows[p.dst.toNat]) isAgg139 rfl (qj hdl) (fun _ => .head)<|fun i61 => z6<|zOn 11 rfl<|zt (rows := [[_, _]]) ps139_1 rfl rfl rfl rfl rfl<|z6<|zOn 12 rfl<|yn (k := 2) underlying139 type144 rfl rfl rfl rfl rfl (fun _ => .head) (by rw [eP.av_len]; rfl) (by decide) rfl (by show (_ + 1) * 16 ≤ _; omega) (by show _ + 1 ≤ _; omega)<|fun i66 => z6<|zTk 13 rfl (qh (j := p.dst.toNat) underlying216 sizeOf139 rfl rfl (by omega) (by omega))<|yu<|q5 (i := 14) rfl (by kernel_rfl) (by kernel_rfl)<|qi (j := p.dst.toNat) (r := rows[p.dst.toNat] ++ [((k : Int), (j : Int))]) sizeOf139 rfl rfl (by omega) .head .head rfl (eP.av_push rows[p.dst.toNat] ((k : Int), (j : Int))) (by simp)<|z6<|yz (by kernel_rfl) ?_
       exact ⟨(), zR8, trivial, zLe, trivial⟩
      ·refine zt (rows := [[_, _]]) ps139_1 rfl rfl rfl rfl rfl<|z6<|zOn 7 rfl<|q6 (j := p.dst.toNat) (r := rows[p.dst.toNat]) isAgg139 rfl (qj hdl) (fun _ => .head)<|fun i61 => z6<|zOn 12 rfl<|yn (k := 2) underlying139 type144 rfl rfl rfl rfl rfl (fun _ => .head) (by rw [eP.av_len]; rfl) (by decide) rfl (by show (_ + 1) * 16 ≤ _; omega) (by show _ + 1 ≤ _; omega)<|fun i66 => z6<|zTk 13 rfl (qh (j := p.dst.toNat) underlying216 sizeOf139 rfl rfl (by omega) (by omega))<|yu<|q5 (i := 14) rfl (by kernel_rfl) (by kernel_rfl)<|qi (j := p.dst.toNat) (r := rows[p.dst.toNat] ++ [((k : Int), (j : Int))]) sizeOf139 rfl rfl (by omega) .head .head rfl (eP.av_push rows[p.dst.toNat] ((k : Int), (j : Int))) (by simp)<|z6<|yz (by kernel_rfl) ?_
       exact ⟨(), zR8, trivial, zLe, trivial⟩
     ·rintro _ _
      refine zRg<|z2 (zAd rfl rfl)<|z2 (zMi rfl)<|z6 ?_
      exact ⟨j + 1, zR7, zR1, ⟨_, (.refl _), by rw [hsucc]⟩, hj2, by omega⟩
    ·have hd0 : ¬ 0 ≤ p.dst := by simpa using cd
     rw [if_neg hd0, List.append_nil] at hev
     refine zd<|zRg<|z2 (zAd rfl rfl)<|z2 (zMi rfl)<|z6 ?_
     exact ⟨j + 1, zR7, zR1, ⟨_, (.refl _), by rw [hev]⟩, hj2, by omega⟩
   ·have hjn : j = b.insts.length := by simp at cj; omega
    subst hjn
    rw [qo]
    refine zx<|zRg<|z2 (zAd rfl rfl)<|z2 (zMi rfl)<|z6 ?_
    exact ⟨k + 1, zR3, zR1, ⟨_, (.refl _), by rw [evTo_succ hk2, hbk, evBl, ql]⟩, hk2, by omega⟩
 ·have hkn : k = f.blocks.length := by simp at ck; omega
  subst hkn
  refine zx<|zSr<|z2 (yj (v := nref _ _) rfl)<|z2 (yf (v := nref _ _) rfl)<|z6<|zh<|zj (x := nref _ _) rfl ?_
  exact ⟨b13, rfl, rfl⟩
end Go.Proofs.YtiojekbkamegdaaGreatDoor
namespace Go.Proofs.YtiojekbkamegdaaGreatDoor
open Go.Proofs.Tryz
open Go.Proofs Go.Lib Go.Shelf Go.RowKit
variable {E : World}
set_option maxRecDepth 20000
theorem typedB_shaped {f : PFunc} (h : typedB f = true) : ShapedP f := by
 unfold typedB at h
 rw [qx, shapedB_eq] at h
 exact of_decide_eq_true h.1
theorem row0 (l : List Plc) : ((eP.av l ++ [AV.int .i64 (-1), AV.int .i64 0]).drop 0).take 2 = [AV.int .i64 (l.head?.getD (-1, 0)).1, AV.int .i64 (l.head?.getD (-1, 0)).2] := by cases l <;> rfl
theorem makings_rows {f : PFunc} (hf : small f) {v : Nat} (h : v < f.vars.length) : (makings f v).length ≤ 2000000 := by
 have h1 := rowsOf_get (evTo f f.blocks.length) h
 have h2 : v < (rowsOf f.vars.length (evTo f f.blocks.length)).length := by rw [rowsOf_len]; exact h
 have h3 := rowsOf_row h2
 have h4 := hf.evs (Nat.le_refl _)
 rw [qj h2, evTo_of] at h1
 rw [Option.some.inj h1] at h3
 omega
theorem Makers_spec (f : PFunc) (hf : small f) (hL : Letters E) (ht : typedB f = true) : AFun prog E 85 [.agg (encF f)] (.fro 2 ((makersT f).map eP.row)) := by
 have hv := hf.1
 refine zn func85 rfl (by decide) rfl<|zSr<|yd (cs := _) rfl rfl rfl<|z2 (zAr rfl)<|z6<|za<|zSr<|z2 (zl isAgg26 sizeOf26 rfl rfl)<|zk (Typed_spec f hf hL) rfl<|z2 (yi rfl rfl)<|z6<|yl rfl (by rw [ht]; rfl)<|zd<|zSr<|z2 (zAr rfl)<|z6<|za<|zSr<|z2 (zl isAgg26 sizeOf26 rfl rfl)<|y6 rfl (zq (.rest _)) (makings_own f hf (typedB_shaped ht)) ?_
 rintro r10 O10 ⟨b10, rfl, rfl⟩
 refine z2 (Gv.lenN underlying216 rfl)<|z2 (zMi rfl)<|z6<|adopt_wp (t := 3) (k := 2) (T := 144) rfl<|fun i3 => zy (GStep.nestTail .t1)<|zf<|zz (γ := Nat × Nat) [10, 11] (fun g => [(12, .int .i64 g.1), (3, .own g.2 g.1)]) (fun g => [(g.2, .grow 2 144 (((makersT f).take g.1).map eP.row).flatten), (0, nestT eP 139 144 b10 (makesR f) g.1)]) (fun g => g.1 ≤ f.vars.length) (fun g => f.vars.length - g.1) (0, i3) zR2 zLe (qm _) ?_
 rintro ⟨k, i3⟩ hk
 try dsimp only at *
 refine zSr<|z2 (yc rfl rfl)<|z6<|za<|zp rfl (fun ck=>?_) (fun ck=>?_)
 ·have hk2 : k < f.vars.length := by simp at ck; omega
  have hml := makings_rows hf hk2
  have hmt : (makersT f)[k]? = some (makerT f k) := makersT_get hk2
  have hkm : k < (makersT f).length := by rw [makersT_len]; exact hk2
  have hmk : (makersT f)[k] = makerT f k := by rw [qj hkm] at hmt; exact Option.some.inj hmt
  refine zd<|za<|zf<|zSr<|z2 (qh (j := k) underlying216 sizeOf139 rfl rfl rfl (by omega))<|AOps.nestShift isAgg139 rfl (makesR_get hk2) .t1<|fun i15 => z2 (zAo rfl)<|z6<|zSr<|z2 (zMo rfl)<|z2 (y8 (cps := [(0, [_]), (1, [_])]) (rs := [_, _]) pl144 rfl rfl rfl)<|zt (rows := [[_, _]]) ps139_1 rfl rfl rfl rfl rfl<|yn (k := 2) underlying139 type144 rfl rfl rfl rfl rfl (fun _ => .head) (by rw [eP.av_len]; rfl) (by decide) rfl (by show (_ + 1) * 16 ≤ _; omega) (by show _ + 1 ≤ _; omega)<|fun i19 => z2 (zAo rfl)<|z6<|zRg<|z2 (zMo rfl)<|z2 (zMo rfl)<|z2 (Gv.idxO (j := 0) underlying139 sizeOf144 rfl rfl rfl ⟨_, .head⟩ (by simp) (by show 0 < _ + 1; omega))<|z2 (Gv.loadAG (l := [_, _]) isAgg144 sizeOf144 rfl ⟨_, .head⟩ (by simp) (by simp) (row0 _))<|zt (rows := [[_, _]]) ps139_1 rfl rfl rfl rfl rfl<|yn (k := 2) underlying139 type144 rfl rfl rfl rfl rfl (fun _ => .t1) (by rw [grow_len (k := 2) (fun _ => rfl), qu, Nat.min_eq_left (by omega)]) (by decide) rfl (by show (_ + 1) * 16 ≤ _; omega) (by show _ + 1 ≤ _; omega)<|fun i25 => z2 (zAo rfl)<|z6<|zy (GStep.drop .head)<|zRg<|z2 (zAd rfl rfl)<|z2 (zMi rfl)<|z6 ?_
  exact ⟨(k + 1, i25), zR2, zR2, ⟨_, (.refl _), by rw [← grow_push (qk hkm), hmk]; rfl⟩, hk2, by dsimp only; omega⟩
 ·have hkn : k = f.vars.length := by simp at ck; omega
  subst hkn
  rw [show (makersT f).take f.vars.length = makersT f by rw [← makersT_len f, qo]]
  refine zx<|zSr<|z2 (zMo rfl)<|z2 (zAo rfl)<|z6<|zh ?_
  repeat (first | refine aseqQ_ret ?_ | refine ablockQ_ret ?_)
  refine GStep.fin (GStep.know (t := 2) (rows := (makersT f).map eP.row) rfl .head (by first | (intro r hr; obtain ⟨x, _, rfl⟩ := List.mem_map.1 hr; rfl) | simp [encI, encVar, encPhi, encInst, encBlk]) (by decide) (by rw [qq, makersT_len]))<|zj (x := .fro _ _) rfl ?_
  rfl
theorem once_spec (f : PFunc) (hf : small f) (hS : ShapedP f) : AFun prog E 84 [.agg (encF f)] (.bool (onceB f)) := by
 have hv := hf.1
 refine zn func84 rfl (by decide) rfl<|zSr<|yd (cs := _) rfl rfl rfl<|z2 (zAb rfl)<|z6<|za<|zSr<|z2 (zl isAgg26 sizeOf26 rfl rfl)<|y6 rfl (zq (.rest _)) (makings_own f hf hS) ?_
 rintro r6 O6 ⟨b6, rfl, rfl⟩
 refine z2 (Gv.lenN underlying216 rfl)<|z2 (zMi rfl)<|z6<|zy (GStep.nestKnow (s := 6) rfl .head (makesR_len f))<|zf<|zz (γ := Nat) [1, 6, 7] (fun k => [(8, .int .i64 k)]) (fun k => []) (fun k => k ≤ f.vars.length ∧ (List.range k).all (onceV f) = true) (fun k => f.vars.length - k) 0 zR1 zLe (⟨qm _, rfl⟩) ?_
 rintro k ⟨hk, hall⟩
 refine zSr<|z2 (yc rfl rfl)<|z6<|za<|zp rfl (fun ck=>?_) (fun ck=>?_)
 ·have hk2 : k < f.vars.length := by simp at ck; omega
  refine zd<|za<|zf<|zSr<|z2 (zMi rfl)<|z2 (zIM k underlying216 sizeOf139 rfl rfl rfl (makesR_get hk2))<|z2 (zLf isAgg139 rfl)<|z2 (zAi rfl)<|z2 (zAf rfl)<|z6<|zSr<|z2 (zMf rfl)<|z2 (zu underlying139 rfl)<|z2 (q3 rfl rfl)<|z2 (zMb rfl)<|zo (s := 16) rfl (fun c1=>?_) (fun c1=>?_)
  ·have d1 : 1 < (makings f k).length := by have h0 : (1 : Int) < ((makings f k).length : Int) := (by simpa using c1); omega
   refine z7 rfl rfl c1<|z7 rfl rfl c1<|z7 rfl rfl c1<|z7 rfl rfl c1<|zg rfl rfl<|zg rfl rfl<|zg rfl rfl<|zg rfl rfl<|zg rfl rfl<|z7 rfl rfl c1<|z2 (zPt rfl c1 rfl)<|z6<|yk rfl rfl<|zSr<|z2 (zAb rfl)<|z6<|zh<|zj (x := .bool _) rfl ?_
   rw [show onceB f = false from range_all_bad hk2 (by unfold onceV; simp [d1])]
  ·have d1 : ¬ 1 < (makings f k).length := by have h0 : ¬ (1 : Int) < ((makings f k).length : Int) := (by simpa using c1); omega
   refine z8 rfl rfl c1<|z2 (zMf rfl)<|z8 rfl rfl c1<|z2 (zu underlying139 rfl)<|z8 rfl rfl c1<|z2 (q3 rfl rfl)<|z8 rfl rfl c1<|z2 (zMb rfl)<|zo (s := 20) rfl (fun c2=>?_) (fun c2=>?_)
   ·have d2 : makings f k ≠ [] := by have h0 : 0 < (makings f k).length := (by simpa using c2); exact List.ne_nil_of_length_pos h0
    refine z8 rfl rfl c2<|z2 (zMi rfl)<|z8 rfl rfl c2<|z2 (zFF underlying26 rfl sizeOf23 rfl rfl)<|z8 rfl rfl c2<|z2 (zLf isAgg23 rfl)<|z8 rfl rfl c2<|z2 (zu underlying23 rfl)<|z8 rfl rfl c2<|z2 (yc rfl rfl)<|z8 rfl rfl c1<|z2 (zPt rfl c2 rfl)<|z2 (zPf rfl c1 rfl)<|z6<|zr rfl (fun c3=>?_) (fun c3=>?_)
    ·have d3 : k < f.params.length := by simpa using c3
     refine zSr<|z2 (zAb rfl)<|z6<|zh<|zj (x := .bool _) rfl ?_
     rw [show onceB f = false from range_all_bad hk2 (by unfold onceV; simp [d2, d3, List.length_pos_iff])]
    ·have d3 : ¬ k < f.params.length := by simpa using c3
     refine zd<|zRg<|z2 (zAd rfl rfl)<|z2 (zMi rfl)<|z6 ?_
     exact ⟨k + 1, zR3, zR1, zLe, ⟨hk2, range_all_succ hall (by unfold onceV; simp [d1, d3])⟩, by omega⟩
   ·have d2 : makings f k = [] := by simpa using c2
    refine z7 rfl rfl c2<|z7 rfl rfl c2<|z7 rfl rfl c2<|z7 rfl rfl c2<|z7 rfl rfl c2<|z8 rfl rfl c1<|z2 (zPf rfl c2 rfl)<|z2 (zPf rfl c1 rfl)<|z6<|yl rfl rfl<|zd<|zRg<|z2 (zAd rfl rfl)<|z2 (zMi rfl)<|z6 ?_
    exact ⟨k + 1, zR3, zR1, zLe, ⟨hk2, range_all_succ hall (by unfold onceV; simp [d2])⟩, by omega⟩
 ·have hkn : k = f.vars.length := by simp at ck; omega
  subst hkn
  refine zx<|zSr<|z2 (zAb rfl)<|z6<|zh<|zj (x := .bool _) rfl ?_
  rw [show onceB f = true from hall]
end Go.Proofs.YtiojekbkamegdaaGreatDoor
namespace Go.Proofs.YtiojekbkamegdaaGreatDoor
open Go.Proofs.Tryz
open Go.Proofs Go.Lib Go.Shelf Go.RowKit
variable {E : World}
set_option maxRecDepth 20000
theorem indexFuncM_spec {p : Int → Bool} {fn : FuncId} {c : List AV} (xs : List Int) (hl : xs.length ≤ 281474976710656) (hp : ∀ x ∈ xs, AFun prog E fn ([.int .i64 x] ++ c) (.bool (p x))) :
  AFun prog E 187 [.fro 1 (xs.map encI), .fn fn [] c] (.int .i64 (firstI p xs 0)) := by
 refine zn func187 rfl (by decide) rfl<|zSr<|z2 (zAi rfl)<|z6<|za<|zSr<|z2 (zMf rfl)<|z2 (zu underlying23 rfl)<|z2 (zMi rfl)<|z6<|zf<|zz (γ := Nat) [0, 1, 7] (fun k => [(8, .int .i64 k)]) (fun k => []) (fun k => k ≤ xs.length ∧ (xs.take k).all (fun x => !p x)) (fun k => xs.length - k) 0 zR1 zLe (⟨qm _, rfl⟩) ?_
 rintro k ⟨hk, hall⟩
 refine zSr<|z2 (yc rfl rfl)<|z6<|za<|zp rfl (fun ck=>?_) (fun ck=>?_)
 ·have hk2 : k < xs.length := by simp at ck; omega
  refine zd<|za<|zf<|zSr<|z2 (zMi rfl)<|z2 (zAi rfl)<|z6<|zSr<|z2 (yj (v := .fn _ _ _) rfl)<|z2 (zMf rfl)<|z2 (zMi rfl)<|z2 (zIM k underlying23 sizeOf3 rfl rfl rfl (qj hk2))<|z2 (zLi isAgg3 rfl)<|AOps.callVP rfl (hp _ (qn hk2)) rfl<|z6<|zr rfl (fun cp=>?_) (fun cp=>?_)
  ·refine zSr<|z2 (zMi rfl)<|z2 (zAi rfl)<|z6<|zh<|zj (x := .int _ _) rfl ?_
   rw [firstI_drop p xs k hk hall, List.drop_eq_getElem_cons hk2, firstI, if_pos cp]
  ·refine zd<|zRg<|z2 (zAd rfl rfl)<|z2 (zMi rfl)<|z6 ?_
   exact ⟨k + 1, zR3, zR1, zLe, ⟨hk2, by rw [qk hk2, List.all_append, hall]; simp [cp]⟩, by omega⟩
 ·have hkn : k = xs.length := by simp at ck; omega
  refine zx<|zSr<|z2 (zAi rfl)<|z6<|zh<|zj (x := .int _ _) rfl ?_
  rw [firstI_drop p xs k hk hall, hkn, List.drop_length, firstI]
theorem containsFuncM_spec {p : Int → Bool} {fn : FuncId} {c : List AV} (xs : List Int) (hl : xs.length ≤ 281474976710656) (hp : ∀ x ∈ xs, AFun prog E fn ([.int .i64 x] ++ c) (.bool (p x))) :
  AFun prog E 148 [.fro 1 (xs.map encI), .fn fn [] c] (.bool (xs.any p)) := by
 refine zn func148 rfl (by decide) rfl<|zSr<|z2 (zAb rfl)<|z6<|zSr<|z2 (zMf rfl)<|z2 (yj (v := .fn _ _ _) rfl)<|zk (indexFuncM_spec xs hl hp) rfl<|z2 (Gv.geq rfl rfl)<|z2 (zAb rfl)<|z6<|zh<|zj (x := .bool _) rfl ?_
 rw [firstI_ge]
theorem ahead_spec (f : PFunc) (hE : EndsOk f) (hn : f.blocks.length ≤ 1000) (m : Plc) (b a : Int) (x y : AV) : AFun prog E 141 [treeV f x y, .agg [.int .i64 m.1, .int .i64 m.2], .int .i64 b, .int .i64 a] (.bool (aheadB f m b a)) := by
 refine zn func141 rfl (by decide) rfl<|zSr<|yd (cs := _) rfl rfl rfl<|z2 (zAb rfl)<|z6<|za<|zf<|zSr<|z2 (zFF underlying144 rfl sizeOf3 rfl rfl)<|z2 (zLi isAgg3 rfl)<|z2 (yc rfl rfl)<|z2 (zAb rfl)<|z6<|zp rfl (fun c0=>?_) (fun c0=>?_)
 ·refine zSr<|z2 (zAb rfl)<|z6<|zh<|zj (x := .bool _) rfl ?_
  rw [aheadB, if_pos c0]
 ·refine zSr<|z2 (zFF underlying144 rfl sizeOf3 rfl rfl)<|z2 (zLi isAgg3 rfl)<|z2 (zMi rfl)<|z2 (y9 rfl rfl)<|z2 (zAb rfl)<|z6<|zr rfl (fun c1=>?_) (fun c1=>?_)
  ·have d1 : m.1 = b := by simpa using c1
   refine zSr<|z2 (zFF underlying144 rfl sizeOf3 rfl rfl)<|z2 (zLi isAgg3 rfl)<|z2 (zMi rfl)<|z2 (yc rfl rfl)<|z2 (zAb rfl)<|z6<|zh<|zj (x := .bool _) rfl ?_
   rw [aheadB, if_neg c0, if_pos d1]
  ·have d1 : ¬ m.1 = b := by simpa using c1
   refine zd<|zSr<|z2 (zMg rfl)<|z2 (zFF underlying144 rfl sizeOf3 rfl rfl)<|z2 (zLi isAgg3 rfl)<|z2 (zMi rfl)<|zk (Over_spec f hE hn m.1 b x y) rfl<|z2 (zAb rfl)<|z6<|zh<|zj (x := .bool _) rfl ?_
   rw [aheadB, if_neg c0, if_neg d1]
theorem makers_idx {f : PFunc} {v : Int} (h : hasV f v = true) : 0 ≤ v ∧ (makersT f)[v.toNat]? = some (makerT f v) := by
 have h1 : 0 ≤ v ∧ v < f.vars.length := by simpa [hasV] using h
 refine ⟨h1.1, ?_⟩
 have := makersT_get (f := f) (v := v.toNat) (by omega)
 rwa [show ((v.toNat : Nat) : Int) = v by omega] at this
theorem behind1_spec (f : PFunc) (hE : EndsOk f) (hn : f.blocks.length ≤ 1000) (i k : Nat) (v : Int) (hv : hasV f v = true) (x y : AV) :
  AFun prog E 149 ([.int .i64 v] ++ [.pf [treeV f x y], .pf [.fro 2 ((makersT f).map eP.row)], .pf [.int .i64 i], .pf [.int .i64 k]]) (.bool (!aheadB f (makerT f v) i k)) := by
 obtain ⟨hv0, hvg⟩ := makers_idx hv
 refine zn func149 rfl (by decide) rfl<|zSr<|z2 (zAb rfl)<|z6<|za<|yb (fun j => false) (by kernel_rfl) rfl (zq (.rest _))<|zTk 0 rfl (yv (c := .pf _) isAgg83 rfl)<|zTk 1 rfl (zLf isAgg139 rfl)<|zTk 2 rfl (zMi rfl)<|zTk 3 rfl (zIM v.toNat underlying139 sizeOf144 rfl rfl (by omega) hvg)<|zTk 4 rfl (zl isAgg144 sizeOf144 rfl rfl)<|zTk 5 rfl (zLi isAgg3 rfl)<|zTk 6 rfl (zLi isAgg3 rfl)<|zOn 7 rfl<|zk (ahead_spec f hE hn (makerT f v) i k x y) rfl<|z6<|zTk 8 rfl (yo rfl)<|zTk 9 rfl (zAb rfl)<|zDn<|zh<|zj (x := .bool _) rfl ?_
 rfl
set_option maxHeartbeats 4000000 in
theorem behind_spec (f : PFunc) (hE : EndsOk f) (hf : small f) (hS : ShapedP f) (i : Nat) (hi : i < f.blocks.length) (x y : AV) :
  AFun prog E 86 [.agg (encF f), treeV f x y, .fro 2 ((makersT f).map eP.row), .int .i64 i] (.bool (atA f i)) := by
 have hn := hf.2.2.1
 obtain ⟨b, hbk⟩ : ∃ b, f.blocks[i] = b := ⟨_, rfl⟩
 have hget : f.blocks[i]? = some b := by rw [qj hi, hbk]
 have hmem : b ∈ f.blocks := hbk ▸ qn hi
 obtain ⟨hb0, hb1, hb2, hb3, hb4⟩ := hf.2.2.2.2 b hmem
 obtain ⟨hPh, hIn, hTm⟩ := hS.2.2.2.2.2 b hmem
 rw [atA_at hget]
 refine zn func86 rfl (by decide) rfl<|zSr<|yd (cs := _) rfl rfl rfl<|yd (cs := [_]) rfl rfl rfl<|yd (cs := [_]) rfl rfl rfl<|yd (cs := [_]) rfl rfl rfl<|z2 (zAb rfl)<|z6<|zSr<|z2 (zFF underlying26 rfl sizeOf24 rfl rfl)<|z2 (zLf isAgg24 rfl)<|z2 (zLi isAgg3 rfl)<|z2 (zIM i underlying24 sizeOf58 rfl rfl rfl hget)<|z2 (zl isAgg58 sizeOf58 rfl rfl)<|y4 (cs := [.str ⟨#[]⟩, .raw (.slice none 0 0), .raw (.slice none 0 0), .int .i64 0, .int .i64 0, .int .i64 0, .int .i64 0]) zeroValue58 rfl rfl<|fun i9 => zw sizeOf58 rfl rfl rfl rfl rfl rfl .head rfl<|ze (yh (t := 9) rfl .head)<|z6<|za<|zSr<|z2 (zFF underlying58 rfl sizeOf51 rfl rfl)<|z2 (zLf isAgg51 rfl)<|z2 (zu underlying51 rfl)<|z2 (zMi rfl)<|z6<|zf<|zz (γ := Nat) [4, 5, 6, 7, 9, 23, 24] (fun j => [(25, .int .i64 j)]) (fun j => []) (fun j => j ≤ b.phis.length ∧ (b.phis.take j).all (phA f) = true) (fun j => b.phis.length - j) 0 zR1 zLe (⟨qm _, rfl⟩) ?_
 rintro j ⟨hj, hjall⟩
 refine zSr<|z2 (yc rfl rfl)<|z6<|za<|zp rfl (fun cj=>?_) (fun cj=>?_)
 ·have hj2 : j < b.phis.length := by simp at cj; omega
  obtain ⟨p, hp⟩ : ∃ p, b.phis[j] = p := ⟨_, rfl⟩
  have hpm : p ∈ b.phis := hp ▸ qn hj2
  obtain ⟨hpd, hpl, hpn, hpa, hpf⟩ := hPh p hpm
  have hpb := hb3 p hpm
  refine zd<|za<|zf<|zSr<|z2 (zIM j underlying51 sizeOf81 rfl rfl rfl (by rw [qj hj2, hp])) ?_
  refine z2 (zl isAgg81 sizeOf81 rfl rfl)<|y4 (cs := [.int .i64 0, .raw (.slice none 0 0), .raw (.slice none 0 0)]) zeroValue81 rfl rfl<|fun i11 => zw sizeOf81 rfl rfl rfl rfl rfl rfl .head rfl<|ze (yh (t := 11) rfl .head)<|z6<|zSr<|z2 (zFF underlying81 rfl sizeOf23 rfl rfl)<|z2 (zLf isAgg23 rfl)<|z2 (zu underlying23 rfl)<|z2 (zMi rfl)<|z6<|zf<|zz (γ := Nat) [4, 5, 6, 7, 9, 11, 23, 24, 25, 30, 31] (fun k => [(32, .int .i64 k)]) (fun k => []) (fun k => k ≤ p.args.length ∧ ((p.args.zip p.from_).take k).all (fun q => aheadB f (makerT f q.1) q.2 (lenAt f q.2)) = true) (fun k => p.args.length - k) 0 zR1 zLe (⟨qm _, rfl⟩) ?_
  rintro k ⟨hk, hkall⟩
  refine zSr<|z2 (yc rfl rfl)<|z6<|za<|zp rfl (fun ck=>?_) (fun ck=>?_)
  ·have hk2 : k < p.args.length := by simp at ck; omega
   have hk3 : k < p.from_.length := by omega
   obtain ⟨v, hv⟩ : ∃ v, p.args[k] = v := ⟨_, rfl⟩
   obtain ⟨c, hc⟩ : ∃ c, p.from_[k] = c := ⟨_, rfl⟩
   obtain ⟨hv0, hvg⟩ := makers_idx (List.all_eq_true.1 hpa v (hv ▸ qn hk2))
   have hcr : 0 ≤ c ∧ c < f.blocks.length := by have := List.all_eq_true.1 hpf c (hc ▸ qn hk3); simpa [hasB] using this
   obtain ⟨d, hd⟩ : ∃ d, f.blocks[c.toNat]'(by omega) = d := ⟨_, rfl⟩
   have hdg : f.blocks[c.toNat]? = some d := by rw [qj (by omega), hd]
   have hla : lenAt f c = d.insts.length := by unfold lenAt; rw [hdg]; rfl
   have hz : k < (p.args.zip p.from_).length := by rw [List.length_zip]; omega
   have hzk : (p.args.zip p.from_)[k] = (v, c) := by rw [List.getElem_zip, hv, hc]
   refine zd<|za<|zf<|zSr<|z2 (zMi rfl)<|z2 (zIM k underlying23 sizeOf3 rfl rfl rfl (by rw [qj hk2, hv])) ?_
   refine z2 (zLi isAgg3 rfl)<|z2 (zAi rfl)<|z2 (zAi rfl)<|z6<|zSr<|z2 (zFF underlying81 rfl sizeOf23 rfl rfl)<|z2 (zLf isAgg23 rfl)<|z2 (zMi rfl)<|z2 (zIM k underlying23 sizeOf3 rfl rfl rfl (by rw [qj hk3, hc])) ?_
   refine z2 (zLi isAgg3 rfl)<|z2 (zAi rfl)<|z6<|za<|yb (fun j => false) (by kernel_rfl) rfl (zq (.rest _))<|zTk 0 rfl (yv (c := .pf _) isAgg83 rfl)<|zTk 1 rfl (zLf isAgg139 rfl)<|zTk 2 rfl (zMi rfl)<|zTk 3 rfl (zIM v.toNat underlying139 sizeOf144 rfl rfl (by omega) hvg)<|zTk 4 rfl (zl isAgg144 sizeOf144 rfl rfl)<|zTk 5 rfl (zMi rfl)<|zTk 6 rfl (zFF underlying26 rfl sizeOf24 rfl rfl)<|zTk 7 rfl (zLf isAgg24 rfl)<|zTk 8 rfl (zMi rfl)<|zTk 9 rfl (zIM c.toNat underlying24 sizeOf58 rfl rfl (by omega) hdg)<|zTk 10 rfl (zFF underlying58 rfl sizeOf52 rfl rfl)<|zTk 11 rfl (zLf isAgg52 rfl)<|zTk 12 rfl (zu underlying52 rfl)<|zOn 13 rfl<|zk (ahead_spec f hE hn (makerT f v) c d.insts.length x y) rfl<|z6<|zTk 14 rfl (yo rfl)<|zDn<|zr rfl (fun cq=>?_) (fun cq=>?_)
   ·have hq : aheadB f (makerT f v) c (lenAt f c) = false := by rw [hla]; simpa using cq
    refine zSr<|z2 (zAb rfl)<|z6<|zh<|zj (x := .bool _) rfl ?_
    rw [blkA, show b.phis.all (phA f) = false from Bool.eq_false_iff.2 (all_bad hj2 (by rw [hp]; unfold phA; exact Bool.eq_false_iff.2 (all_bad hz (by rw [hzk]; exact hq))))]; rfl
   ·have hq : aheadB f (makerT f v) c (lenAt f c) = true := by rw [hla]; simpa using cq
    refine zd<|zRg<|z2 (zAd rfl rfl)<|z2 (zMi rfl)<|z6 ?_
    exact ⟨k + 1, zR11, zR1, zLe, ⟨hk2, all_take hz hkall (by rw [hzk]; exact hq)⟩, by omega⟩
  ·have hkn : k = p.args.length := by simp at ck; omega
   have hzl : (p.args.zip p.from_).length = p.args.length := by rw [List.length_zip]; omega
   rw [hkn, ← hzl, qo] at hkall
   refine zx<|zRg<|z2 (zAd rfl rfl)<|z2 (zMi rfl)<|z6 ?_
   exact ⟨j + 1, zR7, zR1, zLe, ⟨hj2, all_take hj2 hjall (by rw [hp]; exact hkall)⟩, by omega⟩
 ·have hjn : j = b.phis.length := by simp at cj; omega
  subst hjn
  rw [qo] at hjall
  refine zx<|za<|zSr<|z2 (zFF underlying58 rfl sizeOf52 rfl rfl)<|z2 (zLf isAgg52 rfl)<|z2 (zu underlying52 rfl)<|z2 (zMi rfl)<|z6<|zf<|zz (γ := Nat) [5, 6, 7, 9, 60, 61] (fun k => [(62, .int .i64 k)]) (fun k => []) (fun k => k ≤ b.insts.length ∧ ((b.insts.zipIdx).take k).all (inA f i) = true) (fun k => b.insts.length - k) 0 zR1 zLe (⟨qm _, rfl⟩) ?_
  rintro k ⟨hk, hkall⟩
  refine zSr<|z2 (yc rfl rfl)<|z6<|za<|zp rfl (fun ck=>?_) (fun ck=>?_)
  ·have hk2 : k < b.insts.length := by simp at ck; omega
   obtain ⟨z, hzk⟩ : ∃ z, b.insts[k] = z := ⟨_, rfl⟩
   have hzm : z ∈ b.insts := hzk ▸ qn hk2
   have hI := instP_F (hIn z hzm)
   have hzl := hb4 z hzm
   have hzi : k < b.insts.zipIdx.length := by simp; exact hk2
   have hze : b.insts.zipIdx[k] = (z, k) := by simp [hzk]
   refine zd<|za<|zf<|zSr<|z2 (zMi rfl)<|z2 (zIM k underlying52 sizeOf61 rfl rfl rfl (by rw [qj hk2, hzk])) ?_
   refine z2 (zl isAgg61 sizeOf61 rfl rfl)<|y4 (cs := [.int .i64 0]) zeroValue3 rfl rfl<|fun i15 => y4 (cs := [.int .i64 0, .int .i64 0, .raw (.slice none 0 0), .int .i64 0]) zeroValue61 rfl rfl<|fun i16 => zw sizeOf3 rfl rfl rfl rfl rfl rfl .t1 rfl<|ze (yh (t := 15) rfl .t1)<|zw sizeOf61 rfl rfl rfl rfl rfl rfl .head rfl<|ze (yh (t := 16) rfl .head)<|z6<|zSr<|z2 (zFF underlying61 rfl sizeOf23 rfl rfl)<|z2 (zLf isAgg23 rfl)<|z2 (Gv.func rfl rfl)<|zk (containsFuncM_spec z.args (by omega) (fun v hv => behind1_spec f hE hn i k v (hI.args v hv) x y)) rfl<|z6<|zr rfl (fun cq=>?_) (fun cq=>?_)
   ·have hq : inA f i (z, k) = false := by
     unfold inA
     rw [Bool.eq_false_iff]; intro h
     obtain ⟨v, hv1, hv2⟩ := List.any_eq_true.1 (show (z.args.any fun v => !aheadB f (makerT f v) i k) = true by simpa using cq)
     have := List.all_eq_true.1 h v hv1
     rw [this] at hv2; cases hv2
    refine zSr<|z2 (zAb rfl)<|z6<|zh<|zj (x := .bool _) rfl ?_
    rw [blkA, hjall, show b.insts.zipIdx.all (inA f i) = false from Bool.eq_false_iff.2 (all_bad hzi (by rw [hze]; exact hq))]; rfl
   ·have hq : inA f i (z, k) = true := by
     unfold inA
     rw [qy]; intro v hv
     have h0 : (z.args.any fun v => !aheadB f (makerT f v) i k) = false := by simpa using cq
     have := List.any_eq_false.1 h0 v hv
     simpa using this
    refine zd<|zRg<|z2 (zAd rfl rfl)<|z2 (zMi rfl)<|z6 ?_
    exact ⟨k + 1, zR6, zR1, zLe, ⟨hk2, all_take hzi hkall (by rw [hze]; exact hq)⟩, by omega⟩
  ·have hkn : k = b.insts.length := by simp at ck; omega
   rw [hkn, show b.insts.length = b.insts.zipIdx.length by simp, qo] at hkall
   refine zx<|za<|yb (fun j => false) (by kernel_rfl) rfl (zq (.rest _))<|zTk 0 rfl (zFF underlying58 rfl sizeOf56 rfl rfl)<|zTk 1 rfl (zFF underlying56 rfl sizeOf53 rfl rfl)<|zTk 2 rfl (zLi isAgg53 rfl)<|zTk 3 rfl (y9 rfl rfl)<|zTk 4 rfl (zMb rfl)<|AAny.case (s := 76) rfl (fun c0=>?_) (fun c0=>?_)
   ·have d0 : b.term.kind = 0 := by simpa using c0
    refine zTf 5 rfl rfl rfl c0<|zTf 6 rfl rfl rfl c0<|zTf 7 rfl rfl rfl c0<|zTf 8 rfl rfl rfl c0<|zTf 9 rfl rfl rfl c0<|zTf 10 rfl rfl rfl c0<|zTf 11 rfl rfl rfl c0<|zTf 12 rfl rfl rfl c0<|zTf 13 rfl rfl rfl c0<|zTf 14 rfl rfl rfl c0<|zTf 15 rfl rfl rfl c0<|zTf 16 rfl rfl rfl c0<|zTk 17 rfl (zPt rfl c0 rfl)<|zTk 18 rfl (zAb rfl)<|zDn<|zh<|zj (x := .bool _) rfl ?_
    rw [blkA, hjall, hkall, tmA, d0]; rfl
   ·have d0 : ¬ b.term.kind = 0 := by simpa using c0
    obtain ⟨hv0, hvg⟩ := makers_idx (term_var hTm d0)
    refine zTt 5 rfl rfl rfl c0 (yv (c := .pf _) isAgg83 rfl)<|zTt 6 rfl rfl rfl c0 (zLf isAgg139 rfl)<|zTt 7 rfl rfl rfl c0 (zFF underlying58 rfl sizeOf56 rfl rfl)<|zTt 8 rfl rfl rfl c0 (zFF underlying56 rfl sizeOf3 rfl rfl)<|zTt 9 rfl rfl rfl c0 (zLi isAgg3 rfl)<|zTt 10 rfl rfl rfl c0 (zIM b.term.var.toNat underlying139 sizeOf144 rfl rfl (by omega) hvg)<|zTt 11 rfl rfl rfl c0 (zl isAgg144 sizeOf144 rfl rfl)<|zTt 12 rfl rfl rfl c0 (zLi isAgg3 rfl)<|zTt 13 rfl rfl rfl c0 (zFF underlying58 rfl sizeOf52 rfl rfl)<|zTt 14 rfl rfl rfl c0 (zLf isAgg52 rfl)<|zTt 15 rfl rfl rfl c0 (zu underlying52 rfl)<|zOn 16 rfl<|z8 rfl rfl c0<|zk (ahead_spec f hE hn (makerT f b.term.var) i b.insts.length x y) rfl<|z6<|zTk 17 rfl (zPf rfl c0 rfl)<|zTk 18 rfl (zAb rfl)<|zDn<|zh<|zj (x := .bool _) rfl ?_
    rw [blkA, hjall, hkall, tmA, qw d0]; rfl
theorem SingRight_spec (f : PFunc) (hf : small f) (hL : Letters E) : AFun prog E 39 [.agg (encF f)] (.int .i64 (if (typedB f && singB f) = true then 0 else 3)) := by
 have hn := hf.2.2.1
 refine zn func39 rfl (by decide) rfl<|zSr<|yd (cs := _) rfl rfl rfl<|z2 (zAi rfl)<|z6<|za<|zSr<|z2 (zl isAgg26 sizeOf26 rfl rfl)<|zk (joinedX_spec f hf hL) rfl<|z2 (yi rfl rfl)<|z2 (zMb rfl)<|zo (s := 10) rfl (fun c1=>?_) (fun c1=>?_)
 ·have d1 : (typedB f && joinedB f) = false := by
   cases h : (typedB f && joinedB f) with
   | false => rfl
   | true => rw [h] at c1; simp at c1
  refine z7 rfl rfl c1<|z7 rfl rfl c1<|z7 rfl rfl c1<|z2 (zPt rfl c1 rfl)<|z2 (zMb rfl)<|z7 rfl rfl rfl<|z7 rfl rfl rfl<|z7 rfl rfl rfl<|z2 (zPt rfl rfl rfl)<|z6<|yk rfl rfl<|zSr<|z2 (zAi rfl)<|z6<|zh<|zj (x := .int _ _) rfl ?_
  rw [show (typedB f && singB f) = false by unfold singB; cases h : typedB f <;> simp_all]; rfl
 ·have d1 : (typedB f && joinedB f) = true := by
   cases h : (typedB f && joinedB f) with
   | true => rfl
   | false => rw [h] at c1; simp at c1
  have ht : typedB f = true := by simp at d1; exact d1.1
  have hj : joinedB f = true := by simp at d1; exact d1.2
  have hE := typedB_ends ht
  have hS := typedB_shaped ht
  refine z8 rfl rfl c1<|z2 (zl isAgg26 sizeOf26 rfl rfl)<|z8 rfl rfl c1<|zk (reachX_spec f hf hL ht) rfl<|z8 rfl rfl c1<|zk (containsB_spec (reachB (EndsOf f) f.blocks.length) false (by rw [reachB_len]; omega)) rfl<|z2 (zPf rfl c1 rfl)<|z2 (zMb rfl)<|zo (s := 15) rfl (fun c2=>?_) (fun c2=>?_)
  ·refine z7 rfl rfl c2<|z7 rfl rfl c2<|z7 rfl rfl c2<|z2 (zPt rfl c2 rfl)<|z6<|yk rfl rfl<|zSr<|z2 (zAi rfl)<|z6<|zh<|zj (x := .int _ _) rfl ?_
   rw [show singB f = false by unfold singB; simp_all]; simp
  ·refine z8 rfl rfl c2<|z2 (zl isAgg26 sizeOf26 rfl rfl)<|z8 rfl rfl c2<|zk (once_spec f hf hS) rfl<|z8 rfl rfl c2<|z2 (yo rfl)<|z2 (zPf rfl c2 rfl)<|z6<|zr rfl (fun c3=>?_) (fun c3=>?_)
   ·refine zSr<|z2 (zAi rfl)<|z6<|zh<|zj (x := .int _ _) rfl ?_
    rw [show singB f = false by unfold singB; simp_all]; simp
   ·refine zd<|zSr<|z2 (zl isAgg26 sizeOf26 rfl rfl)<|zk (New_spec f hf hL ht) rfl<|z2 (zMu rfl)<|z2 (qb (v := .pf _) rfl rfl)<|z2 (zXi rfl rfl)<|z2 (yf (v := .pf _) rfl)<|z2 (zAi rfl)<|z6<|za<|zSr<|z2 (zMi rfl)<|z2 (yi rfl rfl)<|z6<|yl rfl rfl<|zd<|zSr<|z2 (zl isAgg26 sizeOf26 rfl rfl)<|zk (Makers_spec f hf hL ht) rfl<|z2 (zAf rfl)<|z6<|za<|zSr<|z2 (zFF underlying26 rfl sizeOf24 rfl rfl)<|z2 (zLf isAgg24 rfl)<|z2 (zu underlying24 rfl)<|z2 (zMi rfl)<|z6<|zf<|zz (γ := Nat) [1, 3, 5, 32] (fun k => [(33, .int .i64 k)]) (fun k => []) (fun k => k ≤ f.blocks.length ∧ (List.range k).all (atA f) = true) (fun k => f.blocks.length - k) 0 zR1 zLe (⟨qm _, rfl⟩) ?_
    rintro k ⟨hk, hall⟩
    refine zSr<|z2 (yc rfl rfl)<|z6<|za<|zp rfl (fun ck=>?_) (fun ck=>?_)
    ·have hk2 : k < f.blocks.length := by simp at ck; omega
     refine zd<|za<|zf<|zSr<|z2 (zMi rfl)<|z2 (zAi rfl)<|z6<|zSr<|z2 (zl isAgg26 sizeOf26 rfl rfl)<|z2 (zMg rfl)<|z2 (zMf rfl)<|z2 (zMi rfl)<|zk (behind_spec f hE hf hS k hk2 (froN eI (kidsR f)) .any) rfl<|z2 (yo rfl)<|z6<|zr rfl (fun cq=>?_) (fun cq=>?_)
     ·refine zSr<|z2 (zAi rfl)<|z6<|zh<|zj (x := .int _ _) rfl ?_
      rw [show singB f = false by unfold singB; rw [show behB f = false from range_all_bad hk2 (by simpa using cq)]; simp]; simp
     ·refine zd<|zRg<|z2 (zAd rfl rfl)<|z2 (zMi rfl)<|z6 ?_
      exact ⟨k + 1, zR4, zR1, zLe, ⟨hk2, range_all_succ hall (by simpa using cq)⟩, by omega⟩
    ·have hkn : k = f.blocks.length := by simp at ck; omega
     subst hkn
     refine zx<|zSr<|z2 (zAi rfl)<|z6<|zh<|zj (x := .int _ _) rfl ?_
     rw [ht, show singB f = true by unfold singB; rw [show behB f = true from hall]; simp_all]; rfl
end Go.Proofs.YtiojekbkamegdaaGreatDoor
namespace Go.Proofs.YtiojekbkamegdaaGreatDoor
open Go.Proofs.Tryz
open Go.Proofs Go.Lib Go.Shelf Go.RowKit
variable {E : World}
set_option maxRecDepth 20000
theorem mem_endsL (t : PTerm) (b : Int) : b ∈ endsL t ↔ (t.kind = 0 ∧ t.to0 = b) ∨ (t.kind = 1 ∧ (t.to0 = b ∨ t.to1 = b)) := by
 unfold endsL
 by_cases h0 : t.kind = 0
 ·rw [if_pos h0]; simp [h0]; exact eq_comm
 ·rw [if_neg h0]
  by_cases h1 : t.kind = 1
  ·rw [if_pos h1]
   by_cases h2 : t.to0 = t.to1
   ·rw [if_pos h2]; simp [h1, h2]; exact eq_comm
   ·rw [if_neg h2]; simp [h1]
    constructor
    ·rintro (h | h); exact .inl h.symm; exact .inr h.symm
    ·rintro (h | h); exact .inl h.symm; exact .inr h.symm
  ·rw [if_neg h1]; simp [h0, h1]
theorem leads_spec (f : PFunc) (hn : f.blocks.length ≤ 1000) (a b : Int) (h0 : 0 ≤ a) (ha : a < f.blocks.length) : AFun prog E 117 [.agg (encF f), .int .i64 a, .int .i64 b] (.bool (decide (b ∈ EndsOf f a))) := by
 obtain ⟨c, hc⟩ : ∃ c, f.blocks[a.toNat]'(by omega) = c := ⟨_, rfl⟩
 have hget : f.blocks[a.toNat]? = some c := by rw [qj (by omega), hc]
 have hE : EndsOf f a = endsL c.term := by rw [EndsOf_get h0 (by omega), hc]
 rw [hE]
 refine zn func117 rfl (by decide) rfl<|zSr<|yd (cs := _) rfl rfl rfl<|z2 (zAb rfl)<|z6<|zSr<|z2 (zFF underlying26 rfl sizeOf24 rfl rfl)<|z2 (zLf isAgg24 rfl)<|z2 (zMi rfl)<|z2 (zIM a.toNat underlying24 sizeOf58 rfl rfl (by omega) hget)<|z2 (zFF underlying58 rfl sizeOf56 rfl rfl)<|z2 (zl isAgg56 sizeOf56 rfl rfl)<|y4 (cs := [.int .i64 0, .int .i64 0, .int .i64 0, .int .i64 0]) zeroValue56 rfl rfl<|fun i7 => zw sizeOf56 rfl rfl rfl rfl rfl rfl .head rfl<|ze (yh (t := 7) rfl .head)<|z6<|zSr<|z2 (zFF underlying56 rfl sizeOf53 rfl rfl)<|z2 (zLi isAgg53 rfl)<|z2 (y9 rfl rfl)<|z2 (zMb rfl)<|zo (s := 17) rfl (fun c1=>?_) (fun c1=>?_)
 ·refine z8 rfl rfl c1<|z2 (zFF underlying56 rfl sizeOf54 rfl rfl)<|z8 rfl rfl c1<|z2 (yx (j := 0) underlying54 sizeOf3 rfl rfl rfl (by decide) rfl)<|z8 rfl rfl c1<|z2 (zLi isAgg3 rfl)<|z8 rfl rfl c1<|z2 (zMi rfl)<|z8 rfl rfl c1<|z2 (y9 rfl rfl)<|z2 (zPt rfl c1 rfl)<|z2 (zMb rfl)<|zo (s := 24) rfl (fun c2=>?_) (fun c2=>?_)
  ·refine z7 rfl rfl c2<|z7 rfl rfl c2<|z7 rfl rfl c2<|z7 rfl rfl c2<|zg rfl rfl<|zg rfl rfl<|zg rfl rfl<|zg rfl rfl<|zg rfl rfl<|zg rfl rfl<|zg rfl rfl<|zg rfl rfl<|zg rfl rfl<|zg rfl rfl<|zg rfl rfl<|zg rfl rfl<|z7 rfl rfl c2<|z2 (zPt rfl c2 rfl)<|z2 (zAb rfl)<|z6<|zh<|zj (x := .bool _) rfl<|congrArg AV.bool ?_; rw [Bool.eq_iff_iff]; simp only [qz, mem_endsL]; simp_all
  ·refine z8 rfl rfl c2<|z2 (zFF underlying56 rfl sizeOf53 rfl rfl)<|z8 rfl rfl c2<|z2 (zLi isAgg53 rfl)<|z8 rfl rfl c2<|z2 (y9 rfl rfl)<|z8 rfl rfl c2<|z2 (zMb rfl)<|zo (s := 28) rfl (fun c3=>?_) (fun c3=>?_)
   ·refine z8 rfl rfl c3<|z2 (zFF underlying56 rfl sizeOf54 rfl rfl)<|z8 rfl rfl c3<|z2 (yx (j := 0) underlying54 sizeOf3 rfl rfl rfl (by decide) rfl)<|z8 rfl rfl c3<|z2 (zLi isAgg3 rfl)<|z8 rfl rfl c3<|z2 (zMi rfl)<|z8 rfl rfl c3<|z2 (y9 rfl rfl)<|z8 rfl rfl c3<|z2 (zMb rfl)<|zo (s := 34) rfl (fun c4=>?_) (fun c4=>?_)
    ·refine z7 rfl rfl c4<|z7 rfl rfl c4<|z7 rfl rfl c4<|z7 rfl rfl c4<|z7 rfl rfl c4<|z8 rfl rfl c3<|z2 (zPt rfl c4 rfl)<|z8 rfl rfl c2<|z2 (zPt rfl c3 rfl)<|z2 (zPf rfl c2 rfl)<|z2 (zAb rfl)<|z6<|zh<|zj (x := .bool _) rfl<|congrArg AV.bool ?_; rw [Bool.eq_iff_iff]; simp only [qz, mem_endsL]; simp_all
    ·refine z8 rfl rfl c4<|z2 (zFF underlying56 rfl sizeOf54 rfl rfl)<|z8 rfl rfl c4<|z2 (yx (j := 1) underlying54 sizeOf3 rfl rfl rfl (by decide) rfl)<|z8 rfl rfl c4<|z2 (zLi isAgg3 rfl)<|z8 rfl rfl c4<|z2 (zMi rfl)<|z8 rfl rfl c4<|z2 (y9 rfl rfl)<|z8 rfl rfl c3<|z2 (zPf rfl c4 rfl)<|z8 rfl rfl c2<|z2 (zPt rfl c3 rfl)<|z2 (zPf rfl c2 rfl)<|z2 (zAb rfl)<|z6<|zh<|zj (x := .bool _) rfl<|congrArg AV.bool ?_; rw [Bool.eq_iff_iff]; simp only [qz, mem_endsL]; simp_all
   ·refine z7 rfl rfl c3<|z7 rfl rfl c3<|z7 rfl rfl c3<|z7 rfl rfl c3<|z7 rfl rfl c3<|z7 rfl rfl c3<|zg rfl rfl<|zg rfl rfl<|zg rfl rfl<|zg rfl rfl<|zg rfl rfl<|z7 rfl rfl c3<|z8 rfl rfl c2<|z2 (zPf rfl c3 rfl)<|z2 (zPf rfl c2 rfl)<|z2 (zAb rfl)<|z6<|zh<|zj (x := .bool _) rfl<|congrArg AV.bool ?_; rw [Bool.eq_iff_iff]; simp only [qz, mem_endsL]; simp_all
 ·refine z7 rfl rfl c1<|z7 rfl rfl c1<|z7 rfl rfl c1<|z7 rfl rfl c1<|z7 rfl rfl c1<|z2 (zPf rfl c1 rfl)<|z2 (zMb rfl)<|z8 rfl rfl rfl<|z2 (zFF underlying56 rfl sizeOf53 rfl rfl)<|z8 rfl rfl rfl<|z2 (zLi isAgg53 rfl)<|z8 rfl rfl rfl<|z2 (y9 rfl rfl)<|z8 rfl rfl rfl<|z2 (zMb rfl)<|zo (s := 28) rfl (fun c5=>?_) (fun c5=>?_)
  ·refine z8 rfl rfl c5<|z2 (zFF underlying56 rfl sizeOf54 rfl rfl)<|z8 rfl rfl c5<|z2 (yx (j := 0) underlying54 sizeOf3 rfl rfl rfl (by decide) rfl)<|z8 rfl rfl c5<|z2 (zLi isAgg3 rfl)<|z8 rfl rfl c5<|z2 (zMi rfl)<|z8 rfl rfl c5<|z2 (y9 rfl rfl)<|z8 rfl rfl c5<|z2 (zMb rfl)<|zo (s := 34) rfl (fun c6=>?_) (fun c6=>?_)
   ·refine z7 rfl rfl c6<|z7 rfl rfl c6<|z7 rfl rfl c6<|z7 rfl rfl c6<|z7 rfl rfl c6<|z8 rfl rfl c5<|z2 (zPt rfl c6 rfl)<|z8 rfl rfl rfl<|z2 (zPt rfl c5 rfl)<|z2 (zPf rfl rfl rfl)<|z2 (zAb rfl)<|z6<|zh<|zj (x := .bool _) rfl<|congrArg AV.bool ?_; rw [Bool.eq_iff_iff]; simp only [qz, mem_endsL]; simp_all
   ·refine z8 rfl rfl c6<|z2 (zFF underlying56 rfl sizeOf54 rfl rfl)<|z8 rfl rfl c6<|z2 (yx (j := 1) underlying54 sizeOf3 rfl rfl rfl (by decide) rfl)<|z8 rfl rfl c6<|z2 (zLi isAgg3 rfl)<|z8 rfl rfl c6<|z2 (zMi rfl)<|z8 rfl rfl c6<|z2 (y9 rfl rfl)<|z8 rfl rfl c5<|z2 (zPf rfl c6 rfl)<|z8 rfl rfl rfl<|z2 (zPt rfl c5 rfl)<|z2 (zPf rfl rfl rfl)<|z2 (zAb rfl)<|z6<|zh<|zj (x := .bool _) rfl<|congrArg AV.bool ?_; rw [Bool.eq_iff_iff]; simp only [qz, mem_endsL]; simp_all
  ·refine z7 rfl rfl c5<|z7 rfl rfl c5<|z7 rfl rfl c5<|z7 rfl rfl c5<|z7 rfl rfl c5<|z7 rfl rfl c5<|zg rfl rfl<|zg rfl rfl<|zg rfl rfl<|zg rfl rfl<|zg rfl rfl<|z7 rfl rfl c5<|z8 rfl rfl rfl<|z2 (zPf rfl c5 rfl)<|z2 (zPf rfl rfl rfl)<|z2 (zAb rfl)<|z6<|zh<|zj (x := .bool _) rfl<|congrArg AV.bool ?_; rw [Bool.eq_iff_iff]; simp only [qz, mem_endsL]; simp_all
theorem okX_set {a shut x : Int} {out : List Bool} {y : Nat} (hx : okX a out shut x) (h0 : 0 ≤ x) (hy : y < out.length) : okX a (out.set y true) shut x := by
 refine ⟨hx.1, ?_⟩
 rcases hx.2 with h | h
 ·exact .inl h
 ·right
  unfold gb at h ⊢
  rw [List.getElem?_set]
  by_cases e : y = x.toNat
  ·rw [if_pos e, if_pos (by omega)]; rfl
  ·rw [if_neg e]; exact h
set_option maxHeartbeats 4000000 in
theorem from_own (f : PFunc) (hE : EndsOk f) (hn : f.blocks.length ≤ 1000) (a shut : Int) (h0 : 0 ≤ a) (ha : a < f.blocks.length) : ACall prog E 107 [.agg (encF f), .int .i64 a, .int .i64 shut] []
  fun x O => ∃ i : Nat, x = .own i f.blocks.length ∧ O = [(i, .grow 1 4 (cB (fromT (EndsOf f) f.blocks.length a shut)))] := by
 have hG := hE.grph
 obtain ⟨n, hnn⟩ : ∃ n, f.blocks.length = n := ⟨_, rfl⟩
 rw [hnn] at hG hn ha ⊢
 refine zn func107 rfl (by decide) rfl<|zSr<|yd (cs := _) rfl rfl rfl<|z2 (zAr rfl)<|z6<|zSr<|z2 (zFF underlying26 rfl sizeOf24 rfl rfl)<|z2 (zLf isAgg24 rfl)<|z2 (zu underlying24 rfl)<|z2 (zAi rfl)<|z6<|zSr<|z2 (zMi rfl)<|AOps.makeB (m := n) underlying98 type4 rfl rfl rfl rfl rfl (by omega) (by omega) (by show (1 : Int) * _ ≤ _; omega) (by omega)<|fun i16 => z2 (zAo rfl)<|z6<|za<|zSr<|z2 (zAb rfl)<|z6<|zf<|zz (γ := List Bool × Bool) [1, 2, 3, 7, 8] (fun g => [(9, .bool g.2)]) (fun g => [(i16, .grow 1 4 (cB g.1))]) (fun g => FrS (EndsOf f) a shut n g.1 ∧ (g.2 = false → clTo (EndsOf f) a shut g.1 n)) (fun g => 2 * nFalse g.1 + (if g.2 = true then 1 else 0)) (List.replicate n false, true) zR1 zLe (⟨FrS.begin _ _ _ _, fun h => by cases h⟩) ?_
 rintro ⟨o0, again⟩ ⟨hS0, hfin⟩
 try dsimp only at *
 refine za<|zSr<|z2 (zMb rfl)<|z6<|zr rfl (fun ca=>?_) (fun ca=>?_)
 ·have ca : again = true := by simpa using ca
  subst ca
  refine zd<|zf<|zSr<|z2 (zAb rfl)<|z6<|zSr<|z2 (zMi rfl)<|z2 (zMi rfl)<|z6<|zf<|zz (γ := Nat × List Bool × Bool) [1, 2, 3, 7, 8, 18] (fun g => [(19, .int .i64 g.1), (9, .bool g.2.2)]) (fun g => [(i16, .grow 1 4 (cB g.2.1))]) (fun g => g.1 ≤ n ∧ FrR (EndsOf f) a shut n o0 g.2.1 g.2.2 ∧ (g.2.2 = false → clTo (EndsOf f) a shut g.2.1 g.1)) (fun g => n - g.1) (0, o0, false) zR2 zLe (⟨qm _, ⟨hS0, Nat.le_refl _, fun h => (by cases h), fun _ => rfl⟩, fun _ x hx => by omega⟩) ?_
  rintro ⟨x, out, ag⟩ ⟨hx, hR, hcl⟩
  try dsimp only at *
  have hol := hR.len
  refine zSr<|z2 (yc rfl rfl)<|z6<|za<|zp rfl (fun cx=>?_) (fun cx=>?_)
  ·have hx2 : x < n := by omega
   have hgx : out[x]? = some (gb out (x : Int)) := gb_some (by omega)
   refine zd<|za<|zf<|zSr<|z2 (zMi rfl)<|z2 (zAi rfl)<|z6<|za<|za<|yp (γ := Bool) [1, 2, 3, 7, 8, 9, 10, 18, 19] (fun u => [(36, .bool u)]) (fun u => [(i16, .grow 1 4 (cB out))]) (fun u => u = !decide (okX a out shut x)) ?_ (fun _ _ h => h) ?_
   ·refine zRg<|z2 (zMi rfl)<|z2 (zMi rfl)<|z2 (y9 rfl rfl)<|z2 (zMb rfl)<|zo (s := 25) rfl (fun c7=>?_) (fun c7=>?_)
    ·refine z7 rfl rfl c7<|z7 rfl rfl c7<|z7 rfl rfl c7<|z7 rfl rfl c7<|zg rfl rfl<|zg rfl rfl<|zg rfl rfl<|zg rfl rfl<|zg rfl rfl<|z7 rfl rfl c7<|z2 (zPt rfl c7 rfl)<|z6 ?_
     exact ⟨_, zR9, zR1, zLe, by simp_all [okX]⟩
    ·refine z8 rfl rfl c7<|z2 (zMi rfl)<|z8 rfl rfl c7<|z2 (zMi rfl)<|z8 rfl rfl c7<|z2 (yi rfl rfl)<|z8 rfl rfl c7<|z2 (zMb rfl)<|zo (s := 29) rfl (fun c8=>?_) (fun c8=>?_)
     ·refine z8 rfl rfl c8<|z2 (zMo rfl)<|z8 rfl rfl c8<|z2 (zMi rfl)<|z8 rfl rfl c8<|z2 (yt (j := x) underlying98 sizeOf4 rfl rfl rfl ⟨_, .head⟩ (by first | rfl | (simp [cI_len, cB_len]; done) | (simp [cI_len, cB_len]; omega)) hx2)<|z8 rfl rfl c8<|z2 (Gv.loadB (j := x) isAgg4 rfl ⟨_, .head⟩ hgx)<|z8 rfl rfl c8<|z2 (yo rfl)<|z8 rfl rfl c7<|z2 (zPt rfl c8 rfl)<|z2 (zPf rfl c7 rfl)<|z6 ?_
      exact ⟨_, zR9, zR1, zLe, by simp_all [okX]⟩
     ·refine z7 rfl rfl c8<|z7 rfl rfl c8<|z7 rfl rfl c8<|z7 rfl rfl c8<|z7 rfl rfl c8<|z8 rfl rfl c7<|z2 (zPf rfl c8 rfl)<|z2 (zPf rfl c7 rfl)<|z6 ?_
      exact ⟨_, zR9, zR1, zLe, by simp_all [okX]⟩
   ·rintro u hu
    subst hu
    refine zr rfl (fun co=>?_) (fun co=>?_)
    ·have hno : ¬ okX a out shut x := by simpa using co
     refine zx<|zRg<|z2 (zAd rfl rfl)<|z2 (zMi rfl)<|z6 ?_
     exact ⟨(x + 1, out, ag), zR6, zR2, zLe, ⟨hx2, hR, fun h z hz hok => by rcases Nat.lt_succ_iff_lt_or_eq.1 hz with h1 | h1; exact hcl h z h1 hok; exact absurd (h1 ▸ hok) hno⟩, by dsimp only; omega⟩
    ·have hok : okX a out shut x := by simpa using co
     refine zd<|zSr<|z2 (zMi rfl)<|z2 (zMi rfl)<|z6<|zf<|zz (γ := Nat × List Bool × Bool) [1, 2, 3, 7, 8, 10, 18, 19, 37] (fun g => [(38, .int .i64 g.1), (9, .bool g.2.2)]) (fun g => [(i16, .grow 1 4 (cB g.2.1))]) (fun g => g.1 ≤ n ∧ FrR (EndsOf f) a shut n o0 g.2.1 g.2.2 ∧ okX a g.2.1 shut x ∧ (g.2.2 = false → clTo (EndsOf f) a shut g.2.1 x ∧ clAt (EndsOf f) a shut g.2.1 x g.1)) (fun g => n - g.1) (0, out, ag) zR2 zLe (⟨qm _, hR, hok, fun h => ⟨hcl h, fun _ y hy => by omega⟩⟩) ?_
     rintro ⟨y, out, ag⟩ ⟨hy, hR, hok, hcl⟩
     try dsimp only at *
     have hol := hR.len
     refine zSr<|z2 (yc rfl rfl)<|z6<|za<|zp rfl (fun cy=>?_) (fun cy=>?_)
     ·have hy2 : y < n := by omega
      have hgy : out[y]? = some (gb out (y : Int)) := gb_some (by omega)
      have hstep : (ag = false → (y : Int) ∈ EndsOf f x → (y : Int) ≠ shut → gb out y = true) → (ag = false → clTo (EndsOf f) a shut out x ∧ clAt (EndsOf f) a shut out x (y + 1)) := fun h1 h2 => ⟨(hcl h2).1, fun ho z hz he hs => by
       rcases Nat.lt_succ_iff_lt_or_eq.1 hz with h3 | h3
       ·exact (hcl h2).2 ho z h3 he hs
       ·subst h3; exact h1 h2 he hs⟩
      refine zd<|za<|zf<|zSr<|z2 (zMi rfl)<|z2 (zAi rfl)<|z6<|zSr<|z2 (zMi rfl)<|z2 (zMi rfl)<|z2 (yi rfl rfl)<|z2 (zMb rfl)<|zo (s := 44) rfl (fun c1=>?_) (fun c1=>?_)
      ·have d1 : (y : Int) ≠ shut := by simpa using c1
       refine z8 rfl rfl c1<|z2 (zMo rfl)<|z8 rfl rfl c1<|z2 (zMi rfl)<|z8 rfl rfl c1<|z2 (yt (j := y) underlying98 sizeOf4 rfl rfl rfl ⟨_, .head⟩ (by first | rfl | (simp [cI_len, cB_len]; done) | (simp [cI_len, cB_len]; omega)) hy2)<|z8 rfl rfl c1<|z2 (Gv.loadB (j := y) isAgg4 rfl ⟨_, .head⟩ hgy)<|z8 rfl rfl c1<|z2 (yo rfl)<|z2 (zPt rfl c1 rfl)<|z2 (zMb rfl)<|zo (s := 51) rfl (fun c2=>?_) (fun c2=>?_)
       ·have d2 : gb out (y : Int) = false := by simpa using c2
        refine z8 rfl rfl c2<|z2 (zl isAgg26 sizeOf26 rfl rfl)<|z8 rfl rfl c2<|z2 (zMi rfl)<|z8 rfl rfl c2<|z2 (zMi rfl)<|z8 rfl rfl c2<|zk (leads_spec f (by omega) (x : Int) (y : Int) (by omega) (by omega)) rfl<|z2 (zPt rfl c2 rfl)<|z6<|zr rfl (fun c3=>?_) (fun c3=>?_)
        ·have d3 : (y : Int) ∈ EndsOf f x := by simpa using c3
         refine zSr<|z2 (zMo rfl)<|z2 (zMi rfl)<|z2 (yt (j := y) underlying98 sizeOf4 rfl rfl rfl ⟨_, .head⟩ (by first | rfl | (simp [cI_len, cB_len]; done) | (simp [cI_len, cB_len]; omega)) hy2)<|AOps.storeB (j := y) sizeOf4 rfl rfl .head (by first | omega | (simp; omega))<|z6<|zRg<|z2 (zAb rfl)<|z6<|zRg<|z2 (zAd rfl rfl)<|z2 (zMi rfl)<|z6 ?_
         exact ⟨(y + 1, out.set y true, true), zR9, zR2, zLe, ⟨hy2, hR.hit hok d3 d1 hy2 d2, okX_set hok (by omega) (by omega), fun h => by cases h⟩, by dsimp only; omega⟩
        ·have d3 : ¬ (y : Int) ∈ EndsOf f x := by simpa using c3
         refine zd<|zRg<|z2 (zAd rfl rfl)<|z2 (zMi rfl)<|z6 ?_
         exact ⟨(y + 1, out, ag), zR9, zR2, zLe, ⟨hy2, hR, hok, hstep fun _ h _ => absurd h d3⟩, by dsimp only; omega⟩
       ·have d2 : gb out (y : Int) = true := by simpa using c2
        refine z7 rfl rfl c2<|z7 rfl rfl c2<|z7 rfl rfl c2<|z7 rfl rfl c2<|z2 (zPf rfl c2 rfl)<|z6<|yl rfl rfl<|zd<|zRg<|z2 (zAd rfl rfl)<|z2 (zMi rfl)<|z6 ?_
        exact ⟨(y + 1, out, ag), zR9, zR2, zLe, ⟨hy2, hR, hok, hstep fun _ _ _ => d2⟩, by dsimp only; omega⟩
      ·have d1 : (y : Int) = shut := by simpa using c1
       refine z7 rfl rfl c1<|z7 rfl rfl c1<|z7 rfl rfl c1<|z7 rfl rfl c1<|z7 rfl rfl c1<|z2 (zPf rfl c1 rfl)<|z2 (zMb rfl)<|z7 rfl rfl rfl<|z7 rfl rfl rfl<|z7 rfl rfl rfl<|z7 rfl rfl rfl<|z2 (zPf rfl rfl rfl)<|z6<|yl rfl rfl<|zd<|zRg<|z2 (zAd rfl rfl)<|z2 (zMi rfl)<|z6 ?_
       exact ⟨(y + 1, out, ag), zR9, zR2, zLe, ⟨hy2, hR, hok, hstep fun _ _ h => absurd d1 h⟩, by dsimp only; omega⟩
     ·have hyn : y = n := by omega
      refine zx<|zRg<|z2 (zAd rfl rfl)<|z2 (zMi rfl)<|z6 ?_
      exact ⟨(x + 1, out, ag), zR6, zR2, zLe, ⟨hx2, hR, fun h z hz ho => by rcases Nat.lt_succ_iff_lt_or_eq.1 hz with h1 | h1; exact (hcl h).1 z h1 ho; subst h1; exact fun y2 he hs => (by by_cases hlt : y2 < n; exact (hcl h).2 ho y2 (by omega) he hs; exact absurd (hG.rng z (by omega) (by omega) _ he).2 (by omega))⟩, by dsimp only; omega⟩
  ·have hxn : x = n := by omega
   subst hxn
   refine zx ?_
   exact ⟨(out, ag), zR5, zR1, zLe, ⟨hR.toFrS, hcl⟩, by dsimp only; have h1 := hR.less; have h2 := hR.more; cases ag; simp; omega; have := h2 rfl; simp; omega⟩
 ·have ca : again = false := by simpa using ca
  rw [hS0.eq hG ⟨h0, ha⟩ (hfin ca)]
  refine zx<|zSr<|z2 (zMo rfl)<|z2 (zAo rfl)<|z6<|zh<|zj (x := .own _ _) rfl ?_
  exact ⟨i16, rfl, rfl⟩
theorem reached_spec (f : PFunc) (hE : EndsOk f) (hn : f.blocks.length ≤ 1000) (shut : Int) : AFun prog E 59 [.agg (encF f), .int .i64 shut] (.fro 1 ((reachT (EndsOf f) f.blocks.length shut).map encB)) := by
 have hpos := hE.grph.npos
 refine zn func59 rfl (by decide) rfl<|zSr<|yd (cs := _) rfl rfl rfl<|z2 (zAr rfl)<|z6<|zSr<|z2 (zl isAgg26 sizeOf26 rfl rfl)<|z2 (zMi rfl)<|y6 rfl (zq (.rest _)) (from_own f hE hn 0 shut (Int.le_refl _) (by omega)) ?_
 rintro r8 O8 ⟨i8, rfl, rfl⟩
 refine z2 (zAo rfl)<|z6<|zSr<|z2 (zMo rfl)<|z2 (zMi rfl)<|z2 (yi rfl rfl)<|z2 (yt (j := 0) underlying98 sizeOf4 rfl rfl rfl ⟨_, .head⟩ (by rw [cB_len, fromT_len]) hpos)<|AOps.storeB (j := 0) sizeOf4 rfl rfl .head (by rw [fromT_len]; exact hpos)<|z6<|zSr<|z2 (zMo rfl)<|z2 (zAo rfl)<|z6 ?_
 rw [show (!decide (shut = 0)) = decide (shut ≠ 0) by simp, reachT_eq]
 refine zy (GStep.knowB (t := 4) rfl .head (reachT_len _ _ _))<|zh<|zj (x := .fro _ _) rfl ?_
 rfl
end Go.Proofs.YtiojekbkamegdaaGreatDoor
