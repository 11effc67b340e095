/- A table of edges: what each instruction puts into it. Of programs that are little. -/
import Derived.Test.YtjnpcfpecilejaaGreatDoorHq
set_option linter.unusedVariables false
set_option linter.unusedSimpArgs false
set_option linter.unusedSectionVars false
namespace Go.Proofs.YtjnpcfpecilejaaGreatDoor
open Go.Proofs.Tryz
open Go.Proofs Go.Lib Go.Shelf Go.RowKit
variable {E : World}
set_option maxRecDepth 20000
theorem tposL_spec (f : PFunc) (hS : ShapedP f) (l : List Rng) (hll : l.length = f.vars.length) (up : Bool) (i : Nat) (X : AV) {a : Int} (ha : hasV f a = true) :
  ACall prog E 202 [.po i 0, .int .i64 a] [(i, .cells 171 (tblL f l up X))] fun y O => y = .bool (posB f l a) ∧ O = [(i, .cells 171 (tblL f l up X))] :=
 ACall.lendP (fun _ _ _ h => bool_any h) (tpos_spec f hS l hll up X ha)
set_option maxHeartbeats 4000000 in
theorem trest_spec (f : PFunc) (hS : ShapedP f) (l : List Rng) (hll : l.length = f.vars.length) (up : Bool) (i io : Nat) (es : List Ejk) (hb : es.length ≤ 90000000) (x : PInst) (ho : x.op = 5 ∨ x.op = 6) {xa xb : Int} (hxa : x.args = [xa, xb]) (ha : hasV f xa = true) (hb2 : hasV f xb = true) :
  ACall prog E 157 [.po i 0, .agg (encInst x)] (tabO f l up i io es) (tabQ f l up i (es ++ restE f l up x)) := by
 have e0 : x0 x = xa := by unfold x0; rw [hxa]; rfl
 have e1 : x1 x = xb := by unfold x1; rw [hxa]; rfl
 have hpa := fun X => tposL_spec (E := E) f hS l hll up i X ha
 have hpb := fun X => tposL_spec (E := E) f hS l hll up i X hb2
 obtain ⟨p, hp⟩ : ∃ p, posB f l xa = p := ⟨_, rfl⟩
 obtain ⟨q, hq⟩ : ∃ q, posB f l xb = q := ⟨_, rfl⟩
 have hre : restE f l up x = (if (if x.op = 5 then p && q else p) = true then [if up = true then (xa, x.dst, 0) else (n0 f, x.dst, 0)] else []) ++ putIf (decide (x.op = 6) && (q && up)) (xb, x.dst, -1) := by
  unfold restE restP1; rw [e0, e1, hp, hq]
 rw [hre]
 rw [hp] at hpa
 rw [hq] at hpb
 refine ACall.tab ?_
 unfold tabO tblL
 refine zo func157 rfl (by decide) rfl<|zSr<|y7 (cs := _) rfl rfl rfl<|z6<|za<|y1 (fun j => false) (by kernel_rfl) rfl (zn (.rest _))<|zTk 0 rfl (zFF underlying33 rfl sizeOf23 rfl rfl)<|zTk 1 rfl (zLf isAgg23 rfl)<|zTk 2 rfl (zIM 0 underlying23 sizeOf3 rfl rfl rfl (by rw [hxa]; rfl))<|zTk 3 rfl (zLi isAgg3 rfl)<|zTk 4 rfl (zFF underlying33 rfl sizeOf23 rfl rfl)<|zTk 5 rfl (zLf isAgg23 rfl)<|zTk 6 rfl (zIM 1 underlying23 sizeOf3 rfl rfl rfl (by rw [hxa]; rfl))<|zTk 7 rfl (zLi isAgg3 rfl)<|zTk 8 rfl (zAi rfl)<|zTk 9 rfl (zAi rfl)<|zDn<|zSr<|z2 (zMp rfl)<|z2 (zMi rfl)<|zt rfl (zn (.l (.r (.rest _)))) (hpa _) ?_
 rintro r18 O18 ⟨rfl, rfl⟩
 refine z2 (zMp rfl)<|z2 (zMi rfl)<|zt rfl (zn (.l (.r (.rest _)))) (hpb _) ?_
 rintro r21 O21 ⟨rfl, rfl⟩
 refine z2 (zAb rfl)<|z2 (zAb rfl)<|z6<|za<|zSr<|z2 (zFF underlying33 rfl sizeOf31 rfl rfl)<|z2 (zLi isAgg31 rfl)<|z2 (y3 rfl rfl)<|z6<|yc (γ := Bool) [0, 3, 4, 5, 7] (fun P => [(6, .bool P)]) (fun P => [(i, .cells 171 (tblL f l up (.own io es.length))), (io, .grow 3 53 (eC es))]) (fun P => P = if x.op = 5 then p && q else p) ?_ (fun _ _ h => h) ?_
 ·refine zp rfl (fun c5=>?_) (fun c5=>?_)
  ·refine zRg<|z2 (zMb rfl)<|z2 (zMb rfl)<|zl (s := 26) rfl (fun cp=>?_) (fun cp=>?_)
   ·refine z8 rfl rfl cp<|z2 (zMb rfl)<|z2 (zPt rfl cp rfl)<|z2 (zAb rfl)<|z6 ?_
    exact ⟨_, zR5, zR1, zLe, by rw [if_pos c5, show p = true from cp]; rfl⟩
   ·refine z7 rfl rfl cp<|z2 (zPf rfl cp rfl)<|z2 (zAb rfl)<|z6 ?_
    exact ⟨_, zR5, zR1, zLe, by rw [if_pos c5, show p = false from cp]; rfl⟩
  ·refine zc ?_
   exact ⟨_, zR5, zR1, zLe, by rw [if_neg c5]⟩
 ·rintro P hP
  rw [← hP]
  clear hP
  refine za<|yc (γ := List Ejk × Nat) [0, 3, 5, 7] (fun g => []) (fun g => [(i, .cells 171 (tblL f l up (.own g.2 g.1.length))), (g.2, .grow 3 53 (eC g.1))]) (fun g => g.1 = es ++ (if P = true then [if up = true then (xa, x.dst, 0) else (n0 f, x.dst, 0)] else []) ∧ g.1.length ≤ es.length + 1) ?_ (fun _ _ h => h) ?_
  ·refine zh<|zSr<|z2 (zMb rfl)<|z2 (zMb rfl)<|zl (s := 31) rfl (fun cP=>?_) (fun cP=>?_)
   ·refine z8 rfl rfl cP<|z2 (zMp rfl)<|z8 rfl rfl cP<|z2 (ya rfl)<|z8 rfl rfl cP<|z2 (zu underlying171 rfl sizeOf4 (by decide) rfl rfl)<|z8 rfl rfl cP<|z2 (zy (c := .bool _) isAgg4 rfl ⟨_, .head⟩ rfl)<|z2 (zPt rfl cP rfl)<|z2 (zAb rfl)<|z6<|zr rfl (fun cu=>?_) (fun cu=>?_)
    ·refine zRg<|z2 (zMp rfl)<|z2 (zFF underlying33 rfl sizeOf3 rfl rfl)<|z2 (zLi isAgg3 rfl)<|z2 (zMi rfl)<|zt rfl (zn (.l (.l (.rest _)))) (put_spec f l up i io es (by omega) x.dst xa 0) ?_
     rintro r41 O41 ⟨jo, rfl, rfl, _⟩
     refine z6 ?_
     exact ⟨(es ++ [(xa, x.dst, 0)], jo), zR4, trivial, zLe, by dsimp only; rw [if_pos (show P = true from cP), if_pos (show up = true from cu)]; exact ⟨rfl, by simp⟩⟩
    ·refine zSr<|z2 (zMb rfl)<|z2 (zAb rfl)<|z6<|zr rfl (fun c2=>?_) (fun c2=>?_)
     ·refine y1 (fun j => false) (by kernel_rfl) rfl (zn (.rest _))<|zTk 0 rfl (zMp rfl)<|zTk 1 rfl (zFF underlying33 rfl sizeOf3 rfl rfl)<|zTk 2 rfl (zLi isAgg3 rfl)<|zTk 3 rfl (zMp rfl)<|zTk 4 rfl (ya rfl)<|zTk 5 rfl (zu underlying171 rfl sizeOf3 (by decide) rfl rfl)<|zOn 6 rfl<|z2 (zy (c := .int _ _) isAgg3 rfl ⟨_, .head⟩ rfl)<|z6<|zOn 7 rfl<|zt rfl (zn (.l (.l (.rest _)))) (put_spec f l up i io es (by omega) x.dst (n0 f) 0) ?_
      rintro r51 O51 ⟨jo, rfl, rfl, _⟩
      refine z6<|zDn ?_
      exact ⟨(es ++ [(n0 f, x.dst, 0)], jo), zR4, trivial, zLe, by dsimp only; rw [if_pos (show P = true from cP), if_neg (by rw [show up = false from cu]; decide)]; exact ⟨rfl, by simp⟩⟩
     ·exfalso; rw [show P = true from cP] at c2; cases c2
   ·refine z7 rfl rfl cP<|z7 rfl rfl cP<|z7 rfl rfl cP<|z7 rfl rfl cP<|z2 (zPf rfl cP rfl)<|z2 (zAb rfl)<|z6<|yh rfl rfl<|zSr<|z2 (zMb rfl)<|z2 (zAb rfl)<|z6<|zr rfl (fun c2=>?_) (fun c2=>?_)
    ·exfalso; rw [show P = false from cP] at c2; cases c2
    ·refine zc ?_
     exact ⟨(es, io), zR4, trivial, zLe, by dsimp only; rw [if_neg (by rw [show P = false from cP]; decide)]; exact ⟨by simp, by omega⟩⟩
  ·rintro ⟨es2, io⟩ ⟨hes2, hle2⟩
   rw [← ql, ← hes2]
   clear hes2
   refine za<|yc (γ := Bool) [0, 3, 5] (fun u => [(63, .bool u)]) (fun u => [(i, .cells 171 (tblL f l up (.own io es2.length))), (io, .grow 3 53 (eC es2))]) (fun u => u = (decide (x.op = 6) && (q && up))) ?_ (fun _ _ h => h) ?_
   ·refine zRg<|z2 (zFF underlying33 rfl sizeOf31 rfl rfl)<|z2 (zLi isAgg31 rfl)<|z2 (y3 rfl rfl)<|z2 (zMb rfl)<|zl (s := 55) rfl (fun c1=>?_) (fun c1=>?_)
    ·refine z8 rfl rfl c1<|z2 (zMb rfl)<|z2 (zPt rfl c1 rfl)<|z2 (zMb rfl)<|zl (s := 58) rfl (fun c2=>?_) (fun c2=>?_)
     ·refine z8 rfl rfl c2<|z2 (zMp rfl)<|z8 rfl rfl c2<|z2 (ya rfl)<|z8 rfl rfl c2<|z2 (zu underlying171 rfl sizeOf4 (by decide) rfl rfl)<|z8 rfl rfl c2<|z2 (zy (c := .bool _) isAgg4 rfl ⟨_, .head⟩ rfl)<|z2 (zPt rfl c2 rfl)<|z6 ?_
      exact ⟨_, zR3, zR1, zLe, by simp_all⟩
     ·refine z7 rfl rfl c2<|z7 rfl rfl c2<|z7 rfl rfl c2<|z7 rfl rfl c2<|z2 (zPf rfl c2 rfl)<|z6 ?_
      exact ⟨_, zR3, zR1, zLe, by simp_all⟩
    ·refine z7 rfl rfl c1<|z2 (zPf rfl c1 rfl)<|z2 (zMb rfl)<|z7 rfl rfl rfl<|z7 rfl rfl rfl<|z7 rfl rfl rfl<|z7 rfl rfl rfl<|z2 (zPf rfl rfl rfl)<|z6 ?_
     exact ⟨_, zR3, zR1, zLe, by simp_all⟩
   ·rintro u hu
    rw [← hu]
    clear hu
    refine zr rfl (fun c=>?_) (fun c=>?_)
    ·refine zRg<|z2 (zMp rfl)<|z2 (zFF underlying33 rfl sizeOf3 rfl rfl)<|z2 (zLi isAgg3 rfl)<|z2 (zMi rfl)<|zt rfl (zn (.l (.l (.rest _)))) (put_spec f l up i io es2 (by dsimp only at hle2; omega) x.dst xb (-1)) ?_
     rintro r68 O68 ⟨jo, rfl, rfl, _⟩
     refine z6<|ym ?_
     exact yt (by rw [show u = true from c]; rfl) ⟨_, .refl _, rfl⟩
    ·refine zc<|ym ?_
     exact yt (io := io) (by rw [show u = false from c]; unfold putIf; simp) ⟨_, .refl _, rfl⟩
set_option maxHeartbeats 4000000 in
theorem tpi_spec (f : PFunc) (l : List Rng) (up : Bool) (i io : Nat) (es : List Ejk) (hb : es.length ≤ 90000000) (x : PInst) {xa xb : Int} (hxa : x.args = [xa, xb]) :
  ACall prog E 158 [.po i 0, .agg (encInst x)] (tabO f l up i io es) (tabQ f l up i (es ++ piE up x)) := by
 have e0 : x0 x = xa := by unfold x0; rw [hxa]; rfl
 have e1 : x1 x = xb := by unfold x1; rw [hxa]; rfl
 have hpi : es ++ piE up x = es ++ [(xa, x.dst, 0)] ++ (if up = true ∧ x.num = 0 then [(xb, x.dst, -1)] else if (up = true ∧ (x.num = 1 ∨ x.num = 2)) ∨ (up = false ∧ (x.num = 2 ∨ x.num = 3)) then [(xb, x.dst, 0)] else if up = false ∧ x.num = 4 then [(xb, x.dst, 1)] else []) := by
  unfold piE; rw [e0, e1]; simp
 rw [hpi]
 have hl1 : (es ++ [(xa, x.dst, (0 : Int))]).length ≤ 100000000 := by rw [qp]; simp; omega
 obtain ⟨es1, he1⟩ : ∃ es1, es ++ [(xa, x.dst, (0 : Int))] = es1 := ⟨_, rfl⟩
 rw [he1] at hl1
 have hp0 := put_spec (E := E) f l up i io es (by omega) x.dst xa 0
 rw [he1] at hp0 ⊢
 refine ACall.tab ?_
 unfold tabO tblL
 refine zo func158 rfl (by decide) rfl<|zSr<|y7 (cs := _) rfl rfl rfl<|z6<|za<|y1 (fun j => false) (by kernel_rfl) rfl (zn (.rest _))<|zTk 0 rfl (zFF underlying33 rfl sizeOf23 rfl rfl)<|zTk 1 rfl (zLf isAgg23 rfl)<|zTk 2 rfl (zIM 0 underlying23 sizeOf3 rfl rfl rfl (by rw [hxa]; rfl))<|zTk 3 rfl (zLi isAgg3 rfl)<|zTk 4 rfl (zFF underlying33 rfl sizeOf23 rfl rfl)<|zTk 5 rfl (zLf isAgg23 rfl)<|zTk 6 rfl (zIM 1 underlying23 sizeOf3 rfl rfl rfl (by rw [hxa]; rfl))<|zTk 7 rfl (zLi isAgg3 rfl)<|zTk 8 rfl (zAi rfl)<|zTk 9 rfl (zAi rfl)<|zDn<|zSr<|z2 (zMp rfl)<|z2 (zFF underlying33 rfl sizeOf3 rfl rfl)<|z2 (zLi isAgg3 rfl)<|z2 (zMi rfl)<|zt rfl (zn (.l (.l (.rest _)))) (hp0) ?_
 rintro r18 O18 ⟨j1, rfl, rfl, _⟩
 refine z6<|zh<|zSr<|z2 (zMp rfl)<|z2 (ya rfl)<|z2 (zu underlying171 rfl sizeOf4 (by decide) rfl rfl)<|z2 (zy (c := .bool _) isAgg4 rfl ⟨_, .head⟩ rfl)<|z2 (zMb rfl)<|zl (s := 24) rfl (fun c3=>?_) (fun c3=>?_)
 ·refine z8 rfl rfl c3<|z2 (zFF underlying33 rfl sizeOf2 rfl rfl)<|z8 rfl rfl c3<|z2 (zLi isAgg2 rfl)<|z8 rfl rfl c3<|z2 (y3 rfl rfl)<|z2 (zPt rfl c3 rfl)<|z2 (zAb rfl)<|z6<|zr rfl (fun c4=>?_) (fun c4=>?_)
  ·refine zRg<|z2 (zMp rfl)<|z2 (zFF underlying33 rfl sizeOf3 rfl rfl)<|z2 (zLi isAgg3 rfl)<|z2 (zMi rfl)<|zt rfl (zn (.l (.l (.rest _)))) (put_spec f l up i j1 es1 hl1 x.dst xb (-1)) ?_
   rintro r33 O33 ⟨jo, rfl, rfl, _⟩
   refine z6<|ym ?_
   exact yt (by simp_all) ⟨_, .refl _, rfl⟩
  ·refine za<|zSr<|z2 (zMp rfl)<|z2 (ya rfl)<|z2 (zu underlying171 rfl sizeOf4 (by decide) rfl rfl)<|z2 (zy (c := .bool _) isAgg4 rfl ⟨_, .head⟩ rfl)<|z2 (zMb rfl)<|zl (s := 39) rfl (fun c5=>?_) (fun c5=>?_)
   ·refine z8 rfl rfl c5<|z2 (zFF underlying33 rfl sizeOf2 rfl rfl)<|z8 rfl rfl c5<|z2 (zLi isAgg2 rfl)<|z8 rfl rfl c5<|z2 (y3 rfl rfl)<|z8 rfl rfl c5<|z2 (zMb rfl)<|zl (s := 43) rfl (fun c6=>?_) (fun c6=>?_)
    ·refine z7 rfl rfl c6<|z7 rfl rfl c6<|z7 rfl rfl c6<|z8 rfl rfl c5<|z2 (zPt rfl c6 rfl)<|z2 (zPt rfl c5 rfl)<|z2 (zAb rfl)<|z6<|yr rfl rfl<|zc<|yr rfl rfl<|zRg<|z2 (zMp rfl)<|z2 (zFF underlying33 rfl sizeOf3 rfl rfl)<|z2 (zLi isAgg3 rfl)<|z2 (zMi rfl)<|zt rfl (zn (.l (.l (.rest _)))) (put_spec f l up i j1 es1 hl1 x.dst xb 0) ?_
     rintro r68 O68 ⟨jo, rfl, rfl, _⟩
     refine z6<|ym ?_
     exact yt (by simp_all) ⟨_, .refl _, rfl⟩
    ·refine z8 rfl rfl c6<|z2 (zFF underlying33 rfl sizeOf2 rfl rfl)<|z8 rfl rfl c6<|z2 (zLi isAgg2 rfl)<|z8 rfl rfl c6<|z2 (y3 rfl rfl)<|z8 rfl rfl c5<|z2 (zPf rfl c6 rfl)<|z2 (zPt rfl c5 rfl)<|z2 (zAb rfl)<|z6<|zr rfl (fun c7=>?_) (fun c7=>?_)
     ·refine zc<|zr rfl (fun c8=>?_) (fun c8=>?_)
      ·refine zRg<|z2 (zMp rfl)<|z2 (zFF underlying33 rfl sizeOf3 rfl rfl)<|z2 (zLi isAgg3 rfl)<|z2 (zMi rfl)<|zt rfl (zn (.l (.l (.rest _)))) (put_spec f l up i j1 es1 hl1 x.dst xb 0) ?_
       rintro r68 O68 ⟨jo, rfl, rfl, _⟩
       refine z6<|ym ?_
       exact yt (by simp_all) ⟨_, .refl _, rfl⟩
      ·refine zSr<|z2 (zMp rfl)<|z2 (ya rfl)<|z2 (zu underlying171 rfl sizeOf4 (by decide) rfl rfl)<|z2 (zy (c := .bool _) isAgg4 rfl ⟨_, .head⟩ rfl)<|z2 (yd rfl)<|z2 (zMb rfl)<|zl (s := 75) rfl (fun c9=>?_) (fun c9=>?_)
       ·refine z8 rfl rfl c9<|z2 (zFF underlying33 rfl sizeOf2 rfl rfl)<|z8 rfl rfl c9<|z2 (zLi isAgg2 rfl)<|z8 rfl rfl c9<|z2 (y3 rfl rfl)<|z2 (zPt rfl c9 rfl)<|z2 (zAb rfl)<|z6<|zr rfl (fun c10=>?_) (fun c10=>?_)
        ·refine zRg<|z2 (zMp rfl)<|z2 (zFF underlying33 rfl sizeOf3 rfl rfl)<|z2 (zLi isAgg3 rfl)<|z2 (zMi rfl)<|zt rfl (zn (.l (.l (.rest _)))) (put_spec f l up i j1 es1 hl1 x.dst xb 1) ?_
         rintro r84 O84 ⟨jo, rfl, rfl, _⟩
         refine z6<|ym ?_
         exact yt (by simp_all) ⟨_, .refl _, rfl⟩
        ·refine zc<|ym ?_
         exact yt (by simp_all) ⟨_, .refl _, rfl⟩
       ·refine z7 rfl rfl c9<|z7 rfl rfl c9<|z7 rfl rfl c9<|z2 (zPf rfl c9 rfl)<|z2 (zAb rfl)<|z6<|yh rfl rfl<|zc<|ym ?_
        exact yt (by simp_all) ⟨_, .refl _, rfl⟩
     ·refine zRg<|z2 (zMp rfl)<|z2 (ya rfl)<|z2 (zu underlying171 rfl sizeOf4 (by decide) rfl rfl)<|z2 (zy (c := .bool _) isAgg4 rfl ⟨_, .head⟩ rfl)<|z2 (yd rfl)<|z2 (zMb rfl)<|zl (s := 54) rfl (fun c11=>?_) (fun c11=>?_)
      ·refine z8 rfl rfl c11<|z2 (zFF underlying33 rfl sizeOf2 rfl rfl)<|z8 rfl rfl c11<|z2 (zLi isAgg2 rfl)<|z8 rfl rfl c11<|z2 (y3 rfl rfl)<|z8 rfl rfl c11<|z2 (zMb rfl)<|zl (s := 58) rfl (fun c12=>?_) (fun c12=>?_)
       ·refine z7 rfl rfl c12<|z7 rfl rfl c12<|z7 rfl rfl c12<|z8 rfl rfl c11<|z2 (zPt rfl c12 rfl)<|z2 (zPt rfl c11 rfl)<|z2 (zAb rfl)<|z6<|yr rfl rfl<|zRg<|z2 (zMp rfl)<|z2 (zFF underlying33 rfl sizeOf3 rfl rfl)<|z2 (zLi isAgg3 rfl)<|z2 (zMi rfl)<|zt rfl (zn (.l (.l (.rest _)))) (put_spec f l up i j1 es1 hl1 x.dst xb 0) ?_
        rintro r68 O68 ⟨jo, rfl, rfl, _⟩
        refine z6<|ym ?_
        exact yt (by simp_all) ⟨_, .refl _, rfl⟩
       ·refine z8 rfl rfl c12<|z2 (zFF underlying33 rfl sizeOf2 rfl rfl)<|z8 rfl rfl c12<|z2 (zLi isAgg2 rfl)<|z8 rfl rfl c12<|z2 (y3 rfl rfl)<|z8 rfl rfl c11<|z2 (zPf rfl c12 rfl)<|z2 (zPt rfl c11 rfl)<|z2 (zAb rfl)<|z6<|zr rfl (fun c13=>?_) (fun c13=>?_)
        ·refine zRg<|z2 (zMp rfl)<|z2 (zFF underlying33 rfl sizeOf3 rfl rfl)<|z2 (zLi isAgg3 rfl)<|z2 (zMi rfl)<|zt rfl (zn (.l (.l (.rest _)))) (put_spec f l up i j1 es1 hl1 x.dst xb 0) ?_
         rintro r68 O68 ⟨jo, rfl, rfl, _⟩
         refine z6<|ym ?_
         exact yt (by simp_all) ⟨_, .refl _, rfl⟩
        ·refine zSr<|z2 (zMp rfl)<|z2 (ya rfl)<|z2 (zu underlying171 rfl sizeOf4 (by decide) rfl rfl)<|z2 (zy (c := .bool _) isAgg4 rfl ⟨_, .head⟩ rfl)<|z2 (yd rfl)<|z2 (zMb rfl)<|zl (s := 75) rfl (fun c14=>?_) (fun c14=>?_)
         ·refine z8 rfl rfl c14<|z2 (zFF underlying33 rfl sizeOf2 rfl rfl)<|z8 rfl rfl c14<|z2 (zLi isAgg2 rfl)<|z8 rfl rfl c14<|z2 (y3 rfl rfl)<|z2 (zPt rfl c14 rfl)<|z2 (zAb rfl)<|z6<|zr rfl (fun c15=>?_) (fun c15=>?_)
          ·refine zRg<|z2 (zMp rfl)<|z2 (zFF underlying33 rfl sizeOf3 rfl rfl)<|z2 (zLi isAgg3 rfl)<|z2 (zMi rfl)<|zt rfl (zn (.l (.l (.rest _)))) (put_spec f l up i j1 es1 hl1 x.dst xb 1) ?_
           rintro r84 O84 ⟨jo, rfl, rfl, _⟩
           refine z6<|ym ?_
           exact yt (by simp_all) ⟨_, .refl _, rfl⟩
          ·refine zc<|ym ?_
           exact yt (by simp_all) ⟨_, .refl _, rfl⟩
         ·refine z7 rfl rfl c14<|z7 rfl rfl c14<|z7 rfl rfl c14<|z2 (zPf rfl c14 rfl)<|z2 (zAb rfl)<|z6<|yh rfl rfl<|zc<|ym ?_
          exact yt (by simp_all) ⟨_, .refl _, rfl⟩
      ·refine z7 rfl rfl c11<|z7 rfl rfl c11<|z7 rfl rfl c11<|z7 rfl rfl c11<|zb rfl rfl<|zb rfl rfl<|zb rfl rfl<|z7 rfl rfl c11<|z2 (zPf rfl c11 rfl)<|z2 (zAb rfl)<|z6<|yh rfl rfl<|zSr<|z2 (zMp rfl)<|z2 (ya rfl)<|z2 (zu underlying171 rfl sizeOf4 (by decide) rfl rfl)<|z2 (zy (c := .bool _) isAgg4 rfl ⟨_, .head⟩ rfl)<|z2 (yd rfl)<|z2 (zMb rfl)<|zl (s := 75) rfl (fun c16=>?_) (fun c16=>?_)
       ·refine z8 rfl rfl c16<|z2 (zFF underlying33 rfl sizeOf2 rfl rfl)<|z8 rfl rfl c16<|z2 (zLi isAgg2 rfl)<|z8 rfl rfl c16<|z2 (y3 rfl rfl)<|z2 (zPt rfl c16 rfl)<|z2 (zAb rfl)<|z6<|zr rfl (fun c17=>?_) (fun c17=>?_)
        ·refine zRg<|z2 (zMp rfl)<|z2 (zFF underlying33 rfl sizeOf3 rfl rfl)<|z2 (zLi isAgg3 rfl)<|z2 (zMi rfl)<|zt rfl (zn (.l (.l (.rest _)))) (put_spec f l up i j1 es1 hl1 x.dst xb 1) ?_
         rintro r84 O84 ⟨jo, rfl, rfl, _⟩
         refine z6<|ym ?_
         exact yt (by simp_all) ⟨_, .refl _, rfl⟩
        ·refine zc<|ym ?_
         exact yt (by simp_all) ⟨_, .refl _, rfl⟩
       ·refine z7 rfl rfl c16<|z7 rfl rfl c16<|z7 rfl rfl c16<|z2 (zPf rfl c16 rfl)<|z2 (zAb rfl)<|z6<|yh rfl rfl<|zc<|ym ?_
        exact yt (by simp_all) ⟨_, .refl _, rfl⟩
   ·refine z7 rfl rfl c5<|z7 rfl rfl c5<|z7 rfl rfl c5<|z7 rfl rfl c5<|zb rfl rfl<|zb rfl rfl<|zb rfl rfl<|z7 rfl rfl c5<|z2 (zPf rfl c5 rfl)<|z2 (zAb rfl)<|z6<|yh rfl rfl<|zRg<|z2 (zMp rfl)<|z2 (ya rfl)<|z2 (zu underlying171 rfl sizeOf4 (by decide) rfl rfl)<|z2 (zy (c := .bool _) isAgg4 rfl ⟨_, .head⟩ rfl)<|z2 (yd rfl)<|z2 (zMb rfl)<|zl (s := 54) rfl (fun c18=>?_) (fun c18=>?_)
    ·refine z8 rfl rfl c18<|z2 (zFF underlying33 rfl sizeOf2 rfl rfl)<|z8 rfl rfl c18<|z2 (zLi isAgg2 rfl)<|z8 rfl rfl c18<|z2 (y3 rfl rfl)<|z8 rfl rfl c18<|z2 (zMb rfl)<|zl (s := 58) rfl (fun c19=>?_) (fun c19=>?_)
     ·refine z7 rfl rfl c19<|z7 rfl rfl c19<|z7 rfl rfl c19<|z8 rfl rfl c18<|z2 (zPt rfl c19 rfl)<|z2 (zPt rfl c18 rfl)<|z2 (zAb rfl)<|z6<|yr rfl rfl<|zRg<|z2 (zMp rfl)<|z2 (zFF underlying33 rfl sizeOf3 rfl rfl)<|z2 (zLi isAgg3 rfl)<|z2 (zMi rfl)<|zt rfl (zn (.l (.l (.rest _)))) (put_spec f l up i j1 es1 hl1 x.dst xb 0) ?_
      rintro r68 O68 ⟨jo, rfl, rfl, _⟩
      refine z6<|ym ?_
      exact yt (by simp_all) ⟨_, .refl _, rfl⟩
     ·refine z8 rfl rfl c19<|z2 (zFF underlying33 rfl sizeOf2 rfl rfl)<|z8 rfl rfl c19<|z2 (zLi isAgg2 rfl)<|z8 rfl rfl c19<|z2 (y3 rfl rfl)<|z8 rfl rfl c18<|z2 (zPf rfl c19 rfl)<|z2 (zPt rfl c18 rfl)<|z2 (zAb rfl)<|z6<|zr rfl (fun c20=>?_) (fun c20=>?_)
      ·refine zRg<|z2 (zMp rfl)<|z2 (zFF underlying33 rfl sizeOf3 rfl rfl)<|z2 (zLi isAgg3 rfl)<|z2 (zMi rfl)<|zt rfl (zn (.l (.l (.rest _)))) (put_spec f l up i j1 es1 hl1 x.dst xb 0) ?_
       rintro r68 O68 ⟨jo, rfl, rfl, _⟩
       refine z6<|ym ?_
       exact yt (by simp_all) ⟨_, .refl _, rfl⟩
      ·refine zSr<|z2 (zMp rfl)<|z2 (ya rfl)<|z2 (zu underlying171 rfl sizeOf4 (by decide) rfl rfl)<|z2 (zy (c := .bool _) isAgg4 rfl ⟨_, .head⟩ rfl)<|z2 (yd rfl)<|z2 (zMb rfl)<|zl (s := 75) rfl (fun c21=>?_) (fun c21=>?_)
       ·refine z8 rfl rfl c21<|z2 (zFF underlying33 rfl sizeOf2 rfl rfl)<|z8 rfl rfl c21<|z2 (zLi isAgg2 rfl)<|z8 rfl rfl c21<|z2 (y3 rfl rfl)<|z2 (zPt rfl c21 rfl)<|z2 (zAb rfl)<|z6<|zr rfl (fun c22=>?_) (fun c22=>?_)
        ·refine zRg<|z2 (zMp rfl)<|z2 (zFF underlying33 rfl sizeOf3 rfl rfl)<|z2 (zLi isAgg3 rfl)<|z2 (zMi rfl)<|zt rfl (zn (.l (.l (.rest _)))) (put_spec f l up i j1 es1 hl1 x.dst xb 1) ?_
         rintro r84 O84 ⟨jo, rfl, rfl, _⟩
         refine z6<|ym ?_
         exact yt (by simp_all) ⟨_, .refl _, rfl⟩
        ·refine zc<|ym ?_
         exact yt (by simp_all) ⟨_, .refl _, rfl⟩
       ·refine z7 rfl rfl c21<|z7 rfl rfl c21<|z7 rfl rfl c21<|z2 (zPf rfl c21 rfl)<|z2 (zAb rfl)<|z6<|yh rfl rfl<|zc<|ym ?_
        exact yt (by simp_all) ⟨_, .refl _, rfl⟩
    ·refine z7 rfl rfl c18<|z7 rfl rfl c18<|z7 rfl rfl c18<|z7 rfl rfl c18<|zb rfl rfl<|zb rfl rfl<|zb rfl rfl<|z7 rfl rfl c18<|z2 (zPf rfl c18 rfl)<|z2 (zAb rfl)<|z6<|yh rfl rfl<|zSr<|z2 (zMp rfl)<|z2 (ya rfl)<|z2 (zu underlying171 rfl sizeOf4 (by decide) rfl rfl)<|z2 (zy (c := .bool _) isAgg4 rfl ⟨_, .head⟩ rfl)<|z2 (yd rfl)<|z2 (zMb rfl)<|zl (s := 75) rfl (fun c23=>?_) (fun c23=>?_)
     ·refine z8 rfl rfl c23<|z2 (zFF underlying33 rfl sizeOf2 rfl rfl)<|z8 rfl rfl c23<|z2 (zLi isAgg2 rfl)<|z8 rfl rfl c23<|z2 (y3 rfl rfl)<|z2 (zPt rfl c23 rfl)<|z2 (zAb rfl)<|z6<|zr rfl (fun c24=>?_) (fun c24=>?_)
      ·refine zRg<|z2 (zMp rfl)<|z2 (zFF underlying33 rfl sizeOf3 rfl rfl)<|z2 (zLi isAgg3 rfl)<|z2 (zMi rfl)<|zt rfl (zn (.l (.l (.rest _)))) (put_spec f l up i j1 es1 hl1 x.dst xb 1) ?_
       rintro r84 O84 ⟨jo, rfl, rfl, _⟩
       refine z6<|ym ?_
       exact yt (by simp_all) ⟨_, .refl _, rfl⟩
      ·refine zc<|ym ?_
       exact yt (by simp_all) ⟨_, .refl _, rfl⟩
     ·refine z7 rfl rfl c23<|z7 rfl rfl c23<|z7 rfl rfl c23<|z2 (zPf rfl c23 rfl)<|z2 (zAb rfl)<|z6<|yh rfl rfl<|zc<|ym ?_
      exact yt (by simp_all) ⟨_, .refl _, rfl⟩
 ·refine z7 rfl rfl c3<|z7 rfl rfl c3<|z7 rfl rfl c3<|z2 (zPf rfl c3 rfl)<|z2 (zAb rfl)<|z6<|yh rfl rfl<|za<|zSr<|z2 (zMp rfl)<|z2 (ya rfl)<|z2 (zu underlying171 rfl sizeOf4 (by decide) rfl rfl)<|z2 (zy (c := .bool _) isAgg4 rfl ⟨_, .head⟩ rfl)<|z2 (zMb rfl)<|zl (s := 39) rfl (fun c25=>?_) (fun c25=>?_)
  ·refine z8 rfl rfl c25<|z2 (zFF underlying33 rfl sizeOf2 rfl rfl)<|z8 rfl rfl c25<|z2 (zLi isAgg2 rfl)<|z8 rfl rfl c25<|z2 (y3 rfl rfl)<|z8 rfl rfl c25<|z2 (zMb rfl)<|zl (s := 43) rfl (fun c26=>?_) (fun c26=>?_)
   ·refine z7 rfl rfl c26<|z7 rfl rfl c26<|z7 rfl rfl c26<|z8 rfl rfl c25<|z2 (zPt rfl c26 rfl)<|z2 (zPt rfl c25 rfl)<|z2 (zAb rfl)<|z6<|yr rfl rfl<|zc<|yr rfl rfl<|zRg<|z2 (zMp rfl)<|z2 (zFF underlying33 rfl sizeOf3 rfl rfl)<|z2 (zLi isAgg3 rfl)<|z2 (zMi rfl)<|zt rfl (zn (.l (.l (.rest _)))) (put_spec f l up i j1 es1 hl1 x.dst xb 0) ?_
    rintro r68 O68 ⟨jo, rfl, rfl, _⟩
    refine z6<|ym ?_
    exact yt (by simp_all) ⟨_, .refl _, rfl⟩
   ·refine z8 rfl rfl c26<|z2 (zFF underlying33 rfl sizeOf2 rfl rfl)<|z8 rfl rfl c26<|z2 (zLi isAgg2 rfl)<|z8 rfl rfl c26<|z2 (y3 rfl rfl)<|z8 rfl rfl c25<|z2 (zPf rfl c26 rfl)<|z2 (zPt rfl c25 rfl)<|z2 (zAb rfl)<|z6<|zr rfl (fun c27=>?_) (fun c27=>?_)
    ·refine zc<|zr rfl (fun c28=>?_) (fun c28=>?_)
     ·refine zRg<|z2 (zMp rfl)<|z2 (zFF underlying33 rfl sizeOf3 rfl rfl)<|z2 (zLi isAgg3 rfl)<|z2 (zMi rfl)<|zt rfl (zn (.l (.l (.rest _)))) (put_spec f l up i j1 es1 hl1 x.dst xb 0) ?_
      rintro r68 O68 ⟨jo, rfl, rfl, _⟩
      refine z6<|ym ?_
      exact yt (by simp_all) ⟨_, .refl _, rfl⟩
     ·refine zSr<|z2 (zMp rfl)<|z2 (ya rfl)<|z2 (zu underlying171 rfl sizeOf4 (by decide) rfl rfl)<|z2 (zy (c := .bool _) isAgg4 rfl ⟨_, .head⟩ rfl)<|z2 (yd rfl)<|z2 (zMb rfl)<|zl (s := 75) rfl (fun c29=>?_) (fun c29=>?_)
      ·refine z8 rfl rfl c29<|z2 (zFF underlying33 rfl sizeOf2 rfl rfl)<|z8 rfl rfl c29<|z2 (zLi isAgg2 rfl)<|z8 rfl rfl c29<|z2 (y3 rfl rfl)<|z2 (zPt rfl c29 rfl)<|z2 (zAb rfl)<|z6<|zr rfl (fun c30=>?_) (fun c30=>?_)
       ·refine zRg<|z2 (zMp rfl)<|z2 (zFF underlying33 rfl sizeOf3 rfl rfl)<|z2 (zLi isAgg3 rfl)<|z2 (zMi rfl)<|zt rfl (zn (.l (.l (.rest _)))) (put_spec f l up i j1 es1 hl1 x.dst xb 1) ?_
        rintro r84 O84 ⟨jo, rfl, rfl, _⟩
        refine z6<|ym ?_
        exact yt (by simp_all) ⟨_, .refl _, rfl⟩
       ·refine zc<|ym ?_
        exact yt (by simp_all) ⟨_, .refl _, rfl⟩
      ·refine z7 rfl rfl c29<|z7 rfl rfl c29<|z7 rfl rfl c29<|z2 (zPf rfl c29 rfl)<|z2 (zAb rfl)<|z6<|yh rfl rfl<|zc<|ym ?_
       exact yt (by simp_all) ⟨_, .refl _, rfl⟩
    ·refine zRg<|z2 (zMp rfl)<|z2 (ya rfl)<|z2 (zu underlying171 rfl sizeOf4 (by decide) rfl rfl)<|z2 (zy (c := .bool _) isAgg4 rfl ⟨_, .head⟩ rfl)<|z2 (yd rfl)<|z2 (zMb rfl)<|zl (s := 54) rfl (fun c31=>?_) (fun c31=>?_)
     ·refine z8 rfl rfl c31<|z2 (zFF underlying33 rfl sizeOf2 rfl rfl)<|z8 rfl rfl c31<|z2 (zLi isAgg2 rfl)<|z8 rfl rfl c31<|z2 (y3 rfl rfl)<|z8 rfl rfl c31<|z2 (zMb rfl)<|zl (s := 58) rfl (fun c32=>?_) (fun c32=>?_)
      ·refine z7 rfl rfl c32<|z7 rfl rfl c32<|z7 rfl rfl c32<|z8 rfl rfl c31<|z2 (zPt rfl c32 rfl)<|z2 (zPt rfl c31 rfl)<|z2 (zAb rfl)<|z6<|yr rfl rfl<|zRg<|z2 (zMp rfl)<|z2 (zFF underlying33 rfl sizeOf3 rfl rfl)<|z2 (zLi isAgg3 rfl)<|z2 (zMi rfl)<|zt rfl (zn (.l (.l (.rest _)))) (put_spec f l up i j1 es1 hl1 x.dst xb 0) ?_
       rintro r68 O68 ⟨jo, rfl, rfl, _⟩
       refine z6<|ym ?_
       exact yt (by simp_all) ⟨_, .refl _, rfl⟩
      ·refine z8 rfl rfl c32<|z2 (zFF underlying33 rfl sizeOf2 rfl rfl)<|z8 rfl rfl c32<|z2 (zLi isAgg2 rfl)<|z8 rfl rfl c32<|z2 (y3 rfl rfl)<|z8 rfl rfl c31<|z2 (zPf rfl c32 rfl)<|z2 (zPt rfl c31 rfl)<|z2 (zAb rfl)<|z6<|zr rfl (fun c33=>?_) (fun c33=>?_)
       ·refine zRg<|z2 (zMp rfl)<|z2 (zFF underlying33 rfl sizeOf3 rfl rfl)<|z2 (zLi isAgg3 rfl)<|z2 (zMi rfl)<|zt rfl (zn (.l (.l (.rest _)))) (put_spec f l up i j1 es1 hl1 x.dst xb 0) ?_
        rintro r68 O68 ⟨jo, rfl, rfl, _⟩
        refine z6<|ym ?_
        exact yt (by simp_all) ⟨_, .refl _, rfl⟩
       ·refine zSr<|z2 (zMp rfl)<|z2 (ya rfl)<|z2 (zu underlying171 rfl sizeOf4 (by decide) rfl rfl)<|z2 (zy (c := .bool _) isAgg4 rfl ⟨_, .head⟩ rfl)<|z2 (yd rfl)<|z2 (zMb rfl)<|zl (s := 75) rfl (fun c34=>?_) (fun c34=>?_)
        ·refine z8 rfl rfl c34<|z2 (zFF underlying33 rfl sizeOf2 rfl rfl)<|z8 rfl rfl c34<|z2 (zLi isAgg2 rfl)<|z8 rfl rfl c34<|z2 (y3 rfl rfl)<|z2 (zPt rfl c34 rfl)<|z2 (zAb rfl)<|z6<|zr rfl (fun c35=>?_) (fun c35=>?_)
         ·refine zRg<|z2 (zMp rfl)<|z2 (zFF underlying33 rfl sizeOf3 rfl rfl)<|z2 (zLi isAgg3 rfl)<|z2 (zMi rfl)<|zt rfl (zn (.l (.l (.rest _)))) (put_spec f l up i j1 es1 hl1 x.dst xb 1) ?_
          rintro r84 O84 ⟨jo, rfl, rfl, _⟩
          refine z6<|ym ?_
          exact yt (by simp_all) ⟨_, .refl _, rfl⟩
         ·refine zc<|ym ?_
          exact yt (by simp_all) ⟨_, .refl _, rfl⟩
        ·refine z7 rfl rfl c34<|z7 rfl rfl c34<|z7 rfl rfl c34<|z2 (zPf rfl c34 rfl)<|z2 (zAb rfl)<|z6<|yh rfl rfl<|zc<|ym ?_
         exact yt (by simp_all) ⟨_, .refl _, rfl⟩
     ·refine z7 rfl rfl c31<|z7 rfl rfl c31<|z7 rfl rfl c31<|z7 rfl rfl c31<|zb rfl rfl<|zb rfl rfl<|zb rfl rfl<|z7 rfl rfl c31<|z2 (zPf rfl c31 rfl)<|z2 (zAb rfl)<|z6<|yh rfl rfl<|zSr<|z2 (zMp rfl)<|z2 (ya rfl)<|z2 (zu underlying171 rfl sizeOf4 (by decide) rfl rfl)<|z2 (zy (c := .bool _) isAgg4 rfl ⟨_, .head⟩ rfl)<|z2 (yd rfl)<|z2 (zMb rfl)<|zl (s := 75) rfl (fun c36=>?_) (fun c36=>?_)
      ·refine z8 rfl rfl c36<|z2 (zFF underlying33 rfl sizeOf2 rfl rfl)<|z8 rfl rfl c36<|z2 (zLi isAgg2 rfl)<|z8 rfl rfl c36<|z2 (y3 rfl rfl)<|z2 (zPt rfl c36 rfl)<|z2 (zAb rfl)<|z6<|zr rfl (fun c37=>?_) (fun c37=>?_)
       ·refine zRg<|z2 (zMp rfl)<|z2 (zFF underlying33 rfl sizeOf3 rfl rfl)<|z2 (zLi isAgg3 rfl)<|z2 (zMi rfl)<|zt rfl (zn (.l (.l (.rest _)))) (put_spec f l up i j1 es1 hl1 x.dst xb 1) ?_
        rintro r84 O84 ⟨jo, rfl, rfl, _⟩
        refine z6<|ym ?_
        exact yt (by simp_all) ⟨_, .refl _, rfl⟩
       ·refine zc<|ym ?_
        exact yt (by simp_all) ⟨_, .refl _, rfl⟩
      ·refine z7 rfl rfl c36<|z7 rfl rfl c36<|z7 rfl rfl c36<|z2 (zPf rfl c36 rfl)<|z2 (zAb rfl)<|z6<|yh rfl rfl<|zc<|ym ?_
       exact yt (by simp_all) ⟨_, .refl _, rfl⟩
  ·refine z7 rfl rfl c25<|z7 rfl rfl c25<|z7 rfl rfl c25<|z7 rfl rfl c25<|zb rfl rfl<|zb rfl rfl<|zb rfl rfl<|z7 rfl rfl c25<|z2 (zPf rfl c25 rfl)<|z2 (zAb rfl)<|z6<|yh rfl rfl<|zRg<|z2 (zMp rfl)<|z2 (ya rfl)<|z2 (zu underlying171 rfl sizeOf4 (by decide) rfl rfl)<|z2 (zy (c := .bool _) isAgg4 rfl ⟨_, .head⟩ rfl)<|z2 (yd rfl)<|z2 (zMb rfl)<|zl (s := 54) rfl (fun c38=>?_) (fun c38=>?_)
   ·refine z8 rfl rfl c38<|z2 (zFF underlying33 rfl sizeOf2 rfl rfl)<|z8 rfl rfl c38<|z2 (zLi isAgg2 rfl)<|z8 rfl rfl c38<|z2 (y3 rfl rfl)<|z8 rfl rfl c38<|z2 (zMb rfl)<|zl (s := 58) rfl (fun c39=>?_) (fun c39=>?_)
    ·refine z7 rfl rfl c39<|z7 rfl rfl c39<|z7 rfl rfl c39<|z8 rfl rfl c38<|z2 (zPt rfl c39 rfl)<|z2 (zPt rfl c38 rfl)<|z2 (zAb rfl)<|z6<|yr rfl rfl<|zRg<|z2 (zMp rfl)<|z2 (zFF underlying33 rfl sizeOf3 rfl rfl)<|z2 (zLi isAgg3 rfl)<|z2 (zMi rfl)<|zt rfl (zn (.l (.l (.rest _)))) (put_spec f l up i j1 es1 hl1 x.dst xb 0) ?_
     rintro r68 O68 ⟨jo, rfl, rfl, _⟩
     refine z6<|ym ?_
     exact yt (by simp_all) ⟨_, .refl _, rfl⟩
    ·refine z8 rfl rfl c39<|z2 (zFF underlying33 rfl sizeOf2 rfl rfl)<|z8 rfl rfl c39<|z2 (zLi isAgg2 rfl)<|z8 rfl rfl c39<|z2 (y3 rfl rfl)<|z8 rfl rfl c38<|z2 (zPf rfl c39 rfl)<|z2 (zPt rfl c38 rfl)<|z2 (zAb rfl)<|z6<|zr rfl (fun c40=>?_) (fun c40=>?_)
     ·refine zRg<|z2 (zMp rfl)<|z2 (zFF underlying33 rfl sizeOf3 rfl rfl)<|z2 (zLi isAgg3 rfl)<|z2 (zMi rfl)<|zt rfl (zn (.l (.l (.rest _)))) (put_spec f l up i j1 es1 hl1 x.dst xb 0) ?_
      rintro r68 O68 ⟨jo, rfl, rfl, _⟩
      refine z6<|ym ?_
      exact yt (by simp_all) ⟨_, .refl _, rfl⟩
     ·refine zSr<|z2 (zMp rfl)<|z2 (ya rfl)<|z2 (zu underlying171 rfl sizeOf4 (by decide) rfl rfl)<|z2 (zy (c := .bool _) isAgg4 rfl ⟨_, .head⟩ rfl)<|z2 (yd rfl)<|z2 (zMb rfl)<|zl (s := 75) rfl (fun c41=>?_) (fun c41=>?_)
      ·refine z8 rfl rfl c41<|z2 (zFF underlying33 rfl sizeOf2 rfl rfl)<|z8 rfl rfl c41<|z2 (zLi isAgg2 rfl)<|z8 rfl rfl c41<|z2 (y3 rfl rfl)<|z2 (zPt rfl c41 rfl)<|z2 (zAb rfl)<|z6<|zr rfl (fun c42=>?_) (fun c42=>?_)
       ·refine zRg<|z2 (zMp rfl)<|z2 (zFF underlying33 rfl sizeOf3 rfl rfl)<|z2 (zLi isAgg3 rfl)<|z2 (zMi rfl)<|zt rfl (zn (.l (.l (.rest _)))) (put_spec f l up i j1 es1 hl1 x.dst xb 1) ?_
        rintro r84 O84 ⟨jo, rfl, rfl, _⟩
        refine z6<|ym ?_
        exact yt (by simp_all) ⟨_, .refl _, rfl⟩
       ·refine zc<|ym ?_
        exact yt (by simp_all) ⟨_, .refl _, rfl⟩
      ·refine z7 rfl rfl c41<|z7 rfl rfl c41<|z7 rfl rfl c41<|z2 (zPf rfl c41 rfl)<|z2 (zAb rfl)<|z6<|yh rfl rfl<|zc<|ym ?_
       exact yt (by simp_all) ⟨_, .refl _, rfl⟩
   ·refine z7 rfl rfl c38<|z7 rfl rfl c38<|z7 rfl rfl c38<|z7 rfl rfl c38<|zb rfl rfl<|zb rfl rfl<|zb rfl rfl<|z7 rfl rfl c38<|z2 (zPf rfl c38 rfl)<|z2 (zAb rfl)<|z6<|yh rfl rfl<|zSr<|z2 (zMp rfl)<|z2 (ya rfl)<|z2 (zu underlying171 rfl sizeOf4 (by decide) rfl rfl)<|z2 (zy (c := .bool _) isAgg4 rfl ⟨_, .head⟩ rfl)<|z2 (yd rfl)<|z2 (zMb rfl)<|zl (s := 75) rfl (fun c43=>?_) (fun c43=>?_)
    ·refine z8 rfl rfl c43<|z2 (zFF underlying33 rfl sizeOf2 rfl rfl)<|z8 rfl rfl c43<|z2 (zLi isAgg2 rfl)<|z8 rfl rfl c43<|z2 (y3 rfl rfl)<|z2 (zPt rfl c43 rfl)<|z2 (zAb rfl)<|z6<|zr rfl (fun c44=>?_) (fun c44=>?_)
     ·refine zRg<|z2 (zMp rfl)<|z2 (zFF underlying33 rfl sizeOf3 rfl rfl)<|z2 (zLi isAgg3 rfl)<|z2 (zMi rfl)<|zt rfl (zn (.l (.l (.rest _)))) (put_spec f l up i j1 es1 hl1 x.dst xb 1) ?_
      rintro r84 O84 ⟨jo, rfl, rfl, _⟩
      refine z6<|ym ?_
      exact yt (by simp_all) ⟨_, .refl _, rfl⟩
     ·refine zc<|ym ?_
      exact yt (by simp_all) ⟨_, .refl _, rfl⟩
    ·refine z7 rfl rfl c43<|z7 rfl rfl c43<|z7 rfl rfl c43<|z2 (zPf rfl c43 rfl)<|z2 (zAb rfl)<|z6<|yh rfl rfl<|zc<|ym ?_
     exact yt (by simp_all) ⟨_, .refl _, rfl⟩
theorem two_of {x : PInst} (h : x.args.length = 2) : ∃ a b, x.args = [a, b] := match x.args, h with
 | [a, b], _ => ⟨a, b, rfl⟩
theorem takes1 {op : Int} (h : op = 1 ∨ op = 12 ∨ op = 15) : 1 ≤ (takesL op).length := by rcases h with rfl | rfl | rfl <;> decide
theorem takes2 {op : Int} (h : op = 2 ∨ op = 3 ∨ op = 5 ∨ op = 6 ∨ op = 25 ∨ op = 26) : (takesL op).length = 2 := by rcases h with rfl | rfl | rfl | rfl | rfl | rfl <;> decide
set_option maxHeartbeats 4000000 in
theorem tinst_spec (f : PFunc) (hf : small f) (hS : ShapedP f) (hE : EndsOk f) (l : List Rng) (hll : l.length = f.vars.length) (hok : ∀ u : Int, 0 ≤ u → ok64 (lv l u)) (up : Bool) (i io : Nat) (es : List Ejk) (hb : es.length ≤ 80000000) (x : PInst) (hI : InstF f x) (block at_ : Nat) :
  ACall prog E 105 [.po i 0, .agg (encInst x), .int .i64 block, .int .i64 at_] (tabO f l up i io es) (tabQ f l up i (es ++ instE f l up x block at_)) := by
 have htwo : x.op = 2 ∨ x.op = 3 ∨ x.op = 5 ∨ x.op = 6 ∨ x.op = 25 ∨ x.op = 26 → ∃ a b, x.args = [a, b] ∧ x0 x = a ∧ x1 x = b ∧ hasV f a = true ∧ hasV f b = true := fun h => by
  obtain ⟨a, b, e⟩ := two_of (by rw [hI.len]; exact takes2 h)
  exact ⟨a, b, e, by unfold x0; rw [e]; rfl, by unfold x1; rw [e]; rfl, hI.args a (by rw [e]; simp), hI.args b (by rw [e]; simp)⟩
 rw [instE]
 refine ACall.tab ?_
 unfold tabO tblL
 refine zo func105 rfl (by decide) rfl<|zSr<|y7 (cs := _) rfl rfl rfl<|z6<|zSr<|z2 (zFF underlying33 rfl sizeOf31 rfl rfl)<|z2 (zLi isAgg31 rfl)<|z6<|zh<|zSr<|z2 (y3 rfl rfl)<|z2 (zAb rfl)<|z6<|zp rfl (fun c0=>?_) (fun c0=>?_)
 ·refine y1 (fun j => false) (by kernel_rfl) rfl (zn (.rest _))<|zTk 0 rfl (zMp rfl)<|zTk 1 rfl (zFF underlying33 rfl sizeOf3 rfl rfl)<|zTk 2 rfl (zLi isAgg3 rfl)<|zTk 3 rfl (zMp rfl)<|zTk 4 rfl (ya rfl)<|zTk 5 rfl (zu underlying171 rfl sizeOf3 (by decide) rfl rfl)<|zTk 7 rfl (zFF underlying33 rfl sizeOf2 rfl rfl)<|zTk 8 rfl (zLi isAgg2 rfl)<|zOn 6 rfl<|z2 (zy (c := .int _ _) isAgg3 rfl ⟨_, .head⟩ rfl)<|z6<|zOn 9 rfl<|zt rfl (zn (.l (.l (.rest _)))) (put_spec f l up i io es (by omega) x.dst (n0 f) x.num) ?_
  rintro r21 O21 ⟨jo, rfl, rfl, _⟩
  refine z6<|zDn<|ym ?_
  exact yt (by rw [if_pos c0]) ⟨_, .refl _, rfl⟩
 ·rw [if_neg c0]
  refine za<|zSr<|z2 (y3 rfl rfl)<|z2 (zAb rfl)<|z6<|yc (γ := Bool) [0, 2, 3, 5, 9] (fun u => [(22, .bool u)]) (fun u => [(i, .cells 171 (tblL f l up (.own io es.length))), (io, .grow 3 53 (eC es))]) (fun u => u = decide (x.op = 1 ∨ x.op = 12 ∨ x.op = 15)) ?_ (fun _ _ h => h) ?_
  ·refine zr rfl (fun c45=>?_) (fun c45=>?_)
   ·refine zc ?_
    exact ⟨_, zR5, zR1, zLe, by simp_all⟩
   ·refine zSr<|z2 (y3 rfl rfl)<|z2 (zAb rfl)<|z6<|zr rfl (fun c46=>?_) (fun c46=>?_)
    ·refine zc ?_
     exact ⟨_, zR5, zR1, zLe, by simp_all⟩
    ·refine zRg<|z2 (y3 rfl rfl)<|z2 (zAb rfl)<|z6 ?_
     exact ⟨_, zR5, zR1, zLe, by simp_all⟩
  ·rintro u hu
   subst hu
   refine zp rfl (fun c1=>?_) (fun c1=>?_)
   ·have hl1 : 1 ≤ x.args.length := by rw [hI.len]; exact takes1 c1
    obtain ⟨xa, hxa⟩ : ∃ xa, x.args[0]? = some xa := ⟨_, qj (by omega)⟩
    have e0 : x0 x = xa := by unfold x0; rw [hxa]; rfl
    refine y1 (fun j => false) (by kernel_rfl) rfl (zn (.rest _))<|zTk 0 rfl (zMp rfl)<|zTk 1 rfl (zFF underlying33 rfl sizeOf3 rfl rfl)<|zTk 2 rfl (zLi isAgg3 rfl)<|zTk 3 rfl (zFF underlying33 rfl sizeOf23 rfl rfl)<|zTk 4 rfl (zLf isAgg23 rfl)<|zTk 5 rfl (zIM 0 underlying23 sizeOf3 rfl rfl rfl hxa)<|zTk 6 rfl (zLi isAgg3 rfl)<|zOn 7 rfl<|zt rfl (zn (.l (.l (.rest _)))) (put_spec f l up i io es (by omega) x.dst xa 0) ?_
    rintro r33 O33 ⟨jo, rfl, rfl, _⟩
    refine z6<|zDn<|ym ?_
    exact yt (by rw [if_pos c1, e0]) ⟨_, .refl _, rfl⟩
   ·rw [if_neg c1]
    refine za<|zSr<|z2 (y3 rfl rfl)<|z2 (zAb rfl)<|z6<|yc (γ := Bool) [0, 2, 3, 5, 9] (fun u => [(34, .bool u)]) (fun u => [(i, .cells 171 (tblL f l up (.own io es.length))), (io, .grow 3 53 (eC es))]) (fun u => u = decide (x.op = 2 ∨ x.op = 3)) ?_ (fun _ _ h => h) ?_
    ·refine zr rfl (fun c47=>?_) (fun c47=>?_)
     ·refine zc ?_
      exact ⟨_, zR5, zR1, zLe, by simp_all⟩
     ·refine zRg<|z2 (y3 rfl rfl)<|z2 (zAb rfl)<|z6 ?_
      exact ⟨_, zR5, zR1, zLe, by simp_all⟩
    ·rintro u hu
     subst hu
     refine zp rfl (fun c2=>?_) (fun c2=>?_)
     ·obtain ⟨xa, xb, hxa, e0, e1, ha, hb2⟩ := htwo (by omega)
      refine zRg<|z2 (zMp rfl)<|z2 (zk isAgg33 sizeOf33 rfl rfl)<|z2 (zMi rfl)<|z2 (zMi rfl)<|zt rfl (zn (.l (.l (.rest _)))) (tsum_spec f hf hS hE l hll hok up i io es (by omega) x c2 hxa ha hb2 block at_) ?_
      rintro r41 O41 ⟨jo, rfl, rfl, _⟩
      refine z6<|ym ?_
      exact yt (by rw [if_pos c2]) ⟨_, .refl _, rfl⟩
     ·rw [if_neg c2]
      refine za<|zSr<|z2 (y3 rfl rfl)<|z2 (zAb rfl)<|z6<|yc (γ := Bool) [0, 5, 9] (fun u => [(42, .bool u)]) (fun u => [(i, .cells 171 (tblL f l up (.own io es.length))), (io, .grow 3 53 (eC es))]) (fun u => u = decide (x.op = 5 ∨ x.op = 6)) ?_ (fun _ _ h => h) ?_
      ·refine zr rfl (fun c48=>?_) (fun c48=>?_)
       ·refine zc ?_
        exact ⟨_, zR3, zR1, zLe, by simp_all⟩
       ·refine zRg<|z2 (y3 rfl rfl)<|z2 (zAb rfl)<|z6 ?_
        exact ⟨_, zR3, zR1, zLe, by simp_all⟩
      ·rintro u hu
       subst hu
       refine zp rfl (fun c5=>?_) (fun c5=>?_)
       ·obtain ⟨xa, xb, hxa, e0, e1, ha, hb2⟩ := htwo (by omega)
        refine zRg<|z2 (zMp rfl)<|z2 (zk isAgg33 sizeOf33 rfl rfl)<|zt rfl (zn (.l (.l (.rest _)))) (trest_spec f hS l hll up i io es (by omega) x c5 hxa ha hb2) ?_
        rintro r47 O47 ⟨jo, rfl, rfl, _⟩
        refine z6<|ym ?_
        exact yt (by rw [if_pos c5]) ⟨_, .refl _, rfl⟩
       ·rw [if_neg c5]
        refine zSr<|z2 (y3 rfl rfl)<|z2 (zAb rfl)<|z6<|zp rfl (fun c16=>?_) (fun c16=>?_)
        ·refine y1 (fun j => false) (by kernel_rfl) rfl (zn (.rest _))<|zTk 0 rfl (zMp rfl)<|zTk 1 rfl (zFF underlying33 rfl sizeOf3 rfl rfl)<|zTk 2 rfl (zLi isAgg3 rfl)<|zTk 3 rfl (zMp rfl)<|zTk 4 rfl (ya rfl)<|zTk 5 rfl (zu underlying171 rfl sizeOf3 (by decide) rfl rfl)<|zOn 6 rfl<|z2 (zy (c := .int _ _) isAgg3 rfl ⟨_, .head⟩ rfl)<|z6<|zOn 7 rfl<|zt rfl (zn (.l (.l (.rest _)))) (put_spec f l up i io es (by omega) x.dst (n0 f) 0) ?_
         rintro r57 O57 ⟨jo, rfl, rfl, _⟩
         refine z6<|zDn<|ym ?_
         exact yt (by rw [if_pos c16]) ⟨_, .refl _, rfl⟩
        ·rw [if_neg c16]
         refine zSr<|z2 (y3 rfl rfl)<|z2 (zAb rfl)<|z6<|zp rfl (fun c25=>?_) (fun c25=>?_)
         ·obtain ⟨xa, xb, hxa, e0, e1, ha, hb2⟩ := htwo (by omega)
          refine zRg<|z2 (zMp rfl)<|z2 (zk isAgg33 sizeOf33 rfl rfl)<|zt rfl (zn (.l (.l (.rest _)))) (tpi_spec f l up i io es (by omega) x hxa) ?_
          rintro r62 O62 ⟨jo, rfl, rfl, _⟩
          refine z6<|ym ?_
          exact yt (by rw [if_pos c25]) ⟨_, .refl _, rfl⟩
         ·rw [if_neg c25]
          refine zSr<|z2 (y3 rfl rfl)<|z2 (zAb rfl)<|z6<|zp rfl (fun c26=>?_) (fun c26=>?_)
          ·obtain ⟨xa, xb, hxa, e0, e1, ha, hb2⟩ := htwo (by omega)
           refine za<|y1 (fun j => false) (by kernel_rfl) rfl (zn (.rest _))<|zTk 0 rfl (zMp rfl)<|zTk 1 rfl (zFF underlying33 rfl sizeOf3 rfl rfl)<|zTk 2 rfl (zLi isAgg3 rfl)<|zTk 3 rfl (zFF underlying33 rfl sizeOf23 rfl rfl)<|zTk 4 rfl (zLf isAgg23 rfl)<|zTk 5 rfl (zIM 0 underlying23 sizeOf3 rfl rfl rfl (by rw [hxa]; rfl))<|zTk 6 rfl (zLi isAgg3 rfl)<|zOn 7 rfl<|zt rfl (zn (.l (.l (.rest _)))) (put_spec f l up i io es (by omega) x.dst xa 0) ?_
           rintro r72 O72 ⟨j1, rfl, rfl, _⟩
           refine z6<|zDn<|zSr<|z2 (zMp rfl)<|z2 (ya rfl)<|z2 (zu underlying171 rfl sizeOf4 (by decide) rfl rfl)<|z2 (zy (c := .bool _) isAgg4 rfl ⟨_, .head⟩ rfl)<|z6<|zr rfl (fun cu=>?_) (fun cu=>?_)
           ·refine y1 (fun j => false) (by kernel_rfl) rfl (zn (.rest _))<|zTk 0 rfl (zMp rfl)<|zTk 1 rfl (zFF underlying33 rfl sizeOf3 rfl rfl)<|zTk 2 rfl (zLi isAgg3 rfl)<|zTk 3 rfl (zFF underlying33 rfl sizeOf23 rfl rfl)<|zTk 4 rfl (zLf isAgg23 rfl)<|zTk 5 rfl (zIM 1 underlying23 sizeOf3 rfl rfl rfl (by rw [hxa]; rfl))<|zTk 6 rfl (zLi isAgg3 rfl)<|zOn 7 rfl<|zt rfl (zn (.l (.l (.rest _)))) (put_spec f l up i j1 (es ++ [(xa, x.dst, 0)]) (by rw [qp]; simp; omega) x.dst xb (-1)) ?_
            rintro r84 O84 ⟨jo, rfl, rfl, _⟩
            refine z6<|zDn<|ym ?_
            exact yt (by rw [if_pos c26, if_pos (show up = true from cu), e0, e1]; simp) ⟨_, .refl _, rfl⟩
           ·refine y1 (fun j => false) (by kernel_rfl) rfl (zn (.rest _))<|zTk 0 rfl (zMp rfl)<|zTk 1 rfl (zFF underlying33 rfl sizeOf3 rfl rfl)<|zTk 2 rfl (zLi isAgg3 rfl)<|zTk 3 rfl (zMp rfl)<|zTk 4 rfl (ya rfl)<|zTk 5 rfl (zu underlying171 rfl sizeOf3 (by decide) rfl rfl)<|zOn 6 rfl<|z2 (zy (c := .int _ _) isAgg3 rfl ⟨_, .head⟩ rfl)<|z6<|zOn 7 rfl<|zt rfl (zn (.l (.l (.rest _)))) (put_spec f l up i j1 (es ++ [(xa, x.dst, 0)]) (by rw [qp]; simp; omega) x.dst (n0 f) 0) ?_
            rintro r92 O92 ⟨jo, rfl, rfl, _⟩
            refine z6<|zDn<|ym ?_
            exact yt (by rw [if_pos c26, if_neg (by rw [show up = false from cu]; decide), e0]; simp) ⟨_, .refl _, rfl⟩
          ·refine zc<|ym ?_
           exact yt (io := io) (by rw [if_neg c26, qt]) ⟨_, .refl _, rfl⟩
end Go.Proofs.YtjnpcfpecilejaaGreatDoor
