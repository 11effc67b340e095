/- The tree of what is above what: made, and asked. Of programs that are little. -/
import Derived.Test.YtjnpcfpecilejaaGreatDoorKj
set_option linter.unusedVariables false
set_option linter.unusedSimpArgs false
set_option linter.unusedSectionVars false
namespace Go.Proofs.YtjnpcfpecilejaaGreatDoor
open Go.Proofs.Tryz
open Go.Proofs
variable {E : World}
set_option maxRecDepth 20000
def treeV (f : PFunc) (x y : AV) : AV := .pf [.fro 1 ((nearR (EndsOf f) f.blocks.length).map encI), .fro 1 ((levG (EndsOf f) f.blocks.length).map encI), x, y]
theorem thas_spec (lev : List Int) (b : Int) (x0 x2 x3 : AV) (hl : lev.length ≤ 1000) : AFun prog E 186 [.pf [x0, .fro 1 (lev.map encI), x2, x3], .int .i64 b] (.bool (decide (gi lev b ≠ -1))) := by
 refine zn func186 rfl (by decide) rfl<|zSr<|z2 (zAb rfl)<|z6<|zSr<|z2 (zMg rfl)<|z2 (Gv.neqPf underlying101 type203 rfl)<|z2 (zMb rfl)<|z8 rfl rfl rfl<|z2 (zMi rfl)<|z8 rfl rfl rfl<|z2 (q0 rfl rfl)<|z2 (zPt rfl rfl rfl)<|z2 (zMb rfl)<|zr (s := 11) rfl (fun c0=>?_) (fun c0=>?_)
 ·have h0 : 0 ≤ b := by simpa using c0
  refine z8 rfl rfl c0<|z2 (zMi rfl)<|z8 rfl rfl c0<|z2 (zMg rfl)<|z8 rfl rfl c0<|z2 (yv rfl)<|z8 rfl rfl c0<|z2 (zFF underlying203 rfl sizeOf23 rfl rfl)<|z8 rfl rfl c0<|z2 (zLf isAgg23 rfl)<|z8 rfl rfl c0<|z2 (zz underlying23 rfl)<|z8 rfl rfl c0<|z2 (y7 rfl rfl)<|z2 (zPt rfl c0 rfl)<|z2 (zMb rfl)<|zr (s := 20) rfl (fun c1=>?_) (fun c1=>?_)
  ·have h1 : b < lev.length := by simpa using c1
   have hg : lev[b.toNat]? = some (gi lev b) := gi_get h0 (by omega)
   refine z8 rfl rfl c1<|z2 (zMg rfl)<|z8 rfl rfl c1<|z2 (yv rfl)<|z8 rfl rfl c1<|z2 (zFF underlying203 rfl sizeOf23 rfl rfl)<|z8 rfl rfl c1<|z2 (zLf isAgg23 rfl)<|z8 rfl rfl c1<|z2 (zMi rfl)<|z8 rfl rfl c1<|z2 (zIM b.toNat underlying23 sizeOf3 rfl rfl (by omega) hg)<|z8 rfl rfl c1<|z2 (zLi isAgg3 rfl)<|z8 rfl rfl c1<|z2 (yk rfl rfl)<|z2 (zPt rfl c1 rfl)<|z2 (zAb rfl)<|z6<|zd<|zm (x := .bool _) rfl ?_
   simp
  ·have h1 : ¬ b < lev.length := by simpa using c1
   refine z7 rfl rfl c1<|z7 rfl rfl c1<|z7 rfl rfl c1<|z7 rfl rfl c1<|z7 rfl rfl c1<|z7 rfl rfl c1<|z7 rfl rfl c1<|z7 rfl rfl c1<|z2 (zPf rfl c1 rfl)<|z2 (zAb rfl)<|z6<|zd<|zm (x := .bool _) rfl ?_
   rw [gi_out (.inr (by omega))]; rfl
 ·have h0 : ¬ 0 ≤ b := by simpa using c0
  refine z7 rfl rfl c0<|z7 rfl rfl c0<|z7 rfl rfl c0<|z7 rfl rfl c0<|z7 rfl rfl c0<|z7 rfl rfl c0<|z7 rfl rfl c0<|z2 (zPf rfl c0 rfl)<|z2 (zMb rfl)<|z7 rfl rfl rfl<|z7 rfl rfl rfl<|z7 rfl rfl rfl<|z7 rfl rfl rfl<|z7 rfl rfl rfl<|z7 rfl rfl rfl<|z7 rfl rfl rfl<|z7 rfl rfl rfl<|z2 (zPf rfl rfl rfl)<|z2 (zAb rfl)<|z6<|zd<|zm (x := .bool _) rfl ?_
  rw [gi_out (.inl (by omega))]; rfl
section
variable {S : Int → List Int} {n : Nat} (hG : Grph S n)
include hG
theorem over_step {a b : Int} (ha : a ∈ orderT S n) (hb : b ∈ orderT S n) (hlt : gi (levG S n) a < gi (levG S n) b) :
  b ≠ 0 ∧ gi (nearR S n) b ∈ orderT S n ∧ gi (levG S n) b = gi (levG S n) (gi (nearR S n) b) + 1 ∧ domB S n a b = domB S n a (gi (nearR S n) b) := by
 have hO := hG.gok.ord
 have hla := hG.lev_nn ha
 have hl0 : gi (levG S n) 0 = 0 := hG.lev.zero
 have hb0 : b ≠ 0 := fun e => by rw [e, hl0] at hlt; omega
 obtain ⟨g1, g2⟩ := hG.near_mem hb hb0
 have g3 := hG.lev_near hb hb0
 rw [nearR_get (hO.nn b hb) hb0]
 refine ⟨hb0, g1, g3, ?_⟩
 rw [qq, hG.domB_iff, hG.domB_iff, hG.dom_iff hb, hG.dom_iff g1]
 constructor
 ·intro h
  rcases h.cases' with e | ⟨_, _, h3⟩
  ·rw [e] at hlt; omega
  ·exact h3
 ·intro h
  exact .up hb0 (hG.exact.has b hb) h
theorem over_end {a b : Int} (hb : b ∈ orderT S n) (hge : ¬ gi (levG S n) a < gi (levG S n) b) : domB S n a b = decide (a = b) := by
 rw [qq, hG.domB_iff, hG.dom_iff hb, qy]
 constructor
 ·intro h
  exact (hG.lev_anc hb h).2.2 (by omega)
 ·rintro rfl; exact .refl _
theorem over_none {a b : Int} (h : a ∉ orderT S n ∨ b ∉ orderT S n) : domB S n a b = false := by
 rw [Bool.eq_false_iff]
 intro hd
 have hd := (hG.domB_iff a b).1 hd
 have hb : b ∈ orderT S n := (hG.gok.ord.mem b).2 hd.1
 have ha : a ∈ orderT S n := (hG.lev_anc hb ((hG.dom_iff hb).1 hd)).1
 rcases h with h | h
 ·exact h ha
 ·exact h hb
end
theorem Over_spec (f : PFunc) (hE : EndsOk f) (hn : f.blocks.length ≤ 1000) (a b : Int) (x y : AV) : AFun prog E 130 [treeV f x y, .int .i64 a, .int .i64 b] (.bool (domB (EndsOf f) f.blocks.length a b)) := by
 have hG := hE.grph
 have hol := order_len hG
 have hO := hG.gok.ord
 have hrng : ∀ z ∈ orderT (EndsOf f) f.blocks.length, 0 ≤ z ∧ z < f.blocks.length := fun z hz => order_rng hG.toEOk hz
 have hLl : (levG (EndsOf f) f.blocks.length).length = f.blocks.length := hG.lev.len
 have hLg : ∀ z : Int, 0 ≤ z → z < f.blocks.length → (levG (EndsOf f) f.blocks.length)[z.toNat]? = some (gi (levG (EndsOf f) f.blocks.length) z) := fun z h1 h2 => gi_get h1 (by omega)
 have hNg : ∀ z : Int, 0 ≤ z → z < f.blocks.length → (nearR (EndsOf f) f.blocks.length)[z.toNat]? = some (gi (nearR (EndsOf f) f.blocks.length) z) := fun z h1 h2 => gi_get h1 (by rw [nearR_len]; omega)
 unfold treeV
 refine zn func130 rfl (by decide) rfl<|zSr<|z2 (zAb rfl)<|z6<|za<|zSr<|z2 (zMg rfl)<|z2 (zMi rfl)<|zb (thas_spec (levG (EndsOf f) f.blocks.length) a _ x y (by omega)) rfl<|z2 (yg rfl)<|z2 (zMb rfl)<|zr (s := 11) rfl (fun ca=>?_) (fun ca=>?_)
 ·have ha : a ∉ orderT (EndsOf f) f.blocks.length := by have h0 : gi (levG (EndsOf f) f.blocks.length) a = -1 := (by simpa using ca); exact fun h => (hG.lev_mem a).2 h h0
  refine z7 rfl rfl ca<|z7 rfl rfl ca<|z7 rfl rfl ca<|z7 rfl rfl ca<|z2 (zPt rfl ca rfl)<|z6<|yr rfl rfl<|zSr<|z2 (zAb rfl)<|z6<|zd<|zm (x := .bool _) rfl ?_
  rw [over_none hG (.inl ha)]
 ·have ha : a ∈ orderT (EndsOf f) f.blocks.length := by have h0 : ¬ gi (levG (EndsOf f) f.blocks.length) a = -1 := (by simpa using ca); exact (hG.lev_mem a).1 h0
  refine z8 rfl rfl ca<|z2 (zMg rfl)<|z8 rfl rfl ca<|z2 (zMi rfl)<|z8 rfl rfl ca<|zb (thas_spec (levG (EndsOf f) f.blocks.length) b _ x y (by omega)) rfl<|z8 rfl rfl ca<|z2 (yg rfl)<|z2 (zPf rfl ca rfl)<|z6<|zy rfl (fun cb=>?_) (fun cb=>?_)
  ·have hb : b ∉ orderT (EndsOf f) f.blocks.length := by have h0 : gi (levG (EndsOf f) f.blocks.length) b = -1 := (by simpa using cb); exact fun h => (hG.lev_mem b).2 h h0
   refine zSr<|z2 (zAb rfl)<|z6<|zd<|zm (x := .bool _) rfl ?_
   rw [over_none hG (.inr hb)]
  ·have hb : b ∈ orderT (EndsOf f) f.blocks.length := by have h0 : ¬ gi (levG (EndsOf f) f.blocks.length) b = -1 := (by simpa using cb); exact (hG.lev_mem b).1 h0
   obtain ⟨ha0, han⟩ := hrng a ha
   refine zf<|za<|zi<|y6 (γ := Int) [0, 1] (fun c => [(2, .int .i64 c)]) (fun c => []) (fun c => c ∈ orderT (EndsOf f) f.blocks.length ∧ domB (EndsOf f) f.blocks.length a b = domB (EndsOf f) f.blocks.length a c) (fun c => (gi (levG (EndsOf f) f.blocks.length) c).toNat) b zR1 zLe (⟨hb, rfl⟩) ?_
   rintro c ⟨hc, hd⟩
   obtain ⟨hc0, hcn⟩ := hrng c hc
   have hl := hG.lev_nn hc
   refine za<|za<|zt (fun j => false) (by kernel_rfl) rfl (zp (.rest _))<|zTk 0 rfl (zMg rfl)<|zTk 1 rfl (yv rfl)<|zTk 2 rfl (zFF underlying203 rfl sizeOf23 rfl rfl)<|zTk 3 rfl (zLf isAgg23 rfl)<|zTk 4 rfl (zMi rfl)<|zTk 5 rfl (zIM c.toNat underlying23 sizeOf3 rfl rfl (by omega) (hLg c hc0 hcn))<|zTk 6 rfl (zLi isAgg3 rfl)<|zTk 7 rfl (zMg rfl)<|zTk 8 rfl (yv rfl)<|zTk 9 rfl (zFF underlying203 rfl sizeOf23 rfl rfl)<|zTk 10 rfl (zLf isAgg23 rfl)<|zTk 11 rfl (zMi rfl)<|zTk 12 rfl (zIM a.toNat underlying23 sizeOf3 rfl rfl (by omega) (hLg a ha0 han))<|zTk 13 rfl (zLi isAgg3 rfl)<|zTk 14 rfl (yq rfl rfl)<|zDn<|zy rfl (fun cc=>?_) (fun cc=>?_)
   ·have hlt : gi (levG (EndsOf f) f.blocks.length) a < gi (levG (EndsOf f) f.blocks.length) c := by simpa using cc
    obtain ⟨s1, s2, s3, s4⟩ := over_step hG ha hc hlt
    refine zf<|zi<|zRg<|z2 (zMg rfl)<|z2 (yv rfl)<|z2 (zFF underlying203 rfl sizeOf23 rfl rfl)<|z2 (zLf isAgg23 rfl)<|z2 (zMi rfl)<|z2 (zIM c.toNat underlying23 sizeOf3 rfl rfl (by omega) (hNg c hc0 hcn))<|z2 (zLi isAgg3 rfl)<|z2 (zAi rfl)<|z6 ?_
    exact ⟨gi (nearR (EndsOf f) f.blocks.length) c, zR2, zR1, zLe, ⟨s2, by rw [hd, s4]⟩, by have := hG.lev_nn s2; omega⟩
   ·have hge : ¬ gi (levG (EndsOf f) f.blocks.length) a < gi (levG (EndsOf f) f.blocks.length) c := by simpa using cc
    refine y3<|zSr<|z2 (zMi rfl)<|z2 (zMi rfl)<|z2 (zw rfl rfl)<|z2 (zAb rfl)<|z6<|zd<|zm (x := .bool _) rfl ?_
    rw [hd, over_end hG hc hge]
end Go.Proofs.YtjnpcfpecilejaaGreatDoor
