/- What has a text, and what is the same, by the document's own functions. No conditions but bounds. -/
import Derived.Test.YtbkgklpihnfnjaaGreatDoorJf
set_option linter.unusedVariables false
set_option linter.unusedSimpArgs false
set_option linter.unusedSectionVars false
namespace Go.Proofs.YtbkgklpihnfnjaaGreatDoor
open Go.Proofs.Tryz
open Go.Proofs Go.Lib Go.Shelf Go.RowKit
set_option maxRecDepth 20000
variable {E : World}
def PhiP (f : PFunc) (p : PPhi) : Prop := hasV f p.dst = true ∧ p.args.length = p.from_.length ∧ 1 ≤ p.args.length ∧ p.args.all (hasV f) = true ∧ p.from_.all (hasB f) = true
def wordB (x : PInst) : Bool := decide ((kRow x.op).1 = ⟨#[99, 111, 110, 115, 116]⟩) || decide ((kRow x.op).1 = ⟨#[112, 105]⟩)
def bad2 (f : PFunc) (x : PInst) : Bool := !decide ((x.args.length : Int) = ((kRow x.op).2.1.size : Int)) || (!(decide ((kRow x.op).2.2 = ⟨#[]⟩) == decide (x.dst = -1)) || ((!decide (x.dst = -1) && !hasV f x.dst) || (!decide (x.num = 0) && !wordB x)))
def InstP (f : PFunc) (x : PInst) : Prop := 0 ≤ x.op ∧ x.op ≤ 26 ∧ bad2 f x = false ∧ x.args.all (hasV f) = true
def BlkP (f : PFunc) (b : PBlock) : Prop := (∀ p ∈ b.phis, PhiP f p) ∧ (∀ x ∈ b.insts, InstP f x) ∧ termOK f b.term = true
def sumTo (l : List PBlock) : Nat := (l.map fun b => b.phis.length + b.insts.length).sum
def bad1 (f : PFunc) : Bool := decide ((512 : Int) < f.vars.length) || (decide ((8 : Int) < f.params.length) || (decide ((f.vars.length : Int) < f.params.length) || (decide ((f.blocks.length : Int) < 1) || decide ((64 : Int) < f.blocks.length))))
def VarP (f : PFunc) (i : Nat) (v : PVar) : Prop := nameB v.name = true ∧ 0 ≤ v.ty ∧ v.ty ≤ 2 ∧ ∀ s ∈ (f.vars.take i).map (·.name), s ≠ v.name
def NamP (f : PFunc) (i : Nat) (b : PBlock) : Prop := nameB b.name = true ∧ ∀ s ∈ (f.blocks.take i).map (·.name), s ≠ b.name
def ShapedP (f : PFunc) : Prop := bad1 f = false ∧ (∀ i (h : i < f.params.length), f.params[i] = (i : Int)) ∧ (∀ i (h : i < f.vars.length), VarP f i f.vars[i]) ∧ (∀ i (h : i < f.blocks.length), NamP f i f.blocks[i]) ∧ sumTo f.blocks ≤ 1024 ∧ ∀ b ∈ f.blocks, BlkP f b
instance (f : PFunc) (p : PPhi) : Decidable (PhiP f p) := by unfold PhiP; infer_instance
instance (f : PFunc) (x : PInst) : Decidable (InstP f x) := by unfold InstP; infer_instance
instance (f : PFunc) (b : PBlock) : Decidable (BlkP f b) := by unfold BlkP; infer_instance
instance (f : PFunc) (i : Nat) (v : PVar) : Decidable (VarP f i v) := by unfold VarP; infer_instance
instance (f : PFunc) (i : Nat) (b : PBlock) : Decidable (NamP f i b) := by unfold NamP; infer_instance
instance (f : PFunc) : Decidable (ShapedP f) := by unfold ShapedP; infer_instance
theorem sumTo_take (l : List PBlock) (k : Nat) : sumTo (l.take k) ≤ sumTo l := by
 have : sumTo l = sumTo (l.take k) + sumTo (l.drop k) := by
  unfold sumTo; rw [← List.sum_append, ← qo, List.take_append_drop]
 omega
theorem sumTo_succ (l : List PBlock) (k : Nat) (h : k < l.length) : sumTo (l.take (k + 1)) = sumTo (l.take k) + (l[k].phis.length + l[k].insts.length) := by
 unfold sumTo; rw [qe h, qo, List.sum_append]; simp only [List.map_cons, List.map_nil, List.sum_cons, List.sum_nil, Nat.add_zero]
theorem not_take {α : Type} {g : α → ByteArray} {l : List α} {k : Nat} {s : ByteArray} (h : k < l.length) (h1 : ∀ x ∈ (l.take k).map g, x ≠ s) (h2 : ¬ g l[k] = s) : ∀ x ∈ (l.take (k + 1)).map g, x ≠ s := by
 rw [qe h, qo]
 intro x hx
 rcases List.mem_append.1 hx with hx | hx
 ·exact h1 x hx
 ·simp only [List.map_cons, List.map_nil, List.mem_singleton] at hx; rw [hx]; exact h2
theorem in_take {α : Type} {g : α → ByteArray} {l : List α} {k i : Nat} {s : ByteArray} (h : k < l.length) (hk : k < i) (h1 : ∀ x ∈ (l.take i).map g, x ≠ s) : ¬ g l[k] = s := by
 refine h1 _ (List.mem_map.2 ⟨l[k], ?_, Z⟩)
 refine List.mem_iff_getElem?.2 ⟨k, ?_⟩
 rw [List.getElem?_take, if_pos hk, qd h]
theorem all_take {α : Type} {p : α → Bool} {l : List α} {k : Nat} (h : k < l.length) (h1 : (l.take k).all p = true) (h2 : p l[k] = true) : (l.take (k + 1)).all p = true := by
 rw [qe h, List.all_append, h1]; simp [h2]
theorem all_bad {α : Type} {p : α → Bool} {l : List α} {k : Nat} (h : k < l.length) (h2 : p l[k] = false) : ¬ l.all p = true := fun h3 => by
 have := List.all_eq_true.1 h3 _ (qh h); rw [h2] at this; cases this
theorem take_len {α : Type} {l : List α} {k : Nat} (h : l.length ≤ k) : l.take k = l := List.take_of_length_le h
theorem forall_take {α : Type} {p : α → Prop} {l : List α} {k : Nat} (h : k < l.length) (h1 : ∀ x ∈ l.take k, p x) (h2 : p l[k]) : ∀ x ∈ l.take (k + 1), p x := by
 rw [qe h]
 intro x hx
 rcases List.mem_append.1 hx with hx | hx
 ·exact h1 x hx
 ·rw [List.mem_singleton.1 hx]; exact h2
def okNames (f : PFunc) : Prop := (∀ v ∈ f.vars, v.name.size ≤ 140737488355328) ∧ ∀ b ∈ f.blocks, b.name.size ≤ 140737488355328
set_option maxHeartbeats 8000000 in
theorem refShaped_spec (f : PFunc) (hf : okFunc f) (hn : okNames f) (hL : Letters E) : AFun prog E 103 [.agg (encF f)] (.bool (decide (ShapedP f))) := by
 obtain ⟨hf1, hf2, hf3, hf4⟩ := hf
 have hl1 := hf1.lt
 have hl2 := hf2.lt
 have hl3 := hf3.lt
 refine zk func103 Z (by decide) Z<|zSr<|y6 (cs := _) Z Z Z<|zVzAb Z<|z6<|zSr<|zVzFF jc Z Z9 Z Z<|zVzLf Zn Z<|zVGvlenM js Z<|zVzAi Z<|z6<|zb<|zb<|yn (γ := Unit) [1, 3] (fun u => [(53, .bool (bad1 f))]) (fun u => []) (fun u => True) ?_ (fun _ _ h => h) ?_
 ·refine zRg<|zVzMi Z<|z8 (yr Z Z)<|zVzMb Z<|zo (s := 29) Z (fun c1=>?_) (fun c1=>?_)
  ·refine z7 Z Z c1<|z7 Z Z c1<|z7 Z Z c1<|z7 Z Z c1<|zVzPt Z c1 Z<|zVzMb Z<|z7 Z Z Z<|z7 Z Z Z<|z7 Z Z Z<|z7 Z Z Z<|z7 Z Z Z<|zVzPt Z Z Z<|zVzMb Z<|z7 Z Z Z<|z7 Z Z Z<|z7 Z Z Z<|z7 Z Z Z<|zVzPt Z Z Z<|zVzMb Z<|z7 Z Z Z<|z7 Z Z Z<|z7 Z Z Z<|z7 Z Z Z<|zVzPt Z Z Z<|z6 ?_
   exact ⟨(), zR2, ⟨jb (by simp_all [bad1] <;> grind), trivial⟩, zLe, trivial⟩
  ·refine za Z Z c1<|zVzFF jc Z jn Z Z<|za Z Z c1<|zVzLf jz Z<|za Z Z c1<|zVGvlenM j9 Z<|za Z Z c1<|z8 (yr Z Z)<|zVzPf Z c1 Z<|zVzMb Z<|zo (s := 35) Z (fun c2=>?_) (fun c2=>?_)
   ·refine z7 Z Z c2<|z7 Z Z c2<|z7 Z Z c2<|z7 Z Z c2<|z7 Z Z c2<|zVzPt Z c2 Z<|zVzMb Z<|z7 Z Z Z<|z7 Z Z Z<|z7 Z Z Z<|z7 Z Z Z<|zVzPt Z Z Z<|zVzMb Z<|z7 Z Z Z<|z7 Z Z Z<|z7 Z Z Z<|z7 Z Z Z<|zVzPt Z Z Z<|z6 ?_
    exact ⟨(), zR2, ⟨jb (by simp_all [bad1] <;> grind), trivial⟩, zLe, trivial⟩
   ·refine za Z Z c2<|zVzFF jc Z jn Z Z<|za Z Z c2<|zVzLf jz Z<|za Z Z c2<|zVGvlenM j9 Z<|za Z Z c2<|zVzMi Z<|za Z Z c2<|z8 (yr Z Z)<|zVzPf Z c2 Z<|zVzMb Z<|zo (s := 42) Z (fun c3=>?_) (fun c3=>?_)
    ·refine z7 Z Z c3<|z7 Z Z c3<|z7 Z Z c3<|z7 Z Z c3<|zVzPt Z c3 Z<|zVzMb Z<|z7 Z Z Z<|z7 Z Z Z<|z7 Z Z Z<|z7 Z Z Z<|zVzPt Z Z Z<|z6 ?_
     exact ⟨(), zR2, ⟨jb (by simp_all [bad1] <;> grind), trivial⟩, zLe, trivial⟩
    ·refine za Z Z c3<|zVzFF jc Z Z2 Z Z<|za Z Z c3<|zVzLf Ze Z<|za Z Z c3<|zVGvlenM jo Z<|za Z Z c3<|zVGvlss Z Z<|zVzPf Z c3 Z<|zVzMb Z<|zo (s := 48) Z (fun c4=>?_) (fun c4=>?_)
     ·refine z7 Z Z c4<|z7 Z Z c4<|z7 Z Z c4<|z7 Z Z c4<|zVzPt Z c4 Z<|z6 ?_
      exact ⟨(), zR2, ⟨jb (by simp_all [bad1] <;> grind), trivial⟩, zLe, trivial⟩
     ·refine za Z Z c4<|zVzFF jc Z Z2 Z Z<|za Z Z c4<|zVzLf Ze Z<|za Z Z c4<|zVGvlenM jo Z<|za Z Z c4<|z8 (yr Z Z)<|zVzPf Z c4 Z<|z6 ?_
      exact ⟨(), zR2, ⟨jb (by simp_all [bad1] <;> grind), trivial⟩, zLe, trivial⟩
 ·rintro _ _
  refine zz Z (fun c1=>?_) (fun c1=>?_)
  ·refine zSr<|zVzAb Z<|z6<|ze<|zi (x := .bool _) Z ?_
   rw [qr (fun h => by rw [h.1] at c1; cases c1)]
  ·have hsz : f.vars.length ≤ 512 ∧ f.params.length ≤ 8 ∧ f.params.length ≤ f.vars.length ∧ 1 ≤ f.blocks.length ∧ f.blocks.length ≤ 64 := by unfold bad1 at c1; simp at c1; omega
   refine zf<|zb<|zSr<|zVzFF jc Z jn Z Z<|zVzLf jz Z<|zVGvlenM j9 Z<|zVzMi Z<|z6<|zg<|y3 (γ := Nat) [1, 3, 55, 56] (fun k => [(57, .int .i64 k)]) (fun k => []) (fun k => k ≤ f.params.length ∧ ∀ i (h : i < f.params.length), i < k → f.params[i] = (i : Int)) (fun k => f.params.length - k) 0 zR1 zLe (⟨qg _, fun i h hk => by omega⟩) ?_
   rintro k ⟨hk, hpar⟩
   refine zSr<|zVGvlss Z Z<|z6<|zb<|zr Z (fun ck=>?_) (fun ck=>?_)
   ·have hk2 : k < f.params.length := by omega
    refine zf<|zb<|zg<|zSr<|zVzMi Z<|z8 (yi j9 jd Z Z Z (qd (by omega)))<|zVzLi jr Z<|zVzAi Z<|zVzAi Z<|z6<|zSr<|zVzMi Z<|zVzMi Z<|zVGvneqI Z Z<|z6<|zz Z (fun cp=>?_) (fun cp=>?_)
    ·refine zSr<|zVzAb Z<|z6<|ze<|zi (x := .bool _) Z ?_
     rw [qr (fun h => by have := h.2.1 k hk2; simp [this] at cp)]
    ·refine zf<|zRg<|zVzAd Z Z<|zVzMi Z<|z6 ?_
     exact ⟨k + 1, zR4, zR1, zLe, ⟨hk2, fun i h hi => by rcases Nat.lt_or_ge i k with h3 | h3; exact hpar i h h3; obtain rfl : i = k := (by omega); simpa using cp⟩, by omega⟩
   ·have hpars : ∀ i (h : i < f.params.length), f.params[i] = (i : Int) := fun i h => hpar i h (by omega)
    refine y2<|zb<|zSr<|zVzFF jc Z Z9 Z Z<|zVzLf Zn Z<|zVGvlenM js Z<|zVzMi Z<|z6<|zg<|y3 (γ := Nat) [1, 3, 67, 68] (fun k => [(69, .int .i64 k)]) (fun k => []) (fun k => k ≤ f.vars.length ∧ ∀ i (h : i < f.vars.length), i < k → VarP f i f.vars[i]) (fun k => f.vars.length - k) 0 zR1 zLe (⟨qg _, fun i h hk => by omega⟩) ?_
    rintro k ⟨hk, hvar⟩
    refine zSr<|zVGvlss Z Z<|z6<|zb<|zr Z (fun ck=>?_) (fun ck=>?_)
    ·have hk2 : k < f.vars.length := by omega
     have hnk : f.vars[k].name.size ≤ 140737488355328 := hn.1 _ (qh hk2)
     refine zf<|zb<|zg<|zSr<|zVzMi Z<|z8 (yi js Zd Z Z Z (qd (by omega)))<|zVGvloadWF Xg Zd Z Z<|zq (cs := [.str ⟨#[]⟩, .int .i64 0]) Yz Z Z<|fun i7 => zVzAi Z<|zm Zd Z Z Z Z Z Z .head Z<|z6<|zb<|zb<|yn (γ := Unit) [1, 3, 6, 7, 67, 68, 69] (fun u => [(87, .bool (!nameB f.vars[k].name || (decide (f.vars[k].ty < 0) || decide (2 < f.vars[k].ty))))]) (fun u => [(i7, .cells 38 (encVar f.vars[k]))]) (fun u => True) ?_ (fun _ _ h => h) ?_
     ·refine zRg<|z8 (zc Zf Z jx (by decide) Z Z)<|z8 (zj (c := .str _) Z5 Z ⟨_, .head⟩ Z)<|zd (name_spec _ (by assumption) hL) Z<|zVGvnot Z<|zVzMb Z<|zo (s := 78) Z (fun c5=>?_) (fun c5=>?_)
      ·refine z7 Z Z c5<|z7 Z Z c5<|z7 Z Z c5<|zVzPt Z c5 Z<|zVzMb Z<|z7 Z Z Z<|z7 Z Z Z<|z7 Z Z Z<|zVzPt Z Z Z<|z6 ?_
       exact ⟨(), zR7, ⟨jb (by simp_all <;> grind), trivial⟩, zLe, trivial⟩
      ·refine za Z Z c5<|z8 (zc Zf Z Xh (by decide) Z Z)<|za Z Z c5<|z8 (zj (c := .int _ _) isAgg36 Z ⟨_, .head⟩ Z)<|za Z Z c5<|zVGvlss Z Z<|zVzPf Z c5 Z<|zVzMb Z<|zo (s := 83) Z (fun c6=>?_) (fun c6=>?_)
       ·refine z7 Z Z c6<|z7 Z Z c6<|z7 Z Z c6<|zVzPt Z c6 Z<|z6 ?_
        exact ⟨(), zR7, ⟨jb (by simp_all <;> grind), trivial⟩, zLe, trivial⟩
       ·refine za Z Z c6<|z8 (zc Zf Z Xh (by decide) Z Z)<|za Z Z c6<|z8 (zj (c := .int _ _) isAgg36 Z ⟨_, .head⟩ Z)<|za Z Z c6<|z8 (yr Z Z)<|zVzPf Z c6 Z<|z6 ?_
        exact ⟨(), zR7, ⟨jb (by simp_all <;> grind), trivial⟩, zLe, trivial⟩
     ·rintro _ _
      refine zz Z (fun cv=>?_) (fun cv=>?_)
      ·refine zSr<|zVzAb Z<|z6<|ze<|zi (x := .bool _) Z ?_
       rw [qr (fun h => by have := h.2.2.1 k hk2; obtain ⟨h1, h2, h3, _⟩ := this; simp [h1] at cv; omega)]
      ·have hv3 : nameB f.vars[k].name = true ∧ 0 ≤ f.vars[k].ty ∧ f.vars[k].ty ≤ 2 := by simp at cv; omega
       refine zf<|zSr<|zVzMi Z<|zVzMi Z<|z6<|zg<|y3 (γ := Nat) [1, 3, 7, 67, 68, 69, 88] (fun j => [(89, .int .i64 j)]) (fun j => [(i7, .cells 38 (encVar f.vars[k]))]) (fun j => j ≤ k ∧ ∀ s ∈ (f.vars.take j).map (·.name), s ≠ f.vars[k].name) (fun j => k - j) 0 zR1 zLe (⟨qg _, by simp⟩) ?_
       rintro j ⟨hj, hno⟩
       refine zSr<|zVGvlss Z Z<|z6<|zb<|zr Z (fun cj=>?_) (fun cj=>?_)
       ·have hj1 : j < f.vars.length := by omega
        refine zf<|zb<|zg<|zSr<|zVzMi Z<|zVzAi Z<|z6<|zb<|zw (fun j => false) (by kernel_rfl) Z (zu (.r (.rest _)))<|zTk 0 Z (zFF jc Z Z9 Z Z)<|zTk 1 Z (zLf Zn Z)<|zTk 2 Z (zMi Z)<|zTk 3 Z (yi js Zd Z Z Z (qd (by omega)))<|zTk 4 Z (zFF Zf Z jx Z Z)<|zTk 5 Z (ya (c := .str _) Z5 Z)<|zTk 6 Z (zc Zf Z jx (by decide) Z Z)<|zTk 7 Z (zj (c := .str _) Z5 Z ⟨_, .head⟩ Z)<|zTk 8 Z (q8 Z Z)<|zDn<|zr Z (fun ce=>?_) (fun ce=>?_)
        ·refine zSr<|zVzAb Z<|z6<|ze<|zi (x := .bool _) Z ?_
         rw [qr (fun h => by exact in_take (g := PVar.name) hj1 (by omega) (h.2.2.1 k hk2).2.2.2 ce)]
        ·refine zf<|zRg<|zVzAd Z Z<|zVzMi Z<|z6 ?_
         exact ⟨j + 1, zR7, zR1, zLe, ⟨by omega, not_take hj1 hno ce⟩, by omega⟩
       ·obtain rfl : j = k := by omega
        refine y2<|zRg<|zVzAd Z Z<|zVzMi Z<|z6 ?_
        exact ⟨j + 1, zR4, zR1, ⟨_, (.drop (.refl _)), rfl⟩, ⟨hk2, fun i h hi => by rcases Nat.lt_or_ge i j with h3 | h3; exact hvar i h h3; obtain rfl : i = j := (by omega); exact ⟨hv3.1, hv3.2.1, hv3.2.2, hno⟩⟩, by omega⟩
    ·have hvars : ∀ i (h : i < f.vars.length), VarP f i f.vars[i] := fun i h => hvar i h (by omega)
     refine y2<|zSr<|zVzFF jc Z Z2 Z Z<|zVzLf Ze Z<|zVGvlenM jo Z<|zVzAi Z<|z6<|zSr<|zVzAi Z<|z6<|zb<|zSr<|zVzFF jc Z Z2 Z Z<|zVzLf Ze Z<|zVGvlenM jo Z<|zVzMi Z<|z6<|zg<|y3 (γ := Nat) [1, 3, 9, 107, 108] (fun g => [(109, .int .i64 g), (10, .int .i64 (sumTo (f.blocks.take g)))]) (fun g => []) (fun g => g ≤ f.blocks.length ∧ (∀ i (h : i < f.blocks.length), i < g → NamP f i f.blocks[i]) ∧ sumTo (f.blocks.take g) ≤ 1024 ∧ ∀ b ∈ f.blocks.take g, BlkP f b) (fun g => f.blocks.length - g) 0 zR2 zLe (⟨qg _, fun i h hk => by omega, by simp [sumTo], by simp⟩) ?_
     rintro k ⟨hk, hnam, hsum, hblk⟩
     refine zSr<|zVGvlss Z Z<|z6<|zb<|zr Z (fun ck=>?_) (fun ck=>?_)
     ·have hk2 : k < f.blocks.length := by omega
      have hnk : f.blocks[k].name.size ≤ 140737488355328 := hn.2 _ (qh hk2)
      obtain ⟨hb1, hb2, hb3, hb4⟩ := hf4 _ (qh hk2)
      have hl4 := hb1.lt
      have hl5 := hb2.lt
      refine zf<|zb<|zg<|zSr<|zVzMi Z<|z8 (yi jo jt Z Z Z (qd (by omega)))<|zVGvloadWF Zq jt Z Z<|zq (cs := [.str ⟨#[]⟩, .raw (.slice none 0 0), .raw (.slice none 0 0), .int .i64 0, .int .i64 0, .int .i64 0, .int .i64 0]) Zb Z Z<|fun i12 => zVzAi Z<|zm jt Z Z Z Z Z Z .head Z<|z6<|zb<|zSr<|z8 (zc ja Z jx (by decide) Z Z)<|z8 (zj (c := .str _) Z5 Z ⟨_, .head⟩ Z)<|zd (name_spec _ (by assumption) hL) Z<|zVGvnot Z<|z6<|zz Z (fun cv=>?_) (fun cv=>?_)
      ·refine zSr<|zVzAb Z<|z6<|ze<|zi (x := .bool _) Z ?_
       rw [qr (fun h => by have := (h.2.2.2.1 k hk2).1; simp [this] at cv)]
      ·refine zf<|zb<|zSr<|zVzMi Z<|zVzMi Z<|z6<|zg<|y3 (γ := Nat) [1, 3, 9, 10, 12, 107, 108, 109, 118] (fun j => [(119, .int .i64 j)]) (fun j => [(i12, .cells 49 (encBlk f.blocks[k]))]) (fun j => j ≤ k ∧ ∀ s ∈ (f.blocks.take j).map (·.name), s ≠ f.blocks[k].name) (fun j => k - j) 0 zR1 zLe (⟨qg _, by simp⟩) ?_
       rintro j ⟨hj, hno⟩
       refine zSr<|zVGvlss Z Z<|z6<|zb<|zr Z (fun cj=>?_) (fun cj=>?_)
       ·have hj1 : j < f.blocks.length := by omega
        refine zf<|zb<|zg<|zSr<|zVzMi Z<|zVzAi Z<|z6<|zb<|zw (fun j => false) (by kernel_rfl) Z (zu (.r (.rest _)))<|zTk 0 Z (zFF jc Z Z2 Z Z)<|zTk 1 Z (zLf Ze Z)<|zTk 2 Z (zMi Z)<|zTk 3 Z (yi jo jt Z Z Z (qd (by omega)))<|zTk 4 Z (zFF ja Z jx Z Z)<|zTk 5 Z (ya (c := .str _) Z5 Z)<|zTk 6 Z (zc ja Z jx (by decide) Z Z)<|zTk 7 Z (zj (c := .str _) Z5 Z ⟨_, .head⟩ Z)<|zTk 8 Z (q8 Z Z)<|zDn<|zr Z (fun ce=>?_) (fun ce=>?_)
        ·refine zSr<|zVzAb Z<|z6<|ze<|zi (x := .bool _) Z ?_
         rw [qr (fun h => by exact in_take (g := PBlock.name) hj1 (by omega) (h.2.2.2.1 k hk2).2 ce)]
        ·refine zf<|zRg<|zVzAd Z Z<|zVzMi Z<|z6 ?_
         exact ⟨j + 1, zR9, zR1, zLe, ⟨by omega, not_take hj1 hno ce⟩, by omega⟩
       ·obtain rfl : j = k := by omega
        have hs1 := sumTo_succ f.blocks j hk2
        refine y2<|zSr<|zVzMi Z<|z8 (zc ja Z Za (by decide) Z Z)<|z8 (zj (c := .fro _ _) Zu Z ⟨_, .head⟩ Z)<|zVGvlenM jw Z<|zVzAd Z Z<|z8 (zc ja Z Zi (by decide) Z Z)<|z8 (zj (c := .fro _ _) Y1 Z ⟨_, .head⟩ Z)<|zVGvlenM Z1 Z<|zVzAd Z Z<|zVzAi Z<|z6<|zb<|zSr<|zVzMi Z<|z8 (yr Z Z)<|z6<|zr Z (fun cs=>?_) (fun cs=>?_)
        ·refine zSr<|zVzAb Z<|z6<|ze<|zi (x := .bool _) Z ?_
         rw [qr (fun h => by have := h.2.2.2.2.1; have := sumTo_take f.blocks (j + 1); omega)]
        ·refine zf<|zb<|zSr<|z8 (zc ja Z Za (by decide) Z Z)<|z8 (zj (c := .fro _ _) Zu Z ⟨_, .head⟩ Z)<|zVGvlenM jw Z<|zVzMi Z<|z6<|zg<|y3 (γ := Nat) [1, 3, 9, 10, 12, 107, 108, 109, 144, 145] (fun p => [(146, .int .i64 p)]) (fun p => [(i12, .cells 49 (encBlk f.blocks[j]))]) (fun p => p ≤ f.blocks[j].phis.length ∧ ∀ q ∈ f.blocks[j].phis.take p, PhiP f q) (fun p => f.blocks[j].phis.length - p) 0 zR1 zLe (⟨qg _, by simp⟩) ?_
         rintro p ⟨hp, hphi⟩
         refine zSr<|zVGvlss Z Z<|z6<|zb<|zr Z (fun cp=>?_) (fun cp=>?_)
         ·have hp2 : p < f.blocks[j].phis.length := by omega
          obtain ⟨hq1, hq2⟩ := hb3 _ (qh hp2)
          have hl6 := hq1.lt
          have hl7 := hq2.lt
          refine zf<|zb<|zg<|zSr<|z8 (yi jw Z0 Z Z Z (qd (by omega)))<|zVGvloadWF Zv Z0 Z Z<|zq (cs := [.int .i64 0, .raw (.slice none 0 0), .raw (.slice none 0 0)]) Zk Z Z<|fun i15 => zm Z0 Z Z Z Z Z Z .head Z<|z6<|zb<|zb<|yn (γ := Unit) [1, 3, 9, 10, 12, 15, 107, 108, 109, 144, 145, 146] (fun u => [(169, .bool (!hasV f f.blocks[j].phis[p].dst || (!decide ((f.blocks[j].phis[p].args.length : Int) = f.blocks[j].phis[p].from_.length) || decide ((f.blocks[j].phis[p].args.length : Int) < 1))))]) (fun u => [(i15, .cells 60 (encPhi f.blocks[j].phis[p])), (i12, .cells 49 (encBlk f.blocks[j]))]) (fun u => True) ?_ (fun _ _ h => h) ?_
          ·refine zRg<|z8 (zc jm Z jd (by decide) Z Z)<|z8 (zj (c := .int _ _) jr Z ⟨_, .head⟩ Z)<|zVzMi Z<|zd (in_spec _ _) Z<|zVGvnot Z<|zVzMb Z<|zo (s := 155) Z (fun c7=>?_) (fun c7=>?_)
           ·refine z7 Z Z c7<|z7 Z Z c7<|z7 Z Z c7<|z7 Z Z c7<|z7 Z Z c7<|z7 Z Z c7<|z7 Z Z c7<|zVzPt Z c7 Z<|zVzMb Z<|z7 Z Z Z<|z7 Z Z Z<|z7 Z Z Z<|z7 Z Z Z<|zVzPt Z Z Z<|z6 ?_
            exact ⟨(), zR12, ⟨jb (by simp_all [hasV] <;> grind), trivial⟩, zLe, trivial⟩
           ·refine za Z Z c7<|z8 (zc jm Z jn (by decide) Z Z)<|za Z Z c7<|z8 (zj (c := .fro _ _) jz Z ⟨_, .head⟩ Z)<|za Z Z c7<|zVGvlenM j9 Z<|za Z Z c7<|z8 (zc jm Z jn (by decide) Z Z)<|za Z Z c7<|z8 (zj (c := .fro _ _) jz Z ⟨_, .head⟩ Z)<|za Z Z c7<|zVGvlenM j9 Z<|za Z Z c7<|zVGvneqI Z Z<|zVzPf Z c7 Z<|zVzMb Z<|zo (s := 164) Z (fun c8=>?_) (fun c8=>?_)
            ·refine z7 Z Z c8<|z7 Z Z c8<|z7 Z Z c8<|z7 Z Z c8<|zVzPt Z c8 Z<|z6 ?_
             exact ⟨(), zR12, ⟨jb (by simp_all [hasV] <;> grind), trivial⟩, zLe, trivial⟩
            ·refine za Z Z c8<|z8 (zc jm Z jn (by decide) Z Z)<|za Z Z c8<|z8 (zj (c := .fro _ _) jz Z ⟨_, .head⟩ Z)<|za Z Z c8<|zVGvlenM j9 Z<|za Z Z c8<|zVGvlss Z Z<|zVzPf Z c8 Z<|z6 ?_
             exact ⟨(), zR12, ⟨jb (by simp_all [hasV] <;> grind), trivial⟩, zLe, trivial⟩
          ·rintro _ _
           refine zz Z (fun cq=>?_) (fun cq=>?_)
           ·refine zSr<|zVzAb Z<|z6<|ze<|zi (x := .bool _) Z ?_
            rw [qr (fun h => by have := (h.2.2.2.2.2 _ (qh hk2)).1 _ (qh hp2); obtain ⟨h1, h2, h3, _⟩ := this; rw [h1, h2] at cq; simp only [Bool.not_true, Bool.false_or, decide_true, qu] at cq; omega)]
           ·have hq3 : hasV f f.blocks[j].phis[p].dst = true ∧ f.blocks[j].phis[p].args.length = f.blocks[j].phis[p].from_.length ∧ 1 ≤ f.blocks[j].phis[p].args.length := by
             rcases Bool.or_eq_false_iff.1 cq with ⟨a1, a2⟩
             rcases Bool.or_eq_false_iff.1 a2 with ⟨a3, a4⟩
             exact ⟨by simpa using a1, by simp only [Bool.not_eq_false', qu] at a3; omega, by have := of_decide_eq_false a4; omega⟩
            refine zf<|zSr<|z8 (zc jm Z jn (by decide) Z Z)<|z8 (zj (c := .fro _ _) jz Z ⟨_, .head⟩ Z)<|zVGvlenM j9 Z<|zVzMi Z<|z6<|zg<|y3 (γ := Nat) [1, 3, 9, 10, 12, 15, 107, 108, 109, 144, 145, 146, 172] (fun m => [(173, .int .i64 m)]) (fun m => [(i15, .cells 60 (encPhi f.blocks[j].phis[p])), (i12, .cells 49 (encBlk f.blocks[j]))]) (fun m => m ≤ f.blocks[j].phis[p].args.length ∧ (f.blocks[j].phis[p].args.take m).all (hasV f) = true ∧ (f.blocks[j].phis[p].from_.take m).all (hasB f) = true) (fun m => f.blocks[j].phis[p].args.length - m) 0 zR1 zLe (⟨qg _, Z, Z⟩) ?_
            rintro m ⟨hm, ha1, ha2⟩
            refine zSr<|zVGvlss Z Z<|z6<|zb<|zr Z (fun cm=>?_) (fun cm=>?_)
            ·have hm1 : m < f.blocks[j].phis[p].args.length := by omega
             have hm2 : m < f.blocks[j].phis[p].from_.length := by omega
             refine zf<|zb<|zg<|zSr<|zVzMi Z<|zVzAi Z<|z6<|zb<|yn (γ := Unit) [1, 3, 9, 10, 12, 15, 107, 108, 109, 144, 145, 146, 172, 173] (fun u => [(193, .bool (!hasV f f.blocks[j].phis[p].args[m] || !hasB f f.blocks[j].phis[p].from_[m]))]) (fun u => [(i15, .cells 60 (encPhi f.blocks[j].phis[p])), (i12, .cells 49 (encBlk f.blocks[j]))]) (fun u => True) ?_ (fun _ _ h => h) ?_
             ·refine zRg<|z8 (zc jm Z jn (by decide) Z Z)<|z8 (zj (c := .fro _ _) jz Z ⟨_, .head⟩ Z)<|zVzMi Z<|z8 (yi j9 jd Z Z Z (qd (by omega)))<|zVzLi jr Z<|zVzMi Z<|zd (in_spec _ _) Z<|zVGvnot Z<|zVzMb Z<|zo (s := 184) Z (fun c9=>?_) (fun c9=>?_)
              ·refine z7 Z Z c9<|z7 Z Z c9<|z7 Z Z c9<|z7 Z Z c9<|z7 Z Z c9<|z7 Z Z c9<|z7 Z Z c9<|z7 Z Z c9<|zVzPt Z c9 Z<|z6 ?_
               exact ⟨(), ⟨rfl, rfl, rfl, rfl, rfl, rfl, rfl, rfl, rfl, rfl, rfl, rfl, rfl, rfl, trivial⟩, ⟨jb (by simp_all [hasV, hasB] <;> grind), trivial⟩, zLe, trivial⟩
              ·refine za Z Z c9<|z8 (zc jm Z jn (by decide) Z Z)<|za Z Z c9<|z8 (zj (c := .fro _ _) jz Z ⟨_, .head⟩ Z)<|za Z Z c9<|zVzMi Z<|za Z Z c9<|z8 (yi j9 jd Z Z Z (qd (by omega)))<|za Z Z c9<|zVzLi jr Z<|za Z Z c9<|zVzMi Z<|za Z Z c9<|zd (in_spec _ _) Z<|za Z Z c9<|zVGvnot Z<|zVzPf Z c9 Z<|z6 ?_
               exact ⟨(), ⟨rfl, rfl, rfl, rfl, rfl, rfl, rfl, rfl, rfl, rfl, rfl, rfl, rfl, rfl, trivial⟩, ⟨jb (by simp_all [hasV, hasB] <;> grind), trivial⟩, zLe, trivial⟩
             ·rintro _ _
              refine zz Z (fun cw=>?_) (fun cw=>?_)
              ·refine zSr<|zVzAb Z<|z6<|ze<|zi (x := .bool _) Z ?_
               rw [qr (fun h => by have := (h.2.2.2.2.2 _ (qh hk2)).1 _ (qh hp2); obtain ⟨_, _, _, h4, h5⟩ := this; have h6 := List.all_eq_true.1 h4 _ (qh hm1); have h7 := List.all_eq_true.1 h5 _ (qh hm2); rw [h6, h7] at cw; cases cw)]
              ·refine zf<|zRg<|zVzAd Z Z<|zVzMi Z<|z6 ?_
               exact ⟨m + 1, ⟨rfl, rfl, rfl, rfl, rfl, rfl, rfl, rfl, rfl, rfl, rfl, rfl, rfl, trivial⟩, zR1, zLe, ⟨hm1, all_take hm1 ha1 (by simp at cw; exact cw.1), all_take hm2 ha2 (by simp at cw; exact cw.2)⟩, by omega⟩
            ·rw [take_len (by omega)] at ha1
             rw [take_len (by omega)] at ha2
             refine y2<|zRg<|zVzAd Z Z<|zVzMi Z<|z6 ?_
             exact ⟨p + 1, ⟨rfl, rfl, rfl, rfl, rfl, rfl, rfl, rfl, rfl, rfl, trivial⟩, zR1, ⟨_, (.drop (.refl _)), rfl⟩, ⟨hp2, forall_take hp2 hphi ⟨hq3.1, hq3.2.1, hq3.2.2, ha1, ha2⟩⟩, by omega⟩
         ·rw [take_len (by omega)] at hphi
          refine y2<|zb<|zSr<|z8 (zc ja Z Zi (by decide) Z Z)<|z8 (zj (c := .fro _ _) Y1 Z ⟨_, .head⟩ Z)<|zVGvlenM Z1 Z<|zVzMi Z<|z6<|zg<|y3 (γ := Nat) [1, 3, 9, 10, 12, 107, 108, 109, 197, 198] (fun p => [(199, .int .i64 p)]) (fun p => [(i12, .cells 49 (encBlk f.blocks[j]))]) (fun p => p ≤ f.blocks[j].insts.length ∧ ∀ q ∈ f.blocks[j].insts.take p, InstP f q) (fun p => f.blocks[j].insts.length - p) 0 zR1 zLe (⟨qg _, by simp⟩) ?_
          rintro p ⟨hp, hins⟩
          refine zSr<|zVGvlss Z Z<|z6<|zb<|zr Z (fun cp=>?_) (fun cp=>?_)
          ·have hp2 : p < f.blocks[j].insts.length := by omega
           have hq1 := hb4 _ (qh hp2)
           have hl6 := hq1.lt
           refine zf<|zb<|zg<|zSr<|z8 (yi Z1 Z7 Z Z Z (qd (by omega)))<|zVGvloadWF Y3 Z7 Z Z<|zq (cs := [.int .i64 0, .int .i64 0, .raw (.slice none 0 0), .int .i64 0]) Zt Z Z<|fun i18 => zm Z7 Z Z Z Z Z Z .head Z<|z6<|zb<|zb<|yn (γ := Unit) [1, 3, 9, 10, 12, 18, 107, 108, 109, 197, 198, 199] (fun u => [(210, .bool (decide (f.blocks[j].insts[p].op < 0) || decide (26 < f.blocks[j].insts[p].op)))]) (fun u => [(i18, .cells 41 (encInst f.blocks[j].insts[p])), (i12, .cells 49 (encBlk f.blocks[j]))]) (fun u => True) ?_ (fun _ _ h => h) ?_
           ·refine zRg<|z8 (zc jk Z Zx (by decide) Z Z)<|z8 (zj (c := .int _ _) Y8 Z ⟨_, .head⟩ Z)<|zVGvlss Z Z<|zVzMb Z<|zo (s := 206) Z (fun c10=>?_) (fun c10=>?_)
            ·refine z7 Z Z c10<|z7 Z Z c10<|z7 Z Z c10<|zVzPt Z c10 Z<|z6 ?_
             exact ⟨(), zR12, ⟨jb (by simp_all <;> grind), trivial⟩, zLe, trivial⟩
            ·refine za Z Z c10<|z8 (zc jk Z Zx (by decide) Z Z)<|za Z Z c10<|z8 (zj (c := .int _ _) Y8 Z ⟨_, .head⟩ Z)<|za Z Z c10<|z8 (yr Z Z)<|zVzPf Z c10 Z<|z6 ?_
             exact ⟨(), zR12, ⟨jb (by simp_all <;> grind), trivial⟩, zLe, trivial⟩
           ·rintro _ _
            refine zz Z (fun cq=>?_) (fun cq=>?_)
            ·refine zSr<|zVzAb Z<|z6<|ze<|zi (x := .bool _) Z ?_
             rw [qr (fun h => by have := (h.2.2.2.2.2 _ (qh hk2)).2.1 _ (qh hp2); obtain ⟨h1, h2, _⟩ := this; simp at cq; omega)]
            ·have hop : 0 ≤ f.blocks[j].insts[p].op ∧ f.blocks[j].insts[p].op ≤ 26 := by simp at cq; omega
             have hrow : kindT[f.blocks[j].insts[p].op.toNat]? = some (kRow f.blocks[j].insts[p].op) := by unfold kRow; rw [if_pos hop.1, qd (show _ < 27 by omega)]; rfl
             refine zf<|zb<|yn (γ := Nat) [1, 3, 9, 10, 12, 18, 107, 108, 109, 197, 198, 199] (fun i => [(19, .po i 0)]) (fun i => [(i18, .cells 41 (encInst f.blocks[j].insts[p])), (i, .cells 172 (encK (kRow f.blocks[j].insts[p].op))), (i12, .cells 49 (encBlk f.blocks[j]))]) (fun i => True) ?_ (fun _ _ h => h) ?_
             ·refine zw (fun j => Nat.beq j 6) (by kernel_rfl) Z (zu (.r (.rest _)))<|zTk 1 Z (zc jk Z Zx (by decide) Z Z)<|zTk 2 Z (zj (c := .int _ _) Y8 Z ⟨_, .head⟩ Z)<|yy (i := 0) (j := 5) Z Z (by kernel_rfl) ?_ ?_
              ·refine zd (rows_spec) Z<|z6<|zTk 3 Z (yi (j := (f.blocks[j].insts[p].op.toNat)) underlying173 Yk Z Z (qt hop.1).symm hrow)<|zTk 4 Z (yq isAgg172 Yk Z Z)<|zOn 5 Z<|zq (cs := [.str ⟨#[]⟩, .str ⟨#[]⟩, .str ⟨#[]⟩]) Xe Z Z<|fun i19 => z6<|yb<|y7 (i := 6) Z (by kernel_rfl) (by kernel_rfl)<|zm Yk Z Z Z Z Z Z .t1 Z<|z6<|yf (by kernel_rfl) ?_
               exact ⟨i19, zR12, zR1, zLe, trivial⟩
              ·refine zq (cs := [.str ⟨#[]⟩, .str ⟨#[]⟩, .str ⟨#[]⟩]) Xe Z Z<|fun i19 => z6<|zOn 0 Z<|zd (rows_spec) Z<|z6<|zTk 3 Z (yi (j := (f.blocks[j].insts[p].op.toNat)) underlying173 Yk Z Z (qt hop.1).symm hrow)<|zTk 4 Z (yq isAgg172 Yk Z Z)<|yb<|y7 (i := 6) Z (by kernel_rfl) (by kernel_rfl)<|zm Yk Z Z Z Z Z Z .t1 Z<|z6<|yf (by kernel_rfl) ?_
               exact ⟨i19, zR12, zR1, zLe, trivial⟩
             ·rintro i19 _
              refine zb<|zb<|yn (γ := Unit) [1, 3, 9, 10, 12, 18, 107, 108, 109, 197, 198, 199] (fun u => [(258, .bool (bad2 f f.blocks[j].insts[p]))]) (fun u => [(i18, .cells 41 (encInst f.blocks[j].insts[p])), (i19, .cells 172 (encK (kRow f.blocks[j].insts[p].op))), (i12, .cells 49 (encBlk f.blocks[j]))]) (fun u => True) ?_ (fun _ _ h => h) ?_
              ·refine zRg<|z8 (zc jk Z jn (by decide) Z Z)<|z8 (zj (c := .fro _ _) jz Z ⟨_, .head⟩ Z)<|zVGvlenM j9 Z<|z8 (zc Zy Z jx (by decide) Z Z)<|z8 (zj (c := .str _) Z5 Z ⟨_, .t1⟩ Z)<|z8 (Gv.lenT Z3 Z)<|zVGvneqI Z Z<|zVzMb Z<|zo (s := 223) Z (fun c11=>?_) (fun c11=>?_)
               ·refine z7 Z Z c11<|z7 Z Z c11<|z7 Z Z c11<|z7 Z Z c11<|z7 Z Z c11<|z7 Z Z c11<|z7 Z Z c11<|zVzPt Z c11 Z<|zVzMb Z<|z7 Z Z Z<|z7 Z Z Z<|z7 Z Z Z<|z7 Z Z Z<|zh Z Z<|zh Z Z<|zh Z Z<|zh Z Z<|zh Z Z<|z7 Z Z Z<|zVzPt Z Z Z<|zVzMb Z<|z7 Z Z Z<|z7 Z Z Z<|z7 Z Z Z<|z7 Z Z Z<|zh Z Z<|zh Z Z<|zh Z Z<|z7 Z Z Z<|z7 Z Z Z<|zh Z Z<|zh Z Z<|zh Z Z<|z7 Z Z Z<|zVzPt Z Z Z<|z6 ?_
                exact ⟨(), zR12, ⟨jb (by simp_all [bad2, wordB, hasV] <;> grind), trivial⟩, zLe, trivial⟩
               ·refine za Z Z c11<|z8 (zc Zy Z jx (by decide) Z Z)<|za Z Z c11<|z8 (zj (c := .str _) Z5 Z ⟨_, .t1⟩ Z)<|za Z Z c11<|z8 (q8 Z Z)<|za Z Z c11<|z8 (zc jk Z jd (by decide) Z Z)<|za Z Z c11<|z8 (zj (c := .int _ _) jr Z ⟨_, .head⟩ Z)<|za Z Z c11<|zVGveqlI Z Z<|za Z Z c11<|z8 (Gv.neqB Zw Z Z)<|zVzPf Z c11 Z<|zVzMb Z<|zo (s := 232) Z (fun c12=>?_) (fun c12=>?_)
                ·refine z7 Z Z c12<|z7 Z Z c12<|z7 Z Z c12<|z7 Z Z c12<|zh Z Z<|zh Z Z<|zh Z Z<|zh Z Z<|zh Z Z<|z7 Z Z c12<|zVzPt Z c12 Z<|zVzMb Z<|z7 Z Z Z<|z7 Z Z Z<|z7 Z Z Z<|z7 Z Z Z<|zh Z Z<|zh Z Z<|zh Z Z<|z7 Z Z Z<|z7 Z Z Z<|zh Z Z<|zh Z Z<|zh Z Z<|z7 Z Z Z<|zVzPt Z Z Z<|z6 ?_
                 exact ⟨(), zR12, ⟨jb (by simp_all [bad2, wordB, hasV] <;> grind), trivial⟩, zLe, trivial⟩
                ·refine za Z Z c12<|z8 (zc jk Z jd (by decide) Z Z)<|za Z Z c12<|z8 (zj (c := .int _ _) jr Z ⟨_, .head⟩ Z)<|za Z Z c12<|zVGvneqI Z Z<|za Z Z c12<|zVzMb Z<|zo (s := 236) Z (fun c13=>?_) (fun c13=>?_)
                 ·refine za Z Z c13<|z8 (zc jk Z jd (by decide) Z Z)<|za Z Z c13<|z8 (zj (c := .int _ _) jr Z ⟨_, .head⟩ Z)<|za Z Z c13<|zVzMi Z<|za Z Z c13<|zd (in_spec _ _) Z<|za Z Z c13<|zVGvnot Z<|za Z Z c12<|zVzPt Z c13 Z<|zVzPf Z c12 Z<|zVzMb Z<|zo (s := 244) Z (fun c14=>?_) (fun c14=>?_)
                  ·refine z7 Z Z c14<|z7 Z Z c14<|z7 Z Z c14<|z7 Z Z c14<|zh Z Z<|zh Z Z<|zh Z Z<|z7 Z Z c14<|z7 Z Z c14<|zh Z Z<|zh Z Z<|zh Z Z<|z7 Z Z c14<|zVzPt Z c14 Z<|z6 ?_
                   exact ⟨(), zR12, ⟨jb (by simp_all [bad2, wordB, hasV] <;> grind), trivial⟩, zLe, trivial⟩
                  ·refine za Z Z c14<|z8 (zc jk Z Yl (by decide) Z Z)<|za Z Z c14<|z8 (zj (c := .int _ _) X7 Z ⟨_, .head⟩ Z)<|za Z Z c14<|zVGvneqI Z Z<|za Z Z c14<|zVzMb Z<|zo (s := 248) Z (fun c15=>?_) (fun c15=>?_)
                   ·refine za Z Z c15<|z8 (zc Zy Z jx (by decide) Z Z)<|za Z Z c15<|z8 (zj (c := .str _) Z5 Z ⟨_, .t1⟩ Z)<|za Z Z c15<|z8 (Gv.neqT Z Z)<|za Z Z c14<|zVzPt Z c15 Z<|za Z Z c14<|zVzMb Z<|zo (s := 253) Z (fun c16=>?_) (fun c16=>?_)
                    ·refine za Z Z c16<|z8 (zc Zy Z jx (by decide) Z Z)<|za Z Z c16<|z8 (zj (c := .str _) Z5 Z ⟨_, .t1⟩ Z)<|za Z Z c16<|z8 (Gv.neqT Z Z)<|za Z Z c14<|zVzPt Z c16 Z<|zVzPf Z c14 Z<|z6 ?_
                     exact ⟨(), zR12, ⟨jb (by simp_all [bad2, wordB, hasV] <;> grind), trivial⟩, zLe, trivial⟩
                    ·refine z7 Z Z c16<|z7 Z Z c16<|z7 Z Z c16<|za Z Z c14<|zVzPf Z c16 Z<|zVzPf Z c14 Z<|z6 ?_
                     exact ⟨(), zR12, ⟨jb (by simp_all [bad2, wordB, hasV] <;> grind), trivial⟩, zLe, trivial⟩
                   ·refine z7 Z Z c15<|z7 Z Z c15<|z7 Z Z c15<|za Z Z c14<|zVzPf Z c15 Z<|za Z Z c14<|zVzMb Z<|z7 Z Z Z<|z7 Z Z Z<|z7 Z Z Z<|za Z Z c14<|zVzPf Z Z Z<|zVzPf Z c14 Z<|z6 ?_
                    exact ⟨(), zR12, ⟨jb (by simp_all [bad2, wordB, hasV] <;> grind), trivial⟩, zLe, trivial⟩
                 ·refine z7 Z Z c13<|z7 Z Z c13<|z7 Z Z c13<|z7 Z Z c13<|z7 Z Z c13<|za Z Z c12<|zVzPf Z c13 Z<|zVzPf Z c12 Z<|zVzMb Z<|za Z Z Z<|z8 (zc jk Z Yl (by decide) Z Z)<|za Z Z Z<|z8 (zj (c := .int _ _) X7 Z ⟨_, .head⟩ Z)<|za Z Z Z<|zVGvneqI Z Z<|za Z Z Z<|zVzMb Z<|zo (s := 248) Z (fun c17=>?_) (fun c17=>?_)
                  ·refine za Z Z c17<|z8 (zc Zy Z jx (by decide) Z Z)<|za Z Z c17<|z8 (zj (c := .str _) Z5 Z ⟨_, .t1⟩ Z)<|za Z Z c17<|z8 (Gv.neqT Z Z)<|za Z Z Z<|zVzPt Z c17 Z<|za Z Z Z<|zVzMb Z<|zo (s := 253) Z (fun c18=>?_) (fun c18=>?_)
                   ·refine za Z Z c18<|z8 (zc Zy Z jx (by decide) Z Z)<|za Z Z c18<|z8 (zj (c := .str _) Z5 Z ⟨_, .t1⟩ Z)<|za Z Z c18<|z8 (Gv.neqT Z Z)<|za Z Z Z<|zVzPt Z c18 Z<|zVzPf Z Z Z<|z6 ?_
                    exact ⟨(), zR12, ⟨jb (by simp_all [bad2, wordB, hasV] <;> grind), trivial⟩, zLe, trivial⟩
                   ·refine z7 Z Z c18<|z7 Z Z c18<|z7 Z Z c18<|za Z Z Z<|zVzPf Z c18 Z<|zVzPf Z Z Z<|z6 ?_
                    exact ⟨(), zR12, ⟨jb (by simp_all [bad2, wordB, hasV] <;> grind), trivial⟩, zLe, trivial⟩
                  ·refine z7 Z Z c17<|z7 Z Z c17<|z7 Z Z c17<|za Z Z Z<|zVzPf Z c17 Z<|za Z Z Z<|zVzMb Z<|z7 Z Z Z<|z7 Z Z Z<|z7 Z Z Z<|za Z Z Z<|zVzPf Z Z Z<|zVzPf Z Z Z<|z6 ?_
                   exact ⟨(), zR12, ⟨jb (by simp_all [bad2, wordB, hasV] <;> grind), trivial⟩, zLe, trivial⟩
              ·rintro _ _
               refine zz Z (fun cw=>?_) (fun cw=>?_)
               ·refine zSr<|zVzAb Z<|z6<|ze<|zi (x := .bool _) Z ?_
                rw [qr (fun h => by have := (h.2.2.2.2.2 _ (qh hk2)).2.1 _ (qh hp2); rw [this.2.2.1] at cw; cases cw)]
               ·refine zf<|zSr<|z8 (zc jk Z jn (by decide) Z Z)<|z8 (zj (c := .fro _ _) jz Z ⟨_, .head⟩ Z)<|zVGvlenM j9 Z<|zVzMi Z<|z6<|zg<|y3 (γ := Nat) [1, 3, 9, 10, 12, 107, 108, 109, 197, 198, 199, 260, 261] (fun m => [(262, .int .i64 m)]) (fun m => [(i18, .cells 41 (encInst f.blocks[j].insts[p])), (i12, .cells 49 (encBlk f.blocks[j]))]) (fun m => m ≤ f.blocks[j].insts[p].args.length ∧ (f.blocks[j].insts[p].args.take m).all (hasV f) = true) (fun m => f.blocks[j].insts[p].args.length - m) 0 zR1 ⟨_, (.keep (.drop (.refl _))), Z⟩ (⟨qg _, Z⟩) ?_
                rintro m ⟨hm, ha1⟩
                refine zSr<|zVGvlss Z Z<|z6<|zb<|zr Z (fun cm=>?_) (fun cm=>?_)
                ·have hm1 : m < f.blocks[j].insts[p].args.length := by omega
                 refine zf<|zb<|zg<|zSr<|z8 (yi j9 jd Z Z Z (qd (by omega)))<|zVzLi jr Z<|zVzAi Z<|z6<|zSr<|zVzMi Z<|zVzMi Z<|zd (in_spec _ _) Z<|zVGvnot Z<|z6<|zz Z (fun ca=>?_) (fun ca=>?_)
                 ·have ca : hasV f f.blocks[j].insts[p].args[m] = false := by simp [hasV] at ca ⊢; omega
                  refine zSr<|zVzAb Z<|z6<|ze<|zi (x := .bool _) Z ?_
                  rw [qr (fun h => by have := (h.2.2.2.2.2 _ (qh hk2)).2.1 _ (qh hp2); have h6 := List.all_eq_true.1 this.2.2.2 _ (qh hm1); rw [ca] at h6; cases h6)]
                 ·have ca : hasV f f.blocks[j].insts[p].args[m] = true := by simp [hasV] at ca ⊢; omega
                  refine zf<|zRg<|zVzAd Z Z<|zVzMi Z<|z6 ?_
                  exact ⟨m + 1, ⟨rfl, rfl, rfl, rfl, rfl, rfl, rfl, rfl, rfl, rfl, rfl, rfl, rfl, trivial⟩, zR1, zLe, ⟨hm1, all_take hm1 ha1 ca⟩, by omega⟩
                ·rw [take_len (by omega)] at ha1
                 refine y2<|zRg<|zVzAd Z Z<|zVzMi Z<|z6 ?_
                 exact ⟨p + 1, ⟨rfl, rfl, rfl, rfl, rfl, rfl, rfl, rfl, rfl, rfl, trivial⟩, zR1, ⟨_, (.drop (.refl _)), rfl⟩, ⟨hp2, forall_take hp2 hins ⟨hop.1, hop.2, cw, ha1⟩⟩, by omega⟩
          ·rw [take_len (by omega)] at hins
           refine y2<|zSr<|z8 (zc ja Z Z4 (by decide) Z Z)<|z8 (Gv.loadAC (l := [_, _, _, _]) Ym Z4 Z ⟨_, .head⟩ Z Z)<|zq (cs := [.int .i64 0, .int .i64 0, .int .i64 0, .int .i64 0]) zeroValue46 Z Z<|fun i22 => zm Z4 Z Z Z Z Z Z .head Z<|z6<|zSr<|zVzAb Z<|z6<|zb<|zSr<|z8 (zc je Z Zl (by decide) Z Z)<|z8 (zj (c := .int _ _) Y0 Z ⟨_, .head⟩ Z)<|z6<|yn (γ := Unit) [1, 3, 9, 10, 107, 108, 109] (fun u => [(23, .bool (termOK f f.blocks[j].term))]) (fun u => []) (fun u => True) ?_ (fun _ _ h => h) ?_
           ·refine zg<|zSr<|zVGveqlI Z Z<|zVzAb Z<|z6<|zz Z (fun c19=>?_) (fun c19=>?_)
            ·refine zRg<|z8 (zc je Z Z8 (by decide) Z Z)<|z8 (Gv.idxAO (j := 0) jy jd Z Z Z (by decide) Z)<|z8 (zj (c := .int _ _) jr Z ⟨_, .head⟩ Z)<|zVzMi Z<|zd (in_spec _ _) Z<|zVzMb Z<|zo (s := 283) Z (fun c20=>?_) (fun c20=>?_)
             ·refine za Z Z c20<|z8 (zc je Z Z8 (by decide) Z Z)<|za Z Z c20<|z8 (Gv.idxAO (j := 1) jy jd Z Z Z (by decide) Z)<|za Z Z c20<|z8 (zj (c := .int _ _) jr Z ⟨_, .head⟩ Z)<|za Z Z c20<|zVGveqlI Z Z<|zVzPt Z c20 Z<|zVzMb Z<|zo (s := 289) Z (fun c21=>?_) (fun c21=>?_)
              ·refine za Z Z c21<|z8 (zc je Z jd (by decide) Z Z)<|za Z Z c21<|z8 (zj (c := .int _ _) jr Z ⟨_, .head⟩ Z)<|za Z Z c21<|zVGveqlI Z Z<|zVzPt Z c21 Z<|zVzAb Z<|z6 ?_
               exact ⟨(), zR7, ⟨jb (by simp_all [termOK, hasV, hasB] <;> grind), trivial⟩, ⟨_, (.drop (.drop (.refl _))), rfl⟩, trivial⟩
              ·refine z7 Z Z c21<|z7 Z Z c21<|z7 Z Z c21<|zVzPf Z c21 Z<|zVzAb Z<|z6 ?_
               exact ⟨(), zR7, ⟨jb (by simp_all [termOK, hasV, hasB] <;> grind), trivial⟩, ⟨_, (.drop (.drop (.refl _))), rfl⟩, trivial⟩
             ·refine z7 Z Z c20<|z7 Z Z c20<|z7 Z Z c20<|z7 Z Z c20<|zVzPf Z c20 Z<|zVzMb Z<|z7 Z Z Z<|z7 Z Z Z<|z7 Z Z Z<|zVzPf Z Z Z<|zVzAb Z<|z6 ?_
              exact ⟨(), zR7, ⟨jb (by simp_all [termOK, hasV, hasB] <;> grind), trivial⟩, ⟨_, (.drop (.drop (.refl _))), rfl⟩, trivial⟩
            ·refine zSr<|zVGveqlI Z Z<|zVzAb Z<|z6<|zz Z (fun c22=>?_) (fun c22=>?_)
             ·refine zRg<|z8 (zc je Z jd (by decide) Z Z)<|z8 (zj (c := .int _ _) jr Z ⟨_, .head⟩ Z)<|zVzMi Z<|zd (in_spec _ _) Z<|zVzMb Z<|zo (s := 300) Z (fun c23=>?_) (fun c23=>?_)
              ·refine za Z Z c23<|z8 (zc je Z Z8 (by decide) Z Z)<|za Z Z c23<|z8 (Gv.idxAO (j := 0) jy jd Z Z Z (by decide) Z)<|za Z Z c23<|z8 (zj (c := .int _ _) jr Z ⟨_, .head⟩ Z)<|za Z Z c23<|zVzMi Z<|za Z Z c23<|zd (in_spec _ _) Z<|zVzPt Z c23 Z<|zVzMb Z<|zo (s := 307) Z (fun c24=>?_) (fun c24=>?_)
               ·refine za Z Z c24<|z8 (zc je Z Z8 (by decide) Z Z)<|za Z Z c24<|z8 (Gv.idxAO (j := 1) jy jd Z Z Z (by decide) Z)<|za Z Z c24<|z8 (zj (c := .int _ _) jr Z ⟨_, .head⟩ Z)<|za Z Z c24<|zVzMi Z<|za Z Z c24<|zd (in_spec _ _) Z<|zVzPt Z c24 Z<|zVzAb Z<|z6 ?_
                exact ⟨(), zR7, ⟨jb (by simp_all [termOK, hasV, hasB] <;> grind), trivial⟩, ⟨_, (.drop (.drop (.refl _))), rfl⟩, trivial⟩
               ·refine z7 Z Z c24<|z7 Z Z c24<|z7 Z Z c24<|z7 Z Z c24<|z7 Z Z c24<|zVzPf Z c24 Z<|zVzAb Z<|z6 ?_
                exact ⟨(), zR7, ⟨jb (by simp_all [termOK, hasV, hasB] <;> grind), trivial⟩, ⟨_, (.drop (.drop (.refl _))), rfl⟩, trivial⟩
              ·refine z7 Z Z c23<|z7 Z Z c23<|z7 Z Z c23<|z7 Z Z c23<|z7 Z Z c23<|zVzPf Z c23 Z<|zVzMb Z<|z7 Z Z Z<|z7 Z Z Z<|z7 Z Z Z<|z7 Z Z Z<|z7 Z Z Z<|zVzPf Z Z Z<|zVzAb Z<|z6 ?_
               exact ⟨(), zR7, ⟨jb (by simp_all [termOK, hasV, hasB] <;> grind), trivial⟩, ⟨_, (.drop (.drop (.refl _))), rfl⟩, trivial⟩
             ·refine zSr<|zVGveqlI Z Z<|zVzAb Z<|z6<|zz Z (fun c25=>?_) (fun c25=>?_)
              ·refine zRg<|z8 (zc je Z jd (by decide) Z Z)<|z8 (zj (c := .int _ _) jr Z ⟨_, .head⟩ Z)<|zVzMi Z<|zd (in_spec _ _) Z<|zVzMb Z<|zo (s := 320) Z (fun c26=>?_) (fun c26=>?_)
               ·refine za Z Z c26<|z8 (zc je Z Z8 (by decide) Z Z)<|za Z Z c26<|z8 (Gv.loadAC (l := [_, _]) isAgg44 Z8 Z ⟨_, .head⟩ Z Z)<|za Z Z c26<|z8 (Gv.buildA (cps := []) (rs := [.int .i64 0, .int .i64 0]) pl44 Z Z Z)<|za Z Z c26<|z8 (Gv.eqlP (xs := [.int _ _, .int _ _]) (ys := [.int _ _, .int _ _]) (by kernel_rfl) Z Z (fun w => eq_arr10 _ _ _ _ w))<|zVzPt Z c26 Z<|zVzAb Z<|z6 ?_
                exact ⟨(), zR7, ⟨jb (by simp_all [termOK, hasV, hasB] <;> grind), trivial⟩, ⟨_, (.drop (.drop (.refl _))), rfl⟩, trivial⟩
               ·refine z7 Z Z c26<|z7 Z Z c26<|z7 Z Z c26<|z7 Z Z c26<|zVzPf Z c26 Z<|zVzAb Z<|z6 ?_
                exact ⟨(), zR7, ⟨jb (by simp_all [termOK, hasV, hasB] <;> grind), trivial⟩, ⟨_, (.drop (.drop (.refl _))), rfl⟩, trivial⟩
              ·refine zf ?_
               exact ⟨(), zR7, ⟨jb (by simp_all [termOK, hasV, hasB] <;> grind), trivial⟩, ⟨_, (.drop (.drop (.refl _))), rfl⟩, trivial⟩
           ·rintro _ _
            refine zSr<|zVzMb Z<|zVGvnot Z<|z6<|zz Z (fun ct=>?_) (fun ct=>?_)
            ·refine zSr<|zVzAb Z<|z6<|ze<|zi (x := .bool _) Z ?_
             rw [qr (fun h => by have := (h.2.2.2.2.2 _ (qh hk2)).2.2; rw [this] at ct; cases ct)]
            ·have ct : termOK f f.blocks[j].term = true := by simpa using ct
             refine zf<|zRg<|zVzAd Z Z<|zVzMi Z<|z6 ?_
             exact ⟨j + 1, zR5, ⟨rfl, (congrArg (AV.int .i64) (by rw [hs1]; omega)), trivial⟩, zLe, ⟨hk2, fun i h hi => by rcases Nat.lt_or_ge i j with h3 | h3; exact hnam i h h3; obtain rfl : i = j := (by omega); exact ⟨by simpa using cv, hno⟩, by omega, forall_take hk2 hblk ⟨hphi, hins, ct⟩⟩, by omega⟩
     ·have hkn : k = f.blocks.length := by omega
      subst hkn
      rw [qi] at hsum hblk
      refine y2<|zSr<|zVzAb Z<|z6<|ze<|zi (x := .bool _) Z ?_
      rw [qq (show ShapedP f from ⟨c1, hpars, hvars, fun i h => hnam i h h, hsum, hblk⟩)]
end Go.Proofs.YtbkgklpihnfnjaaGreatDoor
