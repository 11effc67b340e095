/- Copies. Of programs that are little. -/
import Derived.Test.YtiojekbkamegdaaGreatDoorJf
import Derived.Test.YtiojekbkamegdaaGreatDoorJd
set_option linter.unusedVariables false
set_option linter.unusedSimpArgs false
set_option linter.unusedSectionVars false
namespace Go.Proofs.YtiojekbkamegdaaGreatDoor
open Go.Proofs.Tryz
open Go.Proofs Go.Lib Go.Shelf Go.RowKit
set_option maxRecDepth 20000
variable {E : World}
def PhiP (f : PFunc) (p : PPhi) : Prop := hasV f p.dst = true ∧ p.args.length = p.from_.length ∧ 1 ≤ p.args.length ∧ p.args.all (hasV f) = true ∧ p.from_.all (hasB f) = true
def wordB (x : PInst) : Bool := decide ((kRow x.op).1 = ⟨#[99, 111, 110, 115, 116]⟩) || decide ((kRow x.op).1 = ⟨#[112, 105]⟩)
def bad2 (f : PFunc) (x : PInst) : Bool := !decide ((x.args.length : Int) = ((kRow x.op).2.1.size : Int)) || (!(decide ((kRow x.op).2.2 = ⟨#[]⟩) == decide (x.dst = -1)) || ((!decide (x.dst = -1) && !hasV f x.dst) || (!decide (x.num = 0) && !wordB x)))
def InstP (f : PFunc) (x : PInst) : Prop := 0 ≤ x.op ∧ x.op ≤ 26 ∧ bad2 f x = false ∧ x.args.all (hasV f) = true
def BlkP (f : PFunc) (b : PBlock) : Prop := (∀ p ∈ b.phis, PhiP f p) ∧ (∀ x ∈ b.insts, InstP f x) ∧ termOK f b.term = true
def sumTo (l : List PBlock) : Nat := (l.map fun b => b.phis.length + b.insts.length).sum
def bad1 (f : PFunc) : Bool := decide ((512 : Int) < f.vars.length) || (decide ((8 : Int) < f.params.length) || (decide ((f.vars.length : Int) < f.params.length) || (decide ((f.blocks.length : Int) < 1) || decide ((64 : Int) < f.blocks.length))))
def VarP (f : PFunc) (i : Nat) (v : PVar) : Prop := nameB v.name = true ∧ 0 ≤ v.ty ∧ v.ty ≤ 2 ∧ ∀ s ∈ (f.vars.take i).map (·.name), s ≠ v.name
def NamP (f : PFunc) (i : Nat) (b : PBlock) : Prop := nameB b.name = true ∧ ∀ s ∈ (f.blocks.take i).map (·.name), s ≠ b.name
def ShapedP (f : PFunc) : Prop := bad1 f = false ∧ (∀ i (h : i < f.params.length), f.params[i] = (i : Int)) ∧ (∀ i (h : i < f.vars.length), VarP f i f.vars[i]) ∧ (∀ i (h : i < f.blocks.length), NamP f i f.blocks[i]) ∧ sumTo f.blocks ≤ 1024 ∧ ∀ b ∈ f.blocks, BlkP f b
instance (f : PFunc) (p : PPhi) : Decidable (PhiP f p) := by unfold PhiP; infer_instance
instance (f : PFunc) (x : PInst) : Decidable (InstP f x) := by unfold InstP; infer_instance
instance (f : PFunc) (b : PBlock) : Decidable (BlkP f b) := by unfold BlkP; infer_instance
instance (f : PFunc) (i : Nat) (v : PVar) : Decidable (VarP f i v) := by unfold VarP; infer_instance
instance (f : PFunc) (i : Nat) (b : PBlock) : Decidable (NamP f i b) := by unfold NamP; infer_instance
instance (f : PFunc) : Decidable (ShapedP f) := by unfold ShapedP; infer_instance
theorem sumTo_take (l : List PBlock) (k : Nat) : sumTo (l.take k) ≤ sumTo l := by
 have : sumTo l = sumTo (l.take k) + sumTo (l.drop k) := by
  unfold sumTo; rw [← List.sum_append, ← qt, List.take_append_drop]
 omega
theorem sumTo_succ (l : List PBlock) (k : Nat) (h : k < l.length) : sumTo (l.take (k + 1)) = sumTo (l.take k) + (l[k].phis.length + l[k].insts.length) := by
 unfold sumTo; rw [qk h, qt, List.sum_append]; simp only [List.map_cons, List.map_nil, List.sum_cons, List.sum_nil, Nat.add_zero]
theorem not_take {α : Type} {g : α → ByteArray} {l : List α} {k : Nat} {s : ByteArray} (h : k < l.length) (h1 : ∀ x ∈ (l.take k).map g, x ≠ s) (h2 : ¬ g l[k] = s) : ∀ x ∈ (l.take (k + 1)).map g, x ≠ s := by
 rw [qk h, qt]
 intro x hx
 rcases List.mem_append.1 hx with hx | hx
 ·exact h1 x hx
 ·simp only [List.map_cons, List.map_nil, List.mem_singleton] at hx; rw [hx]; exact h2
theorem in_take {α : Type} {g : α → ByteArray} {l : List α} {k i : Nat} {s : ByteArray} (h : k < l.length) (hk : k < i) (h1 : ∀ x ∈ (l.take i).map g, x ≠ s) : ¬ g l[k] = s := by
 refine h1 _ (List.mem_map.2 ⟨l[k], ?_, rfl⟩)
 refine List.mem_iff_getElem?.2 ⟨k, ?_⟩
 rw [List.getElem?_take, if_pos hk, qj h]
theorem all_take {α : Type} {p : α → Bool} {l : List α} {k : Nat} (h : k < l.length) (h1 : (l.take k).all p = true) (h2 : p l[k] = true) : (l.take (k + 1)).all p = true := by
 rw [qk h, List.all_append, h1]; simp [h2]
theorem all_bad {α : Type} {p : α → Bool} {l : List α} {k : Nat} (h : k < l.length) (h2 : p l[k] = false) : ¬ l.all p = true := fun h3 => by
 have := List.all_eq_true.1 h3 _ (qn h); rw [h2] at this; cases this
theorem take_len {α : Type} {l : List α} {k : Nat} (h : l.length ≤ k) : l.take k = l := List.take_of_length_le h
theorem forall_take {α : Type} {p : α → Prop} {l : List α} {k : Nat} (h : k < l.length) (h1 : ∀ x ∈ l.take k, p x) (h2 : p l[k]) : ∀ x ∈ l.take (k + 1), p x := by
 rw [qk h]
 intro x hx
 rcases List.mem_append.1 hx with hx | hx
 ·exact h1 x hx
 ·rw [List.mem_singleton.1 hx]; exact h2
def okNames (f : PFunc) : Prop := (∀ v ∈ f.vars, v.name.size ≤ 140737488355328) ∧ ∀ b ∈ f.blocks, b.name.size ≤ 140737488355328
set_option maxHeartbeats 8000000 in
theorem refShaped_spec (f : PFunc) (hf : okFunc f) (hn : okNames f) (hL : Letters E) : AFun prog E 100 [.agg (encF f)] (.bool (decide (ShapedP f))) := by
 obtain ⟨hf1, hf2, hf3, hf4⟩ := hf
 have hl1 := hf1.lt
 have hl2 := hf2.lt
 have hl3 := hf3.lt
 refine zn func100 rfl (by decide) rfl<|zSr<|yd (cs := _) rfl rfl rfl<|z2 (zAb rfl)<|z6<|zSr<|z2 (zFF underlying26 rfl sizeOf22 rfl rfl)<|z2 (zLf isAgg22 rfl)<|z2 (zu underlying22 rfl)<|z2 (zAi rfl)<|z6<|za<|za<|yp (γ := Unit) [1, 3] (fun u => [(53, .bool (bad1 f))]) (fun u => []) (fun u => True) ?_ (fun _ _ h => h) ?_
 ·refine zRg<|z2 (zMi rfl)<|z2 (q3 rfl rfl)<|z2 (zMb rfl)<|zo (s := 29) rfl (fun c1=>?_) (fun c1=>?_)
  ·refine z7 rfl rfl c1<|z7 rfl rfl c1<|z7 rfl rfl c1<|z7 rfl rfl c1<|z2 (zPt rfl c1 rfl)<|z2 (zMb rfl)<|z7 rfl rfl rfl<|z7 rfl rfl rfl<|z7 rfl rfl rfl<|z7 rfl rfl rfl<|z7 rfl rfl rfl<|z2 (zPt rfl rfl rfl)<|z2 (zMb rfl)<|z7 rfl rfl rfl<|z7 rfl rfl rfl<|z7 rfl rfl rfl<|z7 rfl rfl rfl<|z2 (zPt rfl rfl rfl)<|z2 (zMb rfl)<|z7 rfl rfl rfl<|z7 rfl rfl rfl<|z7 rfl rfl rfl<|z7 rfl rfl rfl<|z2 (zPt rfl rfl rfl)<|z6 ?_
   exact ⟨(), zR2, ⟨jb (by simp_all [bad1] <;> grind), trivial⟩, zLe, trivial⟩
  ·refine z8 rfl rfl c1<|z2 (zFF underlying26 rfl sizeOf23 rfl rfl)<|z8 rfl rfl c1<|z2 (zLf isAgg23 rfl)<|z8 rfl rfl c1<|z2 (zu underlying23 rfl)<|z8 rfl rfl c1<|z2 (q3 rfl rfl)<|z2 (zPf rfl c1 rfl)<|z2 (zMb rfl)<|zo (s := 35) rfl (fun c2=>?_) (fun c2=>?_)
   ·refine z7 rfl rfl c2<|z7 rfl rfl c2<|z7 rfl rfl c2<|z7 rfl rfl c2<|z7 rfl rfl c2<|z2 (zPt rfl c2 rfl)<|z2 (zMb rfl)<|z7 rfl rfl rfl<|z7 rfl rfl rfl<|z7 rfl rfl rfl<|z7 rfl rfl rfl<|z2 (zPt rfl rfl rfl)<|z2 (zMb rfl)<|z7 rfl rfl rfl<|z7 rfl rfl rfl<|z7 rfl rfl rfl<|z7 rfl rfl rfl<|z2 (zPt rfl rfl rfl)<|z6 ?_
    exact ⟨(), zR2, ⟨jb (by simp_all [bad1] <;> grind), trivial⟩, zLe, trivial⟩
   ·refine z8 rfl rfl c2<|z2 (zFF underlying26 rfl sizeOf23 rfl rfl)<|z8 rfl rfl c2<|z2 (zLf isAgg23 rfl)<|z8 rfl rfl c2<|z2 (zu underlying23 rfl)<|z8 rfl rfl c2<|z2 (zMi rfl)<|z8 rfl rfl c2<|z2 (q3 rfl rfl)<|z2 (zPf rfl c2 rfl)<|z2 (zMb rfl)<|zo (s := 42) rfl (fun c3=>?_) (fun c3=>?_)
    ·refine z7 rfl rfl c3<|z7 rfl rfl c3<|z7 rfl rfl c3<|z7 rfl rfl c3<|z2 (zPt rfl c3 rfl)<|z2 (zMb rfl)<|z7 rfl rfl rfl<|z7 rfl rfl rfl<|z7 rfl rfl rfl<|z7 rfl rfl rfl<|z2 (zPt rfl rfl rfl)<|z6 ?_
     exact ⟨(), zR2, ⟨jb (by simp_all [bad1] <;> grind), trivial⟩, zLe, trivial⟩
    ·refine z8 rfl rfl c3<|z2 (zFF underlying26 rfl sizeOf24 rfl rfl)<|z8 rfl rfl c3<|z2 (zLf isAgg24 rfl)<|z8 rfl rfl c3<|z2 (zu underlying24 rfl)<|z8 rfl rfl c3<|z2 (yc rfl rfl)<|z2 (zPf rfl c3 rfl)<|z2 (zMb rfl)<|zo (s := 48) rfl (fun c4=>?_) (fun c4=>?_)
     ·refine z7 rfl rfl c4<|z7 rfl rfl c4<|z7 rfl rfl c4<|z7 rfl rfl c4<|z2 (zPt rfl c4 rfl)<|z6 ?_
      exact ⟨(), zR2, ⟨jb (by simp_all [bad1] <;> grind), trivial⟩, zLe, trivial⟩
     ·refine z8 rfl rfl c4<|z2 (zFF underlying26 rfl sizeOf24 rfl rfl)<|z8 rfl rfl c4<|z2 (zLf isAgg24 rfl)<|z8 rfl rfl c4<|z2 (zu underlying24 rfl)<|z8 rfl rfl c4<|z2 (q3 rfl rfl)<|z2 (zPf rfl c4 rfl)<|z6 ?_
      exact ⟨(), zR2, ⟨jb (by simp_all [bad1] <;> grind), trivial⟩, zLe, trivial⟩
 ·rintro _ _
  refine zr rfl (fun c1=>?_) (fun c1=>?_)
  ·refine zSr<|z2 (zAb rfl)<|z6<|zh<|zj (x := .bool _) rfl ?_
   rw [qw (fun h => by rw [h.1] at c1; cases c1)]
  ·have hsz : f.vars.length ≤ 512 ∧ f.params.length ≤ 8 ∧ f.params.length ≤ f.vars.length ∧ 1 ≤ f.blocks.length ∧ f.blocks.length ≤ 64 := by unfold bad1 at c1; simp at c1; omega
   refine zd<|za<|zSr<|z2 (zFF underlying26 rfl sizeOf23 rfl rfl)<|z2 (zLf isAgg23 rfl)<|z2 (zu underlying23 rfl)<|z2 (zMi rfl)<|z6<|zf<|zz (γ := Nat) [1, 3, 55, 56] (fun k => [(57, .int .i64 k)]) (fun k => []) (fun k => k ≤ f.params.length ∧ ∀ i (h : i < f.params.length), i < k → f.params[i] = (i : Int)) (fun k => f.params.length - k) 0 zR1 zLe (⟨qm _, fun i h hk => by omega⟩) ?_
   rintro k ⟨hk, hpar⟩
   refine zSr<|z2 (yc rfl rfl)<|z6<|za<|zp rfl (fun ck=>?_) (fun ck=>?_)
   ·have hk2 : k < f.params.length := by omega
    refine zd<|za<|zf<|zSr<|z2 (zMi rfl)<|z2 (yr underlying23 sizeOf3 rfl rfl rfl (qj (by omega)))<|z2 (zLi isAgg3 rfl)<|z2 (zAi rfl)<|z2 (zAi rfl)<|z6<|zSr<|z2 (zMi rfl)<|z2 (zMi rfl)<|z2 (yi rfl rfl)<|z6<|zr rfl (fun cp=>?_) (fun cp=>?_)
    ·refine zSr<|z2 (zAb rfl)<|z6<|zh<|zj (x := .bool _) rfl ?_
     rw [qw (fun h => by have := h.2.1 k hk2; simp [this] at cp)]
    ·refine zd<|zRg<|z2 (zAd rfl rfl)<|z2 (zMi rfl)<|z6 ?_
     exact ⟨k + 1, zR4, zR1, zLe, ⟨hk2, fun i h hi => by rcases Nat.lt_or_ge i k with h3 | h3; exact hpar i h h3; obtain rfl : i = k := (by omega); simpa using cp⟩, by omega⟩
   ·have hpars : ∀ i (h : i < f.params.length), f.params[i] = (i : Int) := fun i h => hpar i h (by omega)
    refine zx<|za<|zSr<|z2 (zFF underlying26 rfl sizeOf22 rfl rfl)<|z2 (zLf isAgg22 rfl)<|z2 (zu underlying22 rfl)<|z2 (zMi rfl)<|z6<|zf<|zz (γ := Nat) [1, 3, 67, 68] (fun k => [(69, .int .i64 k)]) (fun k => []) (fun k => k ≤ f.vars.length ∧ ∀ i (h : i < f.vars.length), i < k → VarP f i f.vars[i]) (fun k => f.vars.length - k) 0 zR1 zLe (⟨qm _, fun i h hk => by omega⟩) ?_
    rintro k ⟨hk, hvar⟩
    refine zSr<|z2 (yc rfl rfl)<|z6<|za<|zp rfl (fun ck=>?_) (fun ck=>?_)
    ·have hk2 : k < f.vars.length := by omega
     have hnk : f.vars[k].name.size ≤ 140737488355328 := hn.1 _ (qn hk2)
     refine zd<|za<|zf<|zSr<|z2 (zMi rfl)<|z2 (yr underlying22 sizeOf79 rfl rfl rfl (qj (by omega)))<|z2 (zl isAgg79 sizeOf79 rfl rfl)<|y4 (cs := [.str ⟨#[]⟩, .int .i64 0]) zeroValue79 rfl rfl<|fun i7 => z2 (zAi rfl)<|zw sizeOf79 rfl rfl rfl rfl rfl rfl .head rfl<|z6<|za<|za<|yp (γ := Unit) [1, 3, 6, 7, 67, 68, 69] (fun u => [(87, .bool (!nameB f.vars[k].name || (decide (f.vars[k].ty < 0) || decide (2 < f.vars[k].ty))))]) (fun u => [(i7, .cells 79 (encVar f.vars[k]))]) (fun u => True) ?_ (fun _ _ h => h) ?_
     ·refine zRg<|z2 (zi underlying79 rfl sizeOf9 (by decide) rfl rfl)<|z2 (zm (c := .str _) isAgg9 rfl ⟨_, .head⟩ rfl)<|zk (name_spec _ (by assumption) hL) rfl<|z2 (yo rfl)<|z2 (zMb rfl)<|zo (s := 78) rfl (fun c5=>?_) (fun c5=>?_)
      ·refine z7 rfl rfl c5<|z7 rfl rfl c5<|z7 rfl rfl c5<|z2 (zPt rfl c5 rfl)<|z2 (zMb rfl)<|z7 rfl rfl rfl<|z7 rfl rfl rfl<|z7 rfl rfl rfl<|z2 (zPt rfl rfl rfl)<|z6 ?_
       exact ⟨(), zR7, ⟨jb (by simp_all <;> grind), trivial⟩, zLe, trivial⟩
      ·refine z8 rfl rfl c5<|z2 (zi underlying79 rfl sizeOf77 (by decide) rfl rfl)<|z8 rfl rfl c5<|z2 (zm (c := .int _ _) isAgg77 rfl ⟨_, .head⟩ rfl)<|z8 rfl rfl c5<|z2 (yc rfl rfl)<|z2 (zPf rfl c5 rfl)<|z2 (zMb rfl)<|zo (s := 83) rfl (fun c6=>?_) (fun c6=>?_)
       ·refine z7 rfl rfl c6<|z7 rfl rfl c6<|z7 rfl rfl c6<|z2 (zPt rfl c6 rfl)<|z6 ?_
        exact ⟨(), zR7, ⟨jb (by simp_all <;> grind), trivial⟩, zLe, trivial⟩
       ·refine z8 rfl rfl c6<|z2 (zi underlying79 rfl sizeOf77 (by decide) rfl rfl)<|z8 rfl rfl c6<|z2 (zm (c := .int _ _) isAgg77 rfl ⟨_, .head⟩ rfl)<|z8 rfl rfl c6<|z2 (q3 rfl rfl)<|z2 (zPf rfl c6 rfl)<|z6 ?_
        exact ⟨(), zR7, ⟨jb (by simp_all <;> grind), trivial⟩, zLe, trivial⟩
     ·rintro _ _
      refine zr rfl (fun cv=>?_) (fun cv=>?_)
      ·refine zSr<|z2 (zAb rfl)<|z6<|zh<|zj (x := .bool _) rfl ?_
       rw [qw (fun h => by have := h.2.2.1 k hk2; obtain ⟨h1, h2, h3, _⟩ := this; simp [h1] at cv; omega)]
      ·have hv3 : nameB f.vars[k].name = true ∧ 0 ≤ f.vars[k].ty ∧ f.vars[k].ty ≤ 2 := by simp at cv; omega
       refine zd<|zSr<|z2 (zMi rfl)<|z2 (zMi rfl)<|z6<|zf<|zz (γ := Nat) [1, 3, 7, 67, 68, 69, 88] (fun j => [(89, .int .i64 j)]) (fun j => [(i7, .cells 79 (encVar f.vars[k]))]) (fun j => j ≤ k ∧ ∀ s ∈ (f.vars.take j).map (·.name), s ≠ f.vars[k].name) (fun j => k - j) 0 zR1 zLe (⟨qm _, by simp⟩) ?_
       rintro j ⟨hj, hno⟩
       refine zSr<|z2 (yc rfl rfl)<|z6<|za<|zp rfl (fun cj=>?_) (fun cj=>?_)
       ·have hj1 : j < f.vars.length := by omega
        refine zd<|za<|zf<|zSr<|z2 (zMi rfl)<|z2 (zAi rfl)<|z6<|za<|yb (fun j => false) (by kernel_rfl) rfl (zq (.r (.rest _)))<|zTk 0 rfl (zFF underlying26 rfl sizeOf22 rfl rfl)<|zTk 1 rfl (zLf isAgg22 rfl)<|zTk 2 rfl (zMi rfl)<|zTk 3 rfl (yr underlying22 sizeOf79 rfl rfl rfl (qj (by omega)))<|zTk 4 rfl (zFF underlying79 rfl sizeOf9 rfl rfl)<|zTk 5 rfl (yv (c := .str _) isAgg9 rfl)<|zTk 6 rfl (zi underlying79 rfl sizeOf9 (by decide) rfl rfl)<|zTk 7 rfl (zm (c := .str _) isAgg9 rfl ⟨_, .head⟩ rfl)<|zTk 8 rfl (qc rfl rfl)<|zDn<|zp rfl (fun ce=>?_) (fun ce=>?_)
        ·refine zSr<|z2 (zAb rfl)<|z6<|zh<|zj (x := .bool _) rfl ?_
         rw [qw (fun h => by exact in_take (g := PVar.name) hj1 (by omega) (h.2.2.1 k hk2).2.2.2 ce)]
        ·refine zd<|zRg<|z2 (zAd rfl rfl)<|z2 (zMi rfl)<|z6 ?_
         exact ⟨j + 1, zR7, zR1, zLe, ⟨by omega, not_take hj1 hno ce⟩, by omega⟩
       ·obtain rfl : j = k := by omega
        refine zx<|zRg<|z2 (zAd rfl rfl)<|z2 (zMi rfl)<|z6 ?_
        exact ⟨j + 1, zR4, zR1, ⟨_, (.drop (.refl _)), rfl⟩, ⟨hk2, fun i h hi => by rcases Nat.lt_or_ge i j with h3 | h3; exact hvar i h h3; obtain rfl : i = j := (by omega); exact ⟨hv3.1, hv3.2.1, hv3.2.2, hno⟩⟩, by omega⟩
    ·have hvars : ∀ i (h : i < f.vars.length), VarP f i f.vars[i] := fun i h => hvar i h (by omega)
     refine zx<|zSr<|z2 (zFF underlying26 rfl sizeOf24 rfl rfl)<|z2 (zLf isAgg24 rfl)<|z2 (zu underlying24 rfl)<|z2 (zAi rfl)<|z6<|zSr<|z2 (zAi rfl)<|z6<|za<|zSr<|z2 (zFF underlying26 rfl sizeOf24 rfl rfl)<|z2 (zLf isAgg24 rfl)<|z2 (zu underlying24 rfl)<|z2 (zMi rfl)<|z6<|zf<|zz (γ := Nat) [1, 3, 9, 107, 108] (fun g => [(109, .int .i64 g), (10, .int .i64 (sumTo (f.blocks.take g)))]) (fun g => []) (fun g => g ≤ f.blocks.length ∧ (∀ i (h : i < f.blocks.length), i < g → NamP f i f.blocks[i]) ∧ sumTo (f.blocks.take g) ≤ 1024 ∧ ∀ b ∈ f.blocks.take g, BlkP f b) (fun g => f.blocks.length - g) 0 zR2 zLe (⟨qm _, fun i h hk => by omega, by simp [sumTo], by simp⟩) ?_
     rintro k ⟨hk, hnam, hsum, hblk⟩
     refine zSr<|z2 (yc rfl rfl)<|z6<|za<|zp rfl (fun ck=>?_) (fun ck=>?_)
     ·have hk2 : k < f.blocks.length := by omega
      have hnk : f.blocks[k].name.size ≤ 140737488355328 := hn.2 _ (qn hk2)
      obtain ⟨hb1, hb2, hb3, hb4⟩ := hf4 _ (qn hk2)
      have hl4 := hb1.lt
      have hl5 := hb2.lt
      refine zd<|za<|zf<|zSr<|z2 (zMi rfl)<|z2 (yr underlying24 sizeOf58 rfl rfl rfl (qj (by omega)))<|z2 (zl isAgg58 sizeOf58 rfl rfl)<|y4 (cs := [.str ⟨#[]⟩, .raw (.slice none 0 0), .raw (.slice none 0 0), .int .i64 0, .int .i64 0, .int .i64 0, .int .i64 0]) zeroValue58 rfl rfl<|fun i12 => z2 (zAi rfl)<|zw sizeOf58 rfl rfl rfl rfl rfl rfl .head rfl<|z6<|za<|zSr<|z2 (zi underlying58 rfl sizeOf9 (by decide) rfl rfl)<|z2 (zm (c := .str _) isAgg9 rfl ⟨_, .head⟩ rfl)<|zk (name_spec _ (by assumption) hL) rfl<|z2 (yo rfl)<|z6<|zr rfl (fun cv=>?_) (fun cv=>?_)
      ·refine zSr<|z2 (zAb rfl)<|z6<|zh<|zj (x := .bool _) rfl ?_
       rw [qw (fun h => by have := (h.2.2.2.1 k hk2).1; simp [this] at cv)]
      ·refine zd<|za<|zSr<|z2 (zMi rfl)<|z2 (zMi rfl)<|z6<|zf<|zz (γ := Nat) [1, 3, 9, 10, 12, 107, 108, 109, 118] (fun j => [(119, .int .i64 j)]) (fun j => [(i12, .cells 58 (encBlk f.blocks[k]))]) (fun j => j ≤ k ∧ ∀ s ∈ (f.blocks.take j).map (·.name), s ≠ f.blocks[k].name) (fun j => k - j) 0 zR1 zLe (⟨qm _, by simp⟩) ?_
       rintro j ⟨hj, hno⟩
       refine zSr<|z2 (yc rfl rfl)<|z6<|za<|zp rfl (fun cj=>?_) (fun cj=>?_)
       ·have hj1 : j < f.blocks.length := by omega
        refine zd<|za<|zf<|zSr<|z2 (zMi rfl)<|z2 (zAi rfl)<|z6<|za<|yb (fun j => false) (by kernel_rfl) rfl (zq (.r (.rest _)))<|zTk 0 rfl (zFF underlying26 rfl sizeOf24 rfl rfl)<|zTk 1 rfl (zLf isAgg24 rfl)<|zTk 2 rfl (zMi rfl)<|zTk 3 rfl (yr underlying24 sizeOf58 rfl rfl rfl (qj (by omega)))<|zTk 4 rfl (zFF underlying58 rfl sizeOf9 rfl rfl)<|zTk 5 rfl (yv (c := .str _) isAgg9 rfl)<|zTk 6 rfl (zi underlying58 rfl sizeOf9 (by decide) rfl rfl)<|zTk 7 rfl (zm (c := .str _) isAgg9 rfl ⟨_, .head⟩ rfl)<|zTk 8 rfl (qc rfl rfl)<|zDn<|zp rfl (fun ce=>?_) (fun ce=>?_)
        ·refine zSr<|z2 (zAb rfl)<|z6<|zh<|zj (x := .bool _) rfl ?_
         rw [qw (fun h => by exact in_take (g := PBlock.name) hj1 (by omega) (h.2.2.2.1 k hk2).2 ce)]
        ·refine zd<|zRg<|z2 (zAd rfl rfl)<|z2 (zMi rfl)<|z6 ?_
         exact ⟨j + 1, zR9, zR1, zLe, ⟨by omega, not_take hj1 hno ce⟩, by omega⟩
       ·obtain rfl : j = k := by omega
        have hs1 := sumTo_succ f.blocks j hk2
        refine zx<|zSr<|z2 (zMi rfl)<|z2 (zi underlying58 rfl sizeOf51 (by decide) rfl rfl)<|z2 (zm (c := .fro _ _) isAgg51 rfl ⟨_, .head⟩ rfl)<|z2 (zu underlying51 rfl)<|z2 (zAd rfl rfl)<|z2 (zi underlying58 rfl sizeOf52 (by decide) rfl rfl)<|z2 (zm (c := .fro _ _) isAgg52 rfl ⟨_, .head⟩ rfl)<|z2 (zu underlying52 rfl)<|z2 (zAd rfl rfl)<|z2 (zAi rfl)<|z6<|za<|zSr<|z2 (zMi rfl)<|z2 (q3 rfl rfl)<|z6<|zp rfl (fun cs=>?_) (fun cs=>?_)
        ·refine zSr<|z2 (zAb rfl)<|z6<|zh<|zj (x := .bool _) rfl ?_
         rw [qw (fun h => by have := h.2.2.2.2.1; have := sumTo_take f.blocks (j + 1); omega)]
        ·refine zd<|za<|zSr<|z2 (zi underlying58 rfl sizeOf51 (by decide) rfl rfl)<|z2 (zm (c := .fro _ _) isAgg51 rfl ⟨_, .head⟩ rfl)<|z2 (zu underlying51 rfl)<|z2 (zMi rfl)<|z6<|zf<|zz (γ := Nat) [1, 3, 9, 10, 12, 107, 108, 109, 144, 145] (fun p => [(146, .int .i64 p)]) (fun p => [(i12, .cells 58 (encBlk f.blocks[j]))]) (fun p => p ≤ f.blocks[j].phis.length ∧ ∀ q ∈ f.blocks[j].phis.take p, PhiP f q) (fun p => f.blocks[j].phis.length - p) 0 zR1 zLe (⟨qm _, by simp⟩) ?_
         rintro p ⟨hp, hphi⟩
         refine zSr<|z2 (yc rfl rfl)<|z6<|za<|zp rfl (fun cp=>?_) (fun cp=>?_)
         ·have hp2 : p < f.blocks[j].phis.length := by omega
          obtain ⟨hq1, hq2⟩ := hb3 _ (qn hp2)
          have hl6 := hq1.lt
          have hl7 := hq2.lt
          refine zd<|za<|zf<|zSr<|z2 (yr underlying51 sizeOf81 rfl rfl rfl (qj (by omega)))<|z2 (zl isAgg81 sizeOf81 rfl rfl)<|y4 (cs := [.int .i64 0, .raw (.slice none 0 0), .raw (.slice none 0 0)]) zeroValue81 rfl rfl<|fun i15 => zw sizeOf81 rfl rfl rfl rfl rfl rfl .head rfl<|z6<|za<|za<|yp (γ := Unit) [1, 3, 9, 10, 12, 15, 107, 108, 109, 144, 145, 146] (fun u => [(169, .bool (!hasV f f.blocks[j].phis[p].dst || (!decide ((f.blocks[j].phis[p].args.length : Int) = f.blocks[j].phis[p].from_.length) || decide ((f.blocks[j].phis[p].args.length : Int) < 1))))]) (fun u => [(i15, .cells 81 (encPhi f.blocks[j].phis[p])), (i12, .cells 58 (encBlk f.blocks[j]))]) (fun u => True) ?_ (fun _ _ h => h) ?_
          ·refine zRg<|z2 (zi underlying81 rfl sizeOf3 (by decide) rfl rfl)<|z2 (zm (c := .int _ _) isAgg3 rfl ⟨_, .head⟩ rfl)<|z2 (zMi rfl)<|zk (in_spec _ _) rfl<|z2 (yo rfl)<|z2 (zMb rfl)<|zo (s := 155) rfl (fun c7=>?_) (fun c7=>?_)
           ·refine z7 rfl rfl c7<|z7 rfl rfl c7<|z7 rfl rfl c7<|z7 rfl rfl c7<|z7 rfl rfl c7<|z7 rfl rfl c7<|z7 rfl rfl c7<|z2 (zPt rfl c7 rfl)<|z2 (zMb rfl)<|z7 rfl rfl rfl<|z7 rfl rfl rfl<|z7 rfl rfl rfl<|z7 rfl rfl rfl<|z2 (zPt rfl rfl rfl)<|z6 ?_
            exact ⟨(), zR12, ⟨jb (by simp_all [hasV] <;> grind), trivial⟩, zLe, trivial⟩
           ·refine z8 rfl rfl c7<|z2 (zi underlying81 rfl sizeOf23 (by decide) rfl rfl)<|z8 rfl rfl c7<|z2 (zm (c := .fro _ _) isAgg23 rfl ⟨_, .head⟩ rfl)<|z8 rfl rfl c7<|z2 (zu underlying23 rfl)<|z8 rfl rfl c7<|z2 (zi underlying81 rfl sizeOf23 (by decide) rfl rfl)<|z8 rfl rfl c7<|z2 (zm (c := .fro _ _) isAgg23 rfl ⟨_, .head⟩ rfl)<|z8 rfl rfl c7<|z2 (zu underlying23 rfl)<|z8 rfl rfl c7<|z2 (yi rfl rfl)<|z2 (zPf rfl c7 rfl)<|z2 (zMb rfl)<|zo (s := 164) rfl (fun c8=>?_) (fun c8=>?_)
            ·refine z7 rfl rfl c8<|z7 rfl rfl c8<|z7 rfl rfl c8<|z7 rfl rfl c8<|z2 (zPt rfl c8 rfl)<|z6 ?_
             exact ⟨(), zR12, ⟨jb (by simp_all [hasV] <;> grind), trivial⟩, zLe, trivial⟩
            ·refine z8 rfl rfl c8<|z2 (zi underlying81 rfl sizeOf23 (by decide) rfl rfl)<|z8 rfl rfl c8<|z2 (zm (c := .fro _ _) isAgg23 rfl ⟨_, .head⟩ rfl)<|z8 rfl rfl c8<|z2 (zu underlying23 rfl)<|z8 rfl rfl c8<|z2 (yc rfl rfl)<|z2 (zPf rfl c8 rfl)<|z6 ?_
             exact ⟨(), zR12, ⟨jb (by simp_all [hasV] <;> grind), trivial⟩, zLe, trivial⟩
          ·rintro _ _
           refine zr rfl (fun cq=>?_) (fun cq=>?_)
           ·refine zSr<|z2 (zAb rfl)<|z6<|zh<|zj (x := .bool _) rfl ?_
            rw [qw (fun h => by have := (h.2.2.2.2.2 _ (qn hk2)).1 _ (qn hp2); obtain ⟨h1, h2, h3, _⟩ := this; rw [h1, h2] at cq; simp only [Bool.not_true, Bool.false_or, decide_true, qz] at cq; omega)]
           ·have hq3 : hasV f f.blocks[j].phis[p].dst = true ∧ f.blocks[j].phis[p].args.length = f.blocks[j].phis[p].from_.length ∧ 1 ≤ f.blocks[j].phis[p].args.length := by
             rcases Bool.or_eq_false_iff.1 cq with ⟨a1, a2⟩
             rcases Bool.or_eq_false_iff.1 a2 with ⟨a3, a4⟩
             exact ⟨by simpa using a1, by simp only [Bool.not_eq_false', qz] at a3; omega, by have := of_decide_eq_false a4; omega⟩
            refine zd<|zSr<|z2 (zi underlying81 rfl sizeOf23 (by decide) rfl rfl)<|z2 (zm (c := .fro _ _) isAgg23 rfl ⟨_, .head⟩ rfl)<|z2 (zu underlying23 rfl)<|z2 (zMi rfl)<|z6<|zf<|zz (γ := Nat) [1, 3, 9, 10, 12, 15, 107, 108, 109, 144, 145, 146, 172] (fun m => [(173, .int .i64 m)]) (fun m => [(i15, .cells 81 (encPhi f.blocks[j].phis[p])), (i12, .cells 58 (encBlk f.blocks[j]))]) (fun m => m ≤ f.blocks[j].phis[p].args.length ∧ (f.blocks[j].phis[p].args.take m).all (hasV f) = true ∧ (f.blocks[j].phis[p].from_.take m).all (hasB f) = true) (fun m => f.blocks[j].phis[p].args.length - m) 0 zR1 zLe (⟨qm _, rfl, rfl⟩) ?_
            rintro m ⟨hm, ha1, ha2⟩
            refine zSr<|z2 (yc rfl rfl)<|z6<|za<|zp rfl (fun cm=>?_) (fun cm=>?_)
            ·have hm1 : m < f.blocks[j].phis[p].args.length := by omega
             have hm2 : m < f.blocks[j].phis[p].from_.length := by omega
             refine zd<|za<|zf<|zSr<|z2 (zMi rfl)<|z2 (zAi rfl)<|z6<|za<|yp (γ := Unit) [1, 3, 9, 10, 12, 15, 107, 108, 109, 144, 145, 146, 172, 173] (fun u => [(193, .bool (!hasV f f.blocks[j].phis[p].args[m] || !hasB f f.blocks[j].phis[p].from_[m]))]) (fun u => [(i15, .cells 81 (encPhi f.blocks[j].phis[p])), (i12, .cells 58 (encBlk f.blocks[j]))]) (fun u => True) ?_ (fun _ _ h => h) ?_
             ·refine zRg<|z2 (zi underlying81 rfl sizeOf23 (by decide) rfl rfl)<|z2 (zm (c := .fro _ _) isAgg23 rfl ⟨_, .head⟩ rfl)<|z2 (zMi rfl)<|z2 (yr underlying23 sizeOf3 rfl rfl rfl (qj (by omega)))<|z2 (zLi isAgg3 rfl)<|z2 (zMi rfl)<|zk (in_spec _ _) rfl<|z2 (yo rfl)<|z2 (zMb rfl)<|zo (s := 184) rfl (fun c9=>?_) (fun c9=>?_)
              ·refine z7 rfl rfl c9<|z7 rfl rfl c9<|z7 rfl rfl c9<|z7 rfl rfl c9<|z7 rfl rfl c9<|z7 rfl rfl c9<|z7 rfl rfl c9<|z7 rfl rfl c9<|z2 (zPt rfl c9 rfl)<|z6 ?_
               exact ⟨(), zR14, ⟨jb (by simp_all [hasV, hasB] <;> grind), trivial⟩, zLe, trivial⟩
              ·refine z8 rfl rfl c9<|z2 (zi underlying81 rfl sizeOf23 (by decide) rfl rfl)<|z8 rfl rfl c9<|z2 (zm (c := .fro _ _) isAgg23 rfl ⟨_, .head⟩ rfl)<|z8 rfl rfl c9<|z2 (zMi rfl)<|z8 rfl rfl c9<|z2 (yr underlying23 sizeOf3 rfl rfl rfl (qj (by omega)))<|z8 rfl rfl c9<|z2 (zLi isAgg3 rfl)<|z8 rfl rfl c9<|z2 (zMi rfl)<|z8 rfl rfl c9<|zk (in_spec _ _) rfl<|z8 rfl rfl c9<|z2 (yo rfl)<|z2 (zPf rfl c9 rfl)<|z6 ?_
               exact ⟨(), zR14, ⟨jb (by simp_all [hasV, hasB] <;> grind), trivial⟩, zLe, trivial⟩
             ·rintro _ _
              refine zr rfl (fun cw=>?_) (fun cw=>?_)
              ·refine zSr<|z2 (zAb rfl)<|z6<|zh<|zj (x := .bool _) rfl ?_
               rw [qw (fun h => by have := (h.2.2.2.2.2 _ (qn hk2)).1 _ (qn hp2); obtain ⟨_, _, _, h4, h5⟩ := this; have h6 := List.all_eq_true.1 h4 _ (qn hm1); have h7 := List.all_eq_true.1 h5 _ (qn hm2); rw [h6, h7] at cw; cases cw)]
              ·refine zd<|zRg<|z2 (zAd rfl rfl)<|z2 (zMi rfl)<|z6 ?_
               exact ⟨m + 1, zR13, zR1, zLe, ⟨hm1, all_take hm1 ha1 (by simp at cw; exact cw.1), all_take hm2 ha2 (by simp at cw; exact cw.2)⟩, by omega⟩
            ·rw [take_len (by omega)] at ha1
             rw [take_len (by omega)] at ha2
             refine zx<|zRg<|z2 (zAd rfl rfl)<|z2 (zMi rfl)<|z6 ?_
             exact ⟨p + 1, zR10, zR1, ⟨_, (.drop (.refl _)), rfl⟩, ⟨hp2, forall_take hp2 hphi ⟨hq3.1, hq3.2.1, hq3.2.2, ha1, ha2⟩⟩, by omega⟩
         ·rw [take_len (by omega)] at hphi
          refine zx<|za<|zSr<|z2 (zi underlying58 rfl sizeOf52 (by decide) rfl rfl)<|z2 (zm (c := .fro _ _) isAgg52 rfl ⟨_, .head⟩ rfl)<|z2 (zu underlying52 rfl)<|z2 (zMi rfl)<|z6<|zf<|zz (γ := Nat) [1, 3, 9, 10, 12, 107, 108, 109, 197, 198] (fun p => [(199, .int .i64 p)]) (fun p => [(i12, .cells 58 (encBlk f.blocks[j]))]) (fun p => p ≤ f.blocks[j].insts.length ∧ ∀ q ∈ f.blocks[j].insts.take p, InstP f q) (fun p => f.blocks[j].insts.length - p) 0 zR1 zLe (⟨qm _, by simp⟩) ?_
          rintro p ⟨hp, hins⟩
          refine zSr<|z2 (yc rfl rfl)<|z6<|za<|zp rfl (fun cp=>?_) (fun cp=>?_)
          ·have hp2 : p < f.blocks[j].insts.length := by omega
           have hq1 := hb4 _ (qn hp2)
           have hl6 := hq1.lt
           refine zd<|za<|zf<|zSr<|z2 (yr underlying52 sizeOf61 rfl rfl rfl (qj (by omega)))<|z2 (zl isAgg61 sizeOf61 rfl rfl)<|y4 (cs := [.int .i64 0, .int .i64 0, .raw (.slice none 0 0), .int .i64 0]) zeroValue61 rfl rfl<|fun i18 => zw sizeOf61 rfl rfl rfl rfl rfl rfl .head rfl<|z6<|za<|za<|yp (γ := Unit) [1, 3, 9, 10, 12, 18, 107, 108, 109, 197, 198, 199] (fun u => [(210, .bool (decide (f.blocks[j].insts[p].op < 0) || decide (26 < f.blocks[j].insts[p].op)))]) (fun u => [(i18, .cells 61 (encInst f.blocks[j].insts[p])), (i12, .cells 58 (encBlk f.blocks[j]))]) (fun u => True) ?_ (fun _ _ h => h) ?_
           ·refine zRg<|z2 (zi underlying61 rfl sizeOf59 (by decide) rfl rfl)<|z2 (zm (c := .int _ _) isAgg59 rfl ⟨_, .head⟩ rfl)<|z2 (yc rfl rfl)<|z2 (zMb rfl)<|zo (s := 206) rfl (fun c10=>?_) (fun c10=>?_)
            ·refine z7 rfl rfl c10<|z7 rfl rfl c10<|z7 rfl rfl c10<|z2 (zPt rfl c10 rfl)<|z6 ?_
             exact ⟨(), zR12, ⟨jb (by simp_all <;> grind), trivial⟩, zLe, trivial⟩
            ·refine z8 rfl rfl c10<|z2 (zi underlying61 rfl sizeOf59 (by decide) rfl rfl)<|z8 rfl rfl c10<|z2 (zm (c := .int _ _) isAgg59 rfl ⟨_, .head⟩ rfl)<|z8 rfl rfl c10<|z2 (q3 rfl rfl)<|z2 (zPf rfl c10 rfl)<|z6 ?_
             exact ⟨(), zR12, ⟨jb (by simp_all <;> grind), trivial⟩, zLe, trivial⟩
           ·rintro _ _
            refine zr rfl (fun cq=>?_) (fun cq=>?_)
            ·refine zSr<|z2 (zAb rfl)<|z6<|zh<|zj (x := .bool _) rfl ?_
             rw [qw (fun h => by have := (h.2.2.2.2.2 _ (qn hk2)).2.1 _ (qn hp2); obtain ⟨h1, h2, _⟩ := this; simp at cq; omega)]
            ·have hop : 0 ≤ f.blocks[j].insts[p].op ∧ f.blocks[j].insts[p].op ≤ 26 := by simp at cq; omega
             have hrow : kindT[f.blocks[j].insts[p].op.toNat]? = some (kRow f.blocks[j].insts[p].op) := by unfold kRow; rw [if_pos hop.1, qj (show _ < 27 by omega)]; rfl
             refine zd<|za<|yp (γ := Nat) [1, 3, 9, 10, 12, 18, 107, 108, 109, 197, 198, 199] (fun i => [(19, .po i 0)]) (fun i => [(i18, .cells 61 (encInst f.blocks[j].insts[p])), (i, .cells 170 (encK (kRow f.blocks[j].insts[p].op))), (i12, .cells 58 (encBlk f.blocks[j]))]) (fun i => True) ?_ (fun _ _ h => h) ?_
             ·refine yb (fun j => Nat.beq j 6) (by kernel_rfl) rfl (zq (.r (.rest _)))<|zTk 1 rfl (zi underlying61 rfl sizeOf59 (by decide) rfl rfl)<|zTk 2 rfl (zm (c := .int _ _) isAgg59 rfl ⟨_, .head⟩ rfl)<|yq (i := 0) (j := 5) rfl rfl (by kernel_rfl) ?_ ?_
              ·refine zk (rows_spec) rfl<|z6<|zTk 3 rfl (yr (j := (f.blocks[j].insts[p].op.toNat)) underlying171 sizeOf170 rfl rfl (Int.toNat_of_nonneg hop.1).symm hrow)<|zTk 4 rfl (zl isAgg170 sizeOf170 rfl rfl)<|zOn 5 rfl<|y4 (cs := [.str ⟨#[]⟩, .str ⟨#[]⟩, .str ⟨#[]⟩]) zeroValue170 rfl rfl<|fun i19 => z6<|yu<|q5 (i := 6) rfl (by kernel_rfl) (by kernel_rfl)<|zw sizeOf170 rfl rfl rfl rfl rfl rfl .t1 rfl<|z6<|yz (by kernel_rfl) ?_
               exact ⟨i19, zR12, zR1, zLe, trivial⟩
              ·refine y4 (cs := [.str ⟨#[]⟩, .str ⟨#[]⟩, .str ⟨#[]⟩]) zeroValue170 rfl rfl<|fun i19 => z6<|zOn 0 rfl<|zk (rows_spec) rfl<|z6<|zTk 3 rfl (yr (j := (f.blocks[j].insts[p].op.toNat)) underlying171 sizeOf170 rfl rfl (Int.toNat_of_nonneg hop.1).symm hrow)<|zTk 4 rfl (zl isAgg170 sizeOf170 rfl rfl)<|yu<|q5 (i := 6) rfl (by kernel_rfl) (by kernel_rfl)<|zw sizeOf170 rfl rfl rfl rfl rfl rfl .t1 rfl<|z6<|yz (by kernel_rfl) ?_
               exact ⟨i19, zR12, zR1, zLe, trivial⟩
             ·rintro i19 _
              refine za<|za<|yp (γ := Unit) [1, 3, 9, 10, 12, 18, 107, 108, 109, 197, 198, 199] (fun u => [(258, .bool (bad2 f f.blocks[j].insts[p]))]) (fun u => [(i18, .cells 61 (encInst f.blocks[j].insts[p])), (i19, .cells 170 (encK (kRow f.blocks[j].insts[p].op))), (i12, .cells 58 (encBlk f.blocks[j]))]) (fun u => True) ?_ (fun _ _ h => h) ?_
              ·refine zRg<|z2 (zi underlying61 rfl sizeOf23 (by decide) rfl rfl)<|z2 (zm (c := .fro _ _) isAgg23 rfl ⟨_, .head⟩ rfl)<|z2 (zu underlying23 rfl)<|z2 (zi underlying170 rfl sizeOf9 (by decide) rfl rfl)<|z2 (zm (c := .str _) isAgg9 rfl ⟨_, .t1⟩ rfl)<|z2 (Gv.lenT underlying9 rfl)<|z2 (yi rfl rfl)<|z2 (zMb rfl)<|zo (s := 223) rfl (fun c11=>?_) (fun c11=>?_)
               ·refine z7 rfl rfl c11<|z7 rfl rfl c11<|z7 rfl rfl c11<|z7 rfl rfl c11<|z7 rfl rfl c11<|z7 rfl rfl c11<|z7 rfl rfl c11<|z2 (zPt rfl c11 rfl)<|z2 (zMb rfl)<|z7 rfl rfl rfl<|z7 rfl rfl rfl<|z7 rfl rfl rfl<|z7 rfl rfl rfl<|zg rfl rfl<|zg rfl rfl<|zg rfl rfl<|zg rfl rfl<|zg rfl rfl<|z7 rfl rfl rfl<|z2 (zPt rfl rfl rfl)<|z2 (zMb rfl)<|z7 rfl rfl rfl<|z7 rfl rfl rfl<|z7 rfl rfl rfl<|z7 rfl rfl rfl<|zg rfl rfl<|zg rfl rfl<|zg rfl rfl<|z7 rfl rfl rfl<|z7 rfl rfl rfl<|zg rfl rfl<|zg rfl rfl<|zg rfl rfl<|z7 rfl rfl rfl<|z2 (zPt rfl rfl rfl)<|z6 ?_
                exact ⟨(), zR12, ⟨jb (by simp_all [bad2, wordB, hasV] <;> grind), trivial⟩, zLe, trivial⟩
               ·refine z8 rfl rfl c11<|z2 (zi underlying170 rfl sizeOf9 (by decide) rfl rfl)<|z8 rfl rfl c11<|z2 (zm (c := .str _) isAgg9 rfl ⟨_, .t1⟩ rfl)<|z8 rfl rfl c11<|z2 (qc rfl rfl)<|z8 rfl rfl c11<|z2 (zi underlying61 rfl sizeOf3 (by decide) rfl rfl)<|z8 rfl rfl c11<|z2 (zm (c := .int _ _) isAgg3 rfl ⟨_, .head⟩ rfl)<|z8 rfl rfl c11<|z2 (y9 rfl rfl)<|z8 rfl rfl c11<|z2 (Gv.neqB underlying4 rfl rfl)<|z2 (zPf rfl c11 rfl)<|z2 (zMb rfl)<|zo (s := 232) rfl (fun c12=>?_) (fun c12=>?_)
                ·refine z7 rfl rfl c12<|z7 rfl rfl c12<|z7 rfl rfl c12<|z7 rfl rfl c12<|zg rfl rfl<|zg rfl rfl<|zg rfl rfl<|zg rfl rfl<|zg rfl rfl<|z7 rfl rfl c12<|z2 (zPt rfl c12 rfl)<|z2 (zMb rfl)<|z7 rfl rfl rfl<|z7 rfl rfl rfl<|z7 rfl rfl rfl<|z7 rfl rfl rfl<|zg rfl rfl<|zg rfl rfl<|zg rfl rfl<|z7 rfl rfl rfl<|z7 rfl rfl rfl<|zg rfl rfl<|zg rfl rfl<|zg rfl rfl<|z7 rfl rfl rfl<|z2 (zPt rfl rfl rfl)<|z6 ?_
                 exact ⟨(), zR12, ⟨jb (by simp_all [bad2, wordB, hasV] <;> grind), trivial⟩, zLe, trivial⟩
                ·refine z8 rfl rfl c12<|z2 (zi underlying61 rfl sizeOf3 (by decide) rfl rfl)<|z8 rfl rfl c12<|z2 (zm (c := .int _ _) isAgg3 rfl ⟨_, .head⟩ rfl)<|z8 rfl rfl c12<|z2 (yi rfl rfl)<|z8 rfl rfl c12<|z2 (zMb rfl)<|zo (s := 236) rfl (fun c13=>?_) (fun c13=>?_)
                 ·refine z8 rfl rfl c13<|z2 (zi underlying61 rfl sizeOf3 (by decide) rfl rfl)<|z8 rfl rfl c13<|z2 (zm (c := .int _ _) isAgg3 rfl ⟨_, .head⟩ rfl)<|z8 rfl rfl c13<|z2 (zMi rfl)<|z8 rfl rfl c13<|zk (in_spec _ _) rfl<|z8 rfl rfl c13<|z2 (yo rfl)<|z8 rfl rfl c12<|z2 (zPt rfl c13 rfl)<|z2 (zPf rfl c12 rfl)<|z2 (zMb rfl)<|zo (s := 244) rfl (fun c14=>?_) (fun c14=>?_)
                  ·refine z7 rfl rfl c14<|z7 rfl rfl c14<|z7 rfl rfl c14<|z7 rfl rfl c14<|zg rfl rfl<|zg rfl rfl<|zg rfl rfl<|z7 rfl rfl c14<|z7 rfl rfl c14<|zg rfl rfl<|zg rfl rfl<|zg rfl rfl<|z7 rfl rfl c14<|z2 (zPt rfl c14 rfl)<|z6 ?_
                   exact ⟨(), zR12, ⟨jb (by simp_all [bad2, wordB, hasV] <;> grind), trivial⟩, zLe, trivial⟩
                  ·refine z8 rfl rfl c14<|z2 (zi underlying61 rfl sizeOf2 (by decide) rfl rfl)<|z8 rfl rfl c14<|z2 (zm (c := .int _ _) isAgg2 rfl ⟨_, .head⟩ rfl)<|z8 rfl rfl c14<|z2 (yi rfl rfl)<|z8 rfl rfl c14<|z2 (zMb rfl)<|zo (s := 248) rfl (fun c15=>?_) (fun c15=>?_)
                   ·refine z8 rfl rfl c15<|z2 (zi underlying170 rfl sizeOf9 (by decide) rfl rfl)<|z8 rfl rfl c15<|z2 (zm (c := .str _) isAgg9 rfl ⟨_, .t1⟩ rfl)<|z8 rfl rfl c15<|z2 (Gv.neqT rfl rfl)<|z8 rfl rfl c14<|z2 (zPt rfl c15 rfl)<|z8 rfl rfl c14<|z2 (zMb rfl)<|zo (s := 253) rfl (fun c16=>?_) (fun c16=>?_)
                    ·refine z8 rfl rfl c16<|z2 (zi underlying170 rfl sizeOf9 (by decide) rfl rfl)<|z8 rfl rfl c16<|z2 (zm (c := .str _) isAgg9 rfl ⟨_, .t1⟩ rfl)<|z8 rfl rfl c16<|z2 (Gv.neqT rfl rfl)<|z8 rfl rfl c14<|z2 (zPt rfl c16 rfl)<|z2 (zPf rfl c14 rfl)<|z6 ?_
                     exact ⟨(), zR12, ⟨jb (by simp_all [bad2, wordB, hasV] <;> grind), trivial⟩, zLe, trivial⟩
                    ·refine z7 rfl rfl c16<|z7 rfl rfl c16<|z7 rfl rfl c16<|z8 rfl rfl c14<|z2 (zPf rfl c16 rfl)<|z2 (zPf rfl c14 rfl)<|z6 ?_
                     exact ⟨(), zR12, ⟨jb (by simp_all [bad2, wordB, hasV] <;> grind), trivial⟩, zLe, trivial⟩
                   ·refine z7 rfl rfl c15<|z7 rfl rfl c15<|z7 rfl rfl c15<|z8 rfl rfl c14<|z2 (zPf rfl c15 rfl)<|z8 rfl rfl c14<|z2 (zMb rfl)<|z7 rfl rfl rfl<|z7 rfl rfl rfl<|z7 rfl rfl rfl<|z8 rfl rfl c14<|z2 (zPf rfl rfl rfl)<|z2 (zPf rfl c14 rfl)<|z6 ?_
                    exact ⟨(), zR12, ⟨jb (by simp_all [bad2, wordB, hasV] <;> grind), trivial⟩, zLe, trivial⟩
                 ·refine z7 rfl rfl c13<|z7 rfl rfl c13<|z7 rfl rfl c13<|z7 rfl rfl c13<|z7 rfl rfl c13<|z8 rfl rfl c12<|z2 (zPf rfl c13 rfl)<|z2 (zPf rfl c12 rfl)<|z2 (zMb rfl)<|z8 rfl rfl rfl<|z2 (zi underlying61 rfl sizeOf2 (by decide) rfl rfl)<|z8 rfl rfl rfl<|z2 (zm (c := .int _ _) isAgg2 rfl ⟨_, .head⟩ rfl)<|z8 rfl rfl rfl<|z2 (yi rfl rfl)<|z8 rfl rfl rfl<|z2 (zMb rfl)<|zo (s := 248) rfl (fun c17=>?_) (fun c17=>?_)
                  ·refine z8 rfl rfl c17<|z2 (zi underlying170 rfl sizeOf9 (by decide) rfl rfl)<|z8 rfl rfl c17<|z2 (zm (c := .str _) isAgg9 rfl ⟨_, .t1⟩ rfl)<|z8 rfl rfl c17<|z2 (Gv.neqT rfl rfl)<|z8 rfl rfl rfl<|z2 (zPt rfl c17 rfl)<|z8 rfl rfl rfl<|z2 (zMb rfl)<|zo (s := 253) rfl (fun c18=>?_) (fun c18=>?_)
                   ·refine z8 rfl rfl c18<|z2 (zi underlying170 rfl sizeOf9 (by decide) rfl rfl)<|z8 rfl rfl c18<|z2 (zm (c := .str _) isAgg9 rfl ⟨_, .t1⟩ rfl)<|z8 rfl rfl c18<|z2 (Gv.neqT rfl rfl)<|z8 rfl rfl rfl<|z2 (zPt rfl c18 rfl)<|z2 (zPf rfl rfl rfl)<|z6 ?_
                    exact ⟨(), zR12, ⟨jb (by simp_all [bad2, wordB, hasV] <;> grind), trivial⟩, zLe, trivial⟩
                   ·refine z7 rfl rfl c18<|z7 rfl rfl c18<|z7 rfl rfl c18<|z8 rfl rfl rfl<|z2 (zPf rfl c18 rfl)<|z2 (zPf rfl rfl rfl)<|z6 ?_
                    exact ⟨(), zR12, ⟨jb (by simp_all [bad2, wordB, hasV] <;> grind), trivial⟩, zLe, trivial⟩
                  ·refine z7 rfl rfl c17<|z7 rfl rfl c17<|z7 rfl rfl c17<|z8 rfl rfl rfl<|z2 (zPf rfl c17 rfl)<|z8 rfl rfl rfl<|z2 (zMb rfl)<|z7 rfl rfl rfl<|z7 rfl rfl rfl<|z7 rfl rfl rfl<|z8 rfl rfl rfl<|z2 (zPf rfl rfl rfl)<|z2 (zPf rfl rfl rfl)<|z6 ?_
                   exact ⟨(), zR12, ⟨jb (by simp_all [bad2, wordB, hasV] <;> grind), trivial⟩, zLe, trivial⟩
              ·rintro _ _
               refine zr rfl (fun cw=>?_) (fun cw=>?_)
               ·refine zSr<|z2 (zAb rfl)<|z6<|zh<|zj (x := .bool _) rfl ?_
                rw [qw (fun h => by have := (h.2.2.2.2.2 _ (qn hk2)).2.1 _ (qn hp2); rw [this.2.2.1] at cw; cases cw)]
               ·refine zd<|zSr<|z2 (zi underlying61 rfl sizeOf23 (by decide) rfl rfl)<|z2 (zm (c := .fro _ _) isAgg23 rfl ⟨_, .head⟩ rfl)<|z2 (zu underlying23 rfl)<|z2 (zMi rfl)<|z6<|zf<|zz (γ := Nat) [1, 3, 9, 10, 12, 107, 108, 109, 197, 198, 199, 260, 261] (fun m => [(262, .int .i64 m)]) (fun m => [(i18, .cells 61 (encInst f.blocks[j].insts[p])), (i12, .cells 58 (encBlk f.blocks[j]))]) (fun m => m ≤ f.blocks[j].insts[p].args.length ∧ (f.blocks[j].insts[p].args.take m).all (hasV f) = true) (fun m => f.blocks[j].insts[p].args.length - m) 0 zR1 ⟨_, (.keep (.drop (.refl _))), rfl⟩ (⟨qm _, rfl⟩) ?_
                rintro m ⟨hm, ha1⟩
                refine zSr<|z2 (yc rfl rfl)<|z6<|za<|zp rfl (fun cm=>?_) (fun cm=>?_)
                ·have hm1 : m < f.blocks[j].insts[p].args.length := by omega
                 refine zd<|za<|zf<|zSr<|z2 (yr underlying23 sizeOf3 rfl rfl rfl (qj (by omega)))<|z2 (zLi isAgg3 rfl)<|z2 (zAi rfl)<|z6<|zSr<|z2 (zMi rfl)<|z2 (zMi rfl)<|zk (in_spec _ _) rfl<|z2 (yo rfl)<|z6<|zr rfl (fun ca=>?_) (fun ca=>?_)
                 ·have ca : hasV f f.blocks[j].insts[p].args[m] = false := by simp [hasV] at ca ⊢; omega
                  refine zSr<|z2 (zAb rfl)<|z6<|zh<|zj (x := .bool _) rfl ?_
                  rw [qw (fun h => by have := (h.2.2.2.2.2 _ (qn hk2)).2.1 _ (qn hp2); have h6 := List.all_eq_true.1 this.2.2.2 _ (qn hm1); rw [ca] at h6; cases h6)]
                 ·have ca : hasV f f.blocks[j].insts[p].args[m] = true := by simp [hasV] at ca ⊢; omega
                  refine zd<|zRg<|z2 (zAd rfl rfl)<|z2 (zMi rfl)<|z6 ?_
                  exact ⟨m + 1, zR13, zR1, zLe, ⟨hm1, all_take hm1 ha1 ca⟩, by omega⟩
                ·rw [take_len (by omega)] at ha1
                 refine zx<|zRg<|z2 (zAd rfl rfl)<|z2 (zMi rfl)<|z6 ?_
                 exact ⟨p + 1, zR10, zR1, ⟨_, (.drop (.refl _)), rfl⟩, ⟨hp2, forall_take hp2 hins ⟨hop.1, hop.2, cw, ha1⟩⟩, by omega⟩
          ·rw [take_len (by omega)] at hins
           refine zx<|zSr<|z2 (zi underlying58 rfl sizeOf56 (by decide) rfl rfl)<|z2 (Gv.loadAC (l := [_, _, _, _]) isAgg56 sizeOf56 rfl ⟨_, .head⟩ rfl rfl)<|y4 (cs := [.int .i64 0, .int .i64 0, .int .i64 0, .int .i64 0]) zeroValue56 rfl rfl<|fun i22 => zw sizeOf56 rfl rfl rfl rfl rfl rfl .head rfl<|z6<|zSr<|z2 (zAb rfl)<|z6<|za<|zSr<|z2 (zi underlying56 rfl sizeOf53 (by decide) rfl rfl)<|z2 (zm (c := .int _ _) isAgg53 rfl ⟨_, .head⟩ rfl)<|z6<|yp (γ := Unit) [1, 3, 9, 10, 107, 108, 109] (fun u => [(23, .bool (termOK f f.blocks[j].term))]) (fun u => []) (fun u => True) ?_ (fun _ _ h => h) ?_
           ·refine zf<|zSr<|z2 (y9 rfl rfl)<|z2 (zAb rfl)<|z6<|zr rfl (fun c19=>?_) (fun c19=>?_)
            ·refine zRg<|z2 (zi underlying56 rfl sizeOf54 (by decide) rfl rfl)<|z2 (Gv.idxAO (j := 0) underlying54 sizeOf3 rfl rfl rfl (by decide) rfl)<|z2 (zm (c := .int _ _) isAgg3 rfl ⟨_, .head⟩ rfl)<|z2 (zMi rfl)<|zk (in_spec _ _) rfl<|z2 (zMb rfl)<|zo (s := 283) rfl (fun c20=>?_) (fun c20=>?_)
             ·refine z8 rfl rfl c20<|z2 (zi underlying56 rfl sizeOf54 (by decide) rfl rfl)<|z8 rfl rfl c20<|z2 (Gv.idxAO (j := 1) underlying54 sizeOf3 rfl rfl rfl (by decide) rfl)<|z8 rfl rfl c20<|z2 (zm (c := .int _ _) isAgg3 rfl ⟨_, .head⟩ rfl)<|z8 rfl rfl c20<|z2 (y9 rfl rfl)<|z2 (zPt rfl c20 rfl)<|z2 (zMb rfl)<|zo (s := 289) rfl (fun c21=>?_) (fun c21=>?_)
              ·refine z8 rfl rfl c21<|z2 (zi underlying56 rfl sizeOf3 (by decide) rfl rfl)<|z8 rfl rfl c21<|z2 (zm (c := .int _ _) isAgg3 rfl ⟨_, .head⟩ rfl)<|z8 rfl rfl c21<|z2 (y9 rfl rfl)<|z2 (zPt rfl c21 rfl)<|z2 (zAb rfl)<|z6 ?_
               exact ⟨(), zR7, ⟨jb (by simp_all [termOK, hasV, hasB] <;> grind), trivial⟩, ⟨_, (.drop (.drop (.refl _))), rfl⟩, trivial⟩
              ·refine z7 rfl rfl c21<|z7 rfl rfl c21<|z7 rfl rfl c21<|z2 (zPf rfl c21 rfl)<|z2 (zAb rfl)<|z6 ?_
               exact ⟨(), zR7, ⟨jb (by simp_all [termOK, hasV, hasB] <;> grind), trivial⟩, ⟨_, (.drop (.drop (.refl _))), rfl⟩, trivial⟩
             ·refine z7 rfl rfl c20<|z7 rfl rfl c20<|z7 rfl rfl c20<|z7 rfl rfl c20<|z2 (zPf rfl c20 rfl)<|z2 (zMb rfl)<|z7 rfl rfl rfl<|z7 rfl rfl rfl<|z7 rfl rfl rfl<|z2 (zPf rfl rfl rfl)<|z2 (zAb rfl)<|z6 ?_
              exact ⟨(), zR7, ⟨jb (by simp_all [termOK, hasV, hasB] <;> grind), trivial⟩, ⟨_, (.drop (.drop (.refl _))), rfl⟩, trivial⟩
            ·refine zSr<|z2 (y9 rfl rfl)<|z2 (zAb rfl)<|z6<|zr rfl (fun c22=>?_) (fun c22=>?_)
             ·refine zRg<|z2 (zi underlying56 rfl sizeOf3 (by decide) rfl rfl)<|z2 (zm (c := .int _ _) isAgg3 rfl ⟨_, .head⟩ rfl)<|z2 (zMi rfl)<|zk (in_spec _ _) rfl<|z2 (zMb rfl)<|zo (s := 300) rfl (fun c23=>?_) (fun c23=>?_)
              ·refine z8 rfl rfl c23<|z2 (zi underlying56 rfl sizeOf54 (by decide) rfl rfl)<|z8 rfl rfl c23<|z2 (Gv.idxAO (j := 0) underlying54 sizeOf3 rfl rfl rfl (by decide) rfl)<|z8 rfl rfl c23<|z2 (zm (c := .int _ _) isAgg3 rfl ⟨_, .head⟩ rfl)<|z8 rfl rfl c23<|z2 (zMi rfl)<|z8 rfl rfl c23<|zk (in_spec _ _) rfl<|z2 (zPt rfl c23 rfl)<|z2 (zMb rfl)<|zo (s := 307) rfl (fun c24=>?_) (fun c24=>?_)
               ·refine z8 rfl rfl c24<|z2 (zi underlying56 rfl sizeOf54 (by decide) rfl rfl)<|z8 rfl rfl c24<|z2 (Gv.idxAO (j := 1) underlying54 sizeOf3 rfl rfl rfl (by decide) rfl)<|z8 rfl rfl c24<|z2 (zm (c := .int _ _) isAgg3 rfl ⟨_, .head⟩ rfl)<|z8 rfl rfl c24<|z2 (zMi rfl)<|z8 rfl rfl c24<|zk (in_spec _ _) rfl<|z2 (zPt rfl c24 rfl)<|z2 (zAb rfl)<|z6 ?_
                exact ⟨(), zR7, ⟨jb (by simp_all [termOK, hasV, hasB] <;> grind), trivial⟩, ⟨_, (.drop (.drop (.refl _))), rfl⟩, trivial⟩
               ·refine z7 rfl rfl c24<|z7 rfl rfl c24<|z7 rfl rfl c24<|z7 rfl rfl c24<|z7 rfl rfl c24<|z2 (zPf rfl c24 rfl)<|z2 (zAb rfl)<|z6 ?_
                exact ⟨(), zR7, ⟨jb (by simp_all [termOK, hasV, hasB] <;> grind), trivial⟩, ⟨_, (.drop (.drop (.refl _))), rfl⟩, trivial⟩
              ·refine z7 rfl rfl c23<|z7 rfl rfl c23<|z7 rfl rfl c23<|z7 rfl rfl c23<|z7 rfl rfl c23<|z2 (zPf rfl c23 rfl)<|z2 (zMb rfl)<|z7 rfl rfl rfl<|z7 rfl rfl rfl<|z7 rfl rfl rfl<|z7 rfl rfl rfl<|z7 rfl rfl rfl<|z2 (zPf rfl rfl rfl)<|z2 (zAb rfl)<|z6 ?_
               exact ⟨(), zR7, ⟨jb (by simp_all [termOK, hasV, hasB] <;> grind), trivial⟩, ⟨_, (.drop (.drop (.refl _))), rfl⟩, trivial⟩
             ·refine zSr<|z2 (y9 rfl rfl)<|z2 (zAb rfl)<|z6<|zr rfl (fun c25=>?_) (fun c25=>?_)
              ·refine zRg<|z2 (zi underlying56 rfl sizeOf3 (by decide) rfl rfl)<|z2 (zm (c := .int _ _) isAgg3 rfl ⟨_, .head⟩ rfl)<|z2 (zMi rfl)<|zk (in_spec _ _) rfl<|z2 (zMb rfl)<|zo (s := 320) rfl (fun c26=>?_) (fun c26=>?_)
               ·refine z8 rfl rfl c26<|z2 (zi underlying56 rfl sizeOf54 (by decide) rfl rfl)<|z8 rfl rfl c26<|z2 (Gv.loadAC (l := [_, _]) isAgg54 sizeOf54 rfl ⟨_, .head⟩ rfl rfl)<|z8 rfl rfl c26<|z2 (Gv.buildA (cps := []) (rs := [.int .i64 0, .int .i64 0]) pl54 rfl rfl rfl)<|z8 rfl rfl c26<|z2 (Gv.eqlP (xs := [.int _ _, .int _ _]) (ys := [.int _ _, .int _ _]) (by kernel_rfl) rfl rfl (fun w => eq_arr10 _ _ _ _ w))<|z2 (zPt rfl c26 rfl)<|z2 (zAb rfl)<|z6 ?_
                exact ⟨(), zR7, ⟨jb (by simp_all [termOK, hasV, hasB] <;> grind), trivial⟩, ⟨_, (.drop (.drop (.refl _))), rfl⟩, trivial⟩
               ·refine z7 rfl rfl c26<|z7 rfl rfl c26<|z7 rfl rfl c26<|z7 rfl rfl c26<|z2 (zPf rfl c26 rfl)<|z2 (zAb rfl)<|z6 ?_
                exact ⟨(), zR7, ⟨jb (by simp_all [termOK, hasV, hasB] <;> grind), trivial⟩, ⟨_, (.drop (.drop (.refl _))), rfl⟩, trivial⟩
              ·refine zd ?_
               exact ⟨(), zR7, ⟨jb (by simp_all [termOK, hasV, hasB] <;> grind), trivial⟩, ⟨_, (.drop (.drop (.refl _))), rfl⟩, trivial⟩
           ·rintro _ _
            refine zSr<|z2 (zMb rfl)<|z2 (yo rfl)<|z6<|zr rfl (fun ct=>?_) (fun ct=>?_)
            ·refine zSr<|z2 (zAb rfl)<|z6<|zh<|zj (x := .bool _) rfl ?_
             rw [qw (fun h => by have := (h.2.2.2.2.2 _ (qn hk2)).2.2; rw [this] at ct; cases ct)]
            ·have ct : termOK f f.blocks[j].term = true := by simpa using ct
             refine zd<|zRg<|z2 (zAd rfl rfl)<|z2 (zMi rfl)<|z6 ?_
             exact ⟨j + 1, zR5, ⟨rfl, (congrArg (AV.int .i64) (by rw [hs1]; omega)), trivial⟩, zLe, ⟨hk2, fun i h hi => by rcases Nat.lt_or_ge i j with h3 | h3; exact hnam i h h3; obtain rfl : i = j := (by omega); exact ⟨by simpa using cv, hno⟩, by omega, forall_take hk2 hblk ⟨hphi, hins, ct⟩⟩, by omega⟩
     ·have hkn : k = f.blocks.length := by omega
      subst hkn
      rw [qo] at hsum hblk
      refine zx<|zSr<|z2 (zAb rfl)<|z6<|zh<|zj (x := .bool _) rfl ?_
      rw [qv (show ShapedP f from ⟨c1, hpars, hvars, fun i h => hnam i h h, hsum, hblk⟩)]
end Go.Proofs.YtiojekbkamegdaaGreatDoor
namespace Go.Proofs.YtiojekbkamegdaaGreatDoor
open Go.Proofs.Tryz
open Go.Proofs Go.Lib Go.Shelf Go.RowKit
theorem pl26 : Places prog 26 #[(0, 1), (1, 1), (2, 1)] [.raw (.slice none 0 0), .raw (.slice none 0 0), .raw (.slice none 0 0)] := ⟨_, _, underlying26, zeroValue26, fun w => by kernel_rfl, rfl⟩
theorem pl58 : Places prog 58 #[(0, 1), (1, 1), (2, 1), (3, 4)] [.str ⟨#[]⟩, .raw (.slice none 0 0), .raw (.slice none 0 0), .int .i64 0, .int .i64 0, .int .i64 0, .int .i64 0] := ⟨_, _, underlying58, zeroValue58, fun w => by kernel_rfl, rfl⟩
theorem pl81 : Places prog 81 #[(0, 1), (1, 1), (2, 1)] [.int .i64 0, .raw (.slice none 0 0), .raw (.slice none 0 0)] := ⟨_, _, underlying81, zeroValue81, fun w => by kernel_rfl, rfl⟩
theorem ps51_1 : PlacesS prog 51 81 1 3 [.int .i64 0, .raw (.slice none 0 0), .raw (.slice none 0 0)] := ⟨_, underlying51, sizeOf81, zeroValue81, by decide, by decide, by kernel_rfl⟩
theorem ps52_1 : PlacesS prog 52 61 1 4 [.int .i64 0, .int .i64 0, .raw (.slice none 0 0), .int .i64 0] := ⟨_, underlying52, sizeOf61, zeroValue61, by decide, by decide, by kernel_rfl⟩
theorem ps24_1 : PlacesS prog 24 58 1 7 [.str ⟨#[]⟩, .raw (.slice none 0 0), .raw (.slice none 0 0), .int .i64 0, .int .i64 0, .int .i64 0, .int .i64 0] := ⟨_, underlying24, sizeOf58, zeroValue58, by decide, by decide, by kernel_rfl⟩
set_option maxRecDepth 20000
variable {E : World}
def smallBlk (b : PBlock) : Prop := b.name.size ≤ 1000 ∧ b.phis.length ≤ 1000 ∧ b.insts.length ≤ 1000 ∧ (∀ p ∈ b.phis, p.args.length ≤ 1000 ∧ p.from_.length ≤ 1000) ∧ ∀ x ∈ b.insts, x.args.length ≤ 1000
def small (f : PFunc) : Prop := f.vars.length ≤ 1000 ∧ f.params.length ≤ 1000 ∧ f.blocks.length ≤ 1000 ∧ (∀ v ∈ f.vars, v.name.size ≤ 1000) ∧ ∀ b ∈ f.blocks, smallBlk b
theorem small.ok {f : PFunc} (h : small f) : okFunc f := by
 obtain ⟨h1, h2, h3, h4, h5⟩ := h
 refine ⟨by unfold okL; omega, by unfold okL; omega, by unfold okL; omega, fun b hb => ?_⟩
 obtain ⟨g1, g2, g3, g4, g5⟩ := h5 b hb
 exact ⟨by unfold okL; omega, by unfold okL; omega, fun p hp => ⟨by have := g4 p hp; unfold okL; omega, by have := g4 p hp; unfold okL; omega⟩, fun x hx => by have := g5 x hx; unfold okL; omega⟩
theorem small.names {f : PFunc} (h : small f) : okNames f := ⟨fun v hv => by have := h.2.2.2.1 v hv; omega, fun b hb => by have := (h.2.2.2.2 b hb).1; omega⟩
theorem all_cell {α : Type} {enc : α → List AV} (h : ∀ x, (enc x).all AV.cell = true) (xs : List α) : (xs.map enc).flatten.all AV.cell = true := by
 induction xs with
 | nil => rfl
 | cons x xs ih => simp only [List.map_cons, List.flatten_cons, List.all_append, h, ih, Bool.and_self]
theorem cloneI_own (xs : List Int) (hl : xs.length ≤ 1000) : ACall prog E 93 [.fro 1 (xs.map encI)] [] (fun x O' => ∃ i : Nat, x = .own i xs.length ∧ Left O' [(i, .grow 1 3 (xs.map encI).flatten)] ∧ True) := by
 refine zn func93 rfl (by decide) rfl<|zSr<|z2 (zAr rfl)<|z6<|za<|zSr<|z2 (zMf rfl)<|AOps.isNil underlying23 rfl rfl (fun hnil=>?_) ?_
 ·have hx : xs = [] := by simpa using hnil
  subst hx
  refine z6<|yk rfl rfl<|zSr<|z2 (zAr rfl)<|z6<|zh ?_
  repeat (first | refine aseqQ_ret ?_ | refine ablockQ_ret ?_)
  refine adopt_fin (s := 2) (k := 1) (T := 3) rfl (fun i=>?_)
  refine zj (x := .own _ _) rfl ?_
  exact ⟨i, rfl, .refl _, trivial⟩
 ·refine z6<|yl rfl rfl<|zd<|zSr<|AOps.buildSlice0 (k := 1) underlying23 type3<|fun i5 => z2 (zMf rfl)<|yn (k := 1) underlying23 type3 rfl rfl rfl rfl rfl (fun _ => .head) (by simp) (by decide) (all_cell (fun _ => rfl) xs) (by show (_ + _) * 8 ≤ _; simp <;> omega) (by simp <;> omega)<|fun i7 => z2 (zAo rfl)<|z6<|zh<|zj (x := .own _ _) rfl ?_
  exact ⟨i7, (by simp), ⟨_, .refl _, rfl⟩, trivial⟩
theorem cloneV_own (xs : List PVar) (hl : xs.length ≤ 1000) : ACall prog E 92 [.fro 2 (xs.map encVar)] [] (fun x O' => ∃ i : Nat, x = .own i xs.length ∧ Left O' [(i, .grow 2 79 (xs.map encVar).flatten)] ∧ True) := by
 refine zn func92 rfl (by decide) rfl<|zSr<|z2 (zAr rfl)<|z6<|za<|zSr<|z2 (zMf rfl)<|AOps.isNil underlying22 rfl rfl (fun hnil=>?_) ?_
 ·have hx : xs = [] := by simpa using hnil
  subst hx
  refine z6<|yk rfl rfl<|zSr<|z2 (zAr rfl)<|z6<|zh ?_
  repeat (first | refine aseqQ_ret ?_ | refine ablockQ_ret ?_)
  refine adopt_fin (s := 2) (k := 2) (T := 79) rfl (fun i=>?_)
  refine zj (x := .own _ _) rfl ?_
  exact ⟨i, rfl, .refl _, trivial⟩
 ·refine z6<|yl rfl rfl<|zd<|zSr<|AOps.buildSlice0 (k := 2) underlying22 type79<|fun i5 => z2 (zMf rfl)<|yn (k := 2) underlying22 type79 rfl rfl rfl rfl rfl (fun _ => .head) (by simp) (by decide) (all_cell (fun _ => rfl) xs) (by show (_ + _) * 24 ≤ _; simp <;> omega) (by simp <;> omega)<|fun i7 => z2 (zAo rfl)<|z6<|zh<|zj (x := .own _ _) rfl ?_
  exact ⟨i7, (by simp), ⟨_, .refl _, rfl⟩, trivial⟩
theorem cloneI_spec (xs : List Int) (hl : xs.length ≤ 1000) : AFun prog E 93 [.fro 1 (xs.map encI)] (.fro 1 (xs.map encI)) := (cloneI_own xs hl).frozen (by simp [encI]) (by decide) (by simp)
theorem cloneV_spec (xs : List PVar) (hl : xs.length ≤ 1000) : AFun prog E 92 [.fro 2 (xs.map encVar)] (.fro 2 (xs.map encVar)) := (cloneV_own xs hl).frozen (by simp [encVar]) (by decide) (by simp)
end Go.Proofs.YtiojekbkamegdaaGreatDoor
