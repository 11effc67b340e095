/- The document's typed; the laws' typed, single and plain. Of programs that are little. -/
import Derived.Test.YtbkgklpihnfnjaaGreatDoorJj
import Derived.Test.YtbkgklpihnfnjaaGreatDoorJi
set_option linter.unusedVariables false
set_option linter.unusedSimpArgs false
set_option linter.unusedSectionVars false
namespace Go.Proofs.YtbkgklpihnfnjaaGreatDoor
open Go.Proofs.Tryz
open Go.Proofs Go.Lib Go.Shelf Go.RowKit
variable {E : World}
set_option maxRecDepth 20000
theorem mem_endsL (t : PTerm) (b : Int) : b ∈ endsL t ↔ (t.kind = 0 ∧ t.to0 = b) ∨ (t.kind = 1 ∧ (t.to0 = b ∨ t.to1 = b)) := by
 unfold endsL
 by_cases h0 : t.kind = 0
 ·rw [if_pos h0]; simp [h0]; exact eq_comm
 ·rw [if_neg h0]
  by_cases h1 : t.kind = 1
  ·rw [if_pos h1]
   by_cases h2 : t.to0 = t.to1
   ·rw [if_pos h2]; simp [h1, h2]; exact eq_comm
   ·rw [if_neg h2]; simp [h1]
    constructor
    ·rintro (h | h); exact .inl h.symm; exact .inr h.symm
    ·rintro (h | h); exact .inl h.symm; exact .inr h.symm
  ·rw [if_neg h1]; simp [h0, h1]
theorem leads_spec (f : PFunc) (hn : f.blocks.length ≤ 1000) (a b : Int) (h0 : 0 ≤ a) (ha : a < f.blocks.length) : AFun prog E 29 [.agg (encF f), .int .i64 a, .int .i64 b] (.bool (decide (b ∈ EndsOf f a))) := by
 obtain ⟨c, hc⟩ : ∃ c, f.blocks[a.toNat]'(by omega) = c := ⟨_, rfl⟩
 have hget : f.blocks[a.toNat]? = some c := by rw [qd (by omega), hc]
 have hE : EndsOf f a = endsL c.term := by rw [EndsOf_get h0 (by omega), hc]
 rw [hE]
 refine zk func29 Z (by decide) Z<|zSr<|y6 (cs := _) Z Z Z<|zVzAb Z<|z6<|zSr<|zVzFF jc Z Z2 Z Z<|zVzLf Ze Z<|zVzMi Z<|z8 (zIM a.toNat jo jt Z Z (by omega) hget)<|zVzFF ja Z Z4 Z Z<|zVGvloadWF Ym Z4 Z Z<|zq (cs := [.int .i64 0, .int .i64 0, .int .i64 0, .int .i64 0]) zeroValue46 Z Z<|fun i7 => zm Z4 Z Z Z Z Z Z .head Z<|y1 (yj (t := 7) Z .head)<|z6<|zSr<|zVzFF je Z Zl Z Z<|zVzLi Y0 Z<|zVGveqlI Z Z<|zVzMb Z<|zo (s := 17) Z (fun c1=>?_) (fun c1=>?_)
 ·refine za Z Z c1<|zVzFF je Z Z8 Z Z<|za Z Z c1<|z8 (yo (j := 0) jy jd Z Z Z (by decide) Z)<|za Z Z c1<|zVzLi jr Z<|za Z Z c1<|zVzMi Z<|za Z Z c1<|zVGveqlI Z Z<|zVzPt Z c1 Z<|zVzMb Z<|zo (s := 24) Z (fun c2=>?_) (fun c2=>?_)
  ·refine z7 Z Z c2<|z7 Z Z c2<|z7 Z Z c2<|z7 Z Z c2<|zh Z Z<|zh Z Z<|zh Z Z<|zh Z Z<|zh Z Z<|zh Z Z<|zh Z Z<|zh Z Z<|zh Z Z<|zh Z Z<|zh Z Z<|zh Z Z<|z7 Z Z c2<|zVzPt Z c2 Z<|zVzAb Z<|z6<|ze<|zi (x := .bool _) Z<|congrArg AV.bool ?_; rw [Bool.eq_iff_iff]; simp only [qu, mem_endsL]; simp_all
  ·refine za Z Z c2<|zVzFF je Z Zl Z Z<|za Z Z c2<|zVzLi Y0 Z<|za Z Z c2<|zVGveqlI Z Z<|za Z Z c2<|zVzMb Z<|zo (s := 28) Z (fun c3=>?_) (fun c3=>?_)
   ·refine za Z Z c3<|zVzFF je Z Z8 Z Z<|za Z Z c3<|z8 (yo (j := 0) jy jd Z Z Z (by decide) Z)<|za Z Z c3<|zVzLi jr Z<|za Z Z c3<|zVzMi Z<|za Z Z c3<|zVGveqlI Z Z<|za Z Z c3<|zVzMb Z<|zo (s := 34) Z (fun c4=>?_) (fun c4=>?_)
    ·refine z7 Z Z c4<|z7 Z Z c4<|z7 Z Z c4<|z7 Z Z c4<|z7 Z Z c4<|za Z Z c3<|zVzPt Z c4 Z<|za Z Z c2<|zVzPt Z c3 Z<|zVzPf Z c2 Z<|zVzAb Z<|z6<|ze<|zi (x := .bool _) Z<|congrArg AV.bool ?_; rw [Bool.eq_iff_iff]; simp only [qu, mem_endsL]; simp_all
    ·refine za Z Z c4<|zVzFF je Z Z8 Z Z<|za Z Z c4<|z8 (yo (j := 1) jy jd Z Z Z (by decide) Z)<|za Z Z c4<|zVzLi jr Z<|za Z Z c4<|zVzMi Z<|za Z Z c4<|zVGveqlI Z Z<|za Z Z c3<|zVzPf Z c4 Z<|za Z Z c2<|zVzPt Z c3 Z<|zVzPf Z c2 Z<|zVzAb Z<|z6<|ze<|zi (x := .bool _) Z<|congrArg AV.bool ?_; rw [Bool.eq_iff_iff]; simp only [qu, mem_endsL]; simp_all
   ·refine z7 Z Z c3<|z7 Z Z c3<|z7 Z Z c3<|z7 Z Z c3<|z7 Z Z c3<|z7 Z Z c3<|zh Z Z<|zh Z Z<|zh Z Z<|zh Z Z<|zh Z Z<|z7 Z Z c3<|za Z Z c2<|zVzPf Z c3 Z<|zVzPf Z c2 Z<|zVzAb Z<|z6<|ze<|zi (x := .bool _) Z<|congrArg AV.bool ?_; rw [Bool.eq_iff_iff]; simp only [qu, mem_endsL]; simp_all
 ·refine z7 Z Z c1<|z7 Z Z c1<|z7 Z Z c1<|z7 Z Z c1<|z7 Z Z c1<|zVzPf Z c1 Z<|zVzMb Z<|za Z Z Z<|zVzFF je Z Zl Z Z<|za Z Z Z<|zVzLi Y0 Z<|za Z Z Z<|zVGveqlI Z Z<|za Z Z Z<|zVzMb Z<|zo (s := 28) Z (fun c5=>?_) (fun c5=>?_)
  ·refine za Z Z c5<|zVzFF je Z Z8 Z Z<|za Z Z c5<|z8 (yo (j := 0) jy jd Z Z Z (by decide) Z)<|za Z Z c5<|zVzLi jr Z<|za Z Z c5<|zVzMi Z<|za Z Z c5<|zVGveqlI Z Z<|za Z Z c5<|zVzMb Z<|zo (s := 34) Z (fun c6=>?_) (fun c6=>?_)
   ·refine z7 Z Z c6<|z7 Z Z c6<|z7 Z Z c6<|z7 Z Z c6<|z7 Z Z c6<|za Z Z c5<|zVzPt Z c6 Z<|za Z Z Z<|zVzPt Z c5 Z<|zVzPf Z Z Z<|zVzAb Z<|z6<|ze<|zi (x := .bool _) Z<|congrArg AV.bool ?_; rw [Bool.eq_iff_iff]; simp only [qu, mem_endsL]; simp_all
   ·refine za Z Z c6<|zVzFF je Z Z8 Z Z<|za Z Z c6<|z8 (yo (j := 1) jy jd Z Z Z (by decide) Z)<|za Z Z c6<|zVzLi jr Z<|za Z Z c6<|zVzMi Z<|za Z Z c6<|zVGveqlI Z Z<|za Z Z c5<|zVzPf Z c6 Z<|za Z Z Z<|zVzPt Z c5 Z<|zVzPf Z Z Z<|zVzAb Z<|z6<|ze<|zi (x := .bool _) Z<|congrArg AV.bool ?_; rw [Bool.eq_iff_iff]; simp only [qu, mem_endsL]; simp_all
  ·refine z7 Z Z c5<|z7 Z Z c5<|z7 Z Z c5<|z7 Z Z c5<|z7 Z Z c5<|z7 Z Z c5<|zh Z Z<|zh Z Z<|zh Z Z<|zh Z Z<|zh Z Z<|z7 Z Z c5<|za Z Z Z<|zVzPf Z c5 Z<|zVzPf Z Z Z<|zVzAb Z<|z6<|ze<|zi (x := .bool _) Z<|congrArg AV.bool ?_; rw [Bool.eq_iff_iff]; simp only [qu, mem_endsL]; simp_all
end Go.Proofs.YtbkgklpihnfnjaaGreatDoor
namespace Go.Proofs.YtbkgklpihnfnjaaGreatDoor
open Go.Proofs.Tryz
open Go.Proofs Go.Lib Go.Shelf Go.RowKit
variable {E : World}
set_option maxRecDepth 20000
end Go.Proofs.YtbkgklpihnfnjaaGreatDoor
namespace Go.Proofs.YtbkgklpihnfnjaaGreatDoor
open Go.Proofs.Tryz
open Go.Proofs Go.Lib Go.Shelf Go.RowKit
variable {E : World}
set_option maxRecDepth 20000
theorem phJ_iff {f : PFunc} (hE : EndsOk f) (i : Nat) (p : PPhi) : phJ f i p = true ↔ JoinR f i p.from_ := by
 unfold phJ
 rw [qu, joinS_iff, joinR_iff hE]
theorem filter_one {l : List Int} (hn : l.Nodup) {i : Int} (h : i ∈ l) : (l.filter fun c => decide (c = i)) = [i] := by
 induction l with
 | nil => cases h
 | cons c l ih =>
  obtain ⟨h1, h2⟩ := List.nodup_cons.1 hn
  by_cases e : c = i
  ·subst e
   have : (l.filter fun x => decide (x = c)) = [] := List.filter_eq_nil_iff.2 fun x hx => by
    simp only [qu]; rintro rfl; exact h1 hx
   simp [this]
  ·rw [List.filter_cons_of_neg (by simpa using e)]
   rcases List.mem_cons.1 h with h3 | h3
   ·exact absurd h3.symm e
   ·exact ih h2 h3
theorem predsT_one {f : PFunc} (k : Nat) (i : Int) : (predsT (EndsOf f) (k + 1) i).length = (predsT (EndsOf f) k i).length + if i ∈ EndsOf f k then 1 else 0 := by
 rw [predsT_succ, qj, qk]
 have hn := EndsOf_nodup f k
 congr 1
 by_cases h : i ∈ EndsOf f k
 ·rw [if_pos h]
  have h1 := filter_one hn h
  rw [h1]; rfl
 ·rw [if_neg h]
  have h1 : ((EndsOf f k).filter fun c => decide (c = i)) = [] := List.filter_eq_nil_iff.2 fun c hc => by
   simp only [qu]; rintro rfl; exact h hc
  rw [h1]; rfl
set_option maxHeartbeats 4000000 in
theorem refJoined_spec (f : PFunc) (hE : EndsOk f) (hf : small f) (hS : ShapedP f) : AFun prog E 12 [.agg (encF f)] (.bool (joinedB f)) := by
 have hn := hf.2.2.1
 refine zk func12 Z (by decide) Z<|zSr<|y6 (cs := _) Z Z Z<|zVzAb Z<|z6<|zb<|zSr<|zVzFF jc Z Z2 Z Z<|zVzLf Ze Z<|zVGvlenM jo Z<|zVzMi Z<|z6<|zg<|y3 (γ := Nat) [1, 13, 14] (fun i => [(15, .int .i64 i)]) (fun i => []) (fun i => i ≤ f.blocks.length ∧ (List.range i).all (blkJ f) = true) (fun i => f.blocks.length - i) 0 zR1 zLe (⟨qg _, Z⟩) ?_
 rintro i ⟨hi, hall⟩
 refine zSr<|zVGvlss Z Z<|z6<|zb<|zr Z (fun ci=>?_) (fun ci=>?_)
 ·have hi2 : i < f.blocks.length := by simp at ci; omega
  obtain ⟨b, hbi⟩ : ∃ b, f.blocks[i] = b := ⟨_, rfl⟩
  have hget : f.blocks[i]? = some b := by rw [qd hi2, hbi]
  have hmem : b ∈ f.blocks := hbi ▸ qh hi2
  obtain ⟨hb0, hb1, hb2, hb3, hb4⟩ := hf.2.2.2.2 b hmem
  have hPh := (hS.2.2.2.2.2 b hmem).1
  refine zf<|zb<|zg<|zSr<|zVzMi Z<|z8 (zIM i jo jt Z Z Z hget)<|zVGvloadWF Zq jt Z Z<|zq (cs := [.str ⟨#[]⟩, .raw (.slice none 0 0), .raw (.slice none 0 0), .int .i64 0, .int .i64 0, .int .i64 0, .int .i64 0]) Zb Z Z<|fun i4 => zVzAi Z<|zm jt Z Z Z Z Z Z .head Z<|y1 (yj (t := 4) Z .head)<|z6<|zSr<|zVzFF ja Z Za Z Z<|zVzLf Zu Z<|zVGvlenM jw Z<|zVzMi Z<|z6<|zg<|y3 (γ := Nat) [1, 3, 13, 14, 15, 21, 22] (fun j => [(23, .int .i64 j)]) (fun j => []) (fun j => j ≤ b.phis.length ∧ (b.phis.take j).all (phJ f i) = true) (fun j => b.phis.length - j) 0 zR1 zLe (⟨qg _, Z⟩) ?_
  rintro j ⟨hj, hjall⟩
  refine zSr<|zVGvlss Z Z<|z6<|zb<|zr Z (fun cj=>?_) (fun cj=>?_)
  ·have hj2 : j < b.phis.length := by simp at cj; omega
   obtain ⟨p, hp⟩ : ∃ p, b.phis[j] = p := ⟨_, rfl⟩
   have hpm : p ∈ b.phis := hp ▸ qh hj2
   have hpl := (hb3 p hpm).2
   have hpr : ∀ c ∈ p.from_, 0 ≤ c ∧ c < f.blocks.length := fun c hc => by have := List.all_eq_true.1 (hPh p hpm).2.2.2.2 c hc; simpa [hasB] using this
   have hbad : ¬ JoinR f i p.from_ → joinedB f = false := fun h => range_all_bad hi2 (by rw [blkJ_at hget]; exact Bool.eq_false_iff.2 (all_bad hj2 (by rw [hp]; exact Bool.eq_false_iff.2 fun h2 => h ((phJ_iff hE i p).1 h2))))
   refine zf<|zb<|zg<|zSr<|z8 (zIM j jw Z0 Z Z Z (by rw [qd hj2, hp])) ?_
   refine zVGvloadWF Zv Z0 Z Z<|zq (cs := [.int .i64 0, .raw (.slice none 0 0), .raw (.slice none 0 0)]) Zk Z Z<|fun i6 => zm Z0 Z Z Z Z Z Z .head Z<|y1 (yj (t := 6) Z .head)<|z6<|zSr<|zVzAi Z<|z6<|zb<|zSr<|zVzFF jc Z Z2 Z Z<|zVzLf Ze Z<|zVGvlenM jo Z<|zVzMi Z<|z6<|zg<|y3 (γ := Nat) [1, 3, 6, 13, 14, 15, 21, 22, 23, 29] (fun a => [(30, .int .i64 a), (7, .int .i64 (predsT (EndsOf f) a i).length)]) (fun a => []) (fun a => a ≤ f.blocks.length) (fun a => f.blocks.length - a) 0 zR2 zLe (qg _) ?_
   rintro a ha
   refine zSr<|zVGvlss Z Z<|z6<|zb<|zr Z (fun ca=>?_) (fun ca=>?_)
   ·have ha2 : a < f.blocks.length := by simp at ca; omega
    have hone := predsT_one (f := f) a i
    have hle := predsT_len f i a
    refine zf<|zb<|zg<|zSr<|zVzMi Z<|zVzAi Z<|z6<|zSr<|zVGvloadWF ju jj Z Z<|zVzMi Z<|zVzMi Z<|zd (leads_spec f hn (a : Int) (i : Int) (by omega) (by omega)) Z<|z6<|zz Z (fun cl=>?_) (fun cl=>?_)
    ·have hl : (i : Int) ∈ EndsOf f a := by simpa using cl
     rw [if_pos hl] at hone
     refine zRg<|zVzMi Z<|zVzAd Z Z<|zVzAi Z<|z6<|zRg<|zVzAd Z Z<|zVzMi Z<|z6 ?_
     exact ⟨a + 1, ⟨rfl, rfl, rfl, rfl, rfl, rfl, rfl, rfl, rfl, rfl, trivial⟩, ⟨rfl, (by rw [hone]; rfl), trivial⟩, zLe, ha2, by omega⟩
    ·have hl : ¬ (i : Int) ∈ EndsOf f a := by simpa using cl
     rw [if_neg hl] at hone
     refine zf<|zRg<|zVzAd Z Z<|zVzMi Z<|z6 ?_
     exact ⟨a + 1, ⟨rfl, rfl, rfl, rfl, rfl, rfl, rfl, rfl, rfl, rfl, trivial⟩, ⟨rfl, (by rw [hone]; rfl), trivial⟩, zLe, ha2, by omega⟩
   ·have han : a = f.blocks.length := by simp at ca; omega
    subst han
    refine y2<|zb<|zSr<|zVzMi Z<|zVzFF jm Z jn Z Z<|zVzLf jz Z<|zVGvlenM j9 Z<|zVGvneqI Z Z<|z6<|zz Z (fun cn=>?_) (fun cn=>?_)
    ·have hne : ¬ (predsT (EndsOf f) f.blocks.length i).length = p.from_.length := by have h0 : ¬ ((predsT (EndsOf f) f.blocks.length i).length : Int) = (p.from_.length : Int) := (by simpa using cn); omega
     refine zSr<|zVzAb Z<|z6<|ze<|zi (x := .bool _) Z ?_
     rw [hbad fun h => hne h.1]
    ·have hne : (predsT (EndsOf f) f.blocks.length i).length = p.from_.length := by have h0 : ((predsT (EndsOf f) f.blocks.length i).length : Int) = (p.from_.length : Int) := (by simpa using cn); omega
     refine zf<|zSr<|zVzFF jm Z jn Z Z<|zVzLf jz Z<|zVGvlenM j9 Z<|zVzMi Z<|z6<|zg<|y3 (γ := Nat) [1, 3, 6, 13, 14, 15, 21, 22, 23, 46, 47] (fun k => [(48, .int .i64 k)]) (fun k => []) (fun k => k ≤ p.from_.length ∧ ∀ q (h : q < p.from_.length), q < k → (i : Int) ∈ EndsOf f p.from_[q] ∧ p.from_[q] ∉ p.from_.take q) (fun k => p.from_.length - k) 0 zR1 zLe (⟨qg _, fun q h h2 => by omega⟩) ?_
     rintro k ⟨hk, hok⟩
     refine zSr<|zVGvlss Z Z<|z6<|zb<|zr Z (fun ck=>?_) (fun ck=>?_)
     ·have hk2 : k < p.from_.length := by simp at ck; omega
      obtain ⟨c, hc⟩ : ∃ c, p.from_[k] = c := ⟨_, rfl⟩
      obtain ⟨hc0, hcn⟩ := hpr c (hc ▸ qh hk2)
      refine zf<|zb<|zg<|zSr<|zVzMi Z<|z8 (zIM k j9 jd Z Z Z (by rw [qd hk2, hc])) ?_
      refine zVzLi jr Z<|zVzAi Z<|zVzAi Z<|z6<|zb<|zSr<|zVGvloadWF ju jj Z Z<|zVzMi Z<|zVzMi Z<|zd (leads_spec f hn c (i : Int) hc0 hcn) Z<|zVGvnot Z<|z6<|zz Z (fun cl=>?_) (fun cl=>?_)
      ·have hl : ¬ (i : Int) ∈ EndsOf f c := by simpa using cl
       refine zSr<|zVzAb Z<|z6<|ze<|zi (x := .bool _) Z ?_
       rw [hbad fun h => hl (hc ▸ (h.2 k hk2).1)]
      ·have hl : (i : Int) ∈ EndsOf f c := by simpa using cl
       refine zf<|zSr<|zVzMi Z<|zVzMi Z<|z6<|zg<|y3 (γ := Nat) [1, 3, 6, 10, 13, 14, 15, 21, 22, 23, 46, 47, 48, 58] (fun q => [(59, .int .i64 q)]) (fun q => []) (fun q => q ≤ k ∧ c ∉ p.from_.take q) (fun q => k - q) 0 zR1 zLe (⟨qg _, by simp⟩) ?_
       rintro q ⟨hq, hqn⟩
       refine zSr<|zVGvlss Z Z<|z6<|zb<|zr Z (fun cq=>?_) (fun cq=>?_)
       ·have hq2 : q < k := by omega
        have hq3 : q < p.from_.length := by omega
        refine zf<|zb<|zg<|zSr<|zVzMi Z<|zVzAi Z<|z6<|zSr<|zVzFF jm Z jn Z Z<|zVzLf jz Z<|zVzMi Z<|z8 (zIM q j9 jd Z Z Z (qd hq3))<|zVzLi jr Z<|zVzMi Z<|zVGveqlI Z Z<|z6<|zz Z (fun ce=>?_) (fun ce=>?_)
        ·have he : p.from_[q] = c := by simpa using ce
         have hin : c ∈ p.from_.take k := by rw [← he]; exact List.mem_take_iff_getElem.2 ⟨q, by omega, rfl⟩
         refine zSr<|zVzAb Z<|z6<|ze<|zi (x := .bool _) Z ?_
         rw [hbad fun h => (h.2 k hk2).2 (by rw [hc]; exact hin)]
        ·have he : ¬ p.from_[q] = c := by simpa using ce
         refine zf<|zRg<|zVzAd Z Z<|zVzMi Z<|z6 ?_
         exact ⟨q + 1, ⟨rfl, rfl, rfl, rfl, rfl, rfl, rfl, rfl, rfl, rfl, rfl, rfl, rfl, rfl, trivial⟩, zR1, zLe, ⟨hq2, fun hm => by rw [qe hq3] at hm; rcases List.mem_append.1 hm with h1 | h1; exact hqn h1; simp at h1; exact he h1.symm⟩, by omega⟩
       ·have hqn2 : q = k := by omega
        subst hqn2
        refine y2<|zRg<|zVzAd Z Z<|zVzMi Z<|z6 ?_
        exact ⟨q + 1, ⟨rfl, rfl, rfl, rfl, rfl, rfl, rfl, rfl, rfl, rfl, rfl, trivial⟩, zR1, zLe, ⟨hk2, fun r hr h2 => by rcases Nat.lt_succ_iff_lt_or_eq.1 h2 with h3 | h3; exact hok r hr h3; subst h3; rw [hc]; exact ⟨hl, hqn⟩⟩, by omega⟩
     ·have hkn : k = p.from_.length := by simp at ck; omega
      subst hkn
      refine y2<|zRg<|zVzAd Z Z<|zVzMi Z<|z6 ?_
      exact ⟨j + 1, zR7, zR1, zLe, ⟨hj2, all_take hj2 hjall (by rw [hp]; exact (phJ_iff hE i p).2 ⟨hne, fun q hq => hok q hq hq⟩)⟩, by omega⟩
  ·have hjn : j = b.phis.length := by simp at cj; omega
   subst hjn
   rw [qi] at hjall
   refine y2<|zRg<|zVzAd Z Z<|zVzMi Z<|z6 ?_
   exact ⟨i + 1, zR3, zR1, zLe, ⟨hi2, range_all_succ hall (by rw [blkJ_at hget]; exact hjall)⟩, by omega⟩
 ·have hin : i = f.blocks.length := by simp at ci; omega
  subst hin
  refine y2<|zSr<|zVzAb Z<|z6<|ze<|zi (x := .bool _) Z ?_
  rw [show joinedB f = true from hall]
end Go.Proofs.YtbkgklpihnfnjaaGreatDoor
namespace Go.Proofs.YtbkgklpihnfnjaaGreatDoor
open Go.Proofs.Tryz
open Go.Proofs Go.Lib Go.Shelf Go.RowKit
variable {E : World}
set_option maxRecDepth 20000
end Go.Proofs.YtbkgklpihnfnjaaGreatDoor
namespace Go.Proofs.YtbkgklpihnfnjaaGreatDoor
open Go.Proofs.Tryz
open Go.Proofs Go.Lib Go.Shelf Go.RowKit
variable {E : World}
set_option maxRecDepth 20000
theorem rof_spec (f : PFunc) (v : Int) (hv : hasV f v = true) : AFun prog E 104 [.agg (encF f), .int .i64 v] (.int .i64 (kindV f v)) := by
 obtain ⟨x, hx, hv2, hk⟩ := hasV_get hv
 rw [hk]
 refine zk func104 Z (by decide) Z<|zSr<|y6 (cs := _) Z Z Z<|zVzAi Z<|z6<|zSr<|zVzFF jc Z Z9 Z Z<|zVzLf Zn Z<|zVzMi Z<|z8 (zIM v.toNat js Zd Z Z hv2 hx)<|zVzFF Zf Z Xh Z Z<|zVzLi isAgg36 Z<|zVzAi Z<|z6<|ze<|zi (x := .int _ _) Z ?_
 rfl
theorem rtype_spec (c : Int) : AFun prog E 106 [.int .u8 c] (.int .i64 (typeOf c)) := by
 refine zk func106 Z (by decide) Z<|zSr<|zVzAi Z<|z6<|zb<|zSr<|zVzMi Z<|z6<|zg<|zSr<|zVGveqlI Z Z<|zVzAb Z<|z6<|zz Z (fun c1=>?_) (fun c1=>?_)
 ·refine zSr<|zVzAi Z<|z6<|ze<|zi (x := .int _ _) Z ?_
  unfold typeOf; simp_all
 ·refine zSr<|zVGveqlI Z Z<|zVzAb Z<|z6<|zz Z (fun c2=>?_) (fun c2=>?_)
  ·refine zSr<|zVzAi Z<|z6<|ze<|zi (x := .int _ _) Z ?_
   unfold typeOf; simp_all
  ·refine zf<|zSr<|zVzAi Z<|z6<|ze<|zi (x := .int _ _) Z ?_
   unfold typeOf; simp_all
theorem copy_word : ∀ j : Nat, j < 27 → decide ((kRow (j : Int)).1 = ⟨#[99, 111, 112, 121]⟩) = decide (j = 1) := by decide
theorem copy_op {op : Int} (h : 0 ≤ op ∧ op ≤ 26) : ((kRow op).1 = ⟨#[99, 111, 112, 121]⟩) ↔ op = 1 := by
 have h1 := copy_word op.toNat (by omega)
 rw [qt h.1] at h1
 constructor
 ·intro e
  have : decide (op.toNat = 1) = true := by rw [← h1]; exact qq e
  have := of_decide_eq_true this
  omega
 ·intro e
  have h2 : op.toNat = 1 := by omega
  have : decide ((kRow op).1 = ⟨#[99, 111, 112, 121]⟩) = true := by rw [h1]; exact qq h2
  exact of_decide_eq_true this
theorem kRow_get {op : Int} (h : 0 ≤ op ∧ op ≤ 26) : kindT[op.toNat]? = some (kRow op) := by
 unfold kRow
 have hl : op.toNat < kindT.length := by have : kindT.length = 27 := rfl; omega
 rw [if_pos h.1, qd hl]; rfl
def wantL (f : PFunc) (x : PInst) : List Int := if x.op = 1 then [kindV f x.dst] else takesL x.op
theorem wantL_len {f : PFunc} {x : PInst} (h : InstF f x) : x.args.length = (wantL f x).length := by
 rw [h.len]
 unfold wantL
 split
 ·rename_i e; rw [e]; rfl
 ·rfl
theorem instT_want {f : PFunc} {x : PInst} (h : InstF f x) : instT f x = (decide (x.args.map (kindV f) = wantL f x) && (!makesB x.op || (decide (x.op = 1) || decide (kindV f x.dst = makesT x.op)))) := by
 unfold instT wantL
 by_cases e : x.op = 1
 ·have hl := h.len
  rw [e, show (takesL 1).length = 1 from rfl] at hl
  obtain ⟨a, ha⟩ := List.length_eq_one_iff.1 hl
  rw [if_pos e, if_pos e, ha]
  simp [e]
  exact eq_comm
 ·rw [if_neg e, if_neg e]; simp [e]
theorem takes_byte {op : Int} {m : Nat} (h : m < (takesL op).length) : ∃ c : UInt8, (kRow op).2.1.data[m]? = some c ∧ (takesL op)[m] = typeOf (c.toNat : Int) := by
 have h1 : m < (kRow op).2.1.data.size := by rw [takes_len] at h; exact h
 have e : (takesL op)[m]? = ((kRow op).2.1.data.toList[m]?).map fun b => typeOf b.toNat := by unfold takesL; rw [ql]
 rw [qd h, Array.getElem?_toList, Array.getElem?_eq_getElem h1] at e
 exact ⟨(kRow op).2.1.data[m], by rw [Array.getElem?_eq_getElem h1], by simpa using e⟩
theorem makes_byte {op : Int} (h : ¬ (kRow op).2.2 = ⟨#[]⟩) : ∃ c : UInt8, (kRow op).2.2.data[0]? = some c ∧ makesT op = typeOf (c.toNat : Int) := by
 unfold makesT
 generalize (kRow op).2.2 = m at h ⊢
 obtain ⟨⟨l⟩⟩ := m
 cases l with
 | nil => exact absurd rfl h
 | cons c l => exact ⟨c, by simp, rfl⟩
end Go.Proofs.YtbkgklpihnfnjaaGreatDoor
namespace Go.Proofs.YtbkgklpihnfnjaaGreatDoor
open Go.Proofs.Tryz
open Go.Proofs Go.Lib Go.Shelf Go.RowKit
variable {E : World}
set_option maxRecDepth 20000
theorem want_1 {f : PFunc} {x : PInst} {m : Nat} (e : x.op = 1) (h : m < (wantL f x).length) : (wantL f x)[m] = kindV f x.dst := by
 have h2 : (wantL f x)[m]? = some (kindV f x.dst) := by
  unfold wantL at h ⊢
  rw [if_pos e] at h ⊢
  simp at h
  subst h; rfl
 rw [qd h] at h2
 exact Option.some.inj h2
theorem want_2 {f : PFunc} {x : PInst} {m : Nat} (e : ¬ x.op = 1) (h : m < (wantL f x).length) (h' : m < (takesL x.op).length) : (wantL f x)[m] = (takesL x.op)[m] := by
 have h2 : (wantL f x)[m]? = some ((takesL x.op)[m]) := by
  unfold wantL
  rw [if_neg e, qd h']
 rw [qd h] at h2
 exact Option.some.inj h2
theorem term_kind {f : PFunc} {t : PTerm} (h : termOK f t = true) : t.kind = 0 ∨ t.kind = 1 ∨ t.kind = 2 := by
 unfold termOK at h
 by_cases h0 : t.kind = 0
 ·exact .inl h0
 ·rw [if_neg h0] at h
  by_cases h1 : t.kind = 1
  ·exact .inr (.inl h1)
  ·rw [if_neg h1] at h
   by_cases h2 : t.kind = 2
   ·exact .inr (.inr h2)
   ·rw [if_neg h2] at h; cases h
set_option maxHeartbeats 8000000 in
theorem refTyped_spec (f : PFunc) (hf : small f) (hS : ShapedP f) : AFun prog E 64 [.agg (encF f)] (.bool (f.blocks.all (blkT f))) := by
 have hn := hf.2.2.1
 refine zk func64 Z (by decide) Z<|zSr<|y6 (cs := _) Z Z Z<|zVzAb Z<|z6<|zb<|zSr<|zVzFF jc Z Z2 Z Z<|zVzLf Ze Z<|zVGvlenM jo Z<|zVzMi Z<|z6<|zg<|y3 (γ := Nat) [1, 16, 17] (fun i => [(18, .int .i64 i)]) (fun i => []) (fun i => i ≤ f.blocks.length ∧ (f.blocks.take i).all (blkT f) = true) (fun i => f.blocks.length - i) 0 zR1 zLe (⟨qg _, Z⟩) ?_
 rintro i ⟨hi, hall⟩
 refine zSr<|zVGvlss Z Z<|z6<|zb<|zr Z (fun ci=>?_) (fun ci=>?_)
 ·have hi2 : i < f.blocks.length := by simp at ci; omega
  obtain ⟨b, hbi⟩ : ∃ b, f.blocks[i] = b := ⟨_, rfl⟩
  have hget : f.blocks[i]? = some b := by rw [qd hi2, hbi]
  have hmem : b ∈ f.blocks := hbi ▸ qh hi2
  obtain ⟨hb0, hb1, hb2, hb3, hb4⟩ := hf.2.2.2.2 b hmem
  obtain ⟨hPh, hIn, hTm⟩ := hS.2.2.2.2.2 b hmem
  have hbad : blkT f b = false → f.blocks.all (blkT f) = false := fun h => Bool.eq_false_iff.2 (all_bad hi2 (by rw [hbi]; exact h))
  refine zf<|zb<|zg<|zSr<|z8 (zIM i jo jt Z Z Z hget)<|zVGvloadWF Zq jt Z Z<|zq (cs := [.str ⟨#[]⟩, .raw (.slice none 0 0), .raw (.slice none 0 0), .int .i64 0, .int .i64 0, .int .i64 0, .int .i64 0]) Zb Z Z<|fun i4 => zm jt Z Z Z Z Z Z .head Z<|y1 (yj (t := 4) Z .head)<|z6<|zb<|zSr<|zVzFF ja Z Za Z Z<|zVzLf Zu Z<|zVGvlenM jw Z<|zVzMi Z<|z6<|zg<|y3 (γ := Nat) [1, 4, 16, 17, 18, 23, 24] (fun j => [(25, .int .i64 j)]) (fun j => []) (fun j => j ≤ b.phis.length ∧ (b.phis.take j).all (phiT f) = true) (fun j => b.phis.length - j) 0 zR1 zLe (⟨qg _, Z⟩) ?_
  rintro j ⟨hj, hjall⟩
  refine zSr<|zVGvlss Z Z<|z6<|zb<|zr Z (fun cj=>?_) (fun cj=>?_)
  ·have hj2 : j < b.phis.length := by simp at cj; omega
   obtain ⟨p, hp⟩ : ∃ p, b.phis[j] = p := ⟨_, rfl⟩
   have hpm : p ∈ b.phis := hp ▸ qh hj2
   obtain ⟨hpd, hpl, hpn, hpa, hpf⟩ := hPh p hpm
   have hpb := (hb3 p hpm).1
   refine zf<|zb<|zg<|zSr<|z8 (zIM j jw Z0 Z Z Z (by rw [qd hj2, hp])) ?_
   refine zVGvloadWF Zv Z0 Z Z<|zq (cs := [.int .i64 0, .raw (.slice none 0 0), .raw (.slice none 0 0)]) Zk Z Z<|fun i6 => zm Z0 Z Z Z Z Z Z .head Z<|y1 (yj (t := 6) Z .head)<|z6<|zSr<|zVzFF jm Z jn Z Z<|zVzLf jz Z<|zVGvlenM j9 Z<|zVzMi Z<|z6<|zg<|y3 (γ := Nat) [1, 4, 6, 16, 17, 18, 23, 24, 25, 30, 31] (fun k => [(32, .int .i64 k)]) (fun k => []) (fun k => k ≤ p.args.length ∧ (p.args.take k).all (fun v => decide (kindV f v = kindV f p.dst)) = true) (fun k => p.args.length - k) 0 zR1 zLe (⟨qg _, Z⟩) ?_
   rintro k ⟨hk, hkall⟩
   refine zSr<|zVGvlss Z Z<|z6<|zb<|zr Z (fun ck=>?_) (fun ck=>?_)
   ·have hk2 : k < p.args.length := by simp at ck; omega
    obtain ⟨v, hv⟩ : ∃ v, p.args[k] = v := ⟨_, rfl⟩
    have hvv := List.all_eq_true.1 hpa v (hv ▸ qh hk2)
    refine zf<|zb<|zg<|zSr<|z8 (zIM k j9 jd Z Z Z (by rw [qd hk2, hv])) ?_
    refine zVzLi jr Z<|zVzAi Z<|z6<|zb<|zw (fun j => false) (by kernel_rfl) Z (zu (.rest _))<|zTk 0 Z (yq ju jj Z Z)<|zTk 1 Z (zMi Z)<|zTk 3 Z (yq ju jj Z Z)<|zTk 4 Z (zFF jm Z jd Z Z)<|zTk 5 Z (zLi jr Z)<|zOn 2 Z<|zd (rof_spec f v hvv) Z<|z6<|zOn 6 Z<|zd (rof_spec f p.dst hpd) Z<|z6<|zTk 7 Z (Gv.neqI Z Z)<|zDn<|zz Z (fun cq=>?_) (fun cq=>?_)
    ·have hq : ¬ kindV f v = kindV f p.dst := by simpa using cq
     have hph : phiT f p = false := by
      unfold phiT
      rw [show (p.args.any fun v => !decide (kindV f v = kindV f p.dst)) = true from List.any_eq_true.2 ⟨v, hv ▸ qh hk2, by simp [hq]⟩]; rfl
     refine zSr<|zVzAb Z<|z6<|ze<|zi (x := .bool _) Z ?_
     rw [hbad (by unfold blkT; rw [show b.phis.all (phiT f) = false from Bool.eq_false_iff.2 (all_bad hj2 (by rw [hp]; exact hph))]; rfl)]
    ·have hq : kindV f v = kindV f p.dst := by simpa using cq
     refine zf<|zRg<|zVzAd Z Z<|zVzMi Z<|z6 ?_
     exact ⟨k + 1, ⟨rfl, rfl, rfl, rfl, rfl, rfl, rfl, rfl, rfl, rfl, rfl, trivial⟩, zR1, zLe, ⟨hk2, all_take hk2 hkall (by rw [hv]; simp [hq])⟩, by omega⟩
   ·have hkn : k = p.args.length := by simp at ck; omega
    rw [hkn, qi] at hkall
    have hph : phiT f p = true := by
     unfold phiT
     rw [show (p.args.any fun v => !decide (kindV f v = kindV f p.dst)) = false from List.any_eq_false.2 fun v hv => by have := List.all_eq_true.1 hkall v hv; simpa using this]; rfl
    refine y2<|zRg<|zVzAd Z Z<|zVzMi Z<|z6 ?_
    exact ⟨j + 1, zR7, zR1, zLe, ⟨hj2, all_take hj2 hjall (by rw [hp]; exact hph)⟩, by omega⟩
  ·have hjn : j = b.phis.length := by simp at cj; omega
   subst hjn
   rw [qi] at hjall
   refine y2<|zb<|zSr<|zVzFF ja Z Zi Z Z<|zVzLf Y1 Z<|zVGvlenM Z1 Z<|zVzMi Z<|z6<|zg<|y3 (γ := Nat) [1, 4, 16, 17, 18, 47, 48] (fun k => [(49, .int .i64 k)]) (fun k => []) (fun k => k ≤ b.insts.length ∧ (b.insts.take k).all (instT f) = true) (fun k => b.insts.length - k) 0 zR1 zLe (⟨qg _, Z⟩) ?_
   rintro k ⟨hk, hkall⟩
   refine zSr<|zVGvlss Z Z<|z6<|zb<|zr Z (fun ck=>?_) (fun ck=>?_)
   ·have hk2 : k < b.insts.length := by simp at ck; omega
    obtain ⟨z, hz⟩ : ∃ z, b.insts[k] = z := ⟨_, rfl⟩
    have hzm : z ∈ b.insts := hz ▸ qh hk2
    have hI := instP_F (hIn z hzm)
    have hzl := hb4 z hzm
    have hwl := wantL_len hI
    have hdst : makesB z.op = true → hasV f z.dst = true := fun h => by
     rcases hI.dst with ⟨d1, _⟩ | ⟨_, _, d3⟩
     ·rw [h] at d1; cases d1
     ·exact d3
    have hcopy : z.op = 1 → makesB z.op = true := fun h => by rw [h]; rfl
    have hib : instT f z = false → f.blocks.all (blkT f) = false := fun h => hbad (by unfold blkT; rw [hjall, show b.insts.all (instT f) = false from Bool.eq_false_iff.2 (all_bad hk2 (by rw [hz]; exact h))]; rfl)
    refine zf<|zb<|zg<|zSr<|z8 (zIM k Z1 Z7 Z Z Z (by rw [qd hk2, hz])) ?_
    refine zVGvloadWF Y3 Z7 Z Z<|zq (cs := [.int .i64 0, .int .i64 0, .raw (.slice none 0 0), .int .i64 0]) Zt Z Z<|fun i10 => zm Z7 Z Z Z Z Z Z .head Z<|y1 (yj (t := 10) Z .head)<|z6<|zb<|yn (γ := Nat) [1, 4, 10, 16, 17, 18, 47, 48, 49] (fun g => [(11, .po g 0)]) (fun g => [(g, .cells 172 (encK (kRow z.op)))]) (fun g => True) ?_ (fun _ _ h => h) ?_
    ·refine zw (fun j => false) (by kernel_rfl) Z (zu (.rest _))<|zTk 1 Z (zFF jk Z Zx Z Z)<|zTk 2 Z (zLi Y8 Z)<|yy (i := 0) (j := 5) Z Z (by kernel_rfl) ?_ ?_
     ·refine zd (rows_spec) Z<|z6<|zTk 3 Z (zIM z.op.toNat underlying173 Yk Z Z (by have := hI.op; omega) (kRow_get hI.op))<|zTk 4 Z (yq isAgg172 Yk Z Z)<|zOn 5 Z<|zq (cs := [.str ⟨#[]⟩, .str ⟨#[]⟩, .str ⟨#[]⟩]) Xe Z Z<|fun i11 => z6<|zOn 6 Z<|zm Yk Z Z Z Z Z Z .head Z<|z6<|zDn ?_
      exact ⟨i11, zR9, zR1, zLe, trivial⟩
     ·refine zq (cs := [.str ⟨#[]⟩, .str ⟨#[]⟩, .str ⟨#[]⟩]) Xe Z Z<|fun i11 => z6<|zOn 0 Z<|zd (rows_spec) Z<|z6<|zTk 3 Z (zIM z.op.toNat underlying173 Yk Z Z (by have := hI.op; omega) (kRow_get hI.op))<|zTk 4 Z (yq isAgg172 Yk Z Z)<|zOn 6 Z<|zm Yk Z Z Z Z Z Z .head Z<|z6<|zDn ?_
      exact ⟨i11, zR9, zR1, zLe, trivial⟩
    ·rintro i11 _
     refine zb<|zSr<|zVzFF jk Z jn Z Z<|zVzLf jz Z<|zVGvlenM j9 Z<|zVzMi Z<|z6<|zg<|y3 (γ := Nat) [1, 4, 10, 11, 16, 17, 18, 47, 48, 49, 60] (fun m => [(61, .int .i64 m)]) (fun m => [(i11, .cells 172 (encK (kRow z.op)))]) (fun m => m ≤ z.args.length ∧ (z.args.take m).map (kindV f) = (wantL f z).take m) (fun m => z.args.length - m) 0 zR1 zLe (⟨qg _, by simp⟩) ?_
     rintro m ⟨hm, hmall⟩
     refine zSr<|zVGvlss Z Z<|z6<|zb<|zr Z (fun cm=>?_) (fun cm=>?_)
     ·have hm2 : m < z.args.length := by simp at cm; omega
      have hmw : m < (wantL f z).length := by omega
      have hmt : m < (takesL z.op).length := by have := hI.len; omega
      obtain ⟨v, hv⟩ : ∃ v, z.args[m] = v := ⟨_, rfl⟩
      have hvv := hI.args v (hv ▸ qh hm2)
      obtain ⟨c, hc, hct⟩ := takes_byte hmt
      have hbadm : ¬ kindV f v = (wantL f z)[m] → f.blocks.all (blkT f) = false := fun h => hib (by rw [instT_want hI, qr (map_ne hm2 hmw (by rw [hv]; exact h))]; rfl)
      refine zf<|zb<|zg<|zSr<|zVzMi Z<|zVzAi Z<|z6<|zSr<|z8 (zc Zy Z jx (by decide) Z Z)<|z8 (zj (c := .str _) Z5 Z ⟨_, .head⟩ Z)<|zVzMi Z<|z8 (Gv.indexT (j := m) Z3 Z Z Z hc)<|zd (rtype_spec (c.toNat : Int)) Z<|zVzAi Z<|z6<|zb<|zSr<|z8 (zc Zy Z jx (by decide) Z Z)<|z8 (zj (c := .str _) Z5 Z ⟨_, .head⟩ Z)<|z8 (q8 Z Z)<|z6<|zz Z (fun cw=>?_) (fun cw=>?_)
      ·have ew : z.op = 1 := (copy_op hI.op).1 (by simpa using cw)
       refine zRg<|zVGvloadWF ju jj Z Z<|zVzFF jk Z jd Z Z<|zVzLi jr Z<|zd (rof_spec f z.dst (hdst (hcopy ew))) Z<|zVzAi Z<|z6<|zb<|zw (fun j => false) (by kernel_rfl) Z (zu (.rest _))<|zTk 0 Z (yq ju jj Z Z)<|zTk 1 Z (zFF jk Z jn Z Z)<|zTk 2 Z (zLf jz Z)<|zTk 3 Z (zMi Z)<|zTk 4 Z (zIM m j9 jd Z Z Z (by rw [qd hm2, hv])) ?_
       refine zTk 5 Z (zLi jr Z)<|zTk 7 Z (zMi Z)<|zOn 6 Z<|zd (rof_spec f v hvv) Z<|z6<|zTk 8 Z (Gv.neqI Z Z)<|zDn<|zz Z (fun cq=>?_) (fun cq=>?_)
       ·have hq : ¬ kindV f v = kindV f z.dst := by simpa using cq
        refine zSr<|zVzAb Z<|z6<|ze<|zi (x := .bool _) Z ?_
        rw [hbadm (by rw [want_1 ew hmw]; exact hq)]
       ·have hq : kindV f v = kindV f z.dst := by simpa using cq
        refine zf<|zRg<|zVzAd Z Z<|zVzMi Z<|z6 ?_
        exact ⟨m + 1, ⟨rfl, rfl, rfl, rfl, rfl, rfl, rfl, rfl, rfl, rfl, rfl, trivial⟩, zR1, zLe, ⟨hm2, map_take_succ hm2 hmw hmall (by rw [hv, want_1 ew hmw]; exact hq)⟩, by omega⟩
      ·have ew : ¬ z.op = 1 := fun e => by have := (copy_op hI.op).2 e; simp [this] at cw
       refine zf<|zb<|zw (fun j => false) (by kernel_rfl) Z (zu (.rest _))<|zTk 0 Z (yq ju jj Z Z)<|zTk 1 Z (zFF jk Z jn Z Z)<|zTk 2 Z (zLf jz Z)<|zTk 3 Z (zMi Z)<|zTk 4 Z (zIM m j9 jd Z Z Z (by rw [qd hm2, hv])) ?_
       refine zTk 5 Z (zLi jr Z)<|zTk 7 Z (zMi Z)<|zOn 6 Z<|zd (rof_spec f v hvv) Z<|z6<|zTk 8 Z (Gv.neqI Z Z)<|zDn<|zz Z (fun cq=>?_) (fun cq=>?_)
       ·have hq : ¬ kindV f v = typeOf (c.toNat : Int) := by simpa using cq
        refine zSr<|zVzAb Z<|z6<|ze<|zi (x := .bool _) Z ?_
        rw [hbadm (by rw [want_2 ew hmw hmt, hct]; exact hq)]
       ·have hq : kindV f v = typeOf (c.toNat : Int) := by simpa using cq
        refine zf<|zRg<|zVzAd Z Z<|zVzMi Z<|z6 ?_
        exact ⟨m + 1, ⟨rfl, rfl, rfl, rfl, rfl, rfl, rfl, rfl, rfl, rfl, rfl, trivial⟩, zR1, zLe, ⟨hm2, map_take_succ hm2 hmw hmall (by rw [hv, want_2 ew hmw hmt, hct]; exact hq)⟩, by omega⟩
     ·have hmn : m = z.args.length := by simp at cm; omega
      have hall2 : z.args.map (kindV f) = wantL f z := by rw [hmn, qi, hwl, qi] at hmall; exact hmall
      have hiw := instT_want hI
      rw [qq hall2, Bool.true_and] at hiw
      refine y2<|zb<|zw (fun j => false) (by kernel_rfl) Z (zu (.r (.rest _)))<|zTk 0 Z (zc Zy Z jx (by decide) Z Z)<|zTk 1 Z (zj (c := .str _) Z5 Z ⟨_, .head⟩ Z)<|zTk 2 Z (Gv.neqT Z Z)<|zTk 3 Z (zMb Z)<|qb (s := 89) Z (fun c1=>?_) (fun c1=>?_)
      ·have d1 : ¬ (kRow z.op).2.2 = ⟨#[]⟩ := by simpa using c1
       have dm : makesB z.op = true := by rw [makesB_eq, qr d1]; rfl
       obtain ⟨c, hc, hct⟩ := makes_byte d1
       refine zTt 4 Z Z Z c1 (zc Zy Z jx (by decide) Z Z)<|zTt 5 Z Z Z c1 (zj (c := .str _) Z5 Z ⟨_, .head⟩ Z)<|zTt 6 Z Z Z c1 (Gv.neqT Z Z)<|zTk 7 Z (zPt Z c1 Z)<|zTk 8 Z (zMb Z)<|qb (s := 94) Z (fun c2=>?_) (fun c2=>?_)
       ·have ew : ¬ z.op = 1 := fun e => by have := (copy_op hI.op).2 e; simp [this] at c2
        refine zTt 9 Z Z Z c2 (yq ju jj Z Z)<|zTt 10 Z Z Z c2 (zFF jk Z jd Z Z)<|zTt 11 Z Z Z c2 (zLi jr Z)<|zTt 13 Z Z Z c2 (zc Zy Z jx (by decide) Z Z)<|zTt 14 Z Z Z c2 (zj (c := .str _) Z5 Z ⟨_, .head⟩ Z)<|zTt 15 Z Z Z c2 (Gv.indexT (j := 0) Z3 Z Z Z hc)<|zOn 12 Z<|za Z Z c2<|zd (rof_spec f z.dst (hdst dm)) Z<|z6<|zOn 16 Z<|za Z Z c2<|zd (rtype_spec (c.toNat : Int)) Z<|z6<|zTt 17 Z Z Z c2 (Gv.neqI Z Z)<|zTk 18 Z (zPt Z c2 Z)<|zDn<|zz Z (fun cq=>?_) (fun cq=>?_)
        ·have hq : ¬ kindV f z.dst = typeOf (c.toNat : Int) := by simpa using cq
         refine zSr<|zVzAb Z<|z6<|ze<|zi (x := .bool _) Z ?_
         rw [hib (by rw [hiw, dm, qr ew, hct, qr hq]; rfl)]
        ·have hq : kindV f z.dst = typeOf (c.toNat : Int) := by simpa using cq
         refine zf<|zRg<|zVzAd Z Z<|zVzMi Z<|z6 ?_
         exact ⟨k + 1, zR7, zR1, ⟨_, (.drop (.refl _)), rfl⟩, ⟨hk2, all_take hk2 hkall (by rw [hz, hiw, hct, qq hq]; simp)⟩, by omega⟩
       ·have ew : z.op = 1 := (copy_op hI.op).1 (by simpa using c2)
        refine zTf 9 Z Z Z c2<|zTf 10 Z Z Z c2<|zTf 11 Z Z Z c2<|zTf 12 Z Z Z c2<|zTf 13 Z Z Z c2<|zTf 14 Z Z Z c2<|zTf 15 Z Z Z c2<|zTf 16 Z Z Z c2<|zTf 17 Z Z Z c2<|zTk 18 Z (zPf Z c2 Z)<|zDn<|yc Z Z<|zf<|zRg<|zVzAd Z Z<|zVzMi Z<|z6 ?_
        exact ⟨k + 1, zR7, zR1, ⟨_, (.drop (.refl _)), rfl⟩, ⟨hk2, all_take hk2 hkall (by rw [hz, hiw, qq ew]; simp)⟩, by omega⟩
      ·have d1 : (kRow z.op).2.2 = ⟨#[]⟩ := by simpa using c1
       have dm : makesB z.op = false := by rw [makesB_eq, qq d1]; rfl
       refine zTf 4 Z Z Z c1<|zTf 5 Z Z Z c1<|zTf 6 Z Z Z c1<|zTk 7 Z (zPf Z c1 Z)<|zTk 8 Z (zMb Z)<|zTf 9 Z Z Z Z<|zTf 10 Z Z Z Z<|zTf 11 Z Z Z Z<|zTf 12 Z Z Z Z<|zTf 13 Z Z Z Z<|zTf 14 Z Z Z Z<|zTf 15 Z Z Z Z<|zTf 16 Z Z Z Z<|zTf 17 Z Z Z Z<|zTk 18 Z (zPf Z Z Z)<|zDn<|yc Z Z<|zf<|zRg<|zVzAd Z Z<|zVzMi Z<|z6 ?_
       exact ⟨k + 1, zR7, zR1, ⟨_, (.drop (.refl _)), rfl⟩, ⟨hk2, all_take hk2 hkall (by rw [hz, hiw, dm]; rfl)⟩, by omega⟩
   ·have hkn : k = b.insts.length := by simp at ck; omega
    rw [hkn, qi] at hkall
    refine y2<|zSr<|zVzFF ja Z Z4 Z Z<|zVGvloadWF Ym Z4 Z Z<|zq (cs := [.int .i64 0, .int .i64 0, .int .i64 0, .int .i64 0]) zeroValue46 Z Z<|fun i14 => zm Z4 Z Z Z Z Z Z .head Z<|y1 (yj (t := 14) Z .head)<|z6<|zb<|yn (γ := Bool) [1, 16, 17, 18] (fun u => [(152, .bool u)]) (fun u => []) (fun u => u = !termT f b.term) ?_ (fun _ _ h => h) ?_
    ·have hk3 := term_kind hTm
     refine zRg<|zVzFF je Z Zl Z Z<|zVzLi Y0 Z<|zVGveqlI Z Z<|zVzMb Z<|zo (s := 111) Z (fun c1=>?_) (fun c1=>?_)
     ·refine za Z Z c1<|zVGvloadWF ju jj Z Z<|za Z Z c1<|zVzFF je Z jd Z Z<|za Z Z c1<|zVzLi jr Z<|za Z Z c1<|zd (rof_spec f b.term.var (term_var hTm (by simp_all))) Z<|za Z Z c1<|zVGvneqI Z Z<|zVzPt Z c1 Z<|zVzMb Z<|zo (s := 118) Z (fun c2=>?_) (fun c2=>?_)
      ·refine z7 Z Z c2<|z7 Z Z c2<|z7 Z Z c2<|z7 Z Z c2<|zh Z Z<|zh Z Z<|zh Z Z<|zh Z Z<|zh Z Z<|zh Z Z<|zh Z Z<|zh Z Z<|zh Z Z<|zh Z Z<|zh Z Z<|zh Z Z<|zh Z Z<|zh Z Z<|zh Z Z<|zh Z Z<|zh Z Z<|z7 Z Z c2<|zVzPt Z c2 Z<|zVzMb Z<|z7 Z Z Z<|z7 Z Z Z<|z7 Z Z Z<|z7 Z Z Z<|zh Z Z<|zh Z Z<|zh Z Z<|zh Z Z<|z7 Z Z Z<|zVzPt Z Z Z<|z6 ?_
       exact ⟨_, zR4, zR1, zLe, by simp_all [termT] <;> omega⟩
      ·refine za Z Z c2<|zVzFF je Z Zl Z Z<|za Z Z c2<|zVzLi Y0 Z<|za Z Z c2<|zVGveqlI Z Z<|za Z Z c2<|zVzMb Z<|zo (s := 122) Z (fun c3=>?_) (fun c3=>?_)
       ·refine za Z Z c3<|zVGvloadWF ju jj Z Z<|za Z Z c3<|zVzFF je Z jd Z Z<|za Z Z c3<|zVzLi jr Z<|za Z Z c3<|zd (rof_spec f b.term.var (term_var hTm (by simp_all))) Z<|za Z Z c3<|zVGvneqI Z Z<|za Z Z c3<|zVzMb Z<|zo (s := 128) Z (fun c4=>?_) (fun c4=>?_)
        ·refine z7 Z Z c4<|z7 Z Z c4<|z7 Z Z c4<|z7 Z Z c4<|za Z Z c3<|zVzPt Z c4 Z<|za Z Z c3<|zVzMb Z<|z7 Z Z Z<|z7 Z Z Z<|z7 Z Z Z<|z7 Z Z Z<|za Z Z c3<|zVzPt Z Z Z<|za Z Z c2<|zVzPt Z c3 Z<|zVzPf Z c2 Z<|zVzMb Z<|z7 Z Z Z<|z7 Z Z Z<|z7 Z Z Z<|z7 Z Z Z<|zh Z Z<|zh Z Z<|zh Z Z<|zh Z Z<|z7 Z Z Z<|zVzPt Z Z Z<|z6 ?_
         exact ⟨_, zR4, zR1, zLe, by simp_all [termT] <;> omega⟩
        ·refine za Z Z c4<|zVzFF je Z Z8 Z Z<|za Z Z c4<|z8 (yo (j := 0) jy jd Z Z Z (by decide) Z)<|za Z Z c4<|zVzLi jr Z<|za Z Z c4<|zVGveqlI Z Z<|za Z Z c3<|zVzPf Z c4 Z<|za Z Z c3<|zVzMb Z<|zo (s := 134) Z (fun c5=>?_) (fun c5=>?_)
         ·refine z7 Z Z c5<|z7 Z Z c5<|z7 Z Z c5<|z7 Z Z c5<|za Z Z c3<|zVzPt Z c5 Z<|za Z Z c2<|zVzPt Z c3 Z<|zVzPf Z c2 Z<|zVzMb Z<|z7 Z Z Z<|z7 Z Z Z<|z7 Z Z Z<|z7 Z Z Z<|zh Z Z<|zh Z Z<|zh Z Z<|zh Z Z<|z7 Z Z Z<|zVzPt Z Z Z<|z6 ?_
          exact ⟨_, zR4, zR1, zLe, by simp_all [termT] <;> omega⟩
         ·refine za Z Z c5<|zVzFF je Z Z8 Z Z<|za Z Z c5<|z8 (yo (j := 1) jy jd Z Z Z (by decide) Z)<|za Z Z c5<|zVzLi jr Z<|za Z Z c5<|zVGveqlI Z Z<|za Z Z c3<|zVzPf Z c5 Z<|za Z Z c2<|zVzPt Z c3 Z<|zVzPf Z c2 Z<|zVzMb Z<|zo (s := 142) Z (fun c6=>?_) (fun c6=>?_)
          ·refine z7 Z Z c6<|z7 Z Z c6<|z7 Z Z c6<|z7 Z Z c6<|zh Z Z<|zh Z Z<|zh Z Z<|zh Z Z<|z7 Z Z c6<|zVzPt Z c6 Z<|z6 ?_
           exact ⟨_, zR4, zR1, zLe, by simp_all [termT] <;> omega⟩
          ·refine za Z Z c6<|zVzFF je Z Zl Z Z<|za Z Z c6<|zVzLi Y0 Z<|za Z Z c6<|zVGveqlI Z Z<|za Z Z c6<|zVzMb Z<|zo (s := 146) Z (fun c7=>?_) (fun c7=>?_)
           ·refine za Z Z c7<|zVzFF je Z Z8 Z Z<|za Z Z c7<|z8 (yo (j := 0) jy jd Z Z Z (by decide) Z)<|za Z Z c7<|zVzLi jr Z<|za Z Z c7<|zVGveqlI Z Z<|za Z Z c6<|zVzPt Z c7 Z<|zVzPf Z c6 Z<|z6 ?_
            exact ⟨_, zR4, zR1, zLe, by simp_all [termT] <;> omega⟩
           ·refine z7 Z Z c7<|z7 Z Z c7<|z7 Z Z c7<|z7 Z Z c7<|za Z Z c6<|zVzPf Z c7 Z<|zVzPf Z c6 Z<|z6 ?_
            exact ⟨_, zR4, zR1, zLe, by simp_all [termT] <;> omega⟩
       ·refine z7 Z Z c3<|z7 Z Z c3<|z7 Z Z c3<|z7 Z Z c3<|z7 Z Z c3<|z7 Z Z c3<|zh Z Z<|zh Z Z<|zh Z Z<|zh Z Z<|z7 Z Z c3<|z7 Z Z c3<|zh Z Z<|zh Z Z<|zh Z Z<|zh Z Z<|z7 Z Z c3<|za Z Z c2<|zVzPf Z c3 Z<|zVzPf Z c2 Z<|zVzMb Z<|za Z Z Z<|zVzFF je Z Zl Z Z<|za Z Z Z<|zVzLi Y0 Z<|za Z Z Z<|zVGveqlI Z Z<|za Z Z Z<|zVzMb Z<|zo (s := 146) Z (fun c8=>?_) (fun c8=>?_)
        ·refine za Z Z c8<|zVzFF je Z Z8 Z Z<|za Z Z c8<|z8 (yo (j := 0) jy jd Z Z Z (by decide) Z)<|za Z Z c8<|zVzLi jr Z<|za Z Z c8<|zVGveqlI Z Z<|za Z Z Z<|zVzPt Z c8 Z<|zVzPf Z Z Z<|z6 ?_
         exact ⟨_, zR4, zR1, zLe, by simp_all [termT] <;> omega⟩
        ·refine z7 Z Z c8<|z7 Z Z c8<|z7 Z Z c8<|z7 Z Z c8<|za Z Z Z<|zVzPf Z c8 Z<|zVzPf Z Z Z<|z6 ?_
         exact ⟨_, zR4, zR1, zLe, by simp_all [termT] <;> omega⟩
     ·refine z7 Z Z c1<|z7 Z Z c1<|z7 Z Z c1<|z7 Z Z c1<|z7 Z Z c1<|zVzPf Z c1 Z<|zVzMb Z<|za Z Z Z<|zVzFF je Z Zl Z Z<|za Z Z Z<|zVzLi Y0 Z<|za Z Z Z<|zVGveqlI Z Z<|za Z Z Z<|zVzMb Z<|zo (s := 122) Z (fun c9=>?_) (fun c9=>?_)
      ·refine za Z Z c9<|zVGvloadWF ju jj Z Z<|za Z Z c9<|zVzFF je Z jd Z Z<|za Z Z c9<|zVzLi jr Z<|za Z Z c9<|zd (rof_spec f b.term.var (term_var hTm (by simp_all))) Z<|za Z Z c9<|zVGvneqI Z Z<|za Z Z c9<|zVzMb Z<|zo (s := 128) Z (fun c10=>?_) (fun c10=>?_)
       ·refine z7 Z Z c10<|z7 Z Z c10<|z7 Z Z c10<|z7 Z Z c10<|za Z Z c9<|zVzPt Z c10 Z<|za Z Z c9<|zVzMb Z<|z7 Z Z Z<|z7 Z Z Z<|z7 Z Z Z<|z7 Z Z Z<|za Z Z c9<|zVzPt Z Z Z<|za Z Z Z<|zVzPt Z c9 Z<|zVzPf Z Z Z<|zVzMb Z<|z7 Z Z Z<|z7 Z Z Z<|z7 Z Z Z<|z7 Z Z Z<|zh Z Z<|zh Z Z<|zh Z Z<|zh Z Z<|z7 Z Z Z<|zVzPt Z Z Z<|z6 ?_
        exact ⟨_, zR4, zR1, zLe, by simp_all [termT] <;> omega⟩
       ·refine za Z Z c10<|zVzFF je Z Z8 Z Z<|za Z Z c10<|z8 (yo (j := 0) jy jd Z Z Z (by decide) Z)<|za Z Z c10<|zVzLi jr Z<|za Z Z c10<|zVGveqlI Z Z<|za Z Z c9<|zVzPf Z c10 Z<|za Z Z c9<|zVzMb Z<|zo (s := 134) Z (fun c11=>?_) (fun c11=>?_)
        ·refine z7 Z Z c11<|z7 Z Z c11<|z7 Z Z c11<|z7 Z Z c11<|za Z Z c9<|zVzPt Z c11 Z<|za Z Z Z<|zVzPt Z c9 Z<|zVzPf Z Z Z<|zVzMb Z<|z7 Z Z Z<|z7 Z Z Z<|z7 Z Z Z<|z7 Z Z Z<|zh Z Z<|zh Z Z<|zh Z Z<|zh Z Z<|z7 Z Z Z<|zVzPt Z Z Z<|z6 ?_
         exact ⟨_, zR4, zR1, zLe, by simp_all [termT] <;> omega⟩
        ·refine za Z Z c11<|zVzFF je Z Z8 Z Z<|za Z Z c11<|z8 (yo (j := 1) jy jd Z Z Z (by decide) Z)<|za Z Z c11<|zVzLi jr Z<|za Z Z c11<|zVGveqlI Z Z<|za Z Z c9<|zVzPf Z c11 Z<|za Z Z Z<|zVzPt Z c9 Z<|zVzPf Z Z Z<|zVzMb Z<|zo (s := 142) Z (fun c12=>?_) (fun c12=>?_)
         ·refine z7 Z Z c12<|z7 Z Z c12<|z7 Z Z c12<|z7 Z Z c12<|zh Z Z<|zh Z Z<|zh Z Z<|zh Z Z<|z7 Z Z c12<|zVzPt Z c12 Z<|z6 ?_
          exact ⟨_, zR4, zR1, zLe, by simp_all [termT] <;> omega⟩
         ·refine za Z Z c12<|zVzFF je Z Zl Z Z<|za Z Z c12<|zVzLi Y0 Z<|za Z Z c12<|zVGveqlI Z Z<|za Z Z c12<|zVzMb Z<|zo (s := 146) Z (fun c13=>?_) (fun c13=>?_)
          ·refine za Z Z c13<|zVzFF je Z Z8 Z Z<|za Z Z c13<|z8 (yo (j := 0) jy jd Z Z Z (by decide) Z)<|za Z Z c13<|zVzLi jr Z<|za Z Z c13<|zVGveqlI Z Z<|za Z Z c12<|zVzPt Z c13 Z<|zVzPf Z c12 Z<|z6 ?_
           exact ⟨_, zR4, zR1, zLe, by simp_all [termT] <;> omega⟩
          ·refine z7 Z Z c13<|z7 Z Z c13<|z7 Z Z c13<|z7 Z Z c13<|za Z Z c12<|zVzPf Z c13 Z<|zVzPf Z c12 Z<|z6 ?_
           exact ⟨_, zR4, zR1, zLe, by simp_all [termT] <;> omega⟩
      ·refine z7 Z Z c9<|z7 Z Z c9<|z7 Z Z c9<|z7 Z Z c9<|z7 Z Z c9<|z7 Z Z c9<|zh Z Z<|zh Z Z<|zh Z Z<|zh Z Z<|z7 Z Z c9<|z7 Z Z c9<|zh Z Z<|zh Z Z<|zh Z Z<|zh Z Z<|z7 Z Z c9<|za Z Z Z<|zVzPf Z c9 Z<|zVzPf Z Z Z<|zVzMb Z<|za Z Z Z<|zVzFF je Z Zl Z Z<|za Z Z Z<|zVzLi Y0 Z<|za Z Z Z<|zVGveqlI Z Z<|za Z Z Z<|zVzMb Z<|zo (s := 146) Z (fun c14=>?_) (fun c14=>?_)
       ·refine za Z Z c14<|zVzFF je Z Z8 Z Z<|za Z Z c14<|z8 (yo (j := 0) jy jd Z Z Z (by decide) Z)<|za Z Z c14<|zVzLi jr Z<|za Z Z c14<|zVGveqlI Z Z<|za Z Z Z<|zVzPt Z c14 Z<|zVzPf Z Z Z<|z6 ?_
        exact ⟨_, zR4, zR1, zLe, by simp_all [termT] <;> omega⟩
       ·refine z7 Z Z c14<|z7 Z Z c14<|z7 Z Z c14<|z7 Z Z c14<|za Z Z Z<|zVzPf Z c14 Z<|zVzPf Z Z Z<|z6 ?_
        exact ⟨_, zR4, zR1, zLe, by simp_all [termT] <;> omega⟩
    ·rintro u hu
     subst hu
     refine zz Z (fun ct=>?_) (fun ct=>?_)
     ·have dt : termT f b.term = false := by simpa using ct
      refine zSr<|zVzAb Z<|z6<|ze<|zi (x := .bool _) Z ?_
      rw [hbad (by unfold blkT; rw [hjall, hkall, dt]; rfl)]
     ·have dt : termT f b.term = true := by simpa using ct
      refine zf<|zRg<|zVzAd Z Z<|zVzMi Z<|z6 ?_
      exact ⟨i + 1, zR3, zR1, zLe, ⟨hi2, all_take hi2 hall (by rw [hbi]; unfold blkT; rw [hjall, hkall, dt]; rfl)⟩, by omega⟩
 ·have hin : i = f.blocks.length := by simp at ci; omega
  rw [hin, qi] at hall
  refine y2<|zSr<|zVzAb Z<|z6<|ze<|zi (x := .bool _) Z ?_
  rw [hall]
end Go.Proofs.YtbkgklpihnfnjaaGreatDoor
