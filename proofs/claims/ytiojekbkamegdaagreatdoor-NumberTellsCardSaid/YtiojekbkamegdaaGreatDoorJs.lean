/- What is asked of the program itself, of the law NumberTells, fact for fact. No conditions. -/
import Derived.Test.YtiojekbkamegdaaGreatDoorJq
import Derived.Test.YtiojekbkamegdaaGreatDoorJr
import Derived.Test.YtiojekbkamegdaaGreatDoorJp
import Derived.Test.YtiojekbkamegdaaGreatDoorJh
import Derived.Test.YtiojekbkamegdaaGreatDoorJd
import Derived.Lib.LaidRTab
import Derived.Test.YtiojekbkamegdaaGreatDoorRows
import Derived.Test.YtiojekbkamegdaaGreatDoorChecked
import Derived.ProofKit
import Derived.JoinedOf
set_option linter.unusedVariables false
set_option linter.unusedSimpArgs false
set_option linter.unusedSectionVars false
namespace Go.Proofs.YtiojekbkamegdaaGreatDoor
open Go.Proofs.Tryz
open Go.Proofs Go.Lib Go.Shelf Go.RowKit
theorem pl79 : Places prog 79 #[(0, 1), (1, 1)] [.str ⟨#[]⟩, .int .i64 0] := ⟨_, _, underlying79, zeroValue79, fun w => by kernel_rfl, rfl⟩
theorem ps22_4 : PlacesS prog 22 79 4 2 [.str ⟨#[]⟩, .int .i64 0, .str ⟨#[]⟩, .int .i64 0, .str ⟨#[]⟩, .int .i64 0, .str ⟨#[]⟩, .int .i64 0] := ⟨_, underlying22, sizeOf79, zeroValue79, by decide, by decide, by kernel_rfl⟩
theorem ps52_2 : PlacesS prog 52 61 2 4 [.int .i64 0, .int .i64 0, .raw (.slice none 0 0), .int .i64 0, .int .i64 0, .int .i64 0, .raw (.slice none 0 0), .int .i64 0] := ⟨_, underlying52, sizeOf61, zeroValue61, by decide, by decide, by kernel_rfl⟩
theorem pl56 : Places prog 56 #[(0, 1), (1, 1), (2, 2)] [.int .i64 0, .int .i64 0, .int .i64 0, .int .i64 0] := ⟨_, _, underlying56, zeroValue56, fun w => by kernel_rfl, rfl⟩
variable {E : World}
set_option maxRecDepth 20000
theorem inst_F {f : PFunc} (hS : ShapedP f) {b : PBlock} (hb : b ∈ f.blocks) {x : PInst} (hx : x ∈ b.insts) : InstF f x := instP_F ((hS.2.2.2.2.2 b hb).2.1 x hx)
theorem inst_dst {f : PFunc} (hS : ShapedP f) {b : PBlock} (hb : b ∈ f.blocks) {x : PInst} (hx : x ∈ b.insts) : x.dst < f.vars.length ∧ (cntB x.op = true → 0 ≤ x.dst) := by
 have hF := inst_F hS hb hx
 rcases hF.dst with ⟨h1, h2⟩ | ⟨_, _, h3⟩
 ·refine ⟨by omega, fun hc=>?_⟩
  unfold cntB at hc
  have hop := hF.op
  have : makesB x.op = true := by
   obtain ⟨j, hj⟩ : ∃ j : Nat, x.op = (j : Int) := ⟨x.op.toNat, by omega⟩
   rw [hj, makesN j (by omega)]
   have hc := of_decide_eq_true hc
   have : j = 0 ∨ j = 2 ∨ j = 3 ∨ j = 4 ∨ j = 5 ∨ j = 6 ∨ j = 7 ∨ j = 8 ∨ j = 9 ∨ j = 10 ∨ j = 11 ∨ j = 12 ∨ j = 16 := by omega
   rcases this with h | h | h | h | h | h | h | h | h | h | h | h | h <;> (rw [h]; decide)
  rw [this] at h1; cases h1
 ·exact ⟨(has_lt h3).1, fun _ => (has_lt h3).2⟩
theorem inst_cnt {f : PFunc} {x : PInst} (hF : InstF f x) (hc : cntB x.op = true) : x.args.length ≤ 2 ∧ (trnB x.op = true → x.args.length = 2) := by
 have hop := hF.op
 obtain ⟨j, hj⟩ : ∃ j : Nat, x.op = (j : Int) := ⟨x.op.toNat, by omega⟩
 rw [hF.argc, hj]
 unfold cntB at hc
 unfold trnB
 rw [hj] at hc
 have hc := of_decide_eq_true hc
 have : j = 0 ∨ j = 2 ∨ j = 3 ∨ j = 4 ∨ j = 5 ∨ j = 6 ∨ j = 7 ∨ j = 8 ∨ j = 9 ∨ j = 10 ∨ j = 11 ∨ j = 12 ∨ j = 16 := by omega
 rcases this with h | h | h | h | h | h | h | h | h | h | h | h | h <;> (subst h; decide)
theorem num_all {f : PFunc} (hf : small f) (hS : ShapedP f) (hE : EndsOk f) (hs : SingP f) : ∃ rk, NumOk f rk ∧ ∀ r, Roots f r → NumA f r rk := by
 obtain ⟨hJ, hA, ho, hB⟩ := hs
 have hat : ∀ i k x, AtI f i k x → ∃ b ∈ f.blocks, x ∈ b.insts := fun i k x ⟨b, h1, h2⟩ => ⟨b, qs h1, qs h2⟩
 have hd : ∀ i k x, NumI f i k x → 0 ≤ x.dst ∧ x.dst < f.vars.length := fun i k x h => by
  obtain ⟨b, hb, hx⟩ := hat i k x h.1
  have := inst_dst hS hb hx
  exact ⟨this.2 h.2, this.1⟩
 have hd2 : ∀ i k x, AtI f i k x → x.dst < f.vars.length := fun i k x h => by
  obtain ⟨b, hb, hx⟩ := hat i k x h
  exact (inst_dst hS hb hx).1
 have hH := numH_of (M := 1000) hE hA ho hB hd fun b hb => (hf.2.2.2.2 b hb).2.2.1
 have hO := oneM_of ho hd2
 have hok : NumOk f _ := ⟨hH, hO, hd⟩
 have hV := oneV_of ho (fun b hb x hx => (inst_dst hS hb hx).1) fun b hb p hp => by
  have := has_lt ((hS.2.2.2.2.2 b hb).1 p hp).1
  exact ⟨this.2, this.1⟩
 refine ⟨_, hok, fun r hr => ⟨hf, hE, hA, hB, fun b hb x hx v hv => ?_, fun b hb hk => ?_, ⟨hok, hr, ?_, ?_⟩⟩⟩
 ·have := has_lt ((inst_F hS hb hx).args v hv)
  exact ⟨this.2, this.1⟩
 ·have h := (hS.2.2.2.2.2 b hb).2.2
  unfold termOK at h
  rw [if_neg hk] at h
  have h2 : hasV f b.term.var = true := by
   split at h
   ·simp only [qx] at h; exact h.1.1
   ·split at h
    ·simp only [qx] at h; exact h.1
    ·cases h
  have := has_lt h2
  exact ⟨this.2, this.1⟩
 ·exact keyI_of (fun b hb x hx hc => inst_cnt (inst_F hS hb hx) hc) (fun b hb x hx c hc y hy e => by rw [(inst_F hS hb hx).argc, (inst_F hS hc hy).argc, e]) r
 ·exact ⟨fun i k x ⟨⟨b, h1, h2⟩, hc⟩ => hV.inst i k b x h1 h2 (hd i k x ⟨⟨b, h1, h2⟩, hc⟩).1, hd⟩
theorem phi_args {f : PFunc} (hS : ShapedP f) : ∀ b ∈ f.blocks, ∀ p ∈ b.phis, ∀ v ∈ p.args, 0 ≤ v ∧ v < f.vars.length := fun b hb p hp v hv => by
 have := has_lt (List.all_eq_true.1 ((hS.2.2.2.2.2 b hb).1 p hp).2.2.2.1 v hv)
 exact ⟨this.2, this.1⟩
theorem numF_bad (f : PFunc) (hf : small f) (hL : Letters E) (h : (typedB f && singB f) = false) : AFun prog E 12 [.agg (encF f)] (.tup [.agg [.raw (.slice none 0 0), .raw (.slice none 0 0), .raw (.slice none 0 0)], .int .i64 3]) := by
 have hright := SingRight_spec (E := E) f hf hL
 rw [h] at hright
 refine zn func12 rfl (by decide) rfl<|zSr<|yd (cs := _) rfl rfl rfl<|y4 (cs := [.raw (.slice none 0 0), .raw (.slice none 0 0), .raw (.slice none 0 0)]) zeroValue26 rfl rfl<|fun i2 => z2 (zAi rfl)<|z6<|za<|zSr<|z2 (zl isAgg26 sizeOf26 rfl rfl)<|zk (hright) rfl<|z2 (zAi rfl)<|z6<|zSr<|z2 (zMi rfl)<|z2 (yi rfl rfl)<|z6<|yk rfl rfl<|zSr<|z2 (y8 (cps := []) (rs := [.raw (.slice none 0 0), .raw (.slice none 0 0), .raw (.slice none 0 0)]) pl26 rfl rfl rfl)<|z2 (zMi rfl)<|zw sizeOf26 rfl rfl rfl rfl rfl rfl .head rfl<|z2 (zAi rfl)<|z6<|zh<|afin.c1t (y := .int _ _) rfl rfl ⟨_, .head⟩ isAgg26 sizeOf26 rfl ?_
 rfl
def exF : PFunc := ⟨[⟨⟨#[110]⟩, 0⟩, ⟨⟨#[107]⟩, 0⟩, ⟨⟨#[109]⟩, 0⟩, ⟨⟨#[108]⟩, 0⟩], [0, 1], [⟨⟨#[97]⟩, [], [⟨2, 2, [0, 1], 0⟩, ⟨2, 3, [1, 0], 0⟩], ⟨2, 3, 0, 0⟩⟩]⟩
def exR (v : Int) : Int := if v = 3 then 2 else v
theorem ex_small : small exF := by unfold small exF; simp [smallBlk]; decide
theorem ex_typed : typedB exF = true := by decide +kernel
theorem ex_sing : singB exF = true := by decide +kernel
theorem ex_at {i k : Nat} {x : PInst} (h : NumI exF i k x) : i = 0 ∧ ((k = 0 ∧ x = ⟨2, 2, [0, 1], 0⟩) ∨ (k = 1 ∧ x = ⟨2, 3, [1, 0], 0⟩)) := by
 obtain ⟨⟨b, h1, h2⟩, _⟩ := h
 match i, h1 with
 | 0, h1 =>
  cases h1
  match k, h2 with
  | 0, h2 => cases h2; exact ⟨rfl, .inl ⟨rfl, rfl⟩⟩
  | 1, h2 => cases h2; exact ⟨rfl, .inr ⟨rfl, rfl⟩⟩
  | k + 2, h2 => exact absurd h2 (by simp)
 | i + 1, h1 => exact absurd h1 (by simp [exF])
theorem ex_roots : Roots exF exR := by
 have hno : ∀ {k : Nat}, ¬ AheadI exF 0 k 0 0 := fun {k} h => by
  rcases h with h | ⟨_, h⟩ | ⟨_, h, _⟩
  ·dsimp only at h; omega
  ·dsimp only at h; omega
  ·exact h rfl
 refine ⟨fun v hv => ?_, fun i k y hy => ?_, fun i k y i' k' x hy hx ha rx ry => ?_⟩
 ·unfold exR
  split
  ·rename_i e
   exact absurd e.symm (hv 0 1 ⟨2, 3, [1, 0], 0⟩ ⟨⟨_, rfl, rfl⟩, rfl⟩)
  ·rfl
 ·obtain ⟨rfl, ⟨rfl, rfl⟩ | ⟨rfl, rfl⟩⟩ := ex_at hy
  ·exact .inl rfl
  ·exact .inr ⟨0, 0, ⟨2, 2, [0, 1], 0⟩, ⟨⟨_, rfl, rfl⟩, rfl⟩, .inr (.inl ⟨rfl, by decide⟩), rfl, rfl, by decide⟩
 ·obtain ⟨rfl, ⟨rfl, rfl⟩ | ⟨rfl, rfl⟩⟩ := ex_at hy
  ·obtain ⟨rfl, _⟩ := ex_at hx
   exact absurd ha hno
  ·exact absurd ry (by decide)
theorem lives31_spec (hL : Letters E) : AFun prog E 10 [] (.bool true) := by
 have hS := typedB_shaped ex_typed
 have hE := typedB_ends ex_typed
 obtain ⟨rk, _, hN⟩ := num_all ex_small hS hE ((singB_iff hE).1 ex_sing)
 have hnum := numF_spec (E := E) exF hL ex_typed ex_sing (hN exR ex_roots) fun b hb p hp => by
  cases hb with
  | head => cases hp
  | tail _ hb => cases hb
 rw [show numF exF exR = ⟨[⟨⟨#[110]⟩, 0⟩, ⟨⟨#[107]⟩, 0⟩, ⟨⟨#[109]⟩, 0⟩, ⟨⟨#[108]⟩, 0⟩], [0, 1], [⟨⟨#[97]⟩, [], [⟨2, 2, [0, 1], 0⟩], ⟨2, 2, 0, 0⟩⟩]⟩ from by decide +kernel] at hnum
 refine zn func10 rfl (by decide) rfl<|zSr<|z2 (zAb rfl)<|z6<|zSr<|z2 (y8 (cps := [(0, [_])]) (rs := [_, .int .i64 0]) pl79 rfl rfl rfl)<|z2 (y8 (cps := [(0, [_])]) (rs := [_, .int .i64 0]) pl79 rfl rfl rfl)<|z2 (y8 (cps := [(0, [_])]) (rs := [_, .int .i64 0]) pl79 rfl rfl rfl)<|z2 (y8 (cps := [(0, [_])]) (rs := [_, .int .i64 0]) pl79 rfl rfl rfl)<|zt (rows := [[_, _], [_, _], [_, _], [_, _]]) ps22_4 rfl rfl rfl rfl rfl<|zt (rows := [[_], [_]]) ps23_2 rfl rfl rfl rfl rfl<|zt (rows := [[_], [_]]) ps23_2 rfl rfl rfl rfl rfl<|z2 (y8 (cps := [(0, [_]), (1, [_]), (2, [_])]) (rs := [_, _, _, .int .i64 0]) pl61 rfl rfl rfl)<|zt (rows := [[_], [_]]) ps23_2 rfl rfl rfl rfl rfl<|z2 (y8 (cps := [(0, [_]), (1, [_]), (2, [_])]) (rs := [_, _, _, .int .i64 0]) pl61 rfl rfl rfl)<|zt (rows := [[_, _, _, _], [_, _, _, _]]) ps52_2 rfl rfl rfl rfl rfl<|z2 (y8 (cps := [(0, [_]), (1, [_])]) (rs := [_, _, .int .i64 0, .int .i64 0]) pl56 rfl rfl rfl)<|z2 (y8 (cps := [(0, [_]), (2, [_]), (3, [_, _, _, _])]) (rs := [_, .raw (.slice none 0 0), _, _, _, _, _]) pl58 rfl rfl rfl)<|ze (GStep.slot (t := 16) rfl (Imp.agg (.cons (.refl _) (.cons (.nil 3) (.cons (.refl _) (.cons (.refl _) (.cons (.refl _) (.cons (.refl _) (.cons (.refl _) .nil)))))))))<|zt (rows := [[_, _, _, _, _, _, _]]) ps24_1 rfl rfl rfl rfl rfl<|z2 (y8 (cps := [(0, [_]), (1, [_]), (2, [_])]) (rs := [_, _, _]) pl26 rfl rfl rfl)<|y4 (cs := [.raw (.slice none 0 0), .raw (.slice none 0 0), .raw (.slice none 0 0)]) zeroValue26 rfl rfl<|fun i1 => zw sizeOf26 rfl rfl rfl rfl rfl rfl .head rfl<|ze (yh (t := 1) rfl .head)<|z6<|zSr<|z2 (zl isAgg26 sizeOf26 rfl rfl)<|zk (hnum) rfl<|z2 (zMu rfl)<|z2 (qb (v := .agg _) rfl rfl)<|z2 (zXi rfl rfl)<|y4 (cs := [.raw (.slice none 0 0), .raw (.slice none 0 0), .raw (.slice none 0 0)]) zeroValue26 rfl rfl<|fun i2 => zw sizeOf26 rfl rfl rfl rfl rfl rfl .head rfl<|ze (yh (t := 2) rfl .head)<|z2 (zAi rfl)<|z6<|zSr<|z2 (zMi rfl)<|z2 (y9 rfl rfl) ?_
 refine z2 (zMb rfl)<|z8 rfl rfl rfl<|z2 (zFF underlying26 rfl sizeOf24 rfl rfl)<|z8 rfl rfl rfl<|z2 (zLf isAgg24 rfl)<|z8 rfl rfl rfl<|z2 (zu underlying24 rfl)<|z8 rfl rfl rfl<|z2 (y9 rfl rfl)<|z2 (zPt rfl rfl rfl)<|z2 (zMb rfl)<|z8 rfl rfl rfl<|z2 (zFF underlying26 rfl sizeOf24 rfl rfl)<|z8 rfl rfl rfl<|z2 (zLf isAgg24 rfl)<|z8 rfl rfl rfl<|z2 (zIM 0 underlying24 sizeOf58 rfl rfl rfl rfl)<|z8 rfl rfl rfl<|z2 (zFF underlying58 rfl sizeOf52 rfl rfl)<|z8 rfl rfl rfl<|z2 (zLf isAgg52 rfl)<|z8 rfl rfl rfl<|z2 (zu underlying52 rfl)<|z8 rfl rfl rfl<|z2 (y9 rfl rfl)<|z2 (zPt rfl rfl rfl)<|z2 (zMb rfl)<|z8 rfl rfl rfl<|z2 (zFF underlying26 rfl sizeOf24 rfl rfl)<|z8 rfl rfl rfl<|z2 (zLf isAgg24 rfl)<|z8 rfl rfl rfl<|z2 (zIM 0 underlying24 sizeOf58 rfl rfl rfl rfl)<|z8 rfl rfl rfl<|z2 (zFF underlying58 rfl sizeOf56 rfl rfl)<|z8 rfl rfl rfl<|z2 (zFF underlying56 rfl sizeOf3 rfl rfl)<|z8 rfl rfl rfl<|z2 (zLi isAgg3 rfl)<|z8 rfl rfl rfl<|z2 (y9 rfl rfl) ?_
 refine z2 (zPt rfl rfl rfl)<|z2 (zAb rfl)<|z6<|zh<|zj (x := .bool _) rfl ?_
 rfl
set_option maxHeartbeats 4000000 in
theorem numberTells_law (f : PFunc) (hw : wFunc f) (hL : Letters E) : AFun prog E 3 [.agg (encF f)] (.bool true) := by
 have hlv := lives31_spec (E := E) hL
 refine zn func3 rfl (by decide) rfl<|zSr<|yd (cs := _) rfl rfl rfl<|z2 (zAb rfl)<|z6<|za<|zSr<|zk (hlv) rfl<|z2 (yo rfl)<|z2 (zMb rfl)<|z8 rfl rfl rfl<|z2 (zl isAgg26 sizeOf26 rfl rfl)<|z8 rfl rfl rfl<|zk (fewT_spec f hw) rfl<|z8 rfl rfl rfl<|z2 (yo rfl)<|z2 (zPf rfl rfl rfl)<|z6<|zr rfl (fun cf=>?_) (fun cf=>?_)
 ·refine zSr<|zk (hlv) rfl<|z2 (zAb rfl)<|z6<|zh<|zj (x := .bool _) rfl ?_
  rfl
 ·have hfew : fewB f = true := by cases h : fewB f; rw [h] at cf; simp at cf; rfl
  have hsm := ((fewB_iff f).1 hfew).small
  have hls : lawSing f = (typedB f && singB f) := by unfold lawSing; rw [hfew, Bool.true_and]
  have hlS := lawSingle_spec (E := E) f hw hL
  rw [hls] at hlS
  rcases Bool.eq_false_or_eq_true (typedB f && singB f) with hts | hts
  ·obtain ⟨ht, hs⟩ := and3 hts
   have hS := typedB_shaped ht
   have hE := typedB_ends ht
   have hSg := (singB_iff hE).1 hs
   obtain ⟨rk, hok, hN⟩ := num_all hsm hS hE hSg
   obtain ⟨r, hr⟩ := roots_ex hok
   rw [hts] at hlS
   have hpa : ∀ b ∈ f.blocks, ∀ p ∈ b.phis, ∀ v ∈ p.args, 0 ≤ v ∧ v < f.vars.length := phi_args hS
   have hnum := numF_spec (E := E) f hL ht hs (hN r hr) hpa
   have hdoc := number31_spec (E := E) f hsm hE hSg.2.1 hok (fun b hb x hx => (inst_dst hS hb hx).1) hr
   have hsame := refSame_spec (E := E) (numF f r) (numF f r) (small_num hsm r).ok
   rw [qv rfl] at hsame
   refine zd<|zSr<|z2 (zl isAgg26 sizeOf26 rfl rfl)<|zk (hnum) rfl<|z2 (zMu rfl)<|z2 (qb (v := .agg _) rfl rfl)<|z2 (zXi rfl rfl)<|y4 (cs := [.raw (.slice none 0 0), .raw (.slice none 0 0), .raw (.slice none 0 0)]) zeroValue26 rfl rfl<|fun i3 => zw sizeOf26 rfl rfl rfl rfl rfl rfl .head rfl<|ze (yh (t := 3) rfl .head)<|z2 (zAi rfl)<|z6<|za<|zSr<|z2 (zl isAgg26 sizeOf26 rfl rfl)<|zk (hlS) rfl<|z2 (yo rfl)<|z6<|yl rfl rfl<|zd<|za<|yb (fun j => false) (by kernel_rfl) rfl (zq (.rest _))<|zTk 0 rfl (zMi rfl)<|zTk 1 rfl (y9 rfl rfl)<|zTk 2 rfl (zMb rfl)<|zTt 3 rfl rfl rfl rfl (zl isAgg26 sizeOf26 rfl rfl)<|zTt 4 rfl rfl rfl rfl (zl isAgg26 sizeOf26 rfl rfl)<|zOn 5 rfl<|z8 rfl rfl rfl<|zk (hdoc) rfl<|z6<|zOn 6 rfl<|z8 rfl rfl rfl<|zk (hsame) rfl<|z6<|zTk 7 rfl (zPt rfl rfl rfl)<|zTk 8 rfl (zAb rfl)<|zDn<|zh<|zj (x := .bool _) rfl ?_
   rfl
  ·have hbad := numF_bad (E := E) f hsm hL hts
   rw [hts] at hlS
   refine zd<|zSr<|z2 (zl isAgg26 sizeOf26 rfl rfl)<|zk (hbad) rfl<|z2 (zMu rfl)<|z2 (qb (v := .agg _) rfl rfl)<|z2 (zXi rfl rfl)<|y4 (cs := [.raw (.slice none 0 0), .raw (.slice none 0 0), .raw (.slice none 0 0)]) zeroValue26 rfl rfl<|fun i3 => zw sizeOf26 rfl rfl rfl rfl rfl rfl .head rfl<|ze (yh (t := 3) rfl .head)<|z2 (zAi rfl)<|z6<|za<|zSr<|z2 (zl isAgg26 sizeOf26 rfl rfl)<|zk (hlS) rfl<|z2 (yo rfl)<|z6<|yk rfl rfl<|zSr<|z2 (zMi rfl)<|z2 (y9 rfl rfl)<|z2 (zMb rfl)<|z8 rfl rfl rfl<|z2 (zFF underlying26 rfl sizeOf24 rfl rfl)<|z8 rfl rfl rfl<|z2 (yv (c := .raw _) isAgg24 rfl)<|z8 rfl rfl rfl<|z2 (Gv.lenR underlying24 rfl)<|z8 rfl rfl rfl<|z2 (y9 rfl rfl)<|z2 (zPt rfl rfl rfl)<|z2 (zAb rfl)<|z6<|zh<|zj (x := .bool _) rfl ?_
   rfl
end Go.Proofs.YtiojekbkamegdaaGreatDoor
namespace Go.Proofs.YtiojekbkamegdaaGreatDoor
open Go.Proofs.Tryz
open Go.Proofs Go.Lib Go.Shelf Go.RowKit Go.WideShapes
set_option maxRecDepth 20000
variable {W : World}
theorem decI : Dec prog W 3 encI (fun x => (Lit.int .i64 x).wf = true) := Dec.int underlying3
theorem decIs : Dec prog W 23 (fun l : List Int => [.fro 1 (l.map encI)]) wL := fun en held fuel cs x h => by
 obtain ⟨l, hl, r⟩ := Dec.slice (k := 1) underlying23 decI (by kernel_rfl) (by decide) en held fuel cs x h
 exact ⟨l, hl.2, r⟩
theorem decVar : Dec prog W 79 encVar (fun _ => True) := fun en held fuel cs x h => by
 obtain ⟨xs, n, _, _, hl, hxl, hf⟩ := DataW.trod_struct underlying79 h
 have hl : cs.length = 2 := hl.trans (by kernel_rfl)
 have hxl : xs.length = 2 := hxl
 obtain ⟨a, _, ra⟩ := Dec.at (o := 0) (k := 1) (hf 0 _ rfl) (Dec.str underlying9) (by omega) rfl (by kernel_rfl)
 obtain ⟨b, _, rb⟩ := Dec.at (o := 1) (k := 1) (hf 1 _ rfl) (Dec.int underlying77) (by omega) rfl (by kernel_rfl)
 exact ⟨⟨a, b⟩, trivial, q8 (o := 0) ra (q8 rb (RepL.fin hl))⟩
theorem decPhi : Dec prog W 81 encPhi wPhi := fun en held fuel cs x h => by
 obtain ⟨xs, n, _, _, hl, hxl, hf⟩ := DataW.trod_struct underlying81 h
 have hl : cs.length = 3 := hl.trans (by kernel_rfl)
 have hxl : xs.length = 3 := hxl
 obtain ⟨a, _, ra⟩ := Dec.at (o := 0) (k := 1) (hf 0 _ rfl) decI (by omega) rfl (by kernel_rfl)
 obtain ⟨b, hb, rb⟩ := Dec.at (o := 1) (k := 1) (hf 1 _ rfl) decIs (by omega) rfl (by kernel_rfl)
 obtain ⟨c, hc, rc⟩ := Dec.at (o := 2) (k := 1) (hf 2 _ rfl) decIs (by omega) rfl (by kernel_rfl)
 exact ⟨⟨a, b, c⟩, ⟨hb, hc⟩, q8 (o := 0) ra (q8 rb (q8 rc (RepL.fin hl)))⟩
def wInst (x : PInst) : Prop := wL x.args ∧ (Lit.int .i64 x.num).wf = true
theorem decInst : Dec prog W 61 encInst wInst := fun en held fuel cs x h => by
 obtain ⟨xs, n, _, _, hl, hxl, hf⟩ := DataW.trod_struct underlying61 h
 have hl : cs.length = 4 := hl.trans (by kernel_rfl)
 have hxl : xs.length = 4 := hxl
 obtain ⟨a, _, ra⟩ := Dec.at (o := 0) (k := 1) (hf 0 _ rfl) (Dec.int underlying59) (by omega) rfl (by kernel_rfl)
 obtain ⟨b, _, rb⟩ := Dec.at (o := 1) (k := 1) (hf 1 _ rfl) decI (by omega) rfl (by kernel_rfl)
 obtain ⟨c, hc, rc⟩ := Dec.at (o := 2) (k := 1) (hf 2 _ rfl) decIs (by omega) rfl (by kernel_rfl)
 obtain ⟨d, hd, rd⟩ := Dec.at (o := 3) (k := 1) (hf 3 _ rfl) (Dec.int underlying2) (by omega) rfl (by kernel_rfl)
 exact ⟨⟨a, b, c, d⟩, ⟨hc, hd⟩, q8 (o := 0) ra (q8 rb (q8 rc (q8 rd (RepL.fin hl))))⟩
theorem decTerm : Dec prog W 56 encTerm (fun _ => True) := fun en held fuel cs x h => by
 obtain ⟨xs, n, _, _, hl, hxl, hf⟩ := DataW.trod_struct underlying56 h
 have hl : cs.length = 4 := hl.trans (by kernel_rfl)
 have hxl : xs.length = 3 := hxl
 obtain ⟨a, _, ra⟩ := Dec.at (o := 0) (k := 1) (hf 0 _ rfl) (Dec.int underlying53) (by omega) rfl (by kernel_rfl)
 obtain ⟨b, _, rb⟩ := Dec.at (o := 1) (k := 1) (hf 1 _ rfl) decI (by omega) rfl (by kernel_rfl)
 obtain ⟨c, _, rc⟩ := Dec.at (o := 2) (k := 2) (hf 2 _ rfl) (Dec.pair (k := 1) underlying54 decI (by kernel_rfl) (by kernel_rfl)) (by omega) rfl (by kernel_rfl)
 exact ⟨⟨a, b, c.1, c.2⟩, trivial, q8 (o := 0) ra (q8 rb (q8 rc (RepL.fin hl)))⟩
def NumsI (f : PFunc) : Prop := ∀ b ∈ f.blocks, ∀ x ∈ b.insts, is64 x.num
def wBlkN (b : PBlock) : Prop := wBlk b ∧ ∀ x ∈ b.insts, -9223372036854775808 ≤ x.num ∧ x.num ≤ 9223372036854775807
theorem decBlkN : Dec prog W 58 encBlk wBlkN := fun en held fuel cs x h => by
 obtain ⟨xs, n, _, _, hl, hxl, hf⟩ := DataW.trod_struct underlying58 h
 have hl : cs.length = 7 := hl.trans (by kernel_rfl)
 have hxl : xs.length = 4 := hxl
 obtain ⟨a, _, ra⟩ := Dec.at (o := 0) (k := 1) (hf 0 _ rfl) (Dec.str underlying9) (by omega) rfl (by kernel_rfl)
 obtain ⟨b, hb, rb⟩ := Dec.at (o := 1) (k := 1) (hf 1 _ rfl) (Dec.slice (k := 3) underlying51 decPhi (by kernel_rfl) (by decide)) (by omega) rfl (by kernel_rfl)
 obtain ⟨c, hc, rc⟩ := Dec.at (o := 2) (k := 1) (hf 2 _ rfl) (Dec.slice (k := 4) underlying52 decInst (by kernel_rfl) (by decide)) (by omega) rfl (by kernel_rfl)
 obtain ⟨d, _, rd⟩ := Dec.at (o := 3) (k := 4) (hf 3 _ rfl) decTerm (by omega) rfl (by kernel_rfl)
 exact ⟨⟨a, b, c, d⟩, ⟨⟨hb.2, hc.2, hb.1, fun x hx => (hc.1 x hx).1⟩, fun x hx => by simpa [Lit.wf, IntKind.min, IntKind.max, IntKind.signed, IntKind.bits] using (hc.1 x hx).2⟩, q8 (o := 0) ra (q8 rb (q8 rc (q8 rd (RepL.fin hl))))⟩
theorem decFN : Dec prog W 26 encF (fun f => wFunc f ∧ NumsI f) := fun en held fuel cs x h => by
 obtain ⟨xs, n, _, _, hl, hxl, hf⟩ := DataW.trod_struct underlying26 h
 have hl : cs.length = 3 := hl.trans (by kernel_rfl)
 have hxl : xs.length = 3 := hxl
 obtain ⟨a, ha, ra⟩ := Dec.at (o := 0) (k := 1) (hf 0 _ rfl) (Dec.slice (k := 2) underlying22 decVar (by kernel_rfl) (by decide)) (by omega) rfl (by kernel_rfl)
 obtain ⟨b, hb, rb⟩ := Dec.at (o := 1) (k := 1) (hf 1 _ rfl) decIs (by omega) rfl (by kernel_rfl)
 obtain ⟨c, hc, rc⟩ := Dec.at (o := 2) (k := 1) (hf 2 _ rfl) (Dec.slice (k := 7) underlying24 decBlkN (by kernel_rfl) (by decide)) (by omega) rfl (by kernel_rfl)
 exact ⟨⟨a, b, c⟩, ⟨⟨ha.2, hb, hc.2, fun x hx => (hc.1 x hx).1⟩, fun x hx => (hc.1 x hx).2⟩, q8 (o := 0) ra (q8 rb (q8 rc (RepL.fin hl)))⟩
theorem of_struct {H : Type} {enc : TypeId × Value → H} {held : Bool} {α : Type} {T : TypeId} {e : α → List AV} {ok : α → Prop} {fs : Array Field} {base : Nat} {v : Value} {d : DataW H} {p : List MemPlace} (hd : Dec prog W T e ok) (ht : prog.underlying T = some (.struct fs))
  (hv : Value.okWide prog W .any base T v) (h : DataW.Trod enc prog W 0 (fun _ => true) held T v d p) : ∃ a, ok a ∧ RepV (I0 W) (.agg (e a)) v := by
 obtain ⟨cs, rfl, _⟩ := okWide_struct ht hv
 obtain ⟨fuel, h⟩ := h
 obtain ⟨a, h1, h2⟩ := hd enc held fuel _ _ h
 exact ⟨a, h1, cs.toList, by simp, h2⟩
theorem xTab : RExtra prog Tryz.lays200_ren := ⟨by kernel_rfl, by kernel_rfl, by kernel_rfl, by kernel_rfl, by kernel_rfl, by kernel_rfl, by kernel_rfl, by kernel_rfl⟩
theorem letters_of (h : Lib.VarReads prog W "unicode.properties" (Lib.tabData .u8 Lib.propertiesTab)) (h2 : Lib.VarReads prog W "unicode.Letter" (Lib.rtabData letterT)) : Letters W :=
 ⟨tabIs_of_reads (g := 0) (by kernel_rfl) (by kernel_rfl) underlying300 underlying5 (by kernel_rfl) (by kernel_rfl) h,
  rvar_of_reads { Tryz.lays200 with } xTab (name := "unicode.Letter") (g := 1) (by kernel_rfl) (by kernel_rfl) h2⟩
end Go.Proofs.YtiojekbkamegdaaGreatDoor
namespace Go.Proofs.YtiojekbkamegdaaGreatDoor
open Go.Proofs.Tryz
open Go.Proofs
theorem fMay : prog.mayEnter = true := by kernel_rfl
theorem fLift : (Rows.numberTellsRow.lifted == prog.liftsFinal) = true := by kernel_rfl
theorem fMake : (prog.make == some Rows.numberTellsRow.make) = true := by kernel_rfl
theorem fLaid : laidOutB prog = true := by kernel_rfl
theorem fRow : mapsRowed prog = true := by kernel_rfl
theorem fStop : (prog.stops == []) = true := by kernel_rfl
theorem fKnob : (prog.stopKnobs == []) = true := by kernel_rfl
theorem fKeys : (Rows.numberTellsRow.plainKeys == prog.plainKeys) = true := by kernel_rfl
theorem fHeard : prog.stopsHeard = true := by kernel_rfl
theorem gIn : (Rows.numberTellsRow.inPlace == prog.inPlace 3) = true := by kernel_rfl
theorem gUn : (Rows.numberTellsRow.unfollowed == prog.unfollowed 3) = true := by kernel_rfl
theorem gRec : (Rows.numberTellsRow.recurses == prog.recurses 3) = true := by kernel_rfl
theorem gNam : (Rows.numberTellsRow.named == prog.varsNamed 3) = true := by kernel_rfl
theorem closed : joinedFacts prog 3 Tryz.f3 Rows.numberTellsSpec Rows.numberTellsRow = true := by
 unfold joinedFacts
 rw [fLaid, fRow, fStop, fKnob, gIn, gUn, gRec, gNam, fKeys, fHeard, fMay, fLift, fMake]
 kernel_rfl
end Go.Proofs.YtiojekbkamegdaaGreatDoor
