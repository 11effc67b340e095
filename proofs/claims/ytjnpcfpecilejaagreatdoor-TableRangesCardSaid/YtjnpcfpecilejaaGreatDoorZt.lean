/- What is asked of the program itself, of the law TableRanges, fact for fact. No conditions. -/
import Derived.Test.YtjnpcfpecilejaaGreatDoorZs
import Derived.Test.YtjnpcfpecilejaaGreatDoorZc
import Derived.Test.YtjnpcfpecilejaaGreatDoorZh
import Derived.Test.YtjnpcfpecilejaaGreatDoorZd
import Derived.Lib.LaidRTab
import Derived.Test.YtjnpcfpecilejaaGreatDoorRows
import Derived.Test.YtjnpcfpecilejaaGreatDoorChecked
import Derived.ProofKit
import Derived.JoinedOf
set_option linter.unusedVariables false
set_option linter.unusedSimpArgs false
set_option linter.unusedSectionVars false
namespace Go.Proofs.YtjnpcfpecilejaaGreatDoor
open Go.Proofs.Tryz
open Go.Proofs Go.Lib Go.Shelf Go.RowKit
variable {E : World}
set_option maxRecDepth 20000
theorem takes_10 : takesL 10 = [1] := by decide
theorem takes_11 : takesL 11 = [1, 1] := by decide
theorem typed_bool {f : PFunc} (h : typedB f = true) : ∀ b ∈ f.blocks, ∀ x ∈ b.insts, x.op = 10 ∨ x.op = 11 → ∀ v ∈ x.args, tyV f v = 1 := by
 intro b hb x hx hop v hv
 unfold typedB at h
 rw [Bool.and_eq_true] at h
 have h1 := List.all_eq_true.1 h.2 b hb
 unfold blkT at h1
 simp only [Bool.and_eq_true] at h1
 have h2 := List.all_eq_true.1 h1.1.2 x hx
 unfold instT at h2
 rw [if_neg (by omega)] at h2
 rw [Bool.and_eq_true, decide_eq_true_eq] at h2
 have h3 : kindV f v ∈ takesL x.op := by rw [← h2.1]; exact List.mem_map_of_mem hv
 show kindV f v = 1
 rcases hop with e | e <;> rw [e] at h3
 ·rw [takes_10] at h3; simpa using h3
 ·rw [takes_11] at h3; simpa using h3
theorem sing_once {f : PFunc} (h : singB f = true) : OnceP f := (onceB_iff f).1 (by unfold singB at h; simp only [Bool.and_eq_true] at h; exact h.2.2.1)
theorem ruleF_of {f : PFunc} (hf : small f) (h : (typedB f && singB f) = true) : RuleF f := ⟨hf, typedB_shaped (and3 h).1, sing_once (and3 h).2, typed_bool (and3 h).1⟩
theorem rule_chk {f : PFunc} (hS : ShapedP f) {l : List Rng} {v : Nat} (hv : v < f.vars.length) (hm : 0 ≤ (makerT f v).1) (ho : OnceP f) : ruleR f (gb (chkL f)) l v = ruleR f (chkV f) l v := by
 obtain ⟨i, b, h1, ⟨p, h2, h3, h4⟩ | ⟨k, x, h2, h3, h4⟩⟩ := maker_cases hm
 ·rw [rule_phi (ho v hv).1 h1 h2 h3 h4, rule_phi (ho v hv).1 h1 h2 h3 h4]
 ·rw [rule_inst h1 h2 h4, rule_inst h1 h2 h4]
  unfold instR
  rw [h3, chkL_gb (by omega) (by omega)]
theorem notdecT {p : Prop} [Decidable p] (h : (!decide p) = true) : ¬ p := fun hp => by rw [decide_eq_true hp] at h; cases h
theorem notdecF {p : Prop} [Decidable p] (h : (!decide p) = false) : p := Classical.byContradiction fun hp => by rw [decide_eq_false hp] at h; cases h
def firstP (f : PFunc) (v : Int) : Rng := if typedB f = true ∧ 0 ≤ v ∧ v < f.vars.length then firstR f v else noR
theorem vFirst_spec (f : PFunc) (hf : small f) (hL : Letters E) (v : Int) : AFun Tryz.prog E 36 [.agg (encF f), .int .i64 v] (.agg (encZ (firstP f v))) := by
 have hvn := hf.1
 have hp := hf.2.1
 have hT := Typed_spec (E := E) f hf hL
 refine zy func36 rfl (by decide) rfl<|za<|z7 rfl<|yc (cs := _) rfl rfl rfl<|y1 (cs := [.int .i64 0, .int .i64 0]) zeroValue74 rfl rfl<|fun i4 => z6<|za<|zq<|za<|yq (γ := Bool) [1, 2, 4] (fun u => [(5, .bool u)]) (fun u => [(i4, .cells 74 [.int .i64 0, .int .i64 0])]) (fun u => u = !decide (typedB f = true ∧ 0 ≤ v ∧ v < f.vars.length)) ?_ (fun _ _ h => h) ?_
 ·refine z7 rfl<|z2 (zo isAgg26 sizeOf26 rfl rfl)<|zh (hT) rfl<|z2 (yx rfl rfl)<|z2 (zc (v := .bool _) rfl)<|zz (s := 9) rfl (fun c1 => ?_) (fun c1 => ?_)
  ·refine z8 rfl rfl c1<|z8 rfl rfl c1<|z2 (zu (v := .bool _) rfl c1 rfl)<|z2 (zc (v := .bool _) rfl)<|z8 rfl rfl rfl<|z8 rfl rfl rfl<|z8 rfl rfl rfl<|z8 rfl rfl rfl<|z8 rfl rfl rfl<|z2 (zu (v := .bool _) rfl rfl rfl)<|z2 (zd (v := .bool _) rfl)<|z6 ?_
   exact ⟨_, ⟨rfl, rfl, rfl, trivial⟩, ⟨rfl, trivial⟩, ⟨_, (.refl _), rfl⟩, by have h : typedB f = false := (by cases ht : typedB f; rfl; rw [ht] at c1; simp at c1); simp [h]⟩
  ·have h1 : typedB f = true := by cases ht : typedB f; rw [ht] at c1; simp at c1; rfl
   refine zb rfl rfl c1<|z2 (zc (v := .int _ _) rfl)<|zb rfl rfl c1<|z2 (yj rfl rfl)<|z2 (zw (v := .bool _) rfl c1 rfl)<|z2 (zc (v := .bool _) rfl)<|zz (s := 13) rfl (fun c2 => ?_) (fun c2 => ?_)
   ·refine z8 rfl rfl c2<|z8 rfl rfl c2<|z8 rfl rfl c2<|z8 rfl rfl c2<|z8 rfl rfl c2<|z2 (zu (v := .bool _) rfl c2 rfl)<|z2 (zd (v := .bool _) rfl)<|z6 ?_
    exact ⟨_, ⟨rfl, rfl, rfl, trivial⟩, ⟨rfl, trivial⟩, ⟨_, (.refl _), rfl⟩, by have h : v < 0 := (by simpa using c2); simp; omega⟩
   ·refine zb rfl rfl c2<|z2 (zc (v := .int _ _) rfl)<|zb rfl rfl c2<|z2 (zg underlying26 rfl sizeOf22 (by decide) rfl rfl)<|zb rfl rfl c2<|z2 (zf (c := .fro _ _) isAgg22 rfl)<|zb rfl rfl c2<|z2 (yd underlying22 rfl)<|zb rfl rfl c2<|z2 (qf rfl rfl)<|z2 (zw (v := .bool _) rfl c2 rfl)<|z2 (zd (v := .bool _) rfl)<|z6 ?_
    exact ⟨_, ⟨rfl, rfl, rfl, trivial⟩, ⟨rfl, trivial⟩, ⟨_, (.refl _), rfl⟩, by have h : ¬ v < 0 := (by simpa using c2); rw [Bool.eq_iff_iff]; simp [h1]; omega⟩
 ·rintro u hu
  subst hu
  refine y8 rfl (fun c => ?_) (fun c => ?_)
  ·refine za<|z7 rfl<|zh (iNone) rfl<|zi sizeOf74 rfl rfl rfl rfl rfl rfl .head rfl<|z6<|zj<|yl rfl ⟨_, .head⟩ isAgg74 sizeOf74 rfl ?_
   rw [firstP, if_neg (notdecT c)]; try rfl
  ·have hc : typedB f = true ∧ 0 ≤ v ∧ v < f.vars.length := notdecF c
   rw [firstP, if_pos hc, firstR]
   have hvl : v.toNat < f.vars.length := by omega
   have hty : tyV f v = f.vars[v.toNat].ty := by unfold tyV; rw [List.getElem?_eq_getElem hvl]; rfl
   refine za<|z7 rfl<|z2 (zc (v := .int _ _) rfl)<|z2 (zg underlying26 rfl sizeOf23 (by decide) rfl rfl)<|z2 (zf (c := .fro _ _) isAgg23 rfl)<|z2 (yd underlying23 rfl)<|z2 (yj rfl rfl)<|z2 (zd (v := .bool _) rfl)<|z6<|zt rfl (fun c2 => ?_) (fun c2 => ?_)
   ·refine za<|z7 rfl<|z2 (zg underlying26 rfl sizeOf22 (by decide) rfl rfl)<|z2 (zf (c := .fro _ _) isAgg22 rfl)<|z2 (zc (v := .int _ _) rfl)<|z2 (y7 (j := v.toNat) underlying22 sizeOf56 rfl rfl (by omega) (List.getElem?_eq_getElem hvl)) ?_
    refine z2 (zg underlying56 rfl sizeOf54 (by decide) rfl rfl)<|z2 (zf (c := .int _ _) isAgg54 rfl)<|zh (iType _) rfl<|zi sizeOf74 rfl rfl rfl rfl rfl rfl .head rfl<|z6<|zj<|yl rfl ⟨_, .head⟩ isAgg74 sizeOf74 rfl ?_
    rw [if_pos c2, hty]; try rfl
   ·refine zk<|za<|z7 rfl<|zh (iOf _) rfl<|zi sizeOf74 rfl rfl rfl rfl rfl rfl .head rfl<|z6<|zj<|yl rfl ⟨_, .head⟩ isAgg74 sizeOf74 rfl ?_
    rw [if_neg c2]; try rfl
def ruleB (f : PFunc) (l : List Rng) (v : Int) : Bool := (typedB f && singB f) && decide (l.length = f.vars.length ∧ 0 ≤ v ∧ v < f.vars.length ∧ 0 ≤ (makerT f v).1)
def ruleP (f : PFunc) (l : List Rng) (v : Int) : Rng := if ruleB f l v = true then ruleR f (chkV f) l v else noR
theorem lv_ok {l : List Rng} (h : ∀ r ∈ l, ok64 r) (u : Int) : ok64 (lv l u) := by
 unfold lv
 cases hu : l[u.toNat]? with
 | none => exact noR_ok
 | some r => exact h r (List.mem_of_getElem? hu)
set_option maxHeartbeats 4000000 in
theorem vRule_ok (f : PFunc) (hf : small f) (hL : Letters E) (l : List Rng) (ho : ∀ r ∈ l, ok64 r) (hl : l.length ≤ 9223372036854775807) (v : Int) (hs : (typedB f && singB f) = true) : AFun Tryz.prog E 40 [.agg (encF f), .fro 2 (l.map encZ), .int .i64 v] (.tup [.agg (encZ (ruleP f l v)), .bool (ruleB f l v)]) := by
 have hvn := hf.1
 have hF := ruleF_of hf hs
 have hS := hF.shaped
 have hlk := look_ok (E := E) f hf hL hs
 refine zy func40 rfl (by decide) rfl<|za<|z7 rfl<|yc (cs := _) rfl rfl rfl<|y1 (cs := [.int .i64 0, .int .i64 0]) zeroValue74 rfl rfl<|fun i6 => z2 (zd (v := .bool _) rfl)<|z6<|za<|z7 rfl<|z2 (zo isAgg26 sizeOf26 rfl rfl)<|yk rfl (y4 (.r (.rest _))) (hlk) ?_
 rintro r12 O12 ⟨iv, rfl, rfl⟩
 refine z2 (zc (v := .tup _) rfl)<|z2 (yr (v := .po _ _) rfl rfl)<|z2 (yr (v := .int _ _) rfl rfl)<|z2 (zd (v := .po _ _) rfl)<|z2 (zd (v := .int _ _) rfl)<|z6<|za<|za<|yq (γ := Bool) [1, 2, 6, 8] (fun u => [(46, .bool u)]) (fun u => [(iv, .cells 125 (viewL f (chkL f) (.raw (.slice none 0 0)))), (i6, .cells 74 [.int .i64 0, .int .i64 0])]) (fun u => u = !decide (l.length = f.vars.length ∧ 0 ≤ v ∧ v < f.vars.length ∧ 0 ≤ (makerT f v).1)) ?_ (fun _ _ h => h) ?_
 ·refine z7 rfl<|z2 (zc (v := .int _ _) rfl)<|z2 (yx rfl rfl)<|z2 (zc (v := .bool _) rfl)<|zz (s := 17) rfl (fun c1 => ?_) (fun c1 => ?_)
  ·exfalso; simp at c1
  ·refine zb rfl rfl c1<|z2 (zc (v := .fro _ _) rfl)<|zb rfl rfl c1<|z2 (yd underlying41 rfl)<|zb rfl rfl c1<|z2 (zg underlying26 rfl sizeOf22 (by decide) rfl rfl)<|zb rfl rfl c1<|z2 (zf (c := .fro _ _) isAgg22 rfl)<|zb rfl rfl c1<|z2 (yd underlying22 rfl)<|zb rfl rfl c1<|z2 (yx rfl rfl)<|z2 (zw (v := .bool _) rfl c1 rfl)<|z2 (zc (v := .bool _) rfl)<|zz (s := 25) rfl (fun c2 => ?_) (fun c2 => ?_)
   ·refine z8 rfl rfl c2<|z8 rfl rfl c2<|z2 (zu (v := .bool _) rfl c2 rfl)<|z2 (zc (v := .bool _) rfl)<|z8 rfl rfl rfl<|z8 rfl rfl rfl<|z8 rfl rfl rfl<|z8 rfl rfl rfl<|z8 rfl rfl rfl<|z2 (zu (v := .bool _) rfl rfl rfl)<|z2 (zc (v := .bool _) rfl)<|z8 rfl rfl rfl<|z8 rfl rfl rfl<|z8 rfl rfl rfl<|z8 rfl rfl rfl<|z8 rfl rfl rfl<|z8 rfl rfl rfl<|z8 rfl rfl rfl<|z8 rfl rfl rfl<|z8 rfl rfl rfl<|z2 (zu (v := .bool _) rfl rfl rfl)<|z6 ?_
    exact ⟨_, ⟨rfl, rfl, rfl, rfl, trivial⟩, ⟨rfl, trivial⟩, ⟨_, (.refl _), rfl⟩, by have h : ¬ l.length = f.vars.length := (by intro e; rw [e] at c2; simp at c2); simp [h]⟩
   ·have h1 : l.length = f.vars.length := by have h : (!decide ((l.length : Int) = (f.vars.length : Int))) = false := c2; simp at h; omega
    refine zb rfl rfl c2<|z2 (zc (v := .int _ _) rfl)<|zb rfl rfl c2<|z2 (yj rfl rfl)<|z2 (zw (v := .bool _) rfl c2 rfl)<|z2 (zc (v := .bool _) rfl)<|zz (s := 29) rfl (fun c3 => ?_) (fun c3 => ?_)
    ·refine z8 rfl rfl c3<|z8 rfl rfl c3<|z8 rfl rfl c3<|z8 rfl rfl c3<|z8 rfl rfl c3<|z2 (zu (v := .bool _) rfl c3 rfl)<|z2 (zc (v := .bool _) rfl)<|z8 rfl rfl rfl<|z8 rfl rfl rfl<|z8 rfl rfl rfl<|z8 rfl rfl rfl<|z8 rfl rfl rfl<|z8 rfl rfl rfl<|z8 rfl rfl rfl<|z8 rfl rfl rfl<|z8 rfl rfl rfl<|z2 (zu (v := .bool _) rfl rfl rfl)<|z6 ?_
     exact ⟨_, ⟨rfl, rfl, rfl, rfl, trivial⟩, ⟨rfl, trivial⟩, ⟨_, (.refl _), rfl⟩, by have h : v < 0 := (by simpa using c3); simp; omega⟩
    ·have h2 : ¬ v < 0 := by simpa using c3
     refine zb rfl rfl c3<|z2 (zc (v := .int _ _) rfl)<|zb rfl rfl c3<|z2 (zg underlying26 rfl sizeOf22 (by decide) rfl rfl)<|zb rfl rfl c3<|z2 (zf (c := .fro _ _) isAgg22 rfl)<|zb rfl rfl c3<|z2 (yd underlying22 rfl)<|zb rfl rfl c3<|z2 (qf rfl rfl)<|z2 (zw (v := .bool _) rfl c3 rfl)<|z2 (zc (v := .bool _) rfl)<|zz (s := 36) rfl (fun c4 => ?_) (fun c4 => ?_)
     ·refine z8 rfl rfl c4<|z8 rfl rfl c4<|z8 rfl rfl c4<|z8 rfl rfl c4<|z8 rfl rfl c4<|z8 rfl rfl c4<|z8 rfl rfl c4<|z8 rfl rfl c4<|z8 rfl rfl c4<|z2 (zu (v := .bool _) rfl c4 rfl)<|z6 ?_
      exact ⟨_, ⟨rfl, rfl, rfl, rfl, trivial⟩, ⟨rfl, trivial⟩, ⟨_, (.refl _), rfl⟩, by have h : (f.vars.length : Int) ≤ v := (by simpa using c4); simp; omega⟩
     ·have h3 : ¬ (f.vars.length : Int) ≤ v := by simpa using c4
      have hmk0 := makersT_get (f := f) (v := v.toNat) (by omega)
      rw [show ((v.toNat : Nat) : Int) = v by omega] at hmk0
      refine zb rfl rfl c4<|z2 (zc (v := .po _ _) rfl)<|zb rfl rfl c4<|z2 (q3 rfl)<|zb rfl rfl c4<|z2 (y3 underlying125 rfl sizeOf102 (by decide) rfl rfl)<|zb rfl rfl c4<|z2 (y5 (c := .fro _ _) isAgg102 rfl ⟨_, .head⟩ rfl)<|zb rfl rfl c4<|z2 (zc (v := .int _ _) rfl)<|zb rfl rfl c4<|z2 (y7 (j := v.toNat) underlying102 sizeOf109 rfl rfl (by omega) hmk0)<|zb rfl rfl c4<|z2 (zg underlying109 rfl sizeOf3 (by decide) rfl rfl)<|zb rfl rfl c4<|z2 (zf (c := .int _ _) isAgg3 rfl)<|zb rfl rfl c4<|z2 (yj rfl rfl)<|z2 (zw (v := .bool _) rfl c4 rfl)<|z6 ?_
      exact ⟨_, ⟨rfl, rfl, rfl, rfl, trivial⟩, ⟨rfl, trivial⟩, ⟨_, (.refl _), rfl⟩, by rw [Bool.eq_iff_iff]; simp [h1]; omega⟩
 ·rintro u hu
  subst hu
  refine y8 rfl (fun c => ?_) (fun c => ?_)
  ·have hc : ¬ (l.length = f.vars.length ∧ 0 ≤ v ∧ v < f.vars.length ∧ 0 ≤ (makerT f v).1) := notdecT c
   have hb : ruleB f l v = false := by unfold ruleB; rw [decide_eq_false hc, Bool.and_false]
   refine za<|z7 rfl<|zh (iNone) rfl<|zi sizeOf74 rfl rfl rfl rfl rfl rfl (.tail .head) rfl<|z2 (zd (v := .bool _) rfl)<|z6<|zj<|afin.c1t (y := .bool _) rfl rfl ⟨_, (.tail .head)⟩ isAgg74 sizeOf74 rfl ?_
   rw [ruleP, hb, if_neg (by decide)]; try rfl
  ·have hc : l.length = f.vars.length ∧ 0 ≤ v ∧ v < f.vars.length ∧ 0 ≤ (makerT f v).1 := notdecF c
   obtain ⟨hll, h0, h1, hm⟩ := hc
   have hb : ruleB f l v = true := by unfold ruleB; rw [hs, decide_eq_true ⟨hll, h0, h1, hm⟩]; rfl
   have hvv : ((v.toNat : Nat) : Int) = v := by omega
   have hvr := vrule_spec (E := E) f hF l (chkL f) (chkL_len f) (.fro 2 (l.map encZ)) (i := i6) (HL := .cells 74 [.int .i64 0, .int .i64 0]) (fun ha => of_fro f hS (chkL f) l hll i6 _ ha) (fun u _ => lv_ok ho u) v.toNat (by omega) (by rw [hvv]; exact hm)
   rw [rule_chk hS (by omega) (by rw [hvv]; exact hm) hF.once, hvv] at hvr
   refine zk<|za<|z7 rfl<|z2 (zc (v := .po _ _) rfl)<|z2 (zc (v := .fro _ _) rfl)<|z2 (q3 rfl)<|z2 (y3 underlying125 rfl sizeOf41 (by decide) rfl rfl)<|qa (l := [_]) (new := [_, _, _, _, _, _]) sizeOf41 rfl rfl rfl rfl rfl rfl .head rfl rfl<|z6<|yw (yp (t := 8) rfl .head)<|za<|z7 rfl<|z2 (zc (v := .pf _) rfl)<|z2 (zc (v := .int _ _) rfl)<|yk rfl (y4 (.l (.rest _))) (hvr) ?_
   rintro r54 O54 ⟨rfl, rfl⟩
   refine zi sizeOf74 rfl rfl rfl rfl rfl rfl .head rfl<|z2 (zd (v := .bool _) rfl)<|z6<|zj<|afin.c1t (y := .bool _) rfl rfl ⟨_, .head⟩ isAgg74 sizeOf74 rfl ?_
   rw [ruleP, hb, if_pos rfl]; try rfl
theorem vRule_bad (f : PFunc) (hf : small f) (hL : Letters E) (l : List Rng) (ho : ∀ r ∈ l, ok64 r) (hl : l.length ≤ 9223372036854775807) (v : Int) (hs : ¬ (typedB f && singB f) = true) : AFun Tryz.prog E 40 [.agg (encF f), .fro 2 (l.map encZ), .int .i64 v] (.tup [.agg (encZ (ruleP f l v)), .bool (ruleB f l v)]) := by
 have hs2 : (typedB f && singB f) = false := by simpa using hs
 have hlk := look_bad (E := E) f hf hL hs2
 have hb : ruleB f l v = false := by unfold ruleB; rw [hs2]; rfl
 refine zy func40 rfl (by decide) rfl<|za<|z7 rfl<|yc (cs := _) rfl rfl rfl<|y1 (cs := [.int .i64 0, .int .i64 0]) zeroValue74 rfl rfl<|fun i6 => z2 (zd (v := .bool _) rfl)<|z6<|za<|z7 rfl<|z2 (zo isAgg26 sizeOf26 rfl rfl)<|zh (hlk) rfl<|z2 (zc (v := .tup _) rfl)<|z2 (yr (v := .raw _) rfl rfl)<|z2 (yr (v := .int _ _) rfl rfl)<|z2 (zd (v := .raw _) rfl)<|z2 (zd (v := .int _ _) rfl)<|z6<|za<|za<|z7 rfl<|z2 (zc (v := .int _ _) rfl)<|z2 (yx rfl rfl)<|z2 (zc (v := .bool _) rfl)<|z8 rfl rfl rfl<|z8 rfl rfl rfl<|z8 rfl rfl rfl<|z8 rfl rfl rfl<|z8 rfl rfl rfl<|z8 rfl rfl rfl<|z2 (zu (v := .bool _) rfl rfl rfl)<|z2 (zc (v := .bool _) rfl)<|z8 rfl rfl rfl<|z8 rfl rfl rfl<|z2 (zu (v := .bool _) rfl rfl rfl)<|z2 (zc (v := .bool _) rfl)<|z8 rfl rfl rfl<|z8 rfl rfl rfl<|z8 rfl rfl rfl<|z8 rfl rfl rfl<|z8 rfl rfl rfl ?_
 refine z2 (zu (v := .bool _) rfl rfl rfl)<|z2 (zc (v := .bool _) rfl)<|z8 rfl rfl rfl<|z8 rfl rfl rfl<|z8 rfl rfl rfl<|z8 rfl rfl rfl<|z8 rfl rfl rfl<|z8 rfl rfl rfl<|z8 rfl rfl rfl<|z8 rfl rfl rfl<|z8 rfl rfl rfl<|z2 (zu (v := .bool _) rfl rfl rfl)<|z6<|q6 rfl rfl<|za<|z7 rfl<|zh (iNone) rfl<|zi sizeOf74 rfl rfl rfl rfl rfl rfl .head rfl<|z2 (zd (v := .bool _) rfl)<|z6<|zj<|afin.c1t (y := .bool _) rfl rfl ⟨_, .head⟩ isAgg74 sizeOf74 rfl ?_
 rw [ruleP, hb, if_neg (by decide)]; try rfl
theorem vRule_spec (f : PFunc) (hf : small f) (hL : Letters E) (l : List Rng) (ho : ∀ r ∈ l, ok64 r) (hl : l.length ≤ 9223372036854775807) (v : Int) : AFun Tryz.prog E 40 [.agg (encF f), .fro 2 (l.map encZ), .int .i64 v] (.tup [.agg (encZ (ruleP f l v)), .bool (ruleB f l v)]) := by
 by_cases hs : (typedB f && singB f) = true
 ·exact vRule_ok f hf hL l ho hl v hs
 ·exact vRule_bad f hf hL l ho hl v hs
end Go.Proofs.YtjnpcfpecilejaaGreatDoor
namespace Go.Proofs.YtjnpcfpecilejaaGreatDoor
open Go.Proofs.Tryz
open Go.Proofs Go.Lib Go.Shelf Go.RowKit
variable {E : World}
set_option maxRecDepth 20000
def tellR (f : PFunc) (l : List Rng) (v : Int) : Rng := if 0 ≤ (makerT f v).1 then ruleR f (chkV f) l v else firstR f v
def okAt (f : PFunc) (l : List Rng) (v : Nat) : Bool := withinB (tellR f l v) (lv l v)
def rangesB (f : PFunc) (l : List Rng) : Bool := (typedB f && singB f) && decide (l.length = f.vars.length) && (List.range f.vars.length).all (okAt f l)
theorem tRight_spec (f : PFunc) (hf : small f) (hL : Letters E) (l : List Rng) (hl : l.length ≤ 9223372036854775807) : AFun Tryz.prog E 65 [.agg (encF f), .fro 2 (l.map encZ)] (.bool ((typedB f && singB f) && decide (l.length = f.vars.length))) := by
 have hvn := hf.1
 have hR := SingRight_spec (E := E) f hf hL
 refine zy func65 rfl (by decide) rfl<|za<|z7 rfl<|yc (cs := _) rfl rfl rfl<|z2 (zd (v := .bool _) rfl)<|z6<|za<|z7 rfl<|z2 (zo isAgg26 sizeOf26 rfl rfl)<|zh (hR) rfl<|z2 (y6 rfl rfl)<|z2 (zc (v := .bool _) rfl)<|zz (s := 8) rfl (fun c => ?_) (fun c => ?_)
 ·have h : (typedB f && singB f) = true := by cases h : (typedB f && singB f); rw [h] at c; simp at c; rfl
  refine zb rfl rfl c<|z2 (zc (v := .fro _ _) rfl)<|zb rfl rfl c<|z2 (yd underlying41 rfl)<|zb rfl rfl c<|z2 (zg underlying26 rfl sizeOf22 (by decide) rfl rfl)<|zb rfl rfl c<|z2 (zf (c := .fro _ _) isAgg22 rfl)<|zb rfl rfl c<|z2 (yd underlying22 rfl)<|zb rfl rfl c<|z2 (y6 rfl rfl)<|z2 (zu (v := .bool _) rfl c rfl)<|z2 (zd (v := .bool _) rfl)<|z6<|zj<|zx (x := .bool _) rfl ?_
  exact jb (by rw [h, Bool.true_and]; exact decide_eq_decide.2 (by omega))
 ·have h : (typedB f && singB f) = false := by cases h : (typedB f && singB f); rfl; rw [h] at c; simp at c
  refine z8 rfl rfl c<|z8 rfl rfl c<|z8 rfl rfl c<|z8 rfl rfl c<|z8 rfl rfl c<|z8 rfl rfl c<|z2 (zw (v := .bool _) rfl c rfl)<|z2 (zd (v := .bool _) rfl)<|z6<|zj<|zx (x := .bool _) rfl ?_
  exact jb (by rw [h]; rfl)
theorem lv_nat {l : List Rng} {k : Nat} (h : k < l.length) : l[k]? = some (lv l (k : Int)) := by unfold lv; rw [show (k : Int).toNat = k from rfl, List.getElem?_eq_getElem h]; rfl
set_option maxHeartbeats 4000000 in
theorem tRanges_spec (f : PFunc) (hf : small f) (hL : Letters E) (l : List Rng) (ho : ∀ r ∈ l, ok64 r) (hl : l.length ≤ 9223372036854775807) : AFun Tryz.prog E 30 [.agg (encF f), .fro 2 (l.map encZ)] (.bool (rangesB f l)) := by
 have hvn := hf.1
 refine zy func30 rfl (by decide) rfl<|za<|z7 rfl<|yc (cs := _) rfl rfl rfl<|z2 (zd (v := .bool _) rfl)<|z6<|za<|za<|z7 rfl<|z2 (zo isAgg26 sizeOf26 rfl rfl)<|z2 (zc (v := .fro _ _) rfl)<|zh (tRight_spec f hf hL l hl) rfl<|z2 (yt rfl)<|z6<|y8 rfl (fun c0 => ?_) (fun c0 => ?_)
 ·have h : ((typedB f && singB f) && decide (l.length = f.vars.length)) = false := by rwa [Bool.not_eq_true'] at c0
  refine za<|z7 rfl<|z2 (zd (v := .bool _) rfl)<|z6<|zj<|zx (x := .bool _) rfl ?_
  exact jb (by unfold rangesB; rw [h]; rfl)
 ·have h : ((typedB f && singB f) && decide (l.length = f.vars.length)) = true := by rwa [Bool.not_eq_false'] at c0
  have hts := (and3 h).1
  have hll : l.length = f.vars.length := by simpa using (and3 h).2
  have htt := (and3 hts).1
  have hbad : ∀ k : Nat, k < f.vars.length → okAt f l k = false → rangesB f l = false := fun k hk hb => by unfold rangesB; rw [range_all_bad hk hb, Bool.and_false]
  refine zk<|za<|za<|z7 rfl<|z2 (zg underlying26 rfl sizeOf22 (by decide) rfl rfl)<|z2 (zf (c := .fro _ _) isAgg22 rfl)<|z2 (yd underlying22 rfl)<|z2 (zc (v := .int _ _) rfl)<|z6<|zq<|yh (γ := Nat) [1, 2, 14] (fun k => [(15, .int .i64 k)]) (fun k => []) (fun k => k ≤ f.vars.length ∧ (List.range k).all (okAt f l) = true) (fun k => f.vars.length - k) 0 ⟨rfl, trivial⟩ ⟨_, (.refl _), rfl⟩ (⟨Nat.zero_le _, rfl⟩) ?_
  rintro k ⟨hk, hall⟩
  refine za<|z7 rfl<|z2 (yj rfl rfl)<|z6<|za<|zt rfl (fun ck => ?_) (fun ck => ?_)
  ·have hk2 : k < f.vars.length := by simp at ck; omega
   have hrb : ruleB f l (k : Int) = decide (0 ≤ (makerT f k).1) := by unfold ruleB; rw [hts, Bool.true_and]; exact decide_eq_decide.2 (by omega)
   have hfp : firstP f (k : Int) = firstR f k := by unfold firstP; rw [if_pos ⟨htt, by omega, by omega⟩]
   refine zk<|za<|zq<|za<|z7 rfl<|z2 (zc (v := .int _ _) rfl)<|z2 (zd (v := .int _ _) rfl)<|z6<|za<|z7 rfl<|z2 (zo isAgg26 sizeOf26 rfl rfl)<|z2 (zc (v := .fro _ _) rfl)<|z2 (zc (v := .int _ _) rfl)<|zh (vRule_spec f hf hL l ho hl (k : Int)) rfl<|z2 (zc (v := .tup _) rfl)<|z2 (yr (v := .agg _) rfl rfl)<|z2 (yr (v := .bool _) rfl rfl)<|y1 (cs := [.int .i64 0, .int .i64 0]) zeroValue74 rfl rfl<|fun i6 => zi sizeOf74 rfl rfl rfl rfl rfl rfl .head rfl<|z2 (zd (v := .bool _) rfl)<|z6<|za<|za<|z7 rfl<|z2 (zc (v := .bool _) rfl)<|z2 (yt rfl)<|z6<|yq (γ := Rng) [1, 2, 5, 6, 14, 15] (fun r => []) (fun r => [(i6, .cells 74 (encZ (tellR f l k)))]) (fun r => True) ?_ (fun _ _ h => h) ?_
   ·refine y8 rfl (fun cm => ?_) (fun cm => ?_)
    ·have hm : ¬ 0 ≤ (makerT f k).1 := by rw [hrb] at cm; exact notdecT cm
     refine z7 rfl<|z2 (zo isAgg26 sizeOf26 rfl rfl)<|z2 (zc (v := .int _ _) rfl)<|zh (vFirst_spec f hf hL (k : Int)) rfl<|zi sizeOf74 rfl rfl rfl rfl rfl rfl .head rfl<|z6 ?_
     exact ⟨noR, ⟨rfl, rfl, rfl, rfl, rfl, rfl, trivial⟩, trivial, ⟨_, (.refl _), by rw [tellR, if_neg hm, ← hfp]; rfl⟩, trivial⟩
    ·have hm : 0 ≤ (makerT f k).1 := by rw [hrb] at cm; exact notdecF cm
     refine zk ?_
     exact ⟨noR, ⟨rfl, rfl, rfl, rfl, rfl, rfl, trivial⟩, trivial, ⟨_, (.refl _), by rw [tellR, if_pos hm, ruleP, hrb, if_pos (decide_eq_true hm)]; rfl⟩, trivial⟩
   ·rintro _ _
    refine za<|yb (fun j => false) (by kernel_rfl) rfl (y4 (.r (.rest _)))<|ze (i := 0) rfl (by kernel_rfl) (qb isAgg74 sizeOf74 rfl ⟨_, .head⟩ rfl)<|ze (i := 1) rfl (by kernel_rfl) (zc (v := .fro _ _) rfl)<|ze (i := 2) rfl (by kernel_rfl) (zc (v := .int _ _) rfl)<|ze (i := 3) rfl (by kernel_rfl) (y7 (j := k) underlying41 sizeOf74 rfl rfl rfl (lv_nat (by omega)))<|ze (i := 4) rfl (by kernel_rfl) (zo isAgg74 sizeOf74 rfl rfl)<|zp (i := 5) rfl (by kernel_rfl)<|zh (iWithin (tellR f l k) (lv l k)) rfl<|z6<|ze (i := 6) rfl (by kernel_rfl) (yt rfl)<|ya (by kernel_rfl)<|y8 rfl (fun cw => ?_) (fun cw => ?_)
    ·refine za<|z7 rfl<|z2 (zd (v := .bool _) rfl)<|z6<|zj<|zx (x := .bool _) rfl ?_
     exact jb (hbad k hk2 (by rwa [Bool.not_eq_true'] at cw)).symm
    ·refine zk<|z7 rfl<|z2 (yi rfl rfl (by unfold I64; omega))<|z2 (zc (v := .int _ _) rfl)<|z6 ?_
     exact ⟨k + 1, ⟨rfl, rfl, rfl, trivial⟩, ⟨rfl, trivial⟩, ⟨_, (.drop (.refl _)), rfl⟩, ⟨hk2, range_all_succ hall (by rwa [Bool.not_eq_false'] at cw)⟩, by omega⟩
  ·have hkn : k = f.vars.length := by simp at ck; omega
   subst hkn
   refine yg<|za<|z7 rfl<|z2 (zd (v := .bool _) rfl)<|z6<|zj<|zx (x := .bool _) rfl ?_
   exact jb (by unfold rangesB; rw [h, hall]; rfl)
theorem within_or (r s : Rng) : withinB r s = !decide (r.1 ≤ r.2 ∧ (r.1 < s.1 ∨ s.2 < r.2)) := by
 unfold withinB
 rw [Bool.eq_iff_iff]
 simp only [decide_eq_true_eq, Bool.not_eq_true', decide_eq_false_iff_not]
 omega
set_option maxHeartbeats 4000000 in
theorem refRanges_spec (f : PFunc) (hF : RuleF f) (hE : EndsOk f) (l : List Rng) (ho : ∀ r ∈ l, ok64 r) (hll : l.length = f.vars.length) : AFun Tryz.prog E 31 [.agg (encF f), .fro 2 (l.map encZ)] (.bool ((List.range f.vars.length).all (okAt f l))) := by
 have hf := hF.small
 have hS := hF.shaped
 have hvn := hf.1
 have hn := hf.2.2.1
 have hRd : ∀ (i : Nat) (HL : AObj), RdL Tryz.prog 47 75 (.fro 2 (l.map encZ)) (ptrF l) i HL l := fun i HL => RdL.fro underlying47 sizeOf75 isAgg75 i HL l
 refine zy func31 rfl (by decide) rfl<|za<|z7 rfl<|yc (cs := _) rfl rfl rfl<|z2 (zd (v := .bool _) rfl)<|z6<|za<|z7 rfl<|z2 (zo isAgg26 sizeOf26 rfl rfl)<|zh (refTable_spec f hE hn) rfl<|z2 (zd (v := .fro _ _) rfl)<|z6<|za<|za<|z7 rfl<|z2 (zg underlying26 rfl sizeOf22 (by decide) rfl rfl)<|z2 (zf (c := .fro _ _) isAgg22 rfl)<|z2 (yd underlying22 rfl)<|z2 (zc (v := .int _ _) rfl)<|z6<|zq<|yh (γ := Nat) [1, 2, 5, 14] (fun k => [(15, .int .i64 k)]) (fun k => []) (fun k => k ≤ f.vars.length ∧ (List.range k).all (okAt f l) = true) (fun k => f.vars.length - k) 0 ⟨rfl, trivial⟩ ⟨_, (.refl _), rfl⟩ (⟨Nat.zero_le _, rfl⟩) ?_
 rintro k ⟨hk, hall⟩
 refine za<|z7 rfl<|z2 (yj rfl rfl)<|z6<|za<|zt rfl (fun ck => ?_) (fun ck => ?_)
 ·have hk2 : k < f.vars.length := by simp at ck; omega
  have hone := (hF.once k hk2).1
  refine zk<|za<|zq<|za<|z7 rfl<|z2 (zc (v := .int _ _) rfl)<|z2 (zd (v := .int _ _) rfl)<|z6<|za<|z7 rfl<|z2 (zo isAgg26 sizeOf26 rfl rfl)<|z2 (zc (v := .int _ _) rfl)<|zh (refFirst_spec f hS hf k hk2) rfl<|y1 (cs := [.int .i64 0, .int .i64 0]) zeroValue75 rfl rfl<|fun i7 => zi sizeOf75 rfl rfl rfl rfl rfl rfl .head rfl<|z6<|za<|za<|z7 rfl<|z2 (zo isAgg26 sizeOf26 rfl rfl)<|z2 (zc (v := .int _ _) rfl)<|zh (Maker_spec f hf k) rfl<|z2 (zc (v := .tup _) rfl)<|z2 (yr (v := .int _ _) rfl rfl)<|z2 (yr (v := .int _ _) rfl rfl)<|z2 (zd (v := .int _ _) rfl)<|z2 (zd (v := .int _ _) rfl)<|z6<|za<|z7 rfl<|z2 (zc (v := .int _ _) rfl)<|z2 (qf rfl rfl)<|z6<|yq (γ := Rng) [1, 2, 5, 6, 7, 14, 15] (fun r => []) (fun r => [(i7, .cells 75 (encZ (tellR f l k)))]) (fun r => True) ?_ (fun _ _ h => h) ?_
  ·refine zt rfl (fun cm => ?_) (fun cm => ?_)
   ·refine z7 rfl<|z2 (zo isAgg26 sizeOf26 rfl rfl)<|z2 (zc (v := .fro _ _) rfl)<|z2 (zc (v := .fro _ _) rfl)<|z2 (zc (v := .int _ _) rfl)<|yk rfl (y4 (.l (.rest _))) (refRule_spec f hE hf hS l (Lv := (.fro 2 (l.map encZ), emptyO)) (HL := (.any, .cells 75 (encZ (firstR f k)))) (hRd i7 _) hll (fun u _ => lv_ok ho u) k hk2 cm hone) ?_
    rintro r33 O33 ⟨rfl, rfl⟩
    refine zi sizeOf75 rfl rfl rfl rfl rfl rfl .head rfl<|z6 ?_
    exact ⟨noR, ⟨rfl, rfl, rfl, rfl, rfl, rfl, rfl, trivial⟩, trivial, ⟨_, (.refl _), by rw [tellR, if_pos cm]; rfl⟩, trivial⟩
   ·refine zk ?_
    exact ⟨noR, ⟨rfl, rfl, rfl, rfl, rfl, rfl, rfl, trivial⟩, trivial, ⟨_, (.refl _), by rw [tellR, if_neg cm]; rfl⟩, trivial⟩
  ·rintro _ _
   obtain ⟨r, hr⟩ : ∃ r, tellR f l k = r := ⟨_, rfl⟩
   have hok : okAt f l k = !decide (r.1 ≤ r.2 ∧ (r.1 < (lv l k).1 ∨ (lv l k).2 < r.2)) := by unfold okAt; rw [hr, within_or]
   rw [hr]
   refine za<|yq (γ := Bool) [1, 2, 5, 14, 15] (fun u => [(58, .bool u)]) (fun u => []) (fun u => u = !okAt f l k) ?_ (fun _ _ h => h) ?_
   ·refine yb (fun j => false) (by kernel_rfl) rfl (y4 (.r (.rest _)))<|ze (i := 0) rfl (by kernel_rfl) (y3 underlying75 rfl sizeOf2 (by decide) rfl rfl)<|ze (i := 1) rfl (by kernel_rfl) (y5 (c := .int _ _) isAgg2 rfl ⟨_, .head⟩ rfl)<|ze (i := 2) rfl (by kernel_rfl) (y3 underlying75 rfl sizeOf2 (by decide) rfl rfl)<|ze (i := 3) rfl (by kernel_rfl) (y5 (c := .int _ _) isAgg2 rfl ⟨_, .head⟩ rfl)<|ze (i := 4) rfl (by kernel_rfl) (Gv.leq rfl rfl)<|ze (i := 5) rfl (by kernel_rfl) (zc (v := .bool _) rfl)<|qp (s := 39) rfl (fun c1 => ?_) (fun c1 => ?_)
    ·have d1 : r.1 ≤ r.2 := of_decide_eq_true c1
     refine yo (i := 6) rfl rfl rfl c1 (by kernel_rfl) (y3 underlying75 rfl sizeOf2 (by decide) rfl rfl)<|yo (i := 7) rfl rfl rfl c1 (by kernel_rfl) (y5 (c := .int _ _) isAgg2 rfl ⟨_, .head⟩ rfl)<|yo (i := 8) rfl rfl rfl c1 (by kernel_rfl) (zc (v := .fro _ _) rfl)<|yo (i := 9) rfl rfl rfl c1 (by kernel_rfl) (zc (v := .int _ _) rfl)<|yo (i := 10) rfl rfl rfl c1 (by kernel_rfl) (y7 (j := k) underlying47 sizeOf75 rfl rfl rfl (lv_nat (by omega)))<|yo (i := 11) rfl rfl rfl c1 (by kernel_rfl) (zg underlying75 rfl sizeOf2 (by decide) rfl rfl)<|yo (i := 12) rfl rfl rfl c1 (by kernel_rfl) (zf (c := .int _ _) isAgg2 rfl)<|yo (i := 13) rfl rfl rfl c1 (by kernel_rfl) (yj rfl rfl)<|yo (i := 14) rfl rfl rfl c1 (by kernel_rfl) (zc (v := .bool _) rfl)<|qp (s := 48) rfl (fun c2 => ?_) (fun c2 => ?_)
     ·have d2 : r.1 < (lv l k).1 := of_decide_eq_true c2
      refine ym (i := 15) rfl rfl rfl c2 (by kernel_rfl)<|ym (i := 16) rfl rfl rfl c2 (by kernel_rfl)<|ym (i := 17) rfl rfl rfl c2 (by kernel_rfl)<|ym (i := 18) rfl rfl rfl c2 (by kernel_rfl)<|ym (i := 19) rfl rfl rfl c2 (by kernel_rfl)<|ym (i := 20) rfl rfl rfl c2 (by kernel_rfl)<|ym (i := 21) rfl rfl rfl c2 (by kernel_rfl)<|ym (i := 22) rfl rfl rfl c2 (by kernel_rfl)<|yo (i := 23) rfl rfl rfl c1 (by kernel_rfl) (zu (v := .bool _) rfl c2 rfl)<|ze (i := 24) rfl (by kernel_rfl) (zu (v := .bool _) rfl c1 rfl)<|ya (by kernel_rfl) ?_
      exact ⟨_, ⟨rfl, rfl, rfl, rfl, rfl, trivial⟩, ⟨rfl, trivial⟩, ⟨_, (.drop (.refl _)), rfl⟩, by rw [hok, Bool.not_not, decide_eq_true ⟨d1, .inl d2⟩]⟩
     ·have d2 : ¬ r.1 < (lv l k).1 := of_decide_eq_false c2
      refine yo (i := 15) rfl rfl rfl c2 (by kernel_rfl) (y3 underlying75 rfl sizeOf2 (by decide) rfl rfl)<|yo (i := 16) rfl rfl rfl c2 (by kernel_rfl) (y5 (c := .int _ _) isAgg2 rfl ⟨_, .head⟩ rfl)<|yo (i := 17) rfl rfl rfl c2 (by kernel_rfl) (zc (v := .fro _ _) rfl)<|yo (i := 18) rfl rfl rfl c2 (by kernel_rfl) (zc (v := .int _ _) rfl)<|yo (i := 19) rfl rfl rfl c2 (by kernel_rfl) (y7 (j := k) underlying47 sizeOf75 rfl rfl rfl (lv_nat (by omega)))<|yo (i := 20) rfl rfl rfl c2 (by kernel_rfl) (zg underlying75 rfl sizeOf2 (by decide) rfl rfl)<|yo (i := 21) rfl rfl rfl c2 (by kernel_rfl) (zf (c := .int _ _) isAgg2 rfl)<|yo (i := 22) rfl rfl rfl c2 (by kernel_rfl) (q7 rfl rfl)<|yo (i := 23) rfl rfl rfl c1 (by kernel_rfl) (zw (v := .bool _) rfl c2 rfl)<|ze (i := 24) rfl (by kernel_rfl) (zu (v := .bool _) rfl c1 rfl)<|ya (by kernel_rfl) ?_
      exact ⟨_, ⟨rfl, rfl, rfl, rfl, rfl, trivial⟩, ⟨rfl, trivial⟩, ⟨_, (.drop (.refl _)), rfl⟩, by rw [hok, Bool.not_not]; exact decide_eq_decide.2 (by omega)⟩
    ·have d1 : ¬ r.1 ≤ r.2 := of_decide_eq_false c1
     refine ym (i := 6) rfl rfl rfl c1 (by kernel_rfl)<|ym (i := 7) rfl rfl rfl c1 (by kernel_rfl)<|ym (i := 8) rfl rfl rfl c1 (by kernel_rfl)<|ym (i := 9) rfl rfl rfl c1 (by kernel_rfl)<|ym (i := 10) rfl rfl rfl c1 (by kernel_rfl)<|ym (i := 11) rfl rfl rfl c1 (by kernel_rfl)<|ym (i := 12) rfl rfl rfl c1 (by kernel_rfl)<|ym (i := 13) rfl rfl rfl c1 (by kernel_rfl)<|ym (i := 14) rfl rfl rfl c1 (by kernel_rfl)<|AAny.takeU (i := 15) rfl rfl rfl (by kernel_rfl) (by kernel_rfl) (by kernel_rfl) (by kernel_rfl) (by kernel_rfl) (by kernel_rfl)<|AAny.takeU (i := 16) rfl rfl rfl (by kernel_rfl) (by kernel_rfl) (by kernel_rfl) (by kernel_rfl) (by kernel_rfl) (by kernel_rfl)<|AAny.takeU (i := 17) rfl rfl rfl (by kernel_rfl) (by kernel_rfl) (by kernel_rfl) (by kernel_rfl) (by kernel_rfl) (by kernel_rfl)<|zp (i := 18) rfl (by kernel_rfl)<|zm rfl rfl<|z6<|zp (i := 19) rfl (by kernel_rfl)<|zm rfl rfl<|z6<|zp (i := 20) rfl (by kernel_rfl)<|zm rfl rfl<|z6<|zp (i := 21) rfl (by kernel_rfl)<|zm rfl rfl<|z6<|zp (i := 22) rfl (by kernel_rfl)<|zm rfl rfl<|z6<|ym (i := 23) rfl rfl rfl c1 (by kernel_rfl)<|ze (i := 24) rfl (by kernel_rfl) (zw (v := .bool _) rfl c1 rfl)<|ya (by kernel_rfl) ?_
     exact ⟨_, ⟨rfl, rfl, rfl, rfl, rfl, trivial⟩, ⟨rfl, trivial⟩, ⟨_, (.drop (.refl _)), rfl⟩, by rw [hok, Bool.not_not, decide_eq_false (fun h => d1 h.1)]⟩
   ·rintro u hu
    subst hu
    refine y8 rfl (fun cw => ?_) (fun cw => ?_)
    ·refine za<|z7 rfl<|z2 (zd (v := .bool _) rfl)<|z6<|zj<|zx (x := .bool _) rfl ?_
     exact jb (range_all_bad hk2 (by rwa [Bool.not_eq_true'] at cw)).symm
    ·refine zk<|z7 rfl<|z2 (yi rfl rfl (by unfold I64; omega))<|z2 (zc (v := .int _ _) rfl)<|z6 ?_
     exact ⟨k + 1, ⟨rfl, rfl, rfl, rfl, trivial⟩, ⟨rfl, trivial⟩, ⟨_, (.refl _), rfl⟩, ⟨hk2, range_all_succ hall (by rwa [Bool.not_eq_false'] at cw)⟩, by omega⟩
 ·have hkn : k = f.vars.length := by simp at ck; omega
  subst hkn
  refine yg<|za<|z7 rfl<|z2 (zd (v := .bool _) rfl)<|z6<|zj<|zx (x := .bool _) rfl ?_
  exact jb hall.symm
theorem ref_spec (r : Rng) : AFun Tryz.prog E 64 [.agg (encZ r)] (.agg (encZ r)) := by
 refine zy func64 rfl (by decide) rfl<|za<|z7 rfl<|yc (cs := _) rfl rfl rfl<|y1 (cs := [.int .i64 0, .int .i64 0]) zeroValue75 rfl rfl<|fun i2 => z6<|za<|z7 rfl<|z2 (zo isAgg74 sizeOf74 rfl rfl)<|zi sizeOf75 rfl rfl rfl rfl rfl rfl .head rfl<|z6<|zj<|yl rfl ⟨_, .head⟩ isAgg75 sizeOf75 rfl ?_
 rfl
theorem refs_spec (l : List Rng) (hl : l.length ≤ 100000) : AFun Tryz.prog E 26 [.fro 2 (l.map encZ)] (.fro 2 (l.map encZ)) := by
 refine zy func26 rfl (by decide) rfl<|za<|z7 rfl<|z2 (zd (v := .raw _) rfl)<|z6<|za<|z7 rfl<|z2 (zd (v := .raw _) rfl)<|z6<|za<|za<|z7 rfl<|z2 (zc (v := .fro _ _) rfl)<|z2 (yd underlying41 rfl)<|z2 (zc (v := .int _ _) rfl)<|z6<|adopt_wp (t := 3) (k := 2) (T := 75) rfl<|fun i3 => zq<|yh (γ := Nat × Nat) [6, 7] (fun g => [(8, .int .i64 g.1), (3, .own g.2 g.1)]) (fun g => [(g.2, .grow 2 75 (lC (l.take g.1)))]) (fun g => g.1 ≤ l.length) (fun g => l.length - g.1) (0, i3) ⟨rfl, rfl, trivial⟩ ⟨_, (.refl _), rfl⟩ (Nat.zero_le _) ?_
 rintro ⟨k, io⟩ hk
 try dsimp only at *
 refine za<|z7 rfl<|z2 (yj rfl rfl)<|z6<|za<|zt rfl (fun ck => ?_) (fun ck => ?_)
 ·have hk2 : k < l.length := by simp at ck; omega
  refine zk<|za<|zq<|za<|z7 rfl<|z2 (y7 (j := k) underlying41 sizeOf74 rfl rfl rfl (lv_nat hk2))<|z2 (zo isAgg74 sizeOf74 rfl rfl)<|y1 (cs := [.int .i64 0, .int .i64 0]) zeroValue74 rfl rfl<|fun i5 => zi sizeOf74 rfl rfl rfl rfl rfl rfl .head rfl<|zn (yp (t := 5) rfl .head)<|z6<|z7 rfl<|z2 (zc (v := .own _ _) rfl)<|z2 (zo isAgg74 sizeOf74 rfl rfl)<|zh (ref_spec _) rfl<|yf (rows := [[_, _]]) ps47_1 rfl rfl rfl rfl rfl<|q8 (k := 2) underlying47 Tryz.type75 rfl rfl rfl rfl rfl (fun _ => .head) (by rw [lC_len, List.length_take]; omega) (by decide) rfl (by show (_ + 1) * 16 ≤ _; omega) (by show _ + 1 ≤ _; omega)<|fun i16 => z2 (zd (v := .own _ _) rfl)<|z6<|z7 rfl<|z2 (yi rfl rfl (by unfold I64; omega))<|z2 (zc (v := .int _ _) rfl)<|z6 ?_
  exact ⟨(k + 1, i16), ⟨rfl, rfl, trivial⟩, ⟨rfl, rfl, trivial⟩, ⟨_, (.refl _), by rw [List.take_succ_eq_append_getElem hk2, ← lC_push, show l[k] = lv l k by have := lv_nat hk2; rw [List.getElem?_eq_getElem hk2] at this; exact Option.some.inj this]; rfl⟩, hk2, by dsimp only; omega⟩
 ·have hkn : k = l.length := by simp at ck; omega
  subst hkn
  rw [List.take_length]
  refine yg<|yw (GStep.knowR (t := 3) rfl .head rfl)<|za<|z7 rfl<|z2 (zc (v := .fro _ _) rfl)<|z2 (zd (v := .fro _ _) rfl)<|z6<|zj<|zx (x := .fro _ _) rfl ?_
  rfl
end Go.Proofs.YtjnpcfpecilejaaGreatDoor
namespace Go.Proofs.YtjnpcfpecilejaaGreatDoor
open Go.Proofs.Tryz
open Go.Proofs
def Imp (x y : AV) : Prop := ∀ I v, RepV I x v → RepV I y v
def ImpL (xs ys : List AV) : Prop := ∀ I vs, RepL I xs vs → RepL I ys vs
theorem Imp.refl (x : AV) : Imp x x := fun _ _ h => h
theorem Imp.nil (k : Nat) : Imp (.raw (.slice none 0 0)) (.fro k []) := fun _ _ h => ⟨none, 0, 0, h, rfl, Nat.le_refl _, fun _ => rfl, trivial⟩
theorem ImpL.nil : ImpL [] [] := fun _ _ h => h
theorem ImpL.cons {x y : AV} {xs ys : List AV} (h : Imp x y) (hs : ImpL xs ys) : ImpL (x :: xs) (y :: ys) := fun I _ ⟨v, us, e, h1, h2⟩ => ⟨v, us, e, h I v h1, hs I us h2⟩
theorem Imp.agg {xs ys : List AV} (h : ImpL xs ys) : Imp (.agg xs) (.agg ys) := fun I _ ⟨vs, e, h1⟩ => ⟨vs, e, h I vs h1⟩
end Go.Proofs.YtjnpcfpecilejaaGreatDoor
namespace Go.Proofs.YtjnpcfpecilejaaGreatDoor
open Go.Proofs.Tryz
open Go.Proofs Go.Lib Go.Shelf Go.RowKit
theorem pl56 : Places Tryz.prog 56 #[(0, 1), (1, 1)] [.str ⟨#[]⟩, .int .i64 0] := ⟨_, _, underlying56, zeroValue56, fun w => by kernel_rfl, rfl⟩
theorem ps22_1 : PlacesS Tryz.prog 22 56 1 2 [.str ⟨#[]⟩, .int .i64 0] := ⟨_, underlying22, sizeOf56, zeroValue56, by decide, by decide, by kernel_rfl⟩
theorem pl33 : Places Tryz.prog 33 #[(0, 1), (1, 1), (2, 1), (3, 1)] [.int .i64 0, .int .i64 0, .raw (.slice none 0 0), .int .i64 0] := ⟨_, _, underlying33, zeroValue33, fun w => by kernel_rfl, rfl⟩
theorem pl64 : Places Tryz.prog 64 #[(0, 1), (1, 1), (2, 2)] [.int .i64 0, .int .i64 0, .int .i64 0, .int .i64 0] := ⟨_, _, underlying64, zeroValue64, fun w => by kernel_rfl, rfl⟩
theorem ps41_1 : PlacesS Tryz.prog 41 74 1 2 [.int .i64 0, .int .i64 0] := ⟨_, underlying41, sizeOf74, zeroValue74, by decide, by decide, by kernel_rfl⟩
variable {E : World}
set_option maxRecDepth 20000
theorem ok_one {r : Rng} (h : ok64 r) : ∀ s ∈ [r], ok64 s := fun s hs => by rw [List.mem_singleton.1 hs]; exact h
theorem is_lit {x : Int} (h : (decide (-9223372036854775808 ≤ x) && decide (x ≤ 9223372036854775807)) = true) : is64 x := by unfold is64; simpa using h
def lives27 : PFunc := ⟨[⟨⟨#[110]⟩, 0⟩], [], [⟨⟨#[97]⟩, [], [⟨0, 0, [], 5⟩], ⟨2, 0, 0, 0⟩⟩]⟩
theorem small27 : small lives27 := by unfold small lives27; simp [smallBlk]; decide
theorem ran27a : rangesB lives27 [(5, 5)] = true := by decide +kernel
theorem ran27b : rangesB lives27 [(0, 9)] = true := by decide +kernel
theorem ran27c : rangesB lives27 [(6, 6)] = false := by decide +kernel
theorem lives27_spec (hL : Letters E) : AFun Tryz.prog E 29 [] (.bool true) := by
 have ha := tRanges_spec (E := E) lives27 small27 hL [(5, 5)] (ok_one ⟨is_lit rfl, is_lit rfl⟩) (by decide)
 have hb := tRanges_spec (E := E) lives27 small27 hL [(0, 9)] (ok_one ⟨is_lit rfl, is_lit rfl⟩) (by decide)
 have hc := tRanges_spec (E := E) lives27 small27 hL [(6, 6)] (ok_one ⟨is_lit rfl, is_lit rfl⟩) (by decide)
 rw [ran27a] at ha
 rw [ran27b] at hb
 rw [ran27c] at hc
 refine zy func29 rfl (by decide) rfl<|za<|z7 rfl<|z2 (zd (v := .bool _) rfl)<|z6<|za<|z7 rfl<|z2 (y9 (cps := [(0, [_])]) (rs := [_, .int .i64 0]) pl56 rfl rfl rfl)<|yf (rows := [[_, _]]) ps22_1 rfl rfl rfl rfl rfl<|z2 (y9 (cps := [(0, [_]), (1, [_]), (3, [_])]) (rs := [_, _, .raw (.slice none 0 0), _]) pl33 rfl rfl rfl)<|zn (GStep.slot (t := 4) rfl (Imp.agg (.cons (.refl _) (.cons (.refl _) (.cons (.nil 1) (.cons (.refl _) .nil))))))<|yf (rows := [[_, _, _, _]]) ps60_1 rfl rfl rfl rfl rfl<|z2 (y9 (cps := [(0, [_])]) (rs := [_, .int .i64 0, .int .i64 0, .int .i64 0]) pl64 rfl rfl rfl)<|z2 (y9 (cps := [(0, [_]), (2, [_]), (3, [_, _, _, _])]) (rs := [_, .raw (.slice none 0 0), _, _, _, _, _]) pl66 rfl rfl rfl)<|zn (GStep.slot (t := 7) rfl (Imp.agg (.cons (.refl _) (.cons (.nil 3) (.cons (.refl _) (.cons (.refl _) (.cons (.refl _) (.cons (.refl _) (.cons (.refl _) .nil)))))))))<|yf (rows := [[_, _, _, _, _, _, _]]) ps24_1 rfl rfl rfl rfl rfl<|z2 (y9 (cps := [(0, [_]), (2, [_])]) (rs := [_, .raw (.slice none 0 0), _]) pl26 rfl rfl rfl)<|zn (GStep.slot (t := 9) rfl (Imp.agg (.cons (.refl _) (.cons (.nil 1) (.cons (.refl _) .nil)))))<|y1 (cs := [.raw (.slice none 0 0), .raw (.slice none 0 0), .raw (.slice none 0 0)]) zeroValue26 rfl rfl<|fun i1 => zi sizeOf26 rfl rfl rfl rfl rfl rfl .head rfl<|zn (yp (t := 1) rfl .head)<|z6<|za<|z7 rfl<|z2 (zo isAgg26 sizeOf26 rfl rfl)<|z2 (y9 (cps := [(0, [_]), (1, [_])]) (rs := [_, _]) pl74 rfl rfl rfl)<|yf (rows := [[_, _]]) ps41_1 rfl rfl rfl rfl rfl<|zh (ha) rfl<|z2 (zc (v := .bool _) rfl)<|zb rfl rfl rfl<|z2 (zo isAgg26 sizeOf26 rfl rfl)<|zb rfl rfl rfl<|z2 (y9 (cps := [(0, [_]), (1, [_])]) (rs := [_, _]) pl74 rfl rfl rfl)<|zb rfl rfl rfl<|yf (rows := [[_, _]]) ps41_1 rfl rfl rfl rfl rfl<|zb rfl rfl rfl<|zh (hb) rfl<|z2 (zu (v := .bool _) rfl rfl rfl)<|z2 (zc (v := .bool _) rfl)<|zb rfl rfl rfl ?_
 refine z2 (zo isAgg26 sizeOf26 rfl rfl)<|zb rfl rfl rfl<|z2 (y9 (cps := [(0, [_]), (1, [_])]) (rs := [_, _]) pl74 rfl rfl rfl)<|zb rfl rfl rfl<|yf (rows := [[_, _]]) ps41_1 rfl rfl rfl rfl rfl<|zb rfl rfl rfl<|zh (hc) rfl<|zb rfl rfl rfl<|z2 (yt rfl)<|z2 (zu (v := .bool _) rfl rfl rfl)<|z2 (zd (v := .bool _) rfl)<|z6<|zj<|zx (x := .bool _) rfl ?_
 rfl
theorem tableRanges_law (f : PFunc) (hw : wFunc f) (hL : Letters E) (l : List Rng) (ho : ∀ r ∈ l, ok64 r) (hl : l.length ≤ 9223372036854775807) : AFun Tryz.prog E 6 [.agg (encF f), .fro 2 (l.map encZ)] (.bool true) := by
 have hlv := lives27_spec (E := E) hL
 have hfw := hw.1
 unfold wL at hfw
 refine zy func6 rfl (by decide) rfl<|za<|z7 rfl<|yc (cs := _) rfl rfl rfl<|z2 (zd (v := .bool _) rfl)<|z6<|za<|za<|z7 rfl<|zh (hlv) rfl<|z2 (yt rfl)<|z2 (zc (v := .bool _) rfl)<|zb rfl rfl rfl<|z2 (zo isAgg26 sizeOf26 rfl rfl)<|zb rfl rfl rfl<|zh (fewT_spec f hw) rfl<|zb rfl rfl rfl<|z2 (yt rfl)<|z2 (zw (v := .bool _) rfl rfl rfl)<|z2 (zc (v := .bool _) rfl)<|zz (s := 13) rfl (fun cf => ?_) (fun cf => ?_)
 ·refine z8 rfl rfl cf<|z8 rfl rfl cf<|z8 rfl rfl cf<|z2 (zu (v := .bool _) rfl cf rfl)<|z6<|q6 rfl rfl<|za<|z7 rfl<|zh (hlv) rfl<|z2 (zd (v := .bool _) rfl)<|z6<|zj<|zx (x := .bool _) rfl ?_
  rfl
 ·have hfew : fewB f = true := by cases h : fewB f; rw [h] at cf; simp at cf; rfl
  have hsm := ((fewB_iff f).1 hfew).small
  refine zb rfl rfl cf<|z2 (zc (v := .fro _ _) rfl)<|zb rfl rfl cf<|z2 (yd underlying41 rfl)<|zb rfl rfl cf<|z2 (q7 rfl rfl)<|z2 (zw (v := .bool _) rfl cf rfl)<|z6<|y8 rfl (fun cl => ?_) (fun cl => ?_)
  ·refine za<|z7 rfl<|zh (hlv) rfl<|z2 (zd (v := .bool _) rfl)<|z6<|zj<|zx (x := .bool _) rfl ?_
   rfl
  ·have hl2 : l.length ≤ 120 := by have h : ¬ (120 : Int) < l.length := (by simpa using cl); omega
   refine zk<|za<|z7 rfl<|z2 (zo isAgg26 sizeOf26 rfl rfl)<|z2 (zc (v := .fro _ _) rfl)<|zh (tRanges_spec f hsm hL l ho hl) rfl<|z2 (zd (v := .bool _) rfl)<|z6<|za<|za<|z7 rfl<|z2 (zo isAgg26 sizeOf26 rfl rfl)<|zh (lawSingle_spec f hw hL) rfl<|z2 (yt rfl)<|z2 (zc (v := .bool _) rfl)<|zz (s := 25) rfl (fun cs => ?_) (fun cs => ?_)
   ·have hs : (typedB f && singB f) = false := by have h : lawSing f = false := (by cases h : lawSing f; rfl; rw [h] at cs; simp at cs); unfold lawSing at h; rw [hfew] at h; exact h
    refine z8 rfl rfl cs<|z8 rfl rfl cs<|z8 rfl rfl cs<|z8 rfl rfl cs<|z8 rfl rfl cs<|z8 rfl rfl cs<|z2 (zu (v := .bool _) rfl cs rfl)<|z6<|q6 rfl rfl<|za<|z7 rfl<|z2 (zc (v := .bool _) rfl)<|z2 (yt rfl)<|z2 (zd (v := .bool _) rfl)<|z6<|zj<|zx (x := .bool _) rfl ?_
    exact jb (by unfold rangesB; rw [hs]; rfl)
   ·have hs : (typedB f && singB f) = true := by have h : lawSing f = true := (by cases h : lawSing f; rw [h] at cs; simp at cs; rfl); unfold lawSing at h; rw [hfew] at h; exact h
    refine zb rfl rfl cs<|z2 (zc (v := .fro _ _) rfl)<|zb rfl rfl cs<|z2 (yd underlying41 rfl)<|zb rfl rfl cs<|z2 (zg underlying26 rfl sizeOf22 (by decide) rfl rfl)<|zb rfl rfl cs<|z2 (zf (c := .fro _ _) isAgg22 rfl)<|zb rfl rfl cs<|z2 (yd underlying22 rfl)<|zb rfl rfl cs<|z2 (yx rfl rfl)<|z2 (zw (v := .bool _) rfl cs rfl)<|z6<|y8 rfl (fun cn => ?_) (fun cn => ?_)
    ·have hne : ¬ l.length = f.vars.length := by intro e; rw [e] at cn; simp at cn
     refine za<|z7 rfl<|z2 (zc (v := .bool _) rfl)<|z2 (yt rfl)<|z2 (zd (v := .bool _) rfl)<|z6<|zj<|zx (x := .bool _) rfl ?_
     exact jb (by unfold rangesB; rw [decide_eq_false hne]; simp)
    ·have hll : l.length = f.vars.length := by have h : (!decide ((l.length : Int) = (f.vars.length : Int))) = false := cn; simp at h; omega
     refine zk<|za<|yb (fun j => false) (by kernel_rfl) rfl (y4 (.rest _))<|ze (i := 0) rfl (by kernel_rfl) (zc (v := .bool _) rfl)<|ze (i := 1) rfl (by kernel_rfl) (zo isAgg26 sizeOf26 rfl rfl)<|ze (i := 2) rfl (by kernel_rfl) (zc (v := .fro _ _) rfl)<|zp (i := 3) rfl (by kernel_rfl)<|zh (refs_spec l (by omega)) rfl<|z6<|zp (i := 4) rfl (by kernel_rfl)<|zh (refRanges_spec f (ruleF_of hsm hs) (typedB_ends (and3 hs).1) l ho hll) rfl<|z6<|ze (i := 5) rfl (by kernel_rfl) (Gv.eqlB underlying4 rfl rfl)<|ze (i := 6) rfl (by kernel_rfl) (zd (v := .bool _) rfl)<|ya (by kernel_rfl)<|zj<|zx (x := .bool _) rfl ?_
     exact jb (by unfold rangesB; rw [hs, decide_eq_true hll]; simp)
end Go.Proofs.YtjnpcfpecilejaaGreatDoor
namespace Go.Proofs.YtjnpcfpecilejaaGreatDoor
open Go.Proofs.Tryz
open Go.Proofs Go.Lib Go.Shelf Go.RowKit Go.WideShapes
set_option maxRecDepth 20000
variable {W : World}
theorem decI : Dec Tryz.prog W 3 encI (fun x => (Lit.int .i64 x).wf = true) := Dec.int underlying3
theorem decIs : Dec Tryz.prog W 23 (fun l : List Int => [.fro 1 (l.map encI)]) wL := fun en held fuel cs x h => by
 obtain ⟨l, hl, r⟩ := Dec.slice (k := 1) underlying23 decI (by kernel_rfl) (by decide) en held fuel cs x h
 exact ⟨l, hl.2, r⟩
theorem decVar : Dec Tryz.prog W 56 encVar (fun _ => True) := fun en held fuel cs x h => by
 obtain ⟨xs, n, _, _, hl, hxl, hf⟩ := DataW.trod_struct underlying56 h
 have hl : cs.length = 2 := hl.trans (by kernel_rfl)
 have hxl : xs.length = 2 := hxl
 obtain ⟨a, _, ra⟩ := qm (o := 0) (k := 1) (hf 0 _ rfl) (Dec.str underlying9) (by omega) rfl (by kernel_rfl)
 obtain ⟨b, _, rb⟩ := qm (o := 1) (k := 1) (hf 1 _ rfl) (Dec.int underlying54) (by omega) rfl (by kernel_rfl)
 exact ⟨⟨a, b⟩, trivial, qe (o := 0) ra (qe rb (RepL.fin hl))⟩
theorem decPhi : Dec Tryz.prog W 95 encPhi wPhi := fun en held fuel cs x h => by
 obtain ⟨xs, n, _, _, hl, hxl, hf⟩ := DataW.trod_struct underlying95 h
 have hl : cs.length = 3 := hl.trans (by kernel_rfl)
 have hxl : xs.length = 3 := hxl
 obtain ⟨a, _, ra⟩ := qm (o := 0) (k := 1) (hf 0 _ rfl) decI (by omega) rfl (by kernel_rfl)
 obtain ⟨b, hb, rb⟩ := qm (o := 1) (k := 1) (hf 1 _ rfl) decIs (by omega) rfl (by kernel_rfl)
 obtain ⟨c, hc, rc⟩ := qm (o := 2) (k := 1) (hf 2 _ rfl) decIs (by omega) rfl (by kernel_rfl)
 exact ⟨⟨a, b, c⟩, ⟨hb, hc⟩, qe (o := 0) ra (qe rb (qe rc (RepL.fin hl)))⟩
def wInst (x : PInst) : Prop := wL x.args ∧ (Lit.int .i64 x.num).wf = true
theorem decInst : Dec Tryz.prog W 33 encInst wInst := fun en held fuel cs x h => by
 obtain ⟨xs, n, _, _, hl, hxl, hf⟩ := DataW.trod_struct underlying33 h
 have hl : cs.length = 4 := hl.trans (by kernel_rfl)
 have hxl : xs.length = 4 := hxl
 obtain ⟨a, _, ra⟩ := qm (o := 0) (k := 1) (hf 0 _ rfl) (Dec.int underlying31) (by omega) rfl (by kernel_rfl)
 obtain ⟨b, _, rb⟩ := qm (o := 1) (k := 1) (hf 1 _ rfl) decI (by omega) rfl (by kernel_rfl)
 obtain ⟨c, hc, rc⟩ := qm (o := 2) (k := 1) (hf 2 _ rfl) decIs (by omega) rfl (by kernel_rfl)
 obtain ⟨d, hd, rd⟩ := qm (o := 3) (k := 1) (hf 3 _ rfl) (Dec.int underlying2) (by omega) rfl (by kernel_rfl)
 exact ⟨⟨a, b, c, d⟩, ⟨hc, hd⟩, qe (o := 0) ra (qe rb (qe rc (qe rd (RepL.fin hl))))⟩
theorem decTerm : Dec Tryz.prog W 64 encTerm (fun _ => True) := fun en held fuel cs x h => by
 obtain ⟨xs, n, _, _, hl, hxl, hf⟩ := DataW.trod_struct underlying64 h
 have hl : cs.length = 4 := hl.trans (by kernel_rfl)
 have hxl : xs.length = 3 := hxl
 obtain ⟨a, _, ra⟩ := qm (o := 0) (k := 1) (hf 0 _ rfl) (Dec.int underlying61) (by omega) rfl (by kernel_rfl)
 obtain ⟨b, _, rb⟩ := qm (o := 1) (k := 1) (hf 1 _ rfl) decI (by omega) rfl (by kernel_rfl)
 obtain ⟨c, _, rc⟩ := qm (o := 2) (k := 2) (hf 2 _ rfl) (Dec.pair (k := 1) underlying62 decI (by kernel_rfl) (by kernel_rfl)) (by omega) rfl (by kernel_rfl)
 exact ⟨⟨a, b, c.1, c.2⟩, trivial, qe (o := 0) ra (qe rb (qe rc (RepL.fin hl)))⟩
def NumsI (f : PFunc) : Prop := ∀ b ∈ f.blocks, ∀ x ∈ b.insts, is64 x.num
def wBlkN (b : PBlock) : Prop := wBlk b ∧ ∀ x ∈ b.insts, -9223372036854775808 ≤ x.num ∧ x.num ≤ 9223372036854775807
theorem decBlkN : Dec Tryz.prog W 66 encBlk wBlkN := fun en held fuel cs x h => by
 obtain ⟨xs, n, _, _, hl, hxl, hf⟩ := DataW.trod_struct underlying66 h
 have hl : cs.length = 7 := hl.trans (by kernel_rfl)
 have hxl : xs.length = 4 := hxl
 obtain ⟨a, _, ra⟩ := qm (o := 0) (k := 1) (hf 0 _ rfl) (Dec.str underlying9) (by omega) rfl (by kernel_rfl)
 obtain ⟨b, hb, rb⟩ := qm (o := 1) (k := 1) (hf 1 _ rfl) (Dec.slice (k := 3) underlying59 decPhi (by kernel_rfl) (by decide)) (by omega) rfl (by kernel_rfl)
 obtain ⟨c, hc, rc⟩ := qm (o := 2) (k := 1) (hf 2 _ rfl) (Dec.slice (k := 4) underlying60 decInst (by kernel_rfl) (by decide)) (by omega) rfl (by kernel_rfl)
 obtain ⟨d, _, rd⟩ := qm (o := 3) (k := 4) (hf 3 _ rfl) decTerm (by omega) rfl (by kernel_rfl)
 exact ⟨⟨a, b, c, d⟩, ⟨⟨hb.2, hc.2, hb.1, fun x hx => (hc.1 x hx).1⟩, fun x hx => by simpa [Lit.wf, IntKind.min, IntKind.max, IntKind.signed, IntKind.bits] using (hc.1 x hx).2⟩, qe (o := 0) ra (qe rb (qe rc (qe rd (RepL.fin hl))))⟩
theorem decFN : Dec Tryz.prog W 26 encF (fun f => wFunc f ∧ NumsI f) := fun en held fuel cs x h => by
 obtain ⟨xs, n, _, _, hl, hxl, hf⟩ := DataW.trod_struct underlying26 h
 have hl : cs.length = 3 := hl.trans (by kernel_rfl)
 have hxl : xs.length = 3 := hxl
 obtain ⟨a, ha, ra⟩ := qm (o := 0) (k := 1) (hf 0 _ rfl) (Dec.slice (k := 2) underlying22 decVar (by kernel_rfl) (by decide)) (by omega) rfl (by kernel_rfl)
 obtain ⟨b, hb, rb⟩ := qm (o := 1) (k := 1) (hf 1 _ rfl) decIs (by omega) rfl (by kernel_rfl)
 obtain ⟨c, hc, rc⟩ := qm (o := 2) (k := 1) (hf 2 _ rfl) (Dec.slice (k := 7) underlying24 decBlkN (by kernel_rfl) (by decide)) (by omega) rfl (by kernel_rfl)
 exact ⟨⟨a, b, c⟩, ⟨⟨ha.2, hb, hc.2, fun x hx => (hc.1 x hx).1⟩, fun x hx => (hc.1 x hx).2⟩, qe (o := 0) ra (qe rb (qe rc (RepL.fin hl)))⟩
theorem decRng : Dec Tryz.prog W 74 encZ ok64 := fun en held fuel cs x h => by
 obtain ⟨xs, n, _, _, hl, hxl, hf⟩ := DataW.trod_struct underlying74 h
 have hl : cs.length = 2 := hl.trans (by kernel_rfl)
 have hxl : xs.length = 2 := hxl
 obtain ⟨a, ha, ra⟩ := qm (o := 0) (k := 1) (hf 0 _ rfl) (Dec.int underlying2) (by omega) rfl (by kernel_rfl)
 obtain ⟨b, hb, rb⟩ := qm (o := 1) (k := 1) (hf 1 _ rfl) (Dec.int underlying2) (by omega) rfl (by kernel_rfl)
 exact ⟨(a, b), ⟨by simpa [is64, Lit.wf, IntKind.min, IntKind.max, IntKind.signed, IntKind.bits] using ha, by simpa [is64, Lit.wf, IntKind.min, IntKind.max, IntKind.signed, IntKind.bits] using hb⟩, qe (o := 0) ra (qe rb (RepL.fin hl))⟩
theorem decRngs : Dec Tryz.prog W 41 (fun l : List Rng => [.fro 2 (l.map encZ)]) (fun l => (∀ r ∈ l, ok64 r) ∧ l.length ≤ 9223372036854775807) := fun en held fuel cs x h =>
 Dec.slice (k := 2) underlying41 decRng (by kernel_rfl) (by decide) en held fuel cs x h
theorem of_slice {H : Type} {enc : TypeId × Value → H} {held : Bool} {α : Type} {T e : TypeId} {k : Nat} {g : α → List (List AV)} {ok : α → Prop} {base : Nat} {v : Value} {d : DataW H} {p : List MemPlace} (hd : Dec Tryz.prog W T (fun a => [.fro k (g a)]) ok) (ht : Tryz.prog.underlying T = some (.slice e))
  (hv : Value.okWide Tryz.prog W .any base T v) (h : DataW.Trod enc Tryz.prog W 0 (fun _ => true) held T v d p) : ∃ a, ok a ∧ RepV (I0 W) (.fro k (g a)) v := by
 obtain ⟨a, len, cap, rfl⟩ := okWide_slice ht hv
 obtain ⟨fuel, h⟩ := h
 obtain ⟨a, h1, v, _, e, h2, h3⟩ := hd enc held fuel _ _ h
 cases e
 exact ⟨a, h1, h2⟩
theorem of_struct {H : Type} {enc : TypeId × Value → H} {held : Bool} {α : Type} {T : TypeId} {e : α → List AV} {ok : α → Prop} {fs : Array Field} {base : Nat} {v : Value} {d : DataW H} {p : List MemPlace} (hd : Dec Tryz.prog W T e ok) (ht : Tryz.prog.underlying T = some (.struct fs))
  (hv : Value.okWide Tryz.prog W .any base T v) (h : DataW.Trod enc Tryz.prog W 0 (fun _ => true) held T v d p) : ∃ a, ok a ∧ RepV (I0 W) (.agg (e a)) v := by
 obtain ⟨cs, rfl, _⟩ := okWide_struct ht hv
 obtain ⟨fuel, h⟩ := h
 obtain ⟨a, h1, h2⟩ := hd enc held fuel _ _ h
 exact ⟨a, h1, cs.toList, by simp, h2⟩
theorem xTab : RExtra Tryz.prog Tryz.lays200_ren := ⟨by kernel_rfl, by kernel_rfl, by kernel_rfl, by kernel_rfl, by kernel_rfl, by kernel_rfl, by kernel_rfl, by kernel_rfl⟩
theorem letters_of (h : Lib.VarReads Tryz.prog W "unicode.properties" (Lib.tabData .u8 Lib.propertiesTab)) (h2 : Lib.VarReads Tryz.prog W "unicode.Letter" (Lib.rtabData letterT)) : Letters W :=
 ⟨tabIs_of_reads (g := 0) (by kernel_rfl) (by kernel_rfl) underlying296 underlying5 (by kernel_rfl) (by kernel_rfl) h,
  rvar_of_reads { Tryz.lays200 with } xTab (name := "unicode.Letter") (g := 1) (by kernel_rfl) (by kernel_rfl) h2⟩
end Go.Proofs.YtjnpcfpecilejaaGreatDoor
namespace Go.Proofs.YtjnpcfpecilejaaGreatDoor
open Go.Proofs.Tryz
open Go.Proofs
theorem fMay : Tryz.prog.mayEnter = true := by kernel_rfl
theorem fLift : (Rows.tableRangesRow.lifted == Tryz.prog.liftsFinal) = true := by kernel_rfl
theorem fMake : (Tryz.prog.make == some Rows.tableRangesRow.make) = true := by kernel_rfl
theorem fLaid : laidOutB Tryz.prog = true := by kernel_rfl
theorem fRow : mapsRowed Tryz.prog = true := by kernel_rfl
theorem fStop : (Tryz.prog.stops == []) = true := by kernel_rfl
theorem fKnob : (Tryz.prog.stopKnobs == []) = true := by kernel_rfl
theorem fKeys : (Rows.tableRangesRow.plainKeys == Tryz.prog.plainKeys) = true := by kernel_rfl
theorem fHeard : Tryz.prog.stopsHeard = true := by kernel_rfl
theorem gIn : (Rows.tableRangesRow.inPlace == Tryz.prog.inPlace 6) = true := by kernel_rfl
theorem gUn : (Rows.tableRangesRow.unfollowed == Tryz.prog.unfollowed 6) = true := by kernel_rfl
theorem gRec : (Rows.tableRangesRow.recurses == Tryz.prog.recurses 6) = true := by kernel_rfl
theorem gNam : (Rows.tableRangesRow.named == Tryz.prog.varsNamed 6) = true := by kernel_rfl
theorem closed : joinedFacts Tryz.prog 6 Tryz.f6 Rows.tableRangesSpec Rows.tableRangesRow = true := by
 unfold joinedFacts
 rw [fLaid, fRow, fStop, fKnob, gIn, gUn, gRec, gNam, fKeys, fHeard, fMay, fLift, fMake]
 kernel_rfl
end Go.Proofs.YtjnpcfpecilejaaGreatDoor
