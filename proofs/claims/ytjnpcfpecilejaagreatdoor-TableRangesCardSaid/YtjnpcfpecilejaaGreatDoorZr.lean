/- The program's rules. Of programs that are little. -/
import Derived.Test.YtjnpcfpecilejaaGreatDoorZq
set_option linter.unusedVariables false
set_option linter.unusedSimpArgs false
set_option linter.unusedSectionVars false
namespace Go.Proofs.YtjnpcfpecilejaaGreatDoor
open Go.Proofs.Tryz
open Go.Proofs Go.Lib Go.Shelf Go.RowKit
theorem ps47_1 : PlacesS Tryz.prog 47 75 1 2 [.int .i64 0, .int .i64 0] := ⟨_, underlying47, sizeOf75, zeroValue75, by decide, by decide, by kernel_rfl⟩
variable {E : World}
set_option maxRecDepth 20000
theorem ShapedP.ty {f : PFunc} (h : ShapedP f) {v : Nat} (hv : v < f.vars.length) : 0 ≤ tyV f v ∧ tyV f v ≤ 2 := by
 have h1 := h.2.2.1 v hv
 unfold tyV
 rw [show (v : Int).toNat = v from rfl, List.getElem?_eq_getElem hv]
 exact ⟨h1.2.1, h1.2.2.1⟩
theorem tyV_at {f : PFunc} {v : Nat} (hv : v < f.vars.length) : f.vars[v].ty = tyV f v := by unfold tyV; rw [show (v : Int).toNat = v from rfl, List.getElem?_eq_getElem hv]; rfl
theorem refFirst_spec (f : PFunc) (hS : ShapedP f) (hf : small f) (v : Nat) (hv : v < f.vars.length) : AFun Tryz.prog E 39 [.agg (encF f), .int .i64 v] (.agg (encZ (firstR f v))) := by
 have hp := hf.2.1
 have hr := rType_s (E := E) (hS.ty hv)
 rw [← tyV_at hv] at hr
 refine zy func39 rfl (by decide) rfl<|za<|z7 rfl<|yc (cs := _) rfl rfl rfl<|y1 (cs := [.int .i64 0, .int .i64 0]) zeroValue75 rfl rfl<|fun i4 => z6<|za<|za<|z7 rfl<|z2 (zc (v := .int _ _) rfl)<|z2 (zg underlying26 rfl sizeOf23 (by decide) rfl rfl)<|z2 (zf (c := .fro _ _) isAgg23 rfl)<|z2 (yd underlying23 rfl)<|z2 (yj rfl rfl)<|z6<|zt rfl (fun c => ?_) (fun c => ?_)
 ·refine za<|z7 rfl<|z2 (zg underlying26 rfl sizeOf22 (by decide) rfl rfl)<|z2 (zf (c := .fro _ _) isAgg22 rfl)<|z2 (zc (v := .int _ _) rfl)<|z2 (y7 (j := v) underlying22 sizeOf56 rfl rfl rfl (List.getElem?_eq_getElem hv)) ?_
  refine z2 (zg underlying56 rfl sizeOf54 (by decide) rfl rfl)<|z2 (zf (c := .int _ _) isAgg54 rfl)<|zh (hr) rfl<|zi sizeOf75 rfl rfl rfl rfl rfl rfl .head rfl<|z6<|zj<|yl rfl ⟨_, .head⟩ isAgg75 sizeOf75 rfl ?_
  rw [firstR, if_pos c, tyV_at hv]; try rfl
 ·refine zk<|za<|z7 rfl<|z2 (y9 (cps := []) (rs := [.int .i64 0, .int .i64 0]) pl75 rfl rfl rfl)<|zi sizeOf75 rfl rfl rfl rfl rfl rfl .head rfl<|z6<|zj<|yl rfl ⟨_, .head⟩ isAgg75 sizeOf75 rfl ?_
  rw [firstR, if_neg c]; try rfl
theorem small.made {f : PFunc} (hf : small f) : ∀ {k : Nat}, k ≤ f.blocks.length → (madeTo f k).length ≤ k * 2000
 | 0, _ => by simp [madeTo]
 | k + 1, hk => by
  have h1 := small.made hf (k := k) (by omega)
  obtain ⟨hb0, hb1, hb2, hb3, hb4⟩ := hf.2.2.2.2 _ (List.getElem_mem (show k < f.blocks.length by omega))
  rw [madeTo_succ (by omega), List.length_append, List.length_append]
  unfold madePh madeIn
  rw [List.length_map, List.length_map]
  have := List.length_filter_le (fun x : PInst => decide (0 ≤ x.dst)) (f.blocks[k]'(by omega)).insts
  omega
theorem lv_get {l : List Rng} {a : Int} (h : a.toNat < l.length) : l[a.toNat]? = some (lv l a) := by unfold lv; rw [List.getElem?_eq_getElem h]; rfl
theorem hasV_rng {f : PFunc} {v : Int} (h : hasV f v = true) : 0 ≤ v ∧ v < f.vars.length := by simpa [hasV] using h
theorem ty_get {f : PFunc} (hS : ShapedP f) {a : Int} (h : hasV f a = true) : ∃ x, f.vars[a.toNat]? = some x ∧ x.ty = tyV f a ∧ 0 ≤ x.ty ∧ x.ty ≤ 2 := by
 obtain ⟨h0, h1⟩ := hasV_rng h
 have hl : a.toNat < f.vars.length := by omega
 have h2 := hS.2.2.1 _ hl
 refine ⟨f.vars[a.toNat], List.getElem?_eq_getElem hl, ?_, h2.2.1, h2.2.2.1⟩
 unfold tyV; rw [List.getElem?_eq_getElem hl]; rfl
theorem args_take {f : PFunc} {l : List Rng} {x : PInst} {m : Nat} (h : m < x.args.length) : (argsR f l x).take (m + 1) = (argsR f l x).take m ++ [ofR f l x.args[m]] := by
 unfold argsR
 rw [List.take_succ_eq_append_getElem (by rw [List.length_map]; exact h), List.getElem_map]
theorem Left.d1 {x : Nat × AObj} {O : OL} : Left (x :: O) O := ⟨_, .drop (.refl _), rfl⟩
theorem Left.d2 {x y : Nat × AObj} {O : OL} : Left (x :: y :: O) O := ⟨_, .drop (.drop (.refl _)), rfl⟩
theorem ACall.same {P : Program} {E : World} {f : FuncId} {ars : List AV} {O : OL} {x : AV} (h : ACall P E f ars O fun y O' => y = x ∧ Left O' O) : ACall P E f ars O fun y O' => y = x ∧ O' = O :=
 (ACall.exact (γ := Unit) (x := fun _ => x) (M := fun _ => O) (p := fun _ => True) (h.mono fun _ _ h => ⟨(), h.1, h.2, trivial⟩)).mono fun _ _ ⟨_, h1, h2, _⟩ => ⟨h1, h2⟩
set_option maxHeartbeats 8000000 in
theorem refRule_spec (f : PFunc) (hE : EndsOk f) (hf : small f) (hS : ShapedP f) (l : List Rng) {Lv HL : AV × AObj} {ptr : Nat → AV} {i : Nat} (R : RdL Tryz.prog 47 75 Lv.1 ptr i HL.2 l) (hll : l.length = f.vars.length) (ho : ∀ u : Int, 0 ≤ u → ok64 (lv l u))
  (v : Nat) (hv : v < f.vars.length) (hm : 0 ≤ (makerT f v).1) (hone : (makings f v).length ≤ 1) :
  ACall Tryz.prog E 41 [.agg (encF f), froB (tabR f), Lv.1, .int .i64 v] [(i, HL.2)] fun r O => r = .agg (encZ (ruleR f (chkV f) l v)) ∧ O = [(i, HL.2)] := by
 refine ACall.same ?_
 obtain ⟨Lv, _⟩ := Lv
 obtain ⟨_, HL⟩ := HL
 dsimp only at R ⊢
 obtain ⟨bi, b, hget, hcase⟩ := maker_cases hm
 have hbi : bi < f.blocks.length := (List.getElem?_eq_some_iff.1 hget).1
 have hmem := List.mem_of_getElem? hget
 obtain ⟨hb0, hb1, hb2, hb3, hb4⟩ := hf.2.2.2.2 b hmem
 obtain ⟨hPh, hIn, hTm⟩ := hS.2.2.2.2.2 b hmem
 have hMk := Maker_spec (E := E) f hf v
 refine zy func41 rfl (by decide) rfl<|za<|z7 rfl<|yc (cs := _) rfl rfl rfl<|y1 (cs := [.int .i64 0, .int .i64 0]) zeroValue75 rfl rfl<|fun i8 => z6 ?_
 rcases hcase with ⟨p0, hp0, hd0, hmk⟩ | ⟨k, x, hxk, hxd, hmk⟩
 ·have hrule := rule_phi (chk := chkV f) (l := l) hone hget hp0 hd0 hmk
  rw [hrule, ← phis_one hone hget hp0 hd0]
  rw [hmk] at hMk
  dsimp only at hMk
  refine za<|z7 rfl<|z2 (zo isAgg26 sizeOf26 rfl rfl)<|z2 (zc (v := .int _ _) rfl)<|zh (hMk) rfl<|z2 (zc (v := .tup _) rfl)<|z2 (yr (v := .int _ _) rfl rfl)<|z2 (yr (v := .int _ _) rfl rfl)<|z2 (zd (v := .int _ _) rfl)<|z2 (zd (v := .int _ _) rfl)<|z6<|za<|za<|z7 rfl<|z2 (zc (v := .int _ _) rfl)<|z2 (yj rfl rfl)<|z6<|q6 rfl rfl<|za<|z7 rfl<|zh (rNone) rfl<|y1 (cs := [.int .i64 0, .int .i64 0]) zeroValue75 rfl rfl<|fun i11 => zi sizeOf75 rfl rfl rfl rfl rfl rfl .head rfl<|z6<|za<|za<|z7 rfl<|z2 (zg underlying26 rfl sizeOf24 (by decide) rfl rfl)<|z2 (zf (c := .fro _ _) isAgg24 rfl)<|z2 (zc (v := .int _ _) rfl)<|z2 (y7 (j := bi) underlying24 sizeOf66 rfl rfl rfl hget)<|z2 (zg underlying66 rfl sizeOf59 (by decide) rfl rfl)<|z2 (zf (c := .fro _ _) isAgg59 rfl)<|z2 (yd underlying59 rfl)<|z2 (zc (v := .int _ _) rfl)<|z6<|zq<|yh (γ := Nat) [2, 3, 4, 8, 11, 35, 36] (fun q => [(37, .int .i64 q)]) (fun q => [(i11, .cells 75 (encZ (phisAcc f l v (b.phis.take q)))), (i8, .cells 75 [.int .i64 0, .int .i64 0]), (i, HL)]) (fun q => q ≤ b.phis.length) (fun q => b.phis.length - q) 0 ⟨rfl, trivial⟩ ⟨_, (.refl _), rfl⟩ (Nat.zero_le _) ?_
  rintro q hq
  refine za<|z7 rfl<|z2 (yj rfl rfl)<|z6<|za<|zt rfl (fun cq => ?_) (fun cq => ?_)
  ·have hq2 : q < b.phis.length := by simp at cq; omega
   obtain ⟨p, hp⟩ : ∃ p, b.phis[q] = p := ⟨_, rfl⟩
   have hpm : p ∈ b.phis := hp ▸ List.getElem_mem hq2
   obtain ⟨hpd, hpl, hpn, hpa, hpf⟩ := hPh p hpm
   have hpb := (hb3 p hpm).1
   have hsn := phisAcc_snoc f l v (b.phis.take q) p
   rw [← hp, ← List.take_succ_eq_append_getElem hq2, hp] at hsn
   refine zk<|za<|zq<|za<|z7 rfl<|z2 (y7 (j := q) underlying59 sizeOf95 rfl rfl rfl (by rw [List.getElem?_eq_getElem hq2, hp])) ?_
   refine z2 (zo isAgg95 sizeOf95 rfl rfl)<|y1 (cs := [.int .i64 0, .raw (.slice none 0 0), .raw (.slice none 0 0)]) zeroValue95 rfl rfl<|fun i13 => zi sizeOf95 rfl rfl rfl rfl rfl rfl .head rfl<|zn (yp (t := 13) rfl .head)<|z6<|za<|za<|z7 rfl<|z2 (zg underlying95 rfl sizeOf3 (by decide) rfl rfl)<|z2 (zf (c := .int _ _) isAgg3 rfl)<|z2 (zc (v := .int _ _) rfl)<|z2 (yx rfl rfl)<|z6<|y8 rfl (fun cd => ?_) (fun cd => ?_)
   ·have hd : ¬ p.dst = (v : Int) := by simpa using cd
    rw [if_neg hd] at hsn
    refine yg<|z7 rfl<|z2 (yi rfl rfl (by unfold I64; omega))<|z2 (zc (v := .int _ _) rfl)<|z6 ?_
    exact ⟨q + 1, ⟨rfl, rfl, rfl, rfl, rfl, rfl, rfl, trivial⟩, ⟨rfl, trivial⟩, ⟨_, (.refl _), by rw [hsn]⟩, hq2, by omega⟩
   ·have hd : p.dst = (v : Int) := by simpa using cd
    rw [if_pos hd] at hsn
    obtain ⟨A, hA⟩ : ∃ A, phisAcc f l v (b.phis.take q) = A := ⟨_, rfl⟩
    rw [hA] at hsn ⊢
    refine zk<|za<|z7 rfl<|z2 (zg underlying95 rfl sizeOf23 (by decide) rfl rfl)<|z2 (zf (c := .fro _ _) isAgg23 rfl)<|z2 (yd underlying23 rfl)<|z2 (zc (v := .int _ _) rfl)<|z6<|zq<|yh (γ := Nat) [2, 3, 4, 8, 11, 35, 36, 37, 46, 47] (fun m => [(48, .int .i64 m)]) (fun m => [(i11, .cells 75 (encZ (phiAcc f l A (p.args.take m)))), (i8, .cells 75 [.int .i64 0, .int .i64 0]), (i, HL)]) (fun m => m ≤ p.args.length) (fun m => p.args.length - m) 0 ⟨rfl, trivial⟩ ⟨_, (.refl _), rfl⟩ (Nat.zero_le _) ?_
    rintro m hm
    refine za<|z7 rfl<|z2 (yj rfl rfl)<|z6<|za<|zt rfl (fun cm => ?_) (fun cm => ?_)
    ·have hm2 : m < p.args.length := by simp at cm; omega
     obtain ⟨a, ha⟩ : ∃ a, p.args[m] = a := ⟨_, rfl⟩
     have hav := List.all_eq_true.1 hpa a (ha ▸ List.getElem_mem hm2)
     obtain ⟨ha0, ha1⟩ := hasV_rng hav
     obtain ⟨y, hy, hyt, hy0, hy2⟩ := ty_get hS hav
     refine zk<|za<|zq<|za<|z7 rfl<|z2 (y7 (j := m) underlying23 sizeOf3 rfl rfl rfl (by rw [List.getElem?_eq_getElem hm2, ha])) ?_
     refine z2 (zf (c := .int _ _) isAgg3 rfl)<|z2 (zd (v := .int _ _) rfl)<|z6<|yb (fun j => Nat.beq j 14) (by kernel_rfl) rfl (y4 (.r (.l (.r (.rest _)))))<|ze (i := 0) rfl (by kernel_rfl) (qb isAgg75 sizeOf75 rfl ⟨_, .head⟩ rfl)<|ze (i := 1) rfl (by kernel_rfl) (zc (v := _) rfl)<|ze (i := 2) rfl (by kernel_rfl) (zc (v := .int _ _) rfl)<|ze (i := 3) rfl (by kernel_rfl) (R.idx (j := a.toNat) rfl rfl (by omega) (by omega) ⟨_, (.tail .head)⟩)<|ze (i := 4) rfl (by kernel_rfl) (R.load (j := a.toNat) (r := lv l a) rfl (lv_get (by omega)) ⟨_, (.tail .head)⟩)<|ze (i := 5) rfl (by kernel_rfl) (zg underlying26 rfl sizeOf22 (by decide) rfl rfl)<|ze (i := 6) rfl (by kernel_rfl) (zf (c := .fro _ _) isAgg22 rfl)<|ze (i := 7) rfl (by kernel_rfl) (zc (v := .int _ _) rfl)<|ze (i := 8) rfl (by kernel_rfl) (y7 (j := a.toNat) underlying22 sizeOf56 rfl rfl (by omega) hy)<|ze (i := 9) rfl (by kernel_rfl) (zg underlying56 rfl sizeOf54 (by decide) rfl rfl)<|ze (i := 10) rfl (by kernel_rfl) (zf (c := .int _ _) isAgg54 rfl)<|zp (i := 11) rfl (by kernel_rfl)<|zh (rType_s ⟨hy0, hy2⟩) rfl<|z6<|zp (i := 12) rfl (by kernel_rfl)<|zh (rMeet_s _ _) rfl<|z6<|zp (i := 13) rfl (by kernel_rfl)<|zh (rJoin_s _ _) rfl<|z6<|yy<|q5 (i := 14) rfl (by kernel_rfl) (by kernel_rfl)<|zi sizeOf75 rfl rfl rfl rfl rfl rfl .head rfl<|zn (zl (zr (.tail .head)))<|zn (zl (zr (.tail (.tail .head))))<|zn (zl (zr (.tail (.tail .head))))<|z6<|q0 (by kernel_rfl)<|z7 rfl<|z2 (yi rfl rfl (by unfold I64; omega))<|z2 (zc (v := .int _ _) rfl)<|z6 ?_
     exact ⟨m + 1, ⟨rfl, rfl, rfl, rfl, rfl, rfl, rfl, rfl, rfl, rfl, trivial⟩, ⟨rfl, trivial⟩, ⟨_, (.refl _), by rw [List.take_succ_eq_append_getElem hm2, ha, phiAcc_snoc]; unfold ofR; rw [← hyt]; rfl⟩, hm2, by omega⟩
    ·have hmn : m = p.args.length := by simp at cm; omega
     refine yg<|z7 rfl<|z2 (yi rfl rfl (by unfold I64; omega))<|z2 (zc (v := .int _ _) rfl)<|z6 ?_
     exact ⟨q + 1, ⟨rfl, rfl, rfl, rfl, rfl, rfl, rfl, trivial⟩, ⟨rfl, trivial⟩, ⟨_, (.refl _), by rw [hsn, hmn, List.take_length]⟩, hq2, by omega⟩
  ·have hqn : q = b.phis.length := by simp at cq; omega
   rw [hqn, List.take_length]
   refine yg<|za<|z7 rfl<|z2 (qb isAgg75 sizeOf75 rfl ⟨_, .head⟩ rfl)<|zi sizeOf75 rfl rfl rfl rfl rfl rfl (.tail .head) rfl<|z6<|zj<|yl rfl ⟨_, (.tail .head)⟩ isAgg75 sizeOf75 rfl ?_
   exact ⟨rfl, .d2⟩
 ·have hI := instP_F (hIn x (List.mem_of_getElem? hxk))
  have hxl := hb4 x (List.mem_of_getElem? hxk)
  have hchk := chkV_at hget hxk hmk
  have hrule : ruleR f (chkV f) l v = if (argsR f l x).any rEmp = true then noR else instQ x.op x.num (argsR f l x) (chkX f x bi k) := by rw [rule_inst hget hxk hmk, instR, hxd, hchk]
  rw [hrule]
  rw [hmk] at hMk
  dsimp only at hMk
  have hal : (argsR f l x).length = x.args.length := by unfold argsR; rw [List.length_map]
  refine za<|z7 rfl<|z2 (zo isAgg26 sizeOf26 rfl rfl)<|z2 (zc (v := .int _ _) rfl)<|zh (hMk) rfl<|z2 (zc (v := .tup _) rfl)<|z2 (yr (v := .int _ _) rfl rfl)<|z2 (yr (v := .int _ _) rfl rfl)<|z2 (zd (v := .int _ _) rfl)<|z2 (zd (v := .int _ _) rfl)<|z6<|za<|za<|z7 rfl<|z2 (zc (v := .int _ _) rfl)<|z2 (yj rfl rfl)<|z6<|q4 rfl (decide_eq_false (by omega))<|zk<|za<|z7 rfl<|z2 (zg underlying26 rfl sizeOf24 (by decide) rfl rfl)<|z2 (zf (c := .fro _ _) isAgg24 rfl)<|z2 (zc (v := .int _ _) rfl)<|z2 (y7 (j := bi) underlying24 sizeOf66 rfl rfl rfl hget)<|z2 (zg underlying66 rfl sizeOf60 (by decide) rfl rfl)<|z2 (zf (c := .fro _ _) isAgg60 rfl)<|z2 (zc (v := .int _ _) rfl)<|z2 (y7 (j := k) underlying60 sizeOf33 rfl rfl rfl hxk)<|z2 (zo isAgg33 sizeOf33 rfl rfl)<|y1 (cs := [.int .i64 0, .int .i64 0, .raw (.slice none 0 0), .int .i64 0]) zeroValue33 rfl rfl<|fun i16 => zi sizeOf33 rfl rfl rfl rfl rfl rfl .head rfl<|zn (yp (t := 16) rfl .head)<|z6<|za<|z7 rfl<|z2 (zd (v := .raw _) rfl)<|z6<|za<|za ?_
  refine z7 rfl<|z2 (zg underlying33 rfl sizeOf23 (by decide) rfl rfl)<|z2 (zf (c := .fro _ _) isAgg23 rfl)<|z2 (yd underlying23 rfl)<|z2 (zc (v := .int _ _) rfl)<|z6<|adopt_wp (t := 17) (k := 2) (T := 75) rfl<|fun i17 => zq<|yh (γ := Nat × Nat) [1, 2, 4, 8, 9, 10, 16, 79, 80] (fun g => [(81, .int .i64 g.1), (17, .own g.2 g.1)]) (fun g => [(g.2, .grow 2 75 (lC ((argsR f l x).take g.1))), (i8, .cells 75 [.int .i64 0, .int .i64 0]), (i, HL)]) (fun g => g.1 ≤ x.args.length ∧ ((argsR f l x).take g.1).any rEmp = false) (fun g => x.args.length - g.1) (0, i17) ⟨rfl, rfl, trivial⟩ ⟨_, (.refl _), rfl⟩ (⟨Nat.zero_le _, rfl⟩) ?_
  rintro ⟨m, iq⟩ ⟨hm, hne⟩
  try dsimp only at *
  refine za<|z7 rfl<|z2 (yj rfl rfl)<|z6<|za<|zt rfl (fun cm => ?_) (fun cm => ?_)
  ·have hm2 : m < x.args.length := by simp at cm; omega
   obtain ⟨a, ha⟩ : ∃ a, x.args[m] = a := ⟨_, rfl⟩
   have hav := hI.args a (ha ▸ List.getElem_mem hm2)
   obtain ⟨ha0, ha1⟩ := hasV_rng hav
   obtain ⟨y, hy, hyt, hy0, hy2⟩ := ty_get hS hav
   have hof : ofR f l a = rMeet (lv l a) (rType y.ty) := by unfold ofR; rw [hyt]
   have htk := args_take (f := f) (l := l) hm2
   rw [ha, hof] at htk
   have hta : (argsR f l x)[m]? = some (rMeet (lv l a) (rType y.ty)) := by unfold argsR; rw [List.getElem?_map, List.getElem?_eq_getElem hm2, ha]; simp [hof]
   refine zk<|za<|zq<|za<|z7 rfl<|z2 (y7 (j := m) underlying23 sizeOf3 rfl rfl rfl (by rw [List.getElem?_eq_getElem hm2, ha])) ?_
   refine z2 (zf (c := .int _ _) isAgg3 rfl)<|z2 (zd (v := .int _ _) rfl)<|z6<|za<|yq (γ := Nat) [1, 2, 4, 8, 9, 10, 16, 17, 79, 80, 81] (fun z => [(20, .po z 0)]) (fun z => [(i, HL), (z, .cells 75 (encZ (rMeet (lv l a) (rType y.ty)))), (iq, .grow 2 75 (lC ((argsR f l x).take m))), (i8, .cells 75 [.int .i64 0, .int .i64 0])]) (fun z => True) ?_ (fun _ _ h => h) ?_
   ·refine yb (fun j => false) (by kernel_rfl) rfl (y4 (.l (.l (.r (.rest _)))))<|ze (i := 0) rfl (by kernel_rfl) (zc (v := _) rfl)<|ze (i := 1) rfl (by kernel_rfl) (zc (v := .int _ _) rfl)<|ze (i := 2) rfl (by kernel_rfl) (R.idx (j := a.toNat) rfl rfl (by omega) (by omega) ⟨_, .head⟩)<|ze (i := 3) rfl (by kernel_rfl) (R.load (j := a.toNat) (r := lv l a) rfl (lv_get (by omega)) ⟨_, .head⟩)<|ze (i := 4) rfl (by kernel_rfl) (zg underlying26 rfl sizeOf22 (by decide) rfl rfl)<|ze (i := 5) rfl (by kernel_rfl) (zf (c := .fro _ _) isAgg22 rfl)<|ze (i := 6) rfl (by kernel_rfl) (zc (v := .int _ _) rfl)<|ze (i := 7) rfl (by kernel_rfl) (y7 (j := a.toNat) underlying22 sizeOf56 rfl rfl (by omega) hy)<|ze (i := 8) rfl (by kernel_rfl) (zg underlying56 rfl sizeOf54 (by decide) rfl rfl)<|ze (i := 9) rfl (by kernel_rfl) (zf (c := .int _ _) isAgg54 rfl)<|yz (i := 10) (j := 12) rfl rfl (by kernel_rfl) ?_ ?_
    ·refine zh (rType_s ⟨hy0, hy2⟩) rfl<|z6<|yz (i := 11) (j := 12) rfl rfl (by kernel_rfl) ?_ ?_
     ·refine zh (rMeet_s _ _) rfl<|z6<|zp (i := 12) rfl (by kernel_rfl)<|y1 (cs := [.int .i64 0, .int .i64 0]) zeroValue75 rfl rfl<|fun i20 => z6<|zp (i := 13) rfl (by kernel_rfl)<|zi sizeOf75 rfl rfl rfl rfl rfl rfl .head rfl<|z6<|ya (by kernel_rfl) ?_
      exact ⟨i20, ⟨rfl, rfl, rfl, rfl, rfl, rfl, rfl, rfl, rfl, rfl, rfl, trivial⟩, ⟨rfl, trivial⟩, ⟨_, (.refl _), rfl⟩, trivial⟩
     ·refine y1 (cs := [.int .i64 0, .int .i64 0]) zeroValue75 rfl rfl<|fun i20 => z6<|zp (i := 11) rfl (by kernel_rfl)<|zh (rMeet_s _ _) rfl<|z6<|zp (i := 13) rfl (by kernel_rfl)<|zi sizeOf75 rfl rfl rfl rfl rfl rfl .head rfl<|z6<|ya (by kernel_rfl) ?_
      exact ⟨i20, ⟨rfl, rfl, rfl, rfl, rfl, rfl, rfl, rfl, rfl, rfl, rfl, trivial⟩, ⟨rfl, trivial⟩, ⟨_, (.refl _), rfl⟩, trivial⟩
    ·refine y1 (cs := [.int .i64 0, .int .i64 0]) zeroValue75 rfl rfl<|fun i20 => z6<|zp (i := 10) rfl (by kernel_rfl)<|zh (rType_s ⟨hy0, hy2⟩) rfl<|z6<|zp (i := 11) rfl (by kernel_rfl)<|zh (rMeet_s _ _) rfl<|z6<|zp (i := 13) rfl (by kernel_rfl)<|zi sizeOf75 rfl rfl rfl rfl rfl rfl .head rfl<|z6<|ya (by kernel_rfl) ?_
     exact ⟨i20, ⟨rfl, rfl, rfl, rfl, rfl, rfl, rfl, rfl, rfl, rfl, rfl, trivial⟩, ⟨rfl, trivial⟩, ⟨_, (.refl _), rfl⟩, trivial⟩
   ·rintro z _
    refine yw (yp (t := 20) rfl (.tail .head))<|yw (zl (zr (.tail (.tail .head))))<|yw (zl (zr (.tail (.tail .head))))<|za<|za<|z7 rfl<|z2 (zg underlying75 rfl sizeOf2 (by decide) rfl rfl)<|z2 (zf (c := .int _ _) isAgg2 rfl)<|z2 (zg underlying75 rfl sizeOf2 (by decide) rfl rfl)<|z2 (zf (c := .int _ _) isAgg2 rfl)<|z2 (q7 rfl rfl)<|z6<|zt rfl (fun ce => ?_) (fun ce => ?_)
    ·refine za<|z7 rfl<|zh (rNone) rfl<|zi sizeOf75 rfl rfl rfl rfl rfl rfl (.tail .head) rfl<|z6<|zj<|yl rfl ⟨_, (.tail .head)⟩ isAgg75 sizeOf75 rfl ?_
     exact ⟨by rw [if_pos (List.any_eq_true.2 ⟨_, List.mem_of_getElem? hta, by unfold rEmp; exact decide_eq_true ce⟩)]; rfl, .d2⟩
    ·refine zk<|z7 rfl<|z2 (zc (v := .own _ _) rfl)<|z2 (zo isAgg75 sizeOf75 rfl rfl)<|yf (rows := [[_, _]]) ps47_1 rfl rfl rfl rfl rfl<|q8 (k := 2) underlying47 Tryz.type75 rfl rfl rfl rfl rfl (fun _ => .head) (by rw [lC_len, List.length_take, hal]; omega) (by decide) rfl (by show (_ + 1) * 16 ≤ _; omega) (by show _ + 1 ≤ _; omega)<|fun i106 => z2 (zd (v := .own _ _) rfl)<|z6<|z7 rfl<|z2 (yi rfl rfl (by unfold I64; omega))<|z2 (zc (v := .int _ _) rfl)<|z6 ?_
     exact ⟨(m + 1, i106), ⟨rfl, rfl, rfl, rfl, rfl, rfl, rfl, rfl, rfl, trivial⟩, ⟨rfl, rfl, trivial⟩, ⟨_, (.refl _), by rw [htk, ← lC_push]; rfl⟩, ⟨hm2, by rw [htk, List.any_append, hne]; simp [rEmp]; omega⟩, by dsimp only; omega⟩
  ·have hmn : m = x.args.length := by simp at cm; omega
   subst hmn
   rw [← hal, List.take_length] at hne
   rw [← hal, List.take_length]
   have hokr : okRs (argsR f l x) := fun r hr => by
    obtain ⟨a, ha, rfl⟩ := List.mem_map.1 hr
    have hav := hasV_rng (hI.args a ha)
    have hnn := List.any_eq_false.1 hne _ hr
    exact ⟨ofR_ok ho hav.1, by simpa [rEmp] using hnn⟩
   refine yg<|yw (GStep.knowR (t := 17) rfl .head rfl)<|za<|yb (fun j => Nat.beq j 9) (by kernel_rfl) rfl (y4 (.l (.r (.rest _))))<|ze (i := 0) rfl (by kernel_rfl) (zo isAgg33 sizeOf33 rfl rfl)<|ze (i := 1) rfl (by kernel_rfl) (zc (v := .fro _ _) rfl)<|ze (i := 2) rfl (by kernel_rfl) (zo isAgg26 sizeOf26 rfl rfl)<|ze (i := 3) rfl (by kernel_rfl) (zc (v := .fro _ _) rfl)<|ze (i := 4) rfl (by kernel_rfl) (zo isAgg33 sizeOf33 rfl rfl)<|ze (i := 5) rfl (by kernel_rfl) (zc (v := .int _ _) rfl)<|ze (i := 6) rfl (by kernel_rfl) (zc (v := .int _ _) rfl)<|zp (i := 7) rfl (by kernel_rfl)<|zh (refChecked_spec f hf x hxl bi k hbi) rfl<|z6<|zp (i := 8) rfl (by kernel_rfl)<|zh (refInst22_spec x (argsR f l x) (chkX f x bi k) (by rw [hal]; exact hI.len) hokr hI.op) rfl<|z6<|yy<|q5 (i := 9) rfl (by kernel_rfl) (by kernel_rfl)<|zi sizeOf75 rfl rfl rfl rfl rfl rfl (.tail .head) rfl<|zn (zl (zr .head))<|zn (zl (zr (.tail .head)))<|z6<|q0 (by kernel_rfl)<|zj<|yl rfl ⟨_, .head⟩ isAgg75 sizeOf75 rfl ?_
   exact ⟨by rw [if_neg (by rw [hne]; decide)]; rfl, .d1⟩
end Go.Proofs.YtjnpcfpecilejaaGreatDoor
namespace Go.Proofs.YtjnpcfpecilejaaGreatDoor
open Go.Proofs.Tryz
open Go.Proofs Go.Lib Go.Shelf Go.RowKit
theorem pl226 : PlacesA Tryz.prog 226 2 [.int .i64 0, .int .i64 0, .int .i64 0, .int .i64 0, .int .i64 0, .int .i64 0] := ⟨_, _, _, underlying226, zeroValue226, sizeOf74, rfl⟩
variable {E : World}
set_option maxRecDepth 20000
def viewL (f : PFunc) (chk : List Bool) (Lv : AV) : List AV := encF f ++ [.fro 2 ((makersT f).map eP.row), .fro 1 (chk.map encB), Lv]
def viewV (f : PFunc) (chk : List Bool) (Lv : AV) : AV := .pf (viewL f chk Lv)
def sameO (i : Nat) (HL : AObj) (x : AV) : AV → OL → Prop := fun y O => y = x ∧ O = [(i, HL)]
theorem of_fro (f : PFunc) (hS : ShapedP f) (chk : List Bool) (l : List Rng) (hll : l.length = f.vars.length) (i : Nat) (HL : AObj) {a : Int} (ha : hasV f a = true) :
  ACall Tryz.prog E 176 [viewV f chk (.fro 2 (l.map encZ)), .int .i64 a] [(i, HL)] (sameO i HL (.agg (encZ (ofR f l a)))) := by
 obtain ⟨ha0, ha1⟩ := hasV_rng ha
 obtain ⟨y, hy, hyt, hy0, hy2⟩ := ty_get hS ha
 refine ACall.same<|zy func176 rfl (by decide) rfl<|za<|z7 rfl<|y1 (cs := [.int .i64 0, .int .i64 0]) zeroValue74 rfl rfl<|fun i4 => z6<|za<|yb (fun j => Nat.beq j 18) (by kernel_rfl) rfl (y4 (.rest _))<|ze (i := 0) rfl (by kernel_rfl) (zc (v := .pf _) rfl)<|ze (i := 1) rfl (by kernel_rfl) (qg rfl)<|ze (i := 2) rfl (by kernel_rfl) (zg underlying125 rfl sizeOf41 (by decide) rfl rfl)<|ze (i := 3) rfl (by kernel_rfl) (zf (c := .fro _ _) isAgg41 rfl)<|ze (i := 4) rfl (by kernel_rfl) (zc (v := .int _ _) rfl)<|ze (i := 5) rfl (by kernel_rfl) (y7 (j := a.toNat) underlying41 sizeOf74 rfl rfl (by omega) (lv_get (by omega)))<|ze (i := 6) rfl (by kernel_rfl) (zo isAgg74 sizeOf74 rfl rfl)<|ze (i := 7) rfl (by kernel_rfl) (zc (v := .pf _) rfl)<|ze (i := 8) rfl (by kernel_rfl) (qg rfl)<|ze (i := 9) rfl (by kernel_rfl) (zg underlying125 rfl sizeOf26 (by decide) rfl rfl)<|ze (i := 10) rfl (by kernel_rfl) (zg underlying26 rfl sizeOf22 (by decide) rfl rfl)<|ze (i := 11) rfl (by kernel_rfl) (zf (c := .fro _ _) isAgg22 rfl)<|ze (i := 12) rfl (by kernel_rfl) (zc (v := .int _ _) rfl)<|ze (i := 13) rfl (by kernel_rfl) (y7 (j := a.toNat) underlying22 sizeOf56 rfl rfl (by omega) hy)<|ze (i := 14) rfl (by kernel_rfl) (zg underlying56 rfl sizeOf54 (by decide) rfl rfl)<|ze (i := 15) rfl (by kernel_rfl) (zf (c := .int _ _) isAgg54 rfl)<|zp (i := 16) rfl (by kernel_rfl)<|zh (iType _) rfl<|z6<|zp (i := 17) rfl (by kernel_rfl)<|zh (iMeet _ _) rfl<|z6<|yy<|q5 (i := 18) rfl (by kernel_rfl) (by kernel_rfl)<|zi sizeOf74 rfl rfl rfl rfl rfl rfl .head rfl<|z6<|q0 (by kernel_rfl)<|zj<|yl rfl ⟨_, .head⟩ isAgg74 sizeOf74 rfl ?_
 exact ⟨by unfold ofR; rw [← hyt]; rfl, .d1⟩
theorem vphi_spec (f : PFunc) (l : List Rng) {w : AV} {i : Nat} {HL : AObj} (hof : ∀ {a : Int}, hasV f a = true → ACall Tryz.prog E 176 [w, .int .i64 a] [(i, HL)] (sameO i HL (.agg (encZ (ofR f l a)))))
  (p : PPhi) (hpa : p.args.all (hasV f) = true) (hpl : p.args.length ≤ 1000) : ACall Tryz.prog E 124 [w, .agg (encPhi p)] [(i, HL)] (sameO i HL (.agg (encZ (phiAcc f l noR p.args)))) := by
 refine ACall.same<|zy func124 rfl (by decide) rfl<|za<|z7 rfl<|yc (cs := _) rfl rfl rfl<|y1 (cs := [.int .i64 0, .int .i64 0]) zeroValue74 rfl rfl<|fun i4 => z6<|za<|z7 rfl<|zh (iNone) rfl<|y1 (cs := [.int .i64 0, .int .i64 0]) zeroValue74 rfl rfl<|fun i5 => zi sizeOf74 rfl rfl rfl rfl rfl rfl .head rfl<|z6<|za<|za<|z7 rfl<|z2 (zg underlying95 rfl sizeOf23 (by decide) rfl rfl)<|z2 (zf (c := .fro _ _) isAgg23 rfl)<|z2 (yd underlying23 rfl)<|z2 (zc (v := .int _ _) rfl)<|z6<|zq<|yh (γ := Nat) [0, 4, 5, 10, 11] (fun m => [(12, .int .i64 m)]) (fun m => [(i5, .cells 74 (encZ (phiAcc f l noR (p.args.take m)))), (i4, .cells 74 [.int .i64 0, .int .i64 0]), (i, HL)]) (fun m => m ≤ p.args.length) (fun m => p.args.length - m) 0 ⟨rfl, trivial⟩ ⟨_, (.refl _), rfl⟩ (Nat.zero_le _) ?_
 rintro m hm
 refine za<|z7 rfl<|z2 (yj rfl rfl)<|z6<|za<|zt rfl (fun cm => ?_) (fun cm => ?_)
 ·have hm2 : m < p.args.length := by simp at cm; omega
  obtain ⟨a, ha⟩ : ∃ a, p.args[m] = a := ⟨_, rfl⟩
  have hav := List.all_eq_true.1 hpa a (ha ▸ List.getElem_mem hm2)
  refine zk<|za<|zq<|za<|z7 rfl<|z2 (y7 (j := m) underlying23 sizeOf3 rfl rfl rfl (by rw [List.getElem?_eq_getElem hm2, ha])) ?_
  refine z2 (zf (c := .int _ _) isAgg3 rfl)<|z2 (zd (v := .int _ _) rfl)<|z6<|yb (fun j => Nat.beq j 5) (by kernel_rfl) rfl (y4 (.r (.rest _)))<|ze (i := 0) rfl (by kernel_rfl) (qb isAgg74 sizeOf74 rfl ⟨_, .head⟩ rfl)<|ze (i := 1) rfl (by kernel_rfl) (zc (v := _) rfl)<|ze (i := 2) rfl (by kernel_rfl) (zc (v := .int _ _) rfl)<|zp (i := 3) rfl (by kernel_rfl)<|yk rfl (y4 (.r (.l (.rest _)))) (hof hav) ?_
  rintro r19 O19 ⟨rfl, rfl⟩
  refine z6<|zp (i := 4) rfl (by kernel_rfl)<|zh (iJoin _ _) rfl<|z6<|yy<|q5 (i := 5) rfl (by kernel_rfl) (by kernel_rfl)<|zi sizeOf74 rfl rfl rfl rfl rfl rfl .head rfl<|zn (zl (zr (.tail .head)))<|zn (zl (zr (.tail (.tail .head))))<|zn (zl (zr (.tail (.tail .head))))<|z6<|q0 (by kernel_rfl)<|z7 rfl<|z2 (yi rfl rfl (by unfold I64; omega))<|z2 (zc (v := .int _ _) rfl)<|z6 ?_
  exact ⟨m + 1, ⟨rfl, rfl, rfl, rfl, rfl, trivial⟩, ⟨rfl, trivial⟩, ⟨_, (.refl _), by rw [List.take_succ_eq_append_getElem hm2, ha, phiAcc_snoc]; rfl⟩, hm2, by omega⟩
 ·have hmn : m = p.args.length := by simp at cm; omega
  rw [hmn, List.take_length]
  refine yg<|za<|z7 rfl<|z2 (qb isAgg74 sizeOf74 rfl ⟨_, .head⟩ rfl)<|zi sizeOf74 rfl rfl rfl rfl rfl rfl (.tail .head) rfl<|z6<|zj<|yl rfl ⟨_, (.tail .head)⟩ isAgg74 sizeOf74 rfl ?_
  exact ⟨rfl, .d2⟩
theorem vsum_spec (f : PFunc) (chk : List Bool) (Lv : AV) (x : PInst) {a b : Rng} (ha : ok64 a) (hb : ok64 b) (h0 : 0 ≤ x.dst) (h1 : x.dst.toNat < chk.length) : AFun Tryz.prog E 177 [viewV f chk Lv, .agg (encInst x), .agg (encZ a), .agg (encZ b)] (.agg (encZ (if gb chk x.dst = true then clipP x.op a b else applyP x.op a b))) := by
 refine zy func177 rfl (by decide) rfl<|za<|z7 rfl<|yc (cs := _) rfl rfl rfl<|yc (cs := _) rfl rfl rfl<|yc (cs := _) rfl rfl rfl<|y1 (cs := [.int .i64 0, .int .i64 0]) zeroValue74 rfl rfl<|fun i8 => z6<|za<|za<|yb (fun j => false) (by kernel_rfl) rfl (y4 (.rest _))<|ze (i := 0) rfl (by kernel_rfl) (zc (v := .pf _) rfl)<|ze (i := 1) rfl (by kernel_rfl) (qg rfl)<|ze (i := 2) rfl (by kernel_rfl) (zg underlying125 rfl sizeOf111 (by decide) rfl rfl)<|ze (i := 3) rfl (by kernel_rfl) (zf (c := .fro _ _) isAgg111 rfl)<|ze (i := 4) rfl (by kernel_rfl) (zg underlying33 rfl sizeOf3 (by decide) rfl rfl)<|ze (i := 5) rfl (by kernel_rfl) (zf (c := .int _ _) isAgg3 rfl)<|ze (i := 6) rfl (by kernel_rfl) (y7 (j := x.dst.toNat) underlying111 sizeOf4 rfl rfl (by omega) (show chk[x.dst.toNat]? = some (gb chk x.dst) by unfold gb; rw [List.getElem?_eq_getElem h1]; rfl)) ?_
 refine ze (i := 7) rfl (by kernel_rfl) (zf (c := .bool _) isAgg4 rfl)<|ya (by kernel_rfl)<|y8 rfl (fun c => ?_) (fun c => ?_)
 ·refine za<|z7 rfl<|z2 (zg underlying33 rfl sizeOf31 (by decide) rfl rfl)<|z2 (zf (c := .int _ _) isAgg31 rfl)<|z2 (zo isAgg74 sizeOf74 rfl rfl)<|z2 (zo isAgg74 sizeOf74 rfl rfl)<|zh (iClip x.op ha hb) rfl<|zi sizeOf74 rfl rfl rfl rfl rfl rfl .head rfl<|z6<|zj<|yl rfl ⟨_, .head⟩ isAgg74 sizeOf74 rfl ?_
  rw [if_pos c]; try rfl
 ·refine zk<|za<|z7 rfl<|z2 (zg underlying33 rfl sizeOf31 (by decide) rfl rfl)<|z2 (zf (c := .int _ _) isAgg31 rfl)<|z2 (zo isAgg74 sizeOf74 rfl rfl)<|z2 (zo isAgg74 sizeOf74 rfl rfl)<|zh (iApply x.op ha hb) rfl<|zi sizeOf74 rfl rfl rfl rfl rfl rfl .head rfl<|z6<|zj<|yl rfl ⟨_, .head⟩ isAgg74 sizeOf74 rfl ?_
  rw [if_neg (by rw [show gb chk x.dst = false from c]; decide)]; try rfl
theorem agZ {r s : Rng} (h : r = s) : AV.agg (encZ r) = AV.agg (encZ s) := by rw [h]
def c3 (rs : List Rng) : List AV := encZ (ra rs 0) ++ encZ (ra rs 1) ++ encZ (ra rs 2)
theorem cut0_eq {a b : Rng} (ha : ok64 a) (hn : nrm a) (nb : b.1 ≤ b.2) : cutP 0 a b = cutQ 0 a b := by
 by_cases na : a.1 ≤ a.2
 ·exact cutP_eq ha na nb
 ·have := hn (by omega)
  subst this
  unfold cutP cutQ
  rw [if_pos (.inl (by decide)), if_pos rfl]
  by_cases hb : b.2 = m64
  ·rw [if_pos hb]
  ·rw [if_neg hb]
   have h1 : ∀ z : Int, imin 0 z ≤ 0 := fun z => by unfold imin; split <;> omega
   have h2 : (1 : Int) ≤ imax 1 m64 := by decide
   have h3 := h1 (b.2 - 1)
   show noR = rMade (imax 1 m64) (imin 0 (b.2 - 1))
   rw [rMade, if_pos (by omega)]
theorem sum_apply {op : Int} {k : Nat} (hk : k ≤ 2) (h : op = 2 + (k : Int)) {a b : Rng} (na : a.1 ≤ a.2) (nb : b.1 ≤ b.2) (c : Bool) : (if c = true then clipP op a b else applyP op a b) = sumQ k a b c := by
 have h2 := apply_sum hk h (a := a) (b := b) (by omega)
 cases c
 ·rw [if_neg (by decide), h2.1, sumP_eq]
 ·rw [if_pos rfl, h2.2, sumP_eq]
theorem apply5 {a b : Rng} (ha : ok64 a) (hb : ok64 b) (na : a.1 ≤ a.2) (nb : b.1 ≤ b.2) : applyP 5 a b = divQ a b := by unfold applyP; rw [if_neg (by omega), if_neg (by decide), if_neg (by decide), if_neg (by decide), if_pos rfl, quotP_eq ha hb na nb]
theorem apply6 {a b : Rng} (na : a.1 ≤ a.2) (nb : b.1 ≤ b.2) : applyP 6 a b = remQ a b := by unfold applyP; rw [if_neg (by omega), if_neg (by decide), if_neg (by decide), if_neg (by decide), if_neg (by decide), if_pos rfl, restP_eq nb]
set_option maxHeartbeats 8000000 in
theorem vinst_spec (f : PFunc) (l : List Rng) (chk : List Bool) (Lv : AV) {i : Nat} {HL : AObj} (hof : ∀ {a : Int}, hasV f a = true → ACall Tryz.prog E 176 [viewV f chk Lv, .int .i64 a] [(i, HL)] (sameO i HL (.agg (encZ (ofR f l a)))))
  (ho : ∀ u : Int, 0 ≤ u → ok64 (lv l u)) (x : PInst) (hI : InstF f x) (hb : x.op = 10 ∨ x.op = 11 → ∀ v ∈ x.args, tyV f v = 1) (h1 : 0 ≤ x.dst → x.dst.toNat < chk.length) (hd : x.op = 2 ∨ x.op = 3 ∨ x.op = 4 → 0 ≤ x.dst) :
  ACall Tryz.prog E 121 [viewV f chk Lv, .agg (encInst x)] [(i, HL)] (sameO i HL (.agg (encZ (if (argsR f l x).any rEmp = true then noR else instQ x.op x.num (argsR f l x) (gb chk x.dst))))) := by
 have hal : (argsR f l x).length = x.args.length := by unfold argsR; rw [List.length_map]
 have hx3 : x.args.length ≤ 3 := by
  rw [hI.len]
  rcases kRow_mem x.op with h | h
  ·unfold takesL; rw [h]; decide
  ·have : ∀ r ∈ kindT, r.2.1.data.toList.length ≤ 3 := by decide
   have := this _ h
   unfold takesL; simpa using this
 refine ACall.same<|zy func121 rfl (by decide) rfl<|za<|z7 rfl<|yc (cs := _) rfl rfl rfl<|y1 (cs := [.int .i64 0, .int .i64 0]) zeroValue74 rfl rfl<|fun i4 => z6<|za<|z7 rfl<|z2 (Gv.buildA (cps := []) (rs := [.int .i64 0, .int .i64 0, .int .i64 0, .int .i64 0, .int .i64 0, .int .i64 0]) pl226 rfl rfl rfl)<|y1 (cs := [.int .i64 0, .int .i64 0, .int .i64 0, .int .i64 0, .int .i64 0, .int .i64 0]) zeroValue226 rfl rfl<|fun i5 => zi sizeOf226 rfl rfl rfl rfl rfl rfl .head rfl<|z6<|za<|za<|z7 rfl<|z2 (zg underlying33 rfl sizeOf23 (by decide) rfl rfl)<|z2 (zf (c := .fro _ _) isAgg23 rfl)<|z2 (yd underlying23 rfl)<|z2 (zc (v := .int _ _) rfl)<|z6<|zq<|yh (γ := Nat) [0, 3, 4, 5, 12, 13] (fun m => [(14, .int .i64 m)]) (fun m => [(i5, .cells 226 (c3 ((argsR f l x).take m))), (i4, .cells 74 [.int .i64 0, .int .i64 0]), (i, HL)]) (fun m => m ≤ x.args.length ∧ ((argsR f l x).take m).any rEmp = false) (fun m => x.args.length - m) 0 ⟨rfl, trivial⟩ ⟨_, (.refl _), rfl⟩ (⟨Nat.zero_le _, rfl⟩) ?_
 rintro m ⟨hm, hne⟩
 refine za<|z7 rfl<|z2 (yj rfl rfl)<|z6<|za<|zt rfl (fun cm => ?_) (fun cm => ?_)
 ·have hm2 : m < x.args.length := by simp at cm; omega
  obtain ⟨a, ha⟩ : ∃ a, x.args[m] = a := ⟨_, rfl⟩
  have hav := hI.args a (ha ▸ List.getElem_mem hm2)
  have htk := args_take (f := f) (l := l) hm2
  rw [ha] at htk
  have hta : (argsR f l x)[m]? = some (ofR f l a) := by unfold argsR; rw [List.getElem?_map, List.getElem?_eq_getElem hm2, ha]; rfl
  have hAl : ((argsR f l x).take m).length = m := by rw [List.length_take]; omega
  have hne2 : ¬ (ofR f l a).2 < (ofR f l a).1 → ((argsR f l x).take (m + 1)).any rEmp = false := fun h => by rw [htk, List.any_append, hne]; simp [rEmp]; omega
  have hyes : (ofR f l a).2 < (ofR f l a).1 → (argsR f l x).any rEmp = true := fun h => List.any_eq_true.2 ⟨_, List.mem_of_getElem? hta, by unfold rEmp; exact decide_eq_true h⟩
  obtain ⟨A, hA⟩ : ∃ A, (argsR f l x).take m = A := ⟨_, rfl⟩
  rw [hA] at hAl htk hne ⊢
  refine zk<|za<|zq<|za<|z7 rfl<|z2 (zc (v := .int _ _) rfl)<|z2 (y7 (j := m) underlying23 sizeOf3 rfl rfl rfl (by rw [List.getElem?_eq_getElem hm2, ha])) ?_
  refine z2 (zf (c := .int _ _) isAgg3 rfl)<|z2 (zd (v := .int _ _) rfl)<|z2 (zd (v := .int _ _) rfl)<|z6 ?_
  rcases (by omega : m = 0 ∨ m = 1 ∨ m = 2) with rfl | rfl | rfl
  ·obtain rfl : A = [] := List.eq_nil_of_length_eq_zero hAl
   refine za<|z7 rfl<|z2 (zc (v := .int _ _) rfl)<|z2 (zc (v := _) rfl)<|z2 (zc (v := .int _ _) rfl)<|yk rfl (y4 (.r (.r (.l (.rest _))))) (hof hav) ?_
   rintro r22 O22 ⟨rfl, rfl⟩
   refine z2 (Gv.idxAO (j := 0) underlying226 sizeOf74 rfl rfl rfl (by decide) rfl)<|qa (l := [_, _]) (new := [_, _, _, _, _, _]) sizeOf74 rfl rfl rfl rfl rfl rfl (.tail .head) rfl rfl<|z6<|yw (zl (zr (.tail (.tail .head))))<|yw (zl (zr (.tail (.tail .head))))<|za<|z7 rfl<|z2 (zc (v := .int _ _) rfl)<|z2 (Gv.idxAO (j := 0) underlying226 sizeOf74 rfl rfl rfl (by decide) rfl)<|z2 (yu (l := [_, _]) isAgg74 sizeOf74 rfl ⟨_, .head⟩ rfl rfl)<|zh (iEmpty _) rfl<|z6<|zt rfl (fun ce => ?_) (fun ce => ?_)
   ·refine za<|z7 rfl<|zh (iNone) rfl<|zi sizeOf74 rfl rfl rfl rfl rfl rfl (.tail .head) rfl<|z6<|zj<|yl rfl ⟨_, (.tail .head)⟩ isAgg74 sizeOf74 rfl ?_
    exact ⟨by rw [if_pos (hyes ce)]; rfl, .d2⟩
   ·refine zk<|z7 rfl<|z2 (yi rfl rfl (by unfold I64; omega))<|z2 (zc (v := .int _ _) rfl)<|z6 ?_
    exact ⟨1, ⟨rfl, rfl, rfl, rfl, rfl, rfl, trivial⟩, ⟨rfl, trivial⟩, ⟨_, (.refl _), by rw [htk]; rfl⟩, ⟨hm2, hne2 ce⟩, by omega⟩
  ·obtain ⟨r0, rfl⟩ := List.length_eq_one_iff.1 hAl
   refine za<|z7 rfl<|z2 (zc (v := .int _ _) rfl)<|z2 (zc (v := _) rfl)<|z2 (zc (v := .int _ _) rfl)<|yk rfl (y4 (.r (.r (.l (.rest _))))) (hof hav) ?_
   rintro r22 O22 ⟨rfl, rfl⟩
   refine z2 (Gv.idxAO (j := 1) underlying226 sizeOf74 rfl rfl rfl (by decide) rfl)<|qa (l := [_, _]) (new := [_, _, _, _, _, _]) sizeOf74 rfl rfl rfl rfl rfl rfl (.tail .head) rfl rfl<|z6<|yw (zl (zr (.tail (.tail .head))))<|yw (zl (zr (.tail (.tail .head))))<|za<|z7 rfl<|z2 (zc (v := .int _ _) rfl)<|z2 (Gv.idxAO (j := 1) underlying226 sizeOf74 rfl rfl rfl (by decide) rfl)<|z2 (yu (l := [_, _]) isAgg74 sizeOf74 rfl ⟨_, .head⟩ rfl rfl)<|zh (iEmpty _) rfl<|z6<|zt rfl (fun ce => ?_) (fun ce => ?_)
   ·refine za<|z7 rfl<|zh (iNone) rfl<|zi sizeOf74 rfl rfl rfl rfl rfl rfl (.tail .head) rfl<|z6<|zj<|yl rfl ⟨_, (.tail .head)⟩ isAgg74 sizeOf74 rfl ?_
    exact ⟨by rw [if_pos (hyes ce)]; rfl, .d2⟩
   ·refine zk<|z7 rfl<|z2 (yi rfl rfl (by unfold I64; omega))<|z2 (zc (v := .int _ _) rfl)<|z6 ?_
    exact ⟨2, ⟨rfl, rfl, rfl, rfl, rfl, rfl, trivial⟩, ⟨rfl, trivial⟩, ⟨_, (.refl _), by rw [htk]; rfl⟩, ⟨hm2, hne2 ce⟩, by omega⟩
  ·obtain ⟨r0, r1, rfl⟩ : ∃ r0 r1, A = [r0, r1] := by
    match A, hAl with
    | [r0, r1], _ => exact ⟨r0, r1, rfl⟩
   refine za<|z7 rfl<|z2 (zc (v := .int _ _) rfl)<|z2 (zc (v := _) rfl)<|z2 (zc (v := .int _ _) rfl)<|yk rfl (y4 (.r (.r (.l (.rest _))))) (hof hav) ?_
   rintro r22 O22 ⟨rfl, rfl⟩
   refine z2 (Gv.idxAO (j := 2) underlying226 sizeOf74 rfl rfl rfl (by decide) rfl)<|qa (l := [_, _]) (new := [_, _, _, _, _, _]) sizeOf74 rfl rfl rfl rfl rfl rfl (.tail .head) rfl rfl<|z6<|yw (zl (zr (.tail (.tail .head))))<|yw (zl (zr (.tail (.tail .head))))<|za<|z7 rfl<|z2 (zc (v := .int _ _) rfl)<|z2 (Gv.idxAO (j := 2) underlying226 sizeOf74 rfl rfl rfl (by decide) rfl)<|z2 (yu (l := [_, _]) isAgg74 sizeOf74 rfl ⟨_, .head⟩ rfl rfl)<|zh (iEmpty _) rfl<|z6<|zt rfl (fun ce => ?_) (fun ce => ?_)
   ·refine za<|z7 rfl<|zh (iNone) rfl<|zi sizeOf74 rfl rfl rfl rfl rfl rfl (.tail .head) rfl<|z6<|zj<|yl rfl ⟨_, (.tail .head)⟩ isAgg74 sizeOf74 rfl ?_
    exact ⟨by rw [if_pos (hyes ce)]; rfl, .d2⟩
   ·refine zk<|z7 rfl<|z2 (yi rfl rfl (by unfold I64; omega))<|z2 (zc (v := .int _ _) rfl)<|z6 ?_
    exact ⟨3, ⟨rfl, rfl, rfl, rfl, rfl, rfl, trivial⟩, ⟨rfl, trivial⟩, ⟨_, (.refl _), by rw [htk]; rfl⟩, ⟨hm2, hne2 ce⟩, by omega⟩
 ·have hmn : m = x.args.length := by simp at cm; omega
  subst hmn
  rw [← hal, List.take_length] at hne
  rw [← hal, List.take_length]
  obtain ⟨rs, hrs⟩ : ∃ rs, argsR f l x = rs := ⟨_, rfl⟩
  have hokr : okRs rs := fun r hr => by
   rw [← hrs] at hr
   have hnn := List.any_eq_false.1 hne _ hr
   obtain ⟨a, ha, rfl⟩ := List.mem_map.1 hr
   have hav := hasV_rng (hI.args a ha)
   exact ⟨ofR_ok ho hav.1, by simpa [rEmp] using hnn⟩
  have hbl : x.op = 10 ∨ x.op = 11 → ∀ j, j < rs.length → 0 ≤ (ra rs j).1 ∧ (ra rs j).2 ≤ 1 := fun h j hj => by
   have h3 := hokr.at hj
   have h4 := ra_at hj
   rw [← hrs] at h4
   have h5 := List.mem_of_getElem? h4
   rw [hrs] at h5
   rw [← hrs] at h5
   obtain ⟨a, ha, e⟩ := List.mem_map.1 h5
   rw [hrs] at e
   rw [← e] at h3 ⊢
   exact ofR_ty (hb h a ha) h3.2
  rw [hrs] at hne hal ⊢
  rw [if_neg (by rw [hne]; decide)]
  have hl : rs.length = (takesL x.op).length := by rw [hal]; exact hI.len
  rw [instQ]
  refine yg<|za<|yq (γ := Nat × Nat) [0, 3, 4] (fun z => [(8, .po z.1 0), (9, .po z.2 0)]) (fun z => [(z.1, .cells 74 (encZ (ra rs 0))), (z.2, .cells 74 (encZ (ra rs 1))), (i5, .cells 226 (c3 rs)), (i4, .cells 74 [.int .i64 0, .int .i64 0]), (i, HL)]) (fun z => True) ?_ (fun _ _ h => h) ?_
  ·refine yb (fun j => false) (by kernel_rfl) rfl (y4 (.rest _))<|ze (i := 0) rfl (by kernel_rfl) (Gv.idxAO (j := 0) underlying226 sizeOf74 rfl rfl rfl (by decide) rfl)<|ze (i := 2) rfl (by kernel_rfl) (Gv.idxAO (j := 1) underlying226 sizeOf74 rfl rfl rfl (by decide) rfl)<|AAny.four (i := 1) (j := 3) (m := 4) (q := 5) rfl rfl rfl rfl (by kernel_rfl) ?_ ?_ ?_ ?_
   ·refine z2 (yu (l := [_, _]) isAgg74 sizeOf74 rfl ⟨_, .head⟩ rfl rfl)<|z6<|AAny.three (i := 3) (j := 4) (m := 5) rfl rfl rfl (by kernel_rfl) ?_ ?_ ?_
    ·refine z2 (yu (l := [_, _]) isAgg74 sizeOf74 rfl ⟨_, .head⟩ rfl rfl)<|z6<|yz (i := 4) (j := 5) rfl rfl (by kernel_rfl) ?_ ?_
     ·refine y1 (cs := [.int .i64 0, .int .i64 0]) zeroValue74 rfl rfl<|fun i8 => z6<|zp (i := 5) rfl (by kernel_rfl)<|y1 (cs := [.int .i64 0, .int .i64 0]) zeroValue74 rfl rfl<|fun i9 => z6<|zp (i := 6) rfl (by kernel_rfl)<|zi sizeOf74 rfl rfl rfl rfl rfl rfl (.tail .head) rfl<|z6<|zp (i := 7) rfl (by kernel_rfl)<|zi sizeOf74 rfl rfl rfl rfl rfl rfl .head rfl<|zn (zl (zr .head))<|zn (zl (zr (.tail .head)))<|z6<|ya (by kernel_rfl) ?_
      exact ⟨(i8, i9), ⟨rfl, rfl, rfl, trivial⟩, ⟨rfl, rfl, trivial⟩, ⟨_, (.refl _), rfl⟩, trivial⟩
     ·refine y1 (cs := [.int .i64 0, .int .i64 0]) zeroValue74 rfl rfl<|fun i9 => z6<|zp (i := 4) rfl (by kernel_rfl)<|y1 (cs := [.int .i64 0, .int .i64 0]) zeroValue74 rfl rfl<|fun i8 => z6<|zp (i := 6) rfl (by kernel_rfl)<|zi sizeOf74 rfl rfl rfl rfl rfl rfl .head rfl<|z6<|zp (i := 7) rfl (by kernel_rfl)<|zi sizeOf74 rfl rfl rfl rfl rfl rfl (.tail .head) rfl<|z6<|ya (by kernel_rfl) ?_
      exact ⟨(i8, i9), ⟨rfl, rfl, rfl, trivial⟩, ⟨rfl, rfl, trivial⟩, ⟨_, (.refl _), rfl⟩, trivial⟩
    ·refine y1 (cs := [.int .i64 0, .int .i64 0]) zeroValue74 rfl rfl<|fun i8 => z6<|yz (i := 3) (j := 5) rfl rfl (by kernel_rfl) ?_ ?_
     ·refine z2 (yu (l := [_, _]) isAgg74 sizeOf74 rfl ⟨_, (.tail .head)⟩ rfl rfl)<|z6<|zp (i := 5) rfl (by kernel_rfl)<|y1 (cs := [.int .i64 0, .int .i64 0]) zeroValue74 rfl rfl<|fun i9 => z6<|zp (i := 6) rfl (by kernel_rfl)<|zi sizeOf74 rfl rfl rfl rfl rfl rfl (.tail .head) rfl<|z6<|zp (i := 7) rfl (by kernel_rfl)<|zi sizeOf74 rfl rfl rfl rfl rfl rfl .head rfl<|zn (zl (zr .head))<|zn (zl (zr (.tail .head)))<|z6<|ya (by kernel_rfl) ?_
      exact ⟨(i8, i9), ⟨rfl, rfl, rfl, trivial⟩, ⟨rfl, rfl, trivial⟩, ⟨_, (.refl _), rfl⟩, trivial⟩
     ·refine y1 (cs := [.int .i64 0, .int .i64 0]) zeroValue74 rfl rfl<|fun i9 => z6<|yz (i := 3) (j := 6) rfl rfl (by kernel_rfl) ?_ ?_
      ·refine z2 (yu (l := [_, _]) isAgg74 sizeOf74 rfl ⟨_, (.tail (.tail .head))⟩ rfl rfl)<|z6<|zp (i := 6) rfl (by kernel_rfl)<|zi sizeOf74 rfl rfl rfl rfl rfl rfl (.tail .head) rfl<|z6<|zp (i := 7) rfl (by kernel_rfl)<|zi sizeOf74 rfl rfl rfl rfl rfl rfl .head rfl<|zn (zl (zr .head))<|zn (zl (zr (.tail .head)))<|z6<|ya (by kernel_rfl) ?_
       exact ⟨(i8, i9), ⟨rfl, rfl, rfl, trivial⟩, ⟨rfl, rfl, trivial⟩, ⟨_, (.refl _), rfl⟩, trivial⟩
      ·refine zi sizeOf74 rfl rfl rfl rfl rfl rfl (.tail .head) rfl<|z6<|zp (i := 3) rfl (by kernel_rfl)<|z2 (yu (l := [_, _]) isAgg74 sizeOf74 rfl ⟨_, (.tail (.tail .head))⟩ rfl rfl)<|z6<|zp (i := 7) rfl (by kernel_rfl)<|zi sizeOf74 rfl rfl rfl rfl rfl rfl .head rfl<|zn (zl (zr .head))<|zn (zl (zr (.tail .head)))<|z6<|ya (by kernel_rfl) ?_
       exact ⟨(i8, i9), ⟨rfl, rfl, rfl, trivial⟩, ⟨rfl, rfl, trivial⟩, ⟨_, (.refl _), rfl⟩, trivial⟩
    ·refine y1 (cs := [.int .i64 0, .int .i64 0]) zeroValue74 rfl rfl<|fun i9 => z6<|yz (i := 3) (j := 4) rfl rfl (by kernel_rfl) ?_ ?_
     ·refine z2 (yu (l := [_, _]) isAgg74 sizeOf74 rfl ⟨_, (.tail .head)⟩ rfl rfl)<|z6<|zp (i := 4) rfl (by kernel_rfl)<|y1 (cs := [.int .i64 0, .int .i64 0]) zeroValue74 rfl rfl<|fun i8 => z6<|zp (i := 6) rfl (by kernel_rfl)<|zi sizeOf74 rfl rfl rfl rfl rfl rfl .head rfl<|z6<|zp (i := 7) rfl (by kernel_rfl)<|zi sizeOf74 rfl rfl rfl rfl rfl rfl (.tail .head) rfl<|z6<|ya (by kernel_rfl) ?_
      exact ⟨(i8, i9), ⟨rfl, rfl, rfl, trivial⟩, ⟨rfl, rfl, trivial⟩, ⟨_, (.refl _), rfl⟩, trivial⟩
     ·refine y1 (cs := [.int .i64 0, .int .i64 0]) zeroValue74 rfl rfl<|fun i8 => z6<|yz (i := 3) (j := 6) rfl rfl (by kernel_rfl) ?_ ?_
      ·refine z2 (yu (l := [_, _]) isAgg74 sizeOf74 rfl ⟨_, (.tail (.tail .head))⟩ rfl rfl)<|z6<|zp (i := 6) rfl (by kernel_rfl)<|zi sizeOf74 rfl rfl rfl rfl rfl rfl .head rfl<|z6<|zp (i := 7) rfl (by kernel_rfl)<|zi sizeOf74 rfl rfl rfl rfl rfl rfl (.tail .head) rfl<|z6<|ya (by kernel_rfl) ?_
       exact ⟨(i8, i9), ⟨rfl, rfl, rfl, trivial⟩, ⟨rfl, rfl, trivial⟩, ⟨_, (.refl _), rfl⟩, trivial⟩
      ·refine zi sizeOf74 rfl rfl rfl rfl rfl rfl .head rfl<|z6<|zp (i := 3) rfl (by kernel_rfl)<|z2 (yu (l := [_, _]) isAgg74 sizeOf74 rfl ⟨_, (.tail (.tail .head))⟩ rfl rfl)<|z6<|zp (i := 7) rfl (by kernel_rfl)<|zi sizeOf74 rfl rfl rfl rfl rfl rfl (.tail .head) rfl<|z6<|ya (by kernel_rfl) ?_
       exact ⟨(i8, i9), ⟨rfl, rfl, rfl, trivial⟩, ⟨rfl, rfl, trivial⟩, ⟨_, (.refl _), rfl⟩, trivial⟩
   ·refine z2 (yu (l := [_, _]) isAgg74 sizeOf74 rfl ⟨_, .head⟩ rfl rfl)<|z6<|AAny.three (i := 1) (j := 4) (m := 5) rfl rfl rfl (by kernel_rfl) ?_ ?_ ?_
    ·refine z2 (yu (l := [_, _]) isAgg74 sizeOf74 rfl ⟨_, .head⟩ rfl rfl)<|z6<|yz (i := 4) (j := 5) rfl rfl (by kernel_rfl) ?_ ?_
     ·refine y1 (cs := [.int .i64 0, .int .i64 0]) zeroValue74 rfl rfl<|fun i8 => z6<|zp (i := 5) rfl (by kernel_rfl)<|y1 (cs := [.int .i64 0, .int .i64 0]) zeroValue74 rfl rfl<|fun i9 => z6<|zp (i := 6) rfl (by kernel_rfl)<|zi sizeOf74 rfl rfl rfl rfl rfl rfl (.tail .head) rfl<|z6<|zp (i := 7) rfl (by kernel_rfl)<|zi sizeOf74 rfl rfl rfl rfl rfl rfl .head rfl<|zn (zl (zr .head))<|zn (zl (zr (.tail .head)))<|z6<|ya (by kernel_rfl) ?_
      exact ⟨(i8, i9), ⟨rfl, rfl, rfl, trivial⟩, ⟨rfl, rfl, trivial⟩, ⟨_, (.refl _), rfl⟩, trivial⟩
     ·refine y1 (cs := [.int .i64 0, .int .i64 0]) zeroValue74 rfl rfl<|fun i9 => z6<|zp (i := 4) rfl (by kernel_rfl)<|y1 (cs := [.int .i64 0, .int .i64 0]) zeroValue74 rfl rfl<|fun i8 => z6<|zp (i := 6) rfl (by kernel_rfl)<|zi sizeOf74 rfl rfl rfl rfl rfl rfl .head rfl<|z6<|zp (i := 7) rfl (by kernel_rfl)<|zi sizeOf74 rfl rfl rfl rfl rfl rfl (.tail .head) rfl<|z6<|ya (by kernel_rfl) ?_
      exact ⟨(i8, i9), ⟨rfl, rfl, rfl, trivial⟩, ⟨rfl, rfl, trivial⟩, ⟨_, (.refl _), rfl⟩, trivial⟩
    ·refine y1 (cs := [.int .i64 0, .int .i64 0]) zeroValue74 rfl rfl<|fun i8 => z6<|yz (i := 1) (j := 5) rfl rfl (by kernel_rfl) ?_ ?_
     ·refine z2 (yu (l := [_, _]) isAgg74 sizeOf74 rfl ⟨_, (.tail .head)⟩ rfl rfl)<|z6<|zp (i := 5) rfl (by kernel_rfl)<|y1 (cs := [.int .i64 0, .int .i64 0]) zeroValue74 rfl rfl<|fun i9 => z6<|zp (i := 6) rfl (by kernel_rfl)<|zi sizeOf74 rfl rfl rfl rfl rfl rfl (.tail .head) rfl<|z6<|zp (i := 7) rfl (by kernel_rfl)<|zi sizeOf74 rfl rfl rfl rfl rfl rfl .head rfl<|zn (zl (zr .head))<|zn (zl (zr (.tail .head)))<|z6<|ya (by kernel_rfl) ?_
      exact ⟨(i8, i9), ⟨rfl, rfl, rfl, trivial⟩, ⟨rfl, rfl, trivial⟩, ⟨_, (.refl _), rfl⟩, trivial⟩
     ·refine y1 (cs := [.int .i64 0, .int .i64 0]) zeroValue74 rfl rfl<|fun i9 => z6<|zp (i := 1) rfl (by kernel_rfl)<|z2 (yu (l := [_, _]) isAgg74 sizeOf74 rfl ⟨_, (.tail (.tail .head))⟩ rfl rfl)<|z6<|zp (i := 6) rfl (by kernel_rfl)<|zi sizeOf74 rfl rfl rfl rfl rfl rfl (.tail .head) rfl<|z6<|zp (i := 7) rfl (by kernel_rfl)<|zi sizeOf74 rfl rfl rfl rfl rfl rfl .head rfl<|zn (zl (zr .head))<|zn (zl (zr (.tail .head)))<|z6<|ya (by kernel_rfl) ?_
      exact ⟨(i8, i9), ⟨rfl, rfl, rfl, trivial⟩, ⟨rfl, rfl, trivial⟩, ⟨_, (.refl _), rfl⟩, trivial⟩
    ·refine y1 (cs := [.int .i64 0, .int .i64 0]) zeroValue74 rfl rfl<|fun i9 => z6<|yz (i := 1) (j := 4) rfl rfl (by kernel_rfl) ?_ ?_
     ·refine z2 (yu (l := [_, _]) isAgg74 sizeOf74 rfl ⟨_, (.tail .head)⟩ rfl rfl)<|z6<|zp (i := 4) rfl (by kernel_rfl)<|y1 (cs := [.int .i64 0, .int .i64 0]) zeroValue74 rfl rfl<|fun i8 => z6<|zp (i := 6) rfl (by kernel_rfl)<|zi sizeOf74 rfl rfl rfl rfl rfl rfl .head rfl<|z6<|zp (i := 7) rfl (by kernel_rfl)<|zi sizeOf74 rfl rfl rfl rfl rfl rfl (.tail .head) rfl<|z6<|ya (by kernel_rfl) ?_
      exact ⟨(i8, i9), ⟨rfl, rfl, rfl, trivial⟩, ⟨rfl, rfl, trivial⟩, ⟨_, (.refl _), rfl⟩, trivial⟩
     ·refine y1 (cs := [.int .i64 0, .int .i64 0]) zeroValue74 rfl rfl<|fun i8 => z6<|zp (i := 1) rfl (by kernel_rfl)<|z2 (yu (l := [_, _]) isAgg74 sizeOf74 rfl ⟨_, (.tail (.tail .head))⟩ rfl rfl)<|z6<|zp (i := 6) rfl (by kernel_rfl)<|zi sizeOf74 rfl rfl rfl rfl rfl rfl .head rfl<|z6<|zp (i := 7) rfl (by kernel_rfl)<|zi sizeOf74 rfl rfl rfl rfl rfl rfl (.tail .head) rfl<|z6<|ya (by kernel_rfl) ?_
      exact ⟨(i8, i9), ⟨rfl, rfl, rfl, trivial⟩, ⟨rfl, rfl, trivial⟩, ⟨_, (.refl _), rfl⟩, trivial⟩
   ·refine y1 (cs := [.int .i64 0, .int .i64 0]) zeroValue74 rfl rfl<|fun i8 => z6<|AAny.three (i := 1) (j := 3) (m := 5) rfl rfl rfl (by kernel_rfl) ?_ ?_ ?_
    ·refine z2 (yu (l := [_, _]) isAgg74 sizeOf74 rfl ⟨_, (.tail .head)⟩ rfl rfl)<|z6<|yz (i := 3) (j := 5) rfl rfl (by kernel_rfl) ?_ ?_
     ·refine z2 (yu (l := [_, _]) isAgg74 sizeOf74 rfl ⟨_, (.tail .head)⟩ rfl rfl)<|z6<|zp (i := 5) rfl (by kernel_rfl)<|y1 (cs := [.int .i64 0, .int .i64 0]) zeroValue74 rfl rfl<|fun i9 => z6<|zp (i := 6) rfl (by kernel_rfl)<|zi sizeOf74 rfl rfl rfl rfl rfl rfl (.tail .head) rfl<|z6<|zp (i := 7) rfl (by kernel_rfl)<|zi sizeOf74 rfl rfl rfl rfl rfl rfl .head rfl<|zn (zl (zr .head))<|zn (zl (zr (.tail .head)))<|z6<|ya (by kernel_rfl) ?_
      exact ⟨(i8, i9), ⟨rfl, rfl, rfl, trivial⟩, ⟨rfl, rfl, trivial⟩, ⟨_, (.refl _), rfl⟩, trivial⟩
     ·refine y1 (cs := [.int .i64 0, .int .i64 0]) zeroValue74 rfl rfl<|fun i9 => z6<|yz (i := 3) (j := 6) rfl rfl (by kernel_rfl) ?_ ?_
      ·refine z2 (yu (l := [_, _]) isAgg74 sizeOf74 rfl ⟨_, (.tail (.tail .head))⟩ rfl rfl)<|z6<|zp (i := 6) rfl (by kernel_rfl)<|zi sizeOf74 rfl rfl rfl rfl rfl rfl (.tail .head) rfl<|z6<|zp (i := 7) rfl (by kernel_rfl)<|zi sizeOf74 rfl rfl rfl rfl rfl rfl .head rfl<|zn (zl (zr .head))<|zn (zl (zr (.tail .head)))<|z6<|ya (by kernel_rfl) ?_
       exact ⟨(i8, i9), ⟨rfl, rfl, rfl, trivial⟩, ⟨rfl, rfl, trivial⟩, ⟨_, (.refl _), rfl⟩, trivial⟩
      ·refine zi sizeOf74 rfl rfl rfl rfl rfl rfl (.tail .head) rfl<|z6<|zp (i := 3) rfl (by kernel_rfl)<|z2 (yu (l := [_, _]) isAgg74 sizeOf74 rfl ⟨_, (.tail (.tail .head))⟩ rfl rfl)<|z6<|zp (i := 7) rfl (by kernel_rfl)<|zi sizeOf74 rfl rfl rfl rfl rfl rfl .head rfl<|zn (zl (zr .head))<|zn (zl (zr (.tail .head)))<|z6<|ya (by kernel_rfl) ?_
       exact ⟨(i8, i9), ⟨rfl, rfl, rfl, trivial⟩, ⟨rfl, rfl, trivial⟩, ⟨_, (.refl _), rfl⟩, trivial⟩
    ·refine z2 (yu (l := [_, _]) isAgg74 sizeOf74 rfl ⟨_, (.tail .head)⟩ rfl rfl)<|z6<|yz (i := 1) (j := 5) rfl rfl (by kernel_rfl) ?_ ?_
     ·refine z2 (yu (l := [_, _]) isAgg74 sizeOf74 rfl ⟨_, (.tail .head)⟩ rfl rfl)<|z6<|zp (i := 5) rfl (by kernel_rfl)<|y1 (cs := [.int .i64 0, .int .i64 0]) zeroValue74 rfl rfl<|fun i9 => z6<|zp (i := 6) rfl (by kernel_rfl)<|zi sizeOf74 rfl rfl rfl rfl rfl rfl (.tail .head) rfl<|z6<|zp (i := 7) rfl (by kernel_rfl)<|zi sizeOf74 rfl rfl rfl rfl rfl rfl .head rfl<|zn (zl (zr .head))<|zn (zl (zr (.tail .head)))<|z6<|ya (by kernel_rfl) ?_
      exact ⟨(i8, i9), ⟨rfl, rfl, rfl, trivial⟩, ⟨rfl, rfl, trivial⟩, ⟨_, (.refl _), rfl⟩, trivial⟩
     ·refine y1 (cs := [.int .i64 0, .int .i64 0]) zeroValue74 rfl rfl<|fun i9 => z6<|zp (i := 1) rfl (by kernel_rfl)<|z2 (yu (l := [_, _]) isAgg74 sizeOf74 rfl ⟨_, (.tail (.tail .head))⟩ rfl rfl)<|z6<|zp (i := 6) rfl (by kernel_rfl)<|zi sizeOf74 rfl rfl rfl rfl rfl rfl (.tail .head) rfl<|z6<|zp (i := 7) rfl (by kernel_rfl)<|zi sizeOf74 rfl rfl rfl rfl rfl rfl .head rfl<|zn (zl (zr .head))<|zn (zl (zr (.tail .head)))<|z6<|ya (by kernel_rfl) ?_
      exact ⟨(i8, i9), ⟨rfl, rfl, rfl, trivial⟩, ⟨rfl, rfl, trivial⟩, ⟨_, (.refl _), rfl⟩, trivial⟩
    ·refine y1 (cs := [.int .i64 0, .int .i64 0]) zeroValue74 rfl rfl<|fun i9 => z6<|yz (i := 1) (j := 3) rfl rfl (by kernel_rfl) ?_ ?_
     ·refine z2 (yu (l := [_, _]) isAgg74 sizeOf74 rfl ⟨_, (.tail (.tail .head))⟩ rfl rfl)<|z6<|yz (i := 3) (j := 6) rfl rfl (by kernel_rfl) ?_ ?_
      ·refine z2 (yu (l := [_, _]) isAgg74 sizeOf74 rfl ⟨_, (.tail (.tail .head))⟩ rfl rfl)<|z6<|zp (i := 6) rfl (by kernel_rfl)<|zi sizeOf74 rfl rfl rfl rfl rfl rfl (.tail .head) rfl<|z6<|zp (i := 7) rfl (by kernel_rfl)<|zi sizeOf74 rfl rfl rfl rfl rfl rfl .head rfl<|zn (zl (zr .head))<|zn (zl (zr (.tail .head)))<|z6<|ya (by kernel_rfl) ?_
       exact ⟨(i8, i9), ⟨rfl, rfl, rfl, trivial⟩, ⟨rfl, rfl, trivial⟩, ⟨_, (.refl _), rfl⟩, trivial⟩
      ·refine zi sizeOf74 rfl rfl rfl rfl rfl rfl (.tail .head) rfl<|z6<|zp (i := 3) rfl (by kernel_rfl)<|z2 (yu (l := [_, _]) isAgg74 sizeOf74 rfl ⟨_, (.tail (.tail .head))⟩ rfl rfl)<|z6<|zp (i := 7) rfl (by kernel_rfl)<|zi sizeOf74 rfl rfl rfl rfl rfl rfl .head rfl<|zn (zl (zr .head))<|zn (zl (zr (.tail .head)))<|z6<|ya (by kernel_rfl) ?_
       exact ⟨(i8, i9), ⟨rfl, rfl, rfl, trivial⟩, ⟨rfl, rfl, trivial⟩, ⟨_, (.refl _), rfl⟩, trivial⟩
     ·refine z2 (yu (l := [_, _]) isAgg74 sizeOf74 rfl ⟨_, (.tail (.tail .head))⟩ rfl rfl)<|z6<|zp (i := 1) rfl (by kernel_rfl)<|z2 (yu (l := [_, _]) isAgg74 sizeOf74 rfl ⟨_, (.tail (.tail .head))⟩ rfl rfl)<|z6<|zp (i := 6) rfl (by kernel_rfl)<|zi sizeOf74 rfl rfl rfl rfl rfl rfl (.tail .head) rfl<|z6<|zp (i := 7) rfl (by kernel_rfl)<|zi sizeOf74 rfl rfl rfl rfl rfl rfl .head rfl<|zn (zl (zr .head))<|zn (zl (zr (.tail .head)))<|z6<|ya (by kernel_rfl) ?_
      exact ⟨(i8, i9), ⟨rfl, rfl, rfl, trivial⟩, ⟨rfl, rfl, trivial⟩, ⟨_, (.refl _), rfl⟩, trivial⟩
   ·refine y1 (cs := [.int .i64 0, .int .i64 0]) zeroValue74 rfl rfl<|fun i9 => z6<|AAny.three (i := 1) (j := 3) (m := 4) rfl rfl rfl (by kernel_rfl) ?_ ?_ ?_
    ·refine z2 (yu (l := [_, _]) isAgg74 sizeOf74 rfl ⟨_, (.tail .head)⟩ rfl rfl)<|z6<|yz (i := 3) (j := 4) rfl rfl (by kernel_rfl) ?_ ?_
     ·refine z2 (yu (l := [_, _]) isAgg74 sizeOf74 rfl ⟨_, (.tail .head)⟩ rfl rfl)<|z6<|zp (i := 4) rfl (by kernel_rfl)<|y1 (cs := [.int .i64 0, .int .i64 0]) zeroValue74 rfl rfl<|fun i8 => z6<|zp (i := 6) rfl (by kernel_rfl)<|zi sizeOf74 rfl rfl rfl rfl rfl rfl .head rfl<|z6<|zp (i := 7) rfl (by kernel_rfl)<|zi sizeOf74 rfl rfl rfl rfl rfl rfl (.tail .head) rfl<|z6<|ya (by kernel_rfl) ?_
      exact ⟨(i8, i9), ⟨rfl, rfl, rfl, trivial⟩, ⟨rfl, rfl, trivial⟩, ⟨_, (.refl _), rfl⟩, trivial⟩
     ·refine y1 (cs := [.int .i64 0, .int .i64 0]) zeroValue74 rfl rfl<|fun i8 => z6<|yz (i := 3) (j := 6) rfl rfl (by kernel_rfl) ?_ ?_
      ·refine z2 (yu (l := [_, _]) isAgg74 sizeOf74 rfl ⟨_, (.tail (.tail .head))⟩ rfl rfl)<|z6<|zp (i := 6) rfl (by kernel_rfl)<|zi sizeOf74 rfl rfl rfl rfl rfl rfl .head rfl<|z6<|zp (i := 7) rfl (by kernel_rfl)<|zi sizeOf74 rfl rfl rfl rfl rfl rfl (.tail .head) rfl<|z6<|ya (by kernel_rfl) ?_
       exact ⟨(i8, i9), ⟨rfl, rfl, rfl, trivial⟩, ⟨rfl, rfl, trivial⟩, ⟨_, (.refl _), rfl⟩, trivial⟩
      ·refine zi sizeOf74 rfl rfl rfl rfl rfl rfl .head rfl<|z6<|zp (i := 3) rfl (by kernel_rfl)<|z2 (yu (l := [_, _]) isAgg74 sizeOf74 rfl ⟨_, (.tail (.tail .head))⟩ rfl rfl)<|z6<|zp (i := 7) rfl (by kernel_rfl)<|zi sizeOf74 rfl rfl rfl rfl rfl rfl (.tail .head) rfl<|z6<|ya (by kernel_rfl) ?_
       exact ⟨(i8, i9), ⟨rfl, rfl, rfl, trivial⟩, ⟨rfl, rfl, trivial⟩, ⟨_, (.refl _), rfl⟩, trivial⟩
    ·refine z2 (yu (l := [_, _]) isAgg74 sizeOf74 rfl ⟨_, (.tail .head)⟩ rfl rfl)<|z6<|yz (i := 1) (j := 4) rfl rfl (by kernel_rfl) ?_ ?_
     ·refine z2 (yu (l := [_, _]) isAgg74 sizeOf74 rfl ⟨_, (.tail .head)⟩ rfl rfl)<|z6<|zp (i := 4) rfl (by kernel_rfl)<|y1 (cs := [.int .i64 0, .int .i64 0]) zeroValue74 rfl rfl<|fun i8 => z6<|zp (i := 6) rfl (by kernel_rfl)<|zi sizeOf74 rfl rfl rfl rfl rfl rfl .head rfl<|z6<|zp (i := 7) rfl (by kernel_rfl)<|zi sizeOf74 rfl rfl rfl rfl rfl rfl (.tail .head) rfl<|z6<|ya (by kernel_rfl) ?_
      exact ⟨(i8, i9), ⟨rfl, rfl, rfl, trivial⟩, ⟨rfl, rfl, trivial⟩, ⟨_, (.refl _), rfl⟩, trivial⟩
     ·refine y1 (cs := [.int .i64 0, .int .i64 0]) zeroValue74 rfl rfl<|fun i8 => z6<|zp (i := 1) rfl (by kernel_rfl)<|z2 (yu (l := [_, _]) isAgg74 sizeOf74 rfl ⟨_, (.tail (.tail .head))⟩ rfl rfl)<|z6<|zp (i := 6) rfl (by kernel_rfl)<|zi sizeOf74 rfl rfl rfl rfl rfl rfl .head rfl<|z6<|zp (i := 7) rfl (by kernel_rfl)<|zi sizeOf74 rfl rfl rfl rfl rfl rfl (.tail .head) rfl<|z6<|ya (by kernel_rfl) ?_
      exact ⟨(i8, i9), ⟨rfl, rfl, rfl, trivial⟩, ⟨rfl, rfl, trivial⟩, ⟨_, (.refl _), rfl⟩, trivial⟩
    ·refine y1 (cs := [.int .i64 0, .int .i64 0]) zeroValue74 rfl rfl<|fun i8 => z6<|yz (i := 1) (j := 3) rfl rfl (by kernel_rfl) ?_ ?_
     ·refine z2 (yu (l := [_, _]) isAgg74 sizeOf74 rfl ⟨_, (.tail (.tail .head))⟩ rfl rfl)<|z6<|yz (i := 3) (j := 6) rfl rfl (by kernel_rfl) ?_ ?_
      ·refine z2 (yu (l := [_, _]) isAgg74 sizeOf74 rfl ⟨_, (.tail (.tail .head))⟩ rfl rfl)<|z6<|zp (i := 6) rfl (by kernel_rfl)<|zi sizeOf74 rfl rfl rfl rfl rfl rfl .head rfl<|z6<|zp (i := 7) rfl (by kernel_rfl)<|zi sizeOf74 rfl rfl rfl rfl rfl rfl (.tail .head) rfl<|z6<|ya (by kernel_rfl) ?_
       exact ⟨(i8, i9), ⟨rfl, rfl, rfl, trivial⟩, ⟨rfl, rfl, trivial⟩, ⟨_, (.refl _), rfl⟩, trivial⟩
      ·refine zi sizeOf74 rfl rfl rfl rfl rfl rfl .head rfl<|z6<|zp (i := 3) rfl (by kernel_rfl)<|z2 (yu (l := [_, _]) isAgg74 sizeOf74 rfl ⟨_, (.tail (.tail .head))⟩ rfl rfl)<|z6<|zp (i := 7) rfl (by kernel_rfl)<|zi sizeOf74 rfl rfl rfl rfl rfl rfl (.tail .head) rfl<|z6<|ya (by kernel_rfl) ?_
       exact ⟨(i8, i9), ⟨rfl, rfl, rfl, trivial⟩, ⟨rfl, rfl, trivial⟩, ⟨_, (.refl _), rfl⟩, trivial⟩
     ·refine z2 (yu (l := [_, _]) isAgg74 sizeOf74 rfl ⟨_, (.tail (.tail .head))⟩ rfl rfl)<|z6<|zp (i := 1) rfl (by kernel_rfl)<|z2 (yu (l := [_, _]) isAgg74 sizeOf74 rfl ⟨_, (.tail (.tail .head))⟩ rfl rfl)<|z6<|zp (i := 6) rfl (by kernel_rfl)<|zi sizeOf74 rfl rfl rfl rfl rfl rfl .head rfl<|z6<|zp (i := 7) rfl (by kernel_rfl)<|zi sizeOf74 rfl rfl rfl rfl rfl rfl (.tail .head) rfl<|z6<|ya (by kernel_rfl) ?_
      exact ⟨(i8, i9), ⟨rfl, rfl, rfl, trivial⟩, ⟨rfl, rfl, trivial⟩, ⟨_, (.refl _), rfl⟩, trivial⟩
  ·rintro ⟨i8, i9⟩ _
   refine yw (yp (t := 8) rfl .head)<|yw (yp (t := 9) rfl .head)<|yw (GStep.drop .head)<|za<|za<|z7 rfl<|z2 (zg underlying33 rfl sizeOf31 (by decide) rfl rfl)<|z2 (zf (c := .int _ _) isAgg31 rfl)<|z6<|zq<|za<|z7 rfl<|z2 (y6 rfl rfl)<|z2 (zd (v := .bool _) rfl)<|z6<|zt rfl (fun c0 => ?_) (fun c0 => ?_)
   ·refine za<|z7 rfl<|z2 (zg underlying33 rfl sizeOf2 (by decide) rfl rfl)<|z2 (zf (c := .int _ _) isAgg2 rfl)<|zh (iOf _) rfl<|zi sizeOf74 rfl rfl rfl rfl rfl rfl .head rfl<|z6<|zj<|yl rfl ⟨_, .head⟩ isAgg74 sizeOf74 rfl ?_
    exact ⟨by rw [if_pos c0]; rfl, .d1⟩
   ·rw [if_neg c0]
    refine za<|za<|z7 rfl<|z2 (y6 rfl rfl)<|z2 (zd (v := .bool _) rfl)<|z6<|yq (γ := Bool) [0, 3, 4, 8, 9, 35] (fun u => [(41, .bool u)]) (fun u => [(i4, .cells 74 [.int .i64 0, .int .i64 0]), (i, HL)]) (fun u => u = decide (x.op = 1 ∨ x.op = 12)) ?_ (fun _ _ h => h) ?_
    ·refine y8 rfl (fun c1 => ?_) (fun c1 => ?_)
     ·refine zk ?_
      exact ⟨_, ⟨rfl, rfl, rfl, rfl, rfl, rfl, trivial⟩, ⟨rfl, trivial⟩, ⟨_, (.refl _), rfl⟩, by simp_all⟩
     ·refine z7 rfl<|z2 (y6 rfl rfl)<|z2 (zd (v := .bool _) rfl)<|z6 ?_
      exact ⟨_, ⟨rfl, rfl, rfl, rfl, rfl, rfl, trivial⟩, ⟨rfl, trivial⟩, ⟨_, (.refl _), rfl⟩, by simp_all⟩
    ·rintro u hu
     subst hu
     refine zt rfl (fun c1 => ?_) (fun c1 => ?_)
     ·refine za<|z7 rfl<|z2 (zo isAgg74 sizeOf74 rfl rfl)<|zi sizeOf74 rfl rfl rfl rfl rfl rfl .head rfl<|z6<|zj<|yl rfl ⟨_, .head⟩ isAgg74 sizeOf74 rfl ?_
      exact ⟨by rw [if_pos c1]; rfl, .d1⟩
     ·rw [if_neg c1]
      refine za<|za<|z7 rfl<|z2 (y6 rfl rfl)<|z2 (zd (v := .bool _) rfl)<|z6<|yq (γ := Bool) [0, 3, 4, 8, 9, 35] (fun u => [(45, .bool u)]) (fun u => [(i4, .cells 74 [.int .i64 0, .int .i64 0]), (i, HL)]) (fun u => u = decide (x.op = 2 ∨ x.op = 3 ∨ x.op = 4)) ?_ (fun _ _ h => h) ?_
      ·refine y8 rfl (fun c2 => ?_) (fun c2 => ?_)
       ·refine zk ?_
        exact ⟨_, ⟨rfl, rfl, rfl, rfl, rfl, rfl, trivial⟩, ⟨rfl, trivial⟩, ⟨_, (.refl _), rfl⟩, by simp_all⟩
       ·refine za<|z7 rfl<|z2 (y6 rfl rfl)<|z2 (zd (v := .bool _) rfl)<|z6<|y8 rfl (fun c3 => ?_) (fun c3 => ?_)
        ·refine zk ?_
         exact ⟨_, ⟨rfl, rfl, rfl, rfl, rfl, rfl, trivial⟩, ⟨rfl, trivial⟩, ⟨_, (.refl _), rfl⟩, by simp_all⟩
        ·refine z7 rfl<|z2 (y6 rfl rfl)<|z2 (zd (v := .bool _) rfl)<|z6 ?_
         exact ⟨_, ⟨rfl, rfl, rfl, rfl, rfl, rfl, trivial⟩, ⟨rfl, trivial⟩, ⟨_, (.refl _), rfl⟩, by simp_all⟩
      ·rintro u hu
       subst hu
       refine zt rfl (fun c2 => ?_) (fun c2 => ?_)
       ·have hl1 : rs.length = 2 := by rw [hl]; rcases c2 with c | c | c <;> rw [c] <;> rfl
        obtain ⟨ha, na⟩ := hokr.at (i := 0) (by omega)
        obtain ⟨hb, nb⟩ := hokr.at (i := 1) (by omega)
        obtain ⟨k, hk, hk2⟩ := sum_op c2
        have hd0 := hd c2
        refine za<|z7 rfl<|z2 (zc (v := _) rfl)<|z2 (zo isAgg33 sizeOf33 rfl rfl)<|z2 (zo isAgg74 sizeOf74 rfl rfl)<|z2 (zo isAgg74 sizeOf74 rfl rfl)<|zh (vsum_spec f chk Lv x ha hb hd0 (h1 hd0)) rfl<|zi sizeOf74 rfl rfl rfl rfl rfl rfl .head rfl<|z6<|zj<|yl rfl ⟨_, .head⟩ isAgg74 sizeOf74 rfl ?_
        exact ⟨agZ (by rw [sum_apply hk hk2 na nb]; rcases (by omega : k = 0 ∨ k = 1 ∨ k = 2) with rfl | rfl | rfl; rw [if_pos (by omega)]; rw [if_neg (by omega), if_pos (by omega)]; rw [if_neg (by omega), if_neg (by omega), if_pos (by omega)]), .d1⟩
       ·rw [if_neg (by omega), if_neg (by omega), if_neg (by omega)]
        refine za<|za<|z7 rfl<|z2 (y6 rfl rfl)<|z2 (zd (v := .bool _) rfl)<|z6<|yq (γ := Bool) [3, 4, 8, 9, 35] (fun u => [(54, .bool u)]) (fun u => [(i4, .cells 74 [.int .i64 0, .int .i64 0]), (i, HL)]) (fun u => u = decide (x.op = 5 ∨ x.op = 6)) ?_ (fun _ _ h => h) ?_
        ·refine y8 rfl (fun c4 => ?_) (fun c4 => ?_)
         ·refine zk ?_
          exact ⟨_, ⟨rfl, rfl, rfl, rfl, rfl, trivial⟩, ⟨rfl, trivial⟩, ⟨_, (.refl _), rfl⟩, by simp_all⟩
         ·refine z7 rfl<|z2 (y6 rfl rfl)<|z2 (zd (v := .bool _) rfl)<|z6 ?_
          exact ⟨_, ⟨rfl, rfl, rfl, rfl, rfl, trivial⟩, ⟨rfl, trivial⟩, ⟨_, (.refl _), rfl⟩, by simp_all⟩
        ·rintro u hu
         subst hu
         refine zt rfl (fun c5 => ?_) (fun c5 => ?_)
         ·have hl1 : rs.length = 2 := by rw [hl]; rcases c5 with c | c <;> rw [c] <;> rfl
          obtain ⟨ha, na⟩ := hokr.at (i := 0) (by omega)
          obtain ⟨hb, nb⟩ := hokr.at (i := 1) (by omega)
          refine za<|z7 rfl<|z2 (zg underlying33 rfl sizeOf31 (by decide) rfl rfl)<|z2 (zf (c := .int _ _) isAgg31 rfl)<|z2 (zo isAgg74 sizeOf74 rfl rfl)<|z2 (zo isAgg74 sizeOf74 rfl rfl)<|zh (iApply x.op ha hb) rfl<|zi sizeOf74 rfl rfl rfl rfl rfl rfl .head rfl<|z6<|zj<|yl rfl ⟨_, .head⟩ isAgg74 sizeOf74 rfl ?_
          exact ⟨agZ (by rcases c5 with c | c; rw [if_pos c, c, apply5 ha hb na nb]; rw [if_neg (by omega), if_pos c, c, apply6 na nb]), .d1⟩
         ·rw [if_neg (by omega), if_neg (by omega)]
          refine za<|za<|z7 rfl<|z2 (y6 rfl rfl)<|z2 (zd (v := .bool _) rfl)<|z6<|yq (γ := Bool) [3, 4, 8, 9, 35] (fun u => [(62, .bool u)]) (fun u => [(i4, .cells 74 [.int .i64 0, .int .i64 0]), (i, HL)]) (fun u => u = decide (x.op = 7 ∨ x.op = 8 ∨ x.op = 9)) ?_ (fun _ _ h => h) ?_
          ·refine y8 rfl (fun c5 => ?_) (fun c5 => ?_)
           ·refine zk ?_
            exact ⟨_, ⟨rfl, rfl, rfl, rfl, rfl, trivial⟩, ⟨rfl, trivial⟩, ⟨_, (.refl _), rfl⟩, by simp_all⟩
           ·refine za<|z7 rfl<|z2 (y6 rfl rfl)<|z2 (zd (v := .bool _) rfl)<|z6<|y8 rfl (fun c6 => ?_) (fun c6 => ?_)
            ·refine zk ?_
             exact ⟨_, ⟨rfl, rfl, rfl, rfl, rfl, trivial⟩, ⟨rfl, trivial⟩, ⟨_, (.refl _), rfl⟩, by simp_all⟩
            ·refine z7 rfl<|z2 (y6 rfl rfl)<|z2 (zd (v := .bool _) rfl)<|z6 ?_
             exact ⟨_, ⟨rfl, rfl, rfl, rfl, rfl, trivial⟩, ⟨rfl, trivial⟩, ⟨_, (.refl _), rfl⟩, by simp_all⟩
          ·rintro u hu
           subst hu
           refine zt rfl (fun c7 => ?_) (fun c7 => ?_)
           ·have hl1 : rs.length = 2 := by rw [hl]; rcases c7 with c | c | c <;> rw [c] <;> rfl
            obtain ⟨ha, na⟩ := hokr.at (i := 0) (by omega)
            obtain ⟨hb, nb⟩ := hokr.at (i := 1) (by omega)
            refine za<|z7 rfl<|z2 (zg underlying33 rfl sizeOf31 (by decide) rfl rfl)<|z2 (zf (c := .int _ _) isAgg31 rfl)<|z2 (zo isAgg74 sizeOf74 rfl rfl)<|z2 (zo isAgg74 sizeOf74 rfl rfl)<|zh (iTruth x.op (ra rs 0) (ra rs 1)) rfl<|zi sizeOf74 rfl rfl rfl rfl rfl rfl .head rfl<|z6<|zj<|yl rfl ⟨_, .head⟩ isAgg74 sizeOf74 rfl ?_
            exact ⟨agZ (by rcases c7 with c | c | c; rw [if_pos c, c, truth7 na nb]; rw [if_neg (by omega), if_pos c, c, truth8 na nb]; rw [if_neg (by omega), if_neg (by omega), if_pos c, c, truth9 na nb]), .d1⟩
           ·rw [if_neg (by omega), if_neg (by omega), if_neg (by omega)]
            refine za<|z7 rfl<|z2 (y6 rfl rfl)<|z2 (zd (v := .bool _) rfl)<|z6<|zt rfl (fun c10 => ?_) (fun c10 => ?_)
            ·have hl1 : rs.length = 1 := by rw [hl, c10]; rfl
             obtain ⟨ha, na⟩ := hokr.at (i := 0) (by omega)
             obtain ⟨hb1, hb2⟩ := hbl (.inl c10) 0 (by omega)
             refine za<|z7 rfl<|z2 (zg underlying74 rfl sizeOf2 (by decide) rfl rfl)<|z2 (zf (c := .int _ _) isAgg2 rfl)<|z2 (Gv.sub rfl rfl (by unfold I64; omega))<|z2 (zg underlying74 rfl sizeOf2 (by decide) rfl rfl)<|z2 (zf (c := .int _ _) isAgg2 rfl)<|z2 (Gv.sub rfl rfl (by unfold I64; omega))<|z2 (y9 (cps := [(0, [_]), (1, [_])]) (rs := [_, _]) pl74 rfl rfl rfl)<|zi sizeOf74 rfl rfl rfl rfl rfl rfl .head rfl<|z6<|zj<|yl rfl ⟨_, .head⟩ isAgg74 sizeOf74 rfl ?_
             exact ⟨by rw [if_pos c10, ← notP_eq na hb1 hb2]; rfl, .d1⟩
            ·rw [if_neg c10]
             refine za<|z7 rfl<|z2 (y6 rfl rfl)<|z2 (zd (v := .bool _) rfl)<|z6<|zt rfl (fun c11 => ?_) (fun c11 => ?_)
             ·have hl1 : rs.length = 2 := by rw [hl, c11]; rfl
              obtain ⟨ha, na⟩ := hokr.at (i := 0) (by omega)
              obtain ⟨hb, nb⟩ := hokr.at (i := 1) (by omega)
              obtain ⟨hb1, hb2⟩ := hbl (.inr c11) 0 (by omega)
              obtain ⟨hb3, hb4⟩ := hbl (.inr c11) 1 (by omega)
              refine za<|z7 rfl<|z2 (zg underlying74 rfl sizeOf2 (by decide) rfl rfl)<|z2 (zf (c := .int _ _) isAgg2 rfl)<|z2 (zg underlying74 rfl sizeOf2 (by decide) rfl rfl)<|z2 (zf (c := .int _ _) isAgg2 rfl)<|z2 (Gv.minI rfl rfl)<|z2 (zg underlying74 rfl sizeOf2 (by decide) rfl rfl)<|z2 (zf (c := .int _ _) isAgg2 rfl)<|z2 (zg underlying74 rfl sizeOf2 (by decide) rfl rfl)<|z2 (zf (c := .int _ _) isAgg2 rfl)<|z2 (Gv.minI rfl rfl)<|z2 (y9 (cps := [(0, [_]), (1, [_])]) (rs := [_, _]) pl74 rfl rfl rfl)<|zi sizeOf74 rfl rfl rfl rfl rfl rfl .head rfl<|z6<|zj<|yl rfl ⟨_, .head⟩ isAgg74 sizeOf74 rfl ?_
              exact ⟨by rw [if_pos c11, ← andP_eq na nb hb1 hb2 hb3 hb4]; rfl, .d1⟩
             ·rw [if_neg c11]
              refine za<|z7 rfl<|z2 (y6 rfl rfl)<|z2 (zd (v := .bool _) rfl)<|z6<|zt rfl (fun c15 => ?_) (fun c15 => ?_)
              ·refine za<|yb (fun j => Nat.beq j 3) (by kernel_rfl) rfl (y4 (.rest _))<|ze (i := 0) rfl (by kernel_rfl) (zo isAgg74 sizeOf74 rfl rfl)<|zp (i := 1) rfl (by kernel_rfl)<|zh (iType _) rfl<|z6<|zp (i := 2) rfl (by kernel_rfl)<|zh (iMeet (ra rs 0) (rType 2)) rfl<|z6<|yy<|q5 (i := 3) rfl (by kernel_rfl) (by kernel_rfl)<|zi sizeOf74 rfl rfl rfl rfl rfl rfl .head rfl<|z6<|q0 (by kernel_rfl)<|zj<|yl rfl ⟨_, .head⟩ isAgg74 sizeOf74 rfl ?_
               exact ⟨by rw [if_pos c15]; rfl, .d1⟩
              ·rw [if_neg c15]
               refine za<|z7 rfl<|z2 (y6 rfl rfl)<|z2 (zd (v := .bool _) rfl)<|z6<|zt rfl (fun c16 => ?_) (fun c16 => ?_)
               ·refine za<|z7 rfl<|zh (iOf _) rfl<|zi sizeOf74 rfl rfl rfl rfl rfl rfl .head rfl<|z6<|zj<|yl rfl ⟨_, .head⟩ isAgg74 sizeOf74 rfl ?_
                exact ⟨agZ (by rw [if_pos c16]), .d1⟩
               ·rw [if_neg c16]
                refine za<|z7 rfl<|z2 (y6 rfl rfl)<|z2 (zd (v := .bool _) rfl)<|z6<|zt rfl (fun c25 => ?_) (fun c25 => ?_)
                ·have hl1 : rs.length = 2 := by rw [hl, c25]; rfl
                 obtain ⟨ha, na⟩ := hokr.at (i := 0) (by omega)
                 obtain ⟨hb, nb⟩ := hokr.at (i := 1) (by omega)
                 refine za<|z7 rfl<|z2 (zg underlying33 rfl sizeOf2 (by decide) rfl rfl)<|z2 (zf (c := .int _ _) isAgg2 rfl)<|z2 (zo isAgg74 sizeOf74 rfl rfl)<|z2 (zo isAgg74 sizeOf74 rfl rfl)<|zh (iCut x.num hb) rfl<|zi sizeOf74 rfl rfl rfl rfl rfl rfl .head rfl<|z6<|zj<|yl rfl ⟨_, .head⟩ isAgg74 sizeOf74 rfl ?_
                 exact ⟨agZ (by rw [if_pos c25, cutP_eq ha na nb]), .d1⟩
                ·rw [if_neg c25]
                 refine za<|z7 rfl<|z2 (y6 rfl rfl)<|z2 (zd (v := .bool _) rfl)<|z6<|zt rfl (fun c26 => ?_) (fun c26 => ?_)
                 ·have hl1 : rs.length = 2 := by rw [hl, c26]; rfl
                  obtain ⟨ha, na⟩ := hokr.at (i := 0) (by omega)
                  obtain ⟨hb, nb⟩ := hokr.at (i := 1) (by omega)
                  refine za<|yb (fun j => Nat.beq j 5) (by kernel_rfl) rfl (y4 (.rest _))<|ze (i := 0) rfl (by kernel_rfl) (zo isAgg74 sizeOf74 rfl rfl)<|ze (i := 1) rfl (by kernel_rfl) (y9 (cps := [(0, [_]), (1, [_])]) (rs := [_, _]) pl74 rfl rfl rfl)<|ze (i := 3) rfl (by kernel_rfl) (zo isAgg74 sizeOf74 rfl rfl)<|zp (i := 2) rfl (by kernel_rfl)<|zh (iMeet (ra rs 0) (0, M64)) rfl<|z6<|zp (i := 4) rfl (by kernel_rfl)<|zh (iCut 0 hb) rfl<|z6<|yy<|q5 (i := 5) rfl (by kernel_rfl) (by kernel_rfl)<|zi sizeOf74 rfl rfl rfl rfl rfl rfl .head rfl<|z6<|q0 (by kernel_rfl)<|zj<|yl rfl ⟨_, .head⟩ isAgg74 sizeOf74 rfl ?_
                  exact ⟨agZ (by rw [if_pos c26, cut0_eq (rMeet_ok ha ⟨by decide, by decide⟩) (rMeet_nrm _ _) nb]), .d1⟩
                 ·refine zk<|za<|z7 rfl<|zh (iAll) rfl<|zi sizeOf74 rfl rfl rfl rfl rfl rfl .head rfl<|z6<|zj<|yl rfl ⟨_, .head⟩ isAgg74 sizeOf74 rfl ?_
                  exact ⟨agZ (by rw [if_neg c26]), .d1⟩
end Go.Proofs.YtjnpcfpecilejaaGreatDoor
