/- Tables of bounds: the program's answer on both sides. Of programs that are little. -/
import Derived.Test.YtjnpcfpecilejaaGreatDoorHs
import Derived.Test.YtjnpcfpecilejaaGreatDoorHm
import Derived.Test.YtjnpcfpecilejaaGreatDoorHt
import Derived.Test.YtjnpcfpecilejaaGreatDoorHo
import Derived.Test.YtjnpcfpecilejaaGreatDoorHp
set_option linter.unusedVariables false
set_option linter.unusedSimpArgs false
set_option linter.unusedSectionVars false
namespace Go.Proofs.YtjnpcfpecilejaaGreatDoor
open Go.Proofs.Tryz
open Go.Proofs Go.Lib Go.Shelf Go.RowKit
theorem pl56 : Places prog 56 #[(0, 1), (1, 1)] [.str ⟨#[]⟩, .int .i64 0] := ⟨_, _, underlying56, zeroValue56, fun w => by kernel_rfl, rfl⟩
theorem pl33 : Places prog 33 #[(0, 1), (1, 1), (2, 1), (3, 1)] [.int .i64 0, .int .i64 0, .raw (.slice none 0 0), .int .i64 0] := ⟨_, _, underlying33, zeroValue33, fun w => by kernel_rfl, rfl⟩
theorem pl64 : Places prog 64 #[(0, 1), (1, 1), (2, 2)] [.int .i64 0, .int .i64 0, .int .i64 0, .int .i64 0] := ⟨_, _, underlying64, zeroValue64, fun w => by kernel_rfl, rfl⟩
variable {E : World}
set_option maxRecDepth 20000
structure EdgeOk (f : PFunc) (e : Ejk) : Prop where
 to0 : 0 ≤ e.2.1
 to1 : e.2.1 < f.vars.length
 from0 : 0 ≤ e.1
 from1 : e.1 ≤ f.vars.length
 tty : tyV f e.2.1 ≠ 1
 fty : e.1 < f.vars.length → tyV f e.1 ≠ 1
 noPhi : ¬ (0 ≤ (makerT f e.2.1).1 ∧ (makerT f e.2.1).2 < 0)
 ne : e.1 ≠ e.2.1
theorem mem_putIf {c : Bool} {e d : Ejk} (h : e ∈ putIf c d) : e = d := by
 unfold putIf at h
 split at h
 ·simpa using h
 ·cases h
theorem mem_endE {f : PFunc} {l : List Rng} {up : Bool} {v : Int} {o : Bool} {to from_ s : Int} {e : Ejk} (h : e ∈ endE f l up v o to from_ s) : e.1 = from_ ∧ e.2.1 = to := by
 rw [mem_putIf h]; exact ⟨rfl, rfl⟩
def fromOps (op : Int) : Prop := op = 1 ∨ op = 2 ∨ op = 3 ∨ op = 5 ∨ op = 6 ∨ op = 12 ∨ op = 15 ∨ op = 25 ∨ op = 26
def fromOps2 (op : Int) : Prop := op = 2 ∨ op = 3 ∨ op = 5 ∨ op = 6 ∨ op = 25 ∨ op = 26
theorem inst_from {f : PFunc} {l : List Rng} {up : Bool} {x : PInst} {blk at_ : Int} {e : Ejk} (h : e ∈ instE f l up x blk at_) :
  e.2.1 = x.dst ∧ (e.1 = n0 f ∨ (e.1 = x0 x ∧ fromOps x.op) ∨ (e.1 = x1 x ∧ fromOps2 x.op)) := by
 unfold instE at h
 unfold fromOps fromOps2
 by_cases c0 : x.op = 0
 ·rw [if_pos c0] at h; simp at h; subst h; exact ⟨rfl, .inl rfl⟩
 rw [if_neg c0] at h
 by_cases c1 : x.op = 1 ∨ x.op = 12 ∨ x.op = 15
 ·rw [if_pos c1] at h; simp at h; subst h; exact ⟨rfl, .inr (.inl ⟨rfl, by omega⟩)⟩
 rw [if_neg c1] at h
 by_cases c2 : x.op = 2 ∨ x.op = 3
 ·rw [if_pos c2] at h
  unfold sumE at h
  split at h
  ·split at h
   ·have := mem_endE h; exact ⟨this.2, .inr (.inl ⟨this.1, by omega⟩)⟩
   ·rcases List.mem_append.1 h with h | h
    ·have := mem_endE h; exact ⟨this.2, .inr (.inl ⟨this.1, by omega⟩)⟩
    ·have := mem_endE h; exact ⟨this.2, .inr (.inr ⟨this.1, by omega⟩)⟩
  ·cases h
 rw [if_neg c2] at h
 by_cases c5 : x.op = 5 ∨ x.op = 6
 ·rw [if_pos c5] at h
  unfold restE at h
  rcases List.mem_append.1 h with h | h
  ·split at h
   ·split at h
    ·simp at h; subst h; exact ⟨rfl, .inr (.inl ⟨rfl, by omega⟩)⟩
    ·simp at h; subst h; exact ⟨rfl, .inl rfl⟩
   ·cases h
  ·rw [mem_putIf h]; exact ⟨rfl, .inr (.inr ⟨rfl, by omega⟩)⟩
 rw [if_neg c5] at h
 by_cases c16 : x.op = 16
 ·rw [if_pos c16] at h; simp at h; subst h; exact ⟨rfl, .inl rfl⟩
 rw [if_neg c16] at h
 by_cases c25 : x.op = 25
 ·rw [if_pos c25] at h
  unfold piE at h
  rcases List.mem_cons.1 h with h | h
  ·subst h; exact ⟨rfl, .inr (.inl ⟨rfl, by omega⟩)⟩
  ·split at h
   ·simp at h; subst h; exact ⟨rfl, .inr (.inr ⟨rfl, by omega⟩)⟩
   ·split at h
    ·simp at h; subst h; exact ⟨rfl, .inr (.inr ⟨rfl, by omega⟩)⟩
    ·split at h
     ·simp at h; subst h; exact ⟨rfl, .inr (.inr ⟨rfl, by omega⟩)⟩
     ·cases h
 rw [if_neg c25] at h
 by_cases c26 : x.op = 26
 ·rw [if_pos c26] at h
  rcases List.mem_cons.1 h with h | h
  ·subst h; exact ⟨rfl, .inr (.inl ⟨rfl, by omega⟩)⟩
  ·split at h
   ·simp at h; subst h; exact ⟨rfl, .inr (.inr ⟨rfl, by omega⟩)⟩
   ·simp at h; subst h; exact ⟨rfl, .inl rfl⟩
 rw [if_neg c26] at h
 cases h
theorem fromOps_len {op : Int} (h : fromOps op) : 1 ≤ (takesL op).length := by unfold fromOps at h; rcases h with rfl | rfl | rfl | rfl | rfl | rfl | rfl | rfl | rfl <;> decide
theorem fromOps_ty {op : Int} (h : fromOps op) (h1 : op ≠ 1) : ∀ t ∈ takesL op, t ≠ 1 := by unfold fromOps at h; rcases h with rfl | rfl | rfl | rfl | rfl | rfl | rfl | rfl | rfl <;> first | (exact absurd rfl h1) | decide
theorem x0_mem {x : PInst} (h : 1 ≤ x.args.length) : x0 x ∈ x.args := by unfold x0; rw [qj (by omega)]; exact qn _
theorem x1_mem {x : PInst} (h : 2 ≤ x.args.length) : x1 x ∈ x.args := by unfold x1; rw [qj (by omega)]; exact qn _
structure InstS (f : PFunc) (i k : Nat) (x : PInst) : Prop where
 F : InstF f x
 typed : instT f x = true
 made : 0 ≤ x.dst → makerT f x.dst = ((i : Int), (k : Int))
 ahead : ∀ v ∈ x.args, AheadP f (makerT f v) i k
theorem inst_s {f : PFunc} (hF : RuleF f) (h : (typedB f && singB f) = true) {i k : Nat} {b : PBlock} {x : PInst} (hb : f.blocks[i]? = some b) (hx : b.insts[k]? = some x) : InstS f i k x := by
 have hmem := List.mem_of_getElem? hb
 have hxm := List.mem_of_getElem? hx
 have hI := instP_F ((hF.shaped.2.2.2.2.2 b hmem).2.1 x hxm)
 have hty := (and3 h).1
 have hsi := (singB_iff (typedB_ends hty)).1 (and3 h).2
 refine ⟨hI, ?_, fun h0=>?_, fun v hv => ?_⟩
 ·unfold typedB at hty
  rw [qw] at hty
  have h1 := List.all_eq_true.1 hty.2 b hmem
  unfold blkT at h1
  simp only [qw] at h1
  exact List.all_eq_true.1 h1.1.2 x hxm
 ·have hm : ((i : Int), (k : Int)) ∈ makings f x.dst := mem_makings.2 ⟨i, b, hb, mem_mkBlk.2 (.inr ⟨k, x, hx, rfl, rfl⟩)⟩
  have h1 : x.dst < f.vars.length := by
   rcases hI.dst with ⟨_, h⟩ | ⟨_, _, h⟩
   ·omega
   ·exact (hasV_rng h).2
  have ho := (hF.once x.dst.toNat (by omega)).1
  rw [qy h0] at ho
  exact maker_eq ho hm
 ·have hi := (List.getElem?_eq_some_iff.1 hb)
  obtain ⟨hi, rfl⟩ := hi
  obtain ⟨hk, rfl⟩ := List.getElem?_eq_some_iff.1 hx
  exact (hsi.2.2.2 i hi).2.1 k hk v hv
theorem arg_ne {f : PFunc} {i k : Nat} {x : PInst} (h : InstS f i k x) (h0 : 0 ≤ x.dst) {v : Int} (hv : v ∈ x.args) : v ≠ x.dst := fun e => by
 have := h.ahead v hv
 rw [e, h.made h0] at this
 unfold AheadP at this
 dsimp only at this
 omega
theorem arg_ty {f : PFunc} {i k : Nat} {x : PInst} (h : InstS f i k x) (ho : fromOps x.op) (hd : tyV f x.dst ≠ 1) {v : Int} (hv : v ∈ x.args) (hv0 : x.op = 1 → v = x0 x) : tyV f v ≠ 1 := by
 have ht := h.typed
 unfold instT at ht
 by_cases c : x.op = 1
 ·rw [if_pos c, w4] at ht
  have e : x.args.headD 0 = x0 x := by unfold x0; cases x.args <;> rfl
  rw [hv0 c, ← e]
  intro e2
  exact hd (show kindV f x.dst = 1 from ht.trans e2)
 ·rw [if_neg c, qw, w4] at ht
  have : kindV f v ∈ takesL x.op := by rw [← ht.1]; exact List.mem_map_of_mem hv
  exact fromOps_ty ho c _ this
theorem step_ok {f : PFunc} {l : List Rng} {up : Bool} {i k : Nat} {x : PInst} (h : InstS f i k x) {e : Ejk} (he : e ∈ stepE f l up x i k) : EdgeOk f e := by
 unfold stepE at he
 split at he
 ·rename_i hc
  obtain ⟨h0, hd⟩ := hc
  have hdr : x.dst < f.vars.length := by
   rcases h.F.dst with ⟨_, h⟩ | ⟨_, _, h⟩
   ·omega
   ·exact (hasV_rng h).2
  have hm := h.made h0
  have key : e.2.1 = x.dst ∧ (e.1 = n0 f ∨ (∃ v ∈ x.args, e.1 = v ∧ fromOps x.op ∧ (x.op = 1 → v = x0 x))) := by
   rcases List.mem_append.1 he with he | he
   ·obtain ⟨h1, h2 | ⟨h2, h3⟩ | ⟨h2, h3⟩⟩ := inst_from he
    ·exact ⟨h1, .inl h2⟩
    ·exact ⟨h1, .inr ⟨x0 x, x0_mem (by rw [h.F.len]; exact fromOps_len h3), h2, h3, fun _ => rfl⟩⟩
    ·have hl := takes2 h3
     exact ⟨h1, .inr ⟨x1 x, x1_mem (by rw [h.F.len, hl]; exact Nat.le_refl 2), h2, by unfold fromOps; unfold fromOps2 at h3; omega, fun c => by unfold fromOps2 at h3; omega⟩⟩
   ·unfold ownE at he
    have := mem_endE he
    exact ⟨this.2, .inl this.1⟩
  obtain ⟨h1, h2⟩ := key
  have hto : (0 : Int) ≤ e.2.1 ∧ e.2.1 < f.vars.length := by rw [h1]; exact ⟨h0, hdr⟩
  refine ⟨hto.1, hto.2, ?_, ?_, by rw [h1]; exact hd, ?_, by rw [h1, hm]; dsimp only; omega, ?_⟩
  ·rcases h2 with h2 | ⟨v, hv, h2, _⟩
   ·rw [h2]; unfold n0; omega
   ·rw [h2]; exact (hasV_rng (h.F.args v hv)).1
  ·rcases h2 with h2 | ⟨v, hv, h2, _⟩
   ·rw [h2]; exact Int.le_refl _
   ·rw [h2]; have := (hasV_rng (h.F.args v hv)).2; omega
  ·intro hl
   rcases h2 with h2 | ⟨v, hv, h2, h3, h4⟩
   ·rw [h2] at hl; unfold n0 at hl; omega
   ·rw [h2]; exact arg_ty h h3 hd hv h4
  ·rcases h2 with h2 | ⟨v, hv, h2, _⟩
   ·rw [h2, h1]; unfold n0; omega
   ·rw [h2, h1]; exact arg_ne h h0 hv
 ·cases he
theorem mem_insE {f : PFunc} {l : List Rng} {up : Bool} {i : Nat} {xs : List PInst} {e : Ejk} : e ∈ insE f l up i xs ↔ ∃ (k : Nat) (x : PInst), xs[k]? = some x ∧ e ∈ stepE f l up x i k := by
 unfold insE
 rw [List.mem_flatMap]
 constructor
 ·rintro ⟨⟨x, k⟩, h1, h2⟩; exact ⟨k, x, List.mem_zipIdx_iff_getElem?.1 h1, h2⟩
 ·rintro ⟨k, x, h1, h2⟩; exact ⟨(x, k), List.mem_zipIdx_iff_getElem?.2 h1, h2⟩
theorem mem_blksE {f : PFunc} {l : List Rng} {up : Bool} {e : Ejk} : e ∈ blksE f l up f.blocks.length ↔ ∃ (i : Nat) (b : PBlock), f.blocks[i]? = some b ∧ e ∈ insE f l up i b.insts := by
 unfold blksE
 rw [qo, List.mem_flatMap]
 constructor
 ·rintro ⟨⟨b, i⟩, h1, h2⟩; exact ⟨i, b, List.mem_zipIdx_iff_getElem?.1 h1, h2⟩
 ·rintro ⟨i, b, h1, h2⟩; exact ⟨(b, i), List.mem_zipIdx_iff_getElem?.2 h1, h2⟩
theorem edge_ok {f : PFunc} (hF : RuleF f) (h : (typedB f && singB f) = true) (l : List Rng) (up : Bool) : ∀ e ∈ edgesE f l up, EdgeOk f e := fun e he => by
 rcases List.mem_append.1 he with he | he
 ·unfold varsE at he
  obtain ⟨k, hk, he⟩ := List.mem_flatMap.1 he
  rw [List.mem_range] at hk
  unfold varE at he
  split at he
  ·rename_i hc
   unfold ownE at he
   obtain ⟨h1, h2⟩ := mem_endE he
   unfold n0 at h1
   refine ⟨by omega, by omega, by omega, by omega, by rw [h2]; exact hc.2, fun hl => by omega, by rw [h2]; omega, by omega⟩
  ·cases he
 ·obtain ⟨i, b, hb, he⟩ := mem_blksE.1 he
  obtain ⟨k, x, hx, he⟩ := mem_insE.1 he
  exact step_ok (inst_s hF h hb hx) he
def outOf (op : Int) : Prop := op = 12 ∨ op = 15 ∨ op = 25 ∨ op = 26
instance (op : Int) : Decidable (outOf op) := by unfold outOf; infer_instance
theorem edges_few {f : PFunc} (hf : small f) (l : List Rng) (up : Bool) : (edgesE f l up).length ≤ 80000000 := by
 have hn := hf.2.2.1
 have a := varsE_len f l up f.vars.length
 have b := blksE_len f l up (m := 1000) (fun b hb => by have := (hf.2.2.2.2 b hb).2.2.1; omega) f.blocks.length (Nat.le_refl _)
 have e := hf.1
 unfold edgesE
 rw [qp]
 have : f.blocks.length * (3 * 1000) ≤ 1000 * 3000 := Nat.mul_le_mul (by omega) (by omega)
 omega
end Go.Proofs.YtjnpcfpecilejaaGreatDoor
namespace Go.Proofs.YtjnpcfpecilejaaGreatDoor
open Go.Proofs.Tryz
open Go.Proofs Go.Lib Go.Shelf Go.RowKit
variable {E : World}
set_option maxRecDepth 20000
theorem cellsE (es : List Ejk) : ((es.map encE).flatten).all AV.cell = true := by
 rw [qx]
 intro x hx
 obtain ⟨r, hr, hx⟩ := List.mem_flatten.1 hx
 obtain ⟨e, _, rfl⟩ := List.mem_map.1 hr
 simp only [encE, List.mem_cons, List.not_mem_nil, or_false] at hx
 rcases hx with rfl | rfl | rfl <;> rfl
theorem eC_app (a b : List Ejk) : eC (a ++ b) = eC a ++ (b.map encE).flatten := by rw [eC_flat, eC_flat, List.map_append, List.flatten_append]
theorem blks0 (f : PFunc) (l : List Rng) (up : Bool) : blksE f l up 0 = [] := by simp [blksE]
theorem app0 {f : PFunc} {l : List Rng} {up : Bool} {i : Nat} {V : List Ejk} : AV.own i V.length = AV.own i (V ++ blksE f l up 0).length := by rw [blks0, qt]
theorem ins_0 (f : PFunc) (l : List Rng) (up : Bool) (i : Nat) (b : List PInst) : insE f l up i (b.take 0) = [] := by simp [insE]
set_option maxHeartbeats 8000000 in
theorem refAll_spec (f : PFunc) (hF : RuleF f) (hE : EndsOk f) (l : List Rng) (hol : ∀ r ∈ l, ok64 r) (hll : l.length = f.vars.length) : AFun prog E 25 [.agg (encF f), .fro 2 (l.map encZ)] (.tup [.fro 3 ((edgesE f l true).map encE), .fro 3 ((edgesE f l false).map encE)]) := by
 have hf := hF.small
 have hS := hF.shaped
 have hvn := hf.1
 have hn := hf.2.2.1
 have hok : ∀ u : Int, 0 ≤ u → ok64 (lv l u) := fun u _ => lv_ok hol u
 have hend : ∀ (up : Bool) (v : Int), 0 ≤ v → toldB (ofR f l v) (endN f l up v false) = true → is64 (1 * endN f l up v false) := fun up v hv => told_end (ofR_ok hok hv) (by unfold endN; cases up; exact .inl rfl; exact .inr rfl) (.inl rfl)
 refine zo func25 rfl (by decide) rfl<|zSr<|y7 (cs := _) rfl rfl rfl<|z2 (zAr rfl)<|z2 (zAr rfl)<|z6<|zSr<|z2 (zk isAgg26 sizeOf26 rfl rfl)<|ze (refTable_spec f hE hn) rfl<|z2 (zAf rfl)<|z6<|zSr<|z2 (zFF underlying26 rfl sizeOf22 rfl rfl)<|z2 (zLf isAgg22 rfl)<|z2 (zz underlying22 rfl)<|z2 (zAi rfl)<|z6<|za<|zSr<|z2 (zFF underlying26 rfl sizeOf22 rfl rfl)<|z2 (zLf isAgg22 rfl)<|z2 (zz underlying22 rfl)<|z2 (zMi rfl)<|z6<|adopt_wp (t := 5) (k := 3) (T := 119) rfl<|fun i5 => adopt_wp (t := 4) (k := 3) (T := 119) rfl<|fun i4 => zh<|y6 (γ := Nat × Nat × Nat) [1, 2, 6, 7, 26, 27] (fun g => [(28, .int .i64 g.1), (4, .own g.2.1 (varsE f l true g.1).length), (5, .own g.2.2 (varsE f l false g.1).length)]) (fun g => [(g.2.1, .grow 3 119 (eC (varsE f l true g.1))), (g.2.2, .grow 3 119 (eC (varsE f l false g.1)))]) (fun g => g.1 ≤ f.vars.length) (fun g => f.vars.length - g.1) (0, i4, i5) zR3 zLe (qm _) ?_
 rintro ⟨k, ju, jd⟩ hk
 try dsimp only at *
 refine zSr<|z2 (y8 rfl rfl)<|z6<|za<|zp rfl (fun ck=>?_) (fun ck=>?_)
 ·have hk2 : k < f.vars.length := by simp at ck; omega
  have hvu := varsE_len f l true k
  have hvd := varsE_len f l false k
  obtain ⟨y, hy, hyt, hy0, hy2⟩ := ty_get hS (hasV_ofNat hk2)
  refine zc<|za<|zh<|zSr<|z2 (zMi rfl)<|z2 (zIM k underlying22 sizeOf56 rfl rfl rfl hy)<|z2 (zk isAgg56 sizeOf56 rfl rfl)<|zq (cs := [.str ⟨#[]⟩, .int .i64 0]) zeroValue56 rfl rfl<|fun i9 => z2 (zAi rfl)<|zm sizeOf56 rfl rfl rfl rfl rfl rfl .head rfl<|zd (y9 (t := 9) rfl .head)<|z6<|zSr<|z2 (zk isAgg26 sizeOf26 rfl rfl)<|z2 (zMi rfl)<|ze (Maker_spec f hf k) rfl<|z2 (zMu rfl)<|z2 (zXi rfl rfl)<|z2 (zXi rfl rfl)<|z2 (zAi rfl)<|z2 (zAi rfl)<|z6<|za<|yc (γ := Bool) [1, 2, 4, 5, 6, 7, 8, 9, 26, 27, 28] (fun u => [(45, .bool u)]) (fun u => [(ju, .grow 3 119 (eC (varsE f l true k))), (jd, .grow 3 119 (eC (varsE f l false k)))]) (fun u => u = decide ((makerT f k).1 < 0 ∧ tyV f k ≠ 1)) ?_ (fun _ _ h => h) ?_
  ·refine zRg<|z2 (zMi rfl)<|z2 (y8 rfl rfl)<|z2 (zMb rfl)<|zl (s := 41) rfl (fun c1=>?_) (fun c1=>?_)
   ·refine z8 rfl rfl c1<|z2 (zFF underlying56 rfl sizeOf54 rfl rfl)<|z8 rfl rfl c1<|z2 (zLi isAgg54 rfl)<|z8 rfl rfl c1<|z2 (yi rfl rfl)<|z2 (zPt rfl c1 rfl)<|z6 ?_
    exact ⟨_, zR11, zR1, zLe, by clear hend; simp_all <;> omega⟩
   ·refine z7 rfl rfl c1<|z7 rfl rfl c1<|z7 rfl rfl c1<|z2 (zPf rfl c1 rfl)<|z6 ?_
    exact ⟨_, zR11, zR1, zLe, by clear hend; simp_all <;> omega⟩
  ·rintro u hu
   subst hu
   refine zp rfl (fun cm=>?_) (fun cm=>?_)
   ·have eu : varsE f l true (k + 1) = withE (varsE f l true k) k (n0 f) (ofR f l k) (ofR f l k).2 1 := by rw [varsE_succ, varE, if_pos cm]; rfl
    have ed : varsE f l false (k + 1) = withE (varsE f l false k) k (n0 f) (ofR f l k) (ofR f l k).1 1 := by rw [varsE_succ, varE, if_pos cm]; rfl
    have hms := rMeet_s (E := E) (lv l k) (rType y.ty)
    rw [show rMeet (lv l k) (rType y.ty) = ofR f l k by unfold ofR; rw [← hyt]] at hms
    refine za<|yc (γ := Nat) [1, 2, 4, 5, 6, 7, 8, 26, 27, 28] (fun z => [(12, .po z 0)]) (fun z => [(z, .cells 75 (encZ (ofR f l k))), (ju, .grow 3 119 (eC (varsE f l true k))), (jd, .grow 3 119 (eC (varsE f l false k)))]) (fun z => True) ?_ (fun _ _ h => h) ?_
    ·refine y1 (fun j => false) (by kernel_rfl) rfl (zn (.rest _))<|zTk 0 rfl (zMf rfl)<|zTk 1 rfl (zMi rfl)<|zTk 2 rfl (zIM k underlying47 sizeOf75 rfl rfl rfl (lv_nat (by omega)))<|zTk 3 rfl (zk isAgg75 sizeOf75 rfl rfl)<|zTk 4 rfl (zFF underlying56 rfl sizeOf54 rfl rfl)<|zTk 5 rfl (zLi isAgg54 rfl)<|yk (i := 6) (j := 8) rfl rfl (by kernel_rfl) ?_ ?_
     ·refine ze (rType_s (t := y.ty) ⟨hy0, hy2⟩) rfl<|z6<|yk (i := 7) (j := 8) rfl rfl (by kernel_rfl) ?_ ?_
      ·refine ze (hms) rfl<|z6<|zOn 8 rfl<|zq (cs := [.int .i64 0, .int .i64 0]) zeroValue75 rfl rfl<|fun i12 => z6<|zOn 9 rfl<|zm sizeOf75 rfl rfl rfl rfl rfl rfl .head rfl<|z6<|zDn ?_
       exact ⟨i12, zR10, zR1, zLe, trivial⟩
      ·refine zq (cs := [.int .i64 0, .int .i64 0]) zeroValue75 rfl rfl<|fun i12 => z6<|zOn 7 rfl<|ze (hms) rfl<|z6<|zOn 9 rfl<|zm sizeOf75 rfl rfl rfl rfl rfl rfl .head rfl<|z6<|zDn ?_
       exact ⟨i12, zR10, zR1, zLe, trivial⟩
     ·refine zq (cs := [.int .i64 0, .int .i64 0]) zeroValue75 rfl rfl<|fun i12 => z6<|zOn 6 rfl<|ze (rType_s (t := y.ty) ⟨hy0, hy2⟩) rfl<|z6<|zOn 7 rfl<|ze (hms) rfl<|z6<|zOn 9 rfl<|zm sizeOf75 rfl rfl rfl rfl rfl rfl .head rfl<|z6<|zDn ?_
      exact ⟨i12, zR10, zR1, zLe, trivial⟩
    ·rintro z _
     refine yf (y9 (t := 12) rfl .head)<|y1 (fun j => false) (by kernel_rfl) rfl (zn (.rest _))<|zTk 0 rfl (zMo rfl)<|zTk 1 rfl (zMi rfl)<|zTk 2 rfl (zMi rfl)<|zTk 3 rfl (zk isAgg75 sizeOf75 rfl rfl)<|zTk 4 rfl (zFF underlying75 rfl sizeOf2 rfl rfl)<|zTk 5 rfl (zLi isAgg2 rfl)<|zTk 7 rfl (zMo rfl)<|zTk 8 rfl (zMi rfl)<|zTk 9 rfl (zMi rfl)<|zTk 10 rfl (zk isAgg75 sizeOf75 rfl rfl)<|zTk 11 rfl (zFF underlying75 rfl sizeOf2 rfl rfl)<|zTk 12 rfl (zLi isAgg2 rfl)<|zOn 6 rfl<|zt rfl (zn (.l (.r (.rest _)))) (with_spec ju (varsE f l true k) (by omega) k (n0 f) (ofR f l k) (ofR f l k).2 1 (hend true k (by omega))) ?_
     rintro r60 O60 ⟨j1, rfl, rfl, _⟩
     refine z6<|zOn 13 rfl<|zt rfl (zn (.r (.l (.rest _)))) (with_spec jd (varsE f l false k) (by omega) k (n0 f) (ofR f l k) (ofR f l k).1 1 (hend false k (by omega))) ?_
     rintro r67 O67 ⟨j2, rfl, rfl, _⟩
     refine z6<|zTk 14 rfl (zAo rfl)<|zTk 15 rfl (zAo rfl)<|zDn<|yf (zg (zi .t1))<|zRg<|z2 (zAd rfl rfl)<|z2 (zMi rfl)<|z6 ?_
     exact ⟨(k + 1, j1, j2), zR6, ⟨rfl, (by rw [eu] <;> rfl), (by rw [ed] <;> rfl), trivial⟩, ⟨_, (.refl _), (by rw [eu, ed] <;> rfl)⟩, hk2, by dsimp only; omega⟩
   ·have eu : ∀ up, varsE f l up (k + 1) = varsE f l up k := fun up => by rw [varsE_succ, varE, if_neg cm, qt]
    refine zc<|zRg<|z2 (zAd rfl rfl)<|z2 (zMi rfl)<|z6 ?_
    exact ⟨(k + 1, ju, jd), zR6, ⟨rfl, (by rw [eu] <;> rfl), (by rw [eu] <;> rfl), trivial⟩, ⟨_, (.refl _), by rw [eu, eu]⟩, hk2, by dsimp only; omega⟩
 ·have hkn : k = f.vars.length := by simp at ck; omega
  subst hkn
  refine y4<|za<|zSr<|z2 (zFF underlying26 rfl sizeOf24 rfl rfl)<|z2 (zLf isAgg24 rfl)<|z2 (zz underlying24 rfl)<|z2 (zMi rfl)<|z6 ?_
  obtain ⟨VU, hVU⟩ : ∃ V, varsE f l true f.vars.length = V := ⟨_, rfl⟩
  obtain ⟨VD, hVD⟩ : ∃ V, varsE f l false f.vars.length = V := ⟨_, rfl⟩
  have hbU : ∀ {i j : Nat} (hi : i < f.blocks.length), j ≤ f.blocks[i].insts.length → (VU ++ (blksE f l true i ++ insE f l true i (f.blocks[i].insts.take j))).length ≤ 70000000 := fun hi hj => by rw [← hVU]; exact edges_len hf l true hi hj
  have hbD : ∀ {i j : Nat} (hi : i < f.blocks.length), j ≤ f.blocks[i].insts.length → (VD ++ (blksE f l false i ++ insE f l false i (f.blocks[i].insts.take j))).length ≤ 70000000 := fun hi hj => by rw [← hVD]; exact edges_len hf l false hi hj
  rw [hVU, hVD]
  refine zh<|y6 (γ := Nat × Nat × Nat) [1, 2, 6, 7, 70, 71] (fun g => [(72, .int .i64 g.1), (4, .own g.2.1 (VU ++ blksE f l true g.1).length), (5, .own g.2.2 (VD ++ blksE f l false g.1).length)]) (fun g => [(g.2.1, .grow 3 119 (eC (VU ++ blksE f l true g.1))), (g.2.2, .grow 3 119 (eC (VD ++ blksE f l false g.1)))]) (fun g => g.1 ≤ f.blocks.length) (fun g => f.blocks.length - g.1) (0, ju, jd) ⟨rfl, app0, app0, trivial⟩ ⟨_, (.refl _), by rw [blks0, blks0, qt, qt]⟩ (qm _) ?_
  rintro ⟨i, ju, jd⟩ hi
  try dsimp only at *
  refine zSr<|z2 (y8 rfl rfl)<|z6<|za<|zp rfl (fun ci=>?_) (fun ci=>?_)
  ·have hi2 : i < f.blocks.length := by simp at ci; omega
   obtain ⟨b, hbi⟩ : ∃ b, f.blocks[i] = b := ⟨_, rfl⟩
   have hget : f.blocks[i]? = some b := by rw [qj hi2, hbi]
   have hmem : b ∈ f.blocks := hbi ▸ qn hi2
   obtain ⟨hb0, hb1, hb2, hb3, hb4⟩ := hf.2.2.2.2 b hmem
   obtain ⟨hPh, hIn, hTm⟩ := hS.2.2.2.2.2 b hmem
   have hbU2 : ∀ j, j ≤ b.insts.length → (VU ++ (blksE f l true i ++ insE f l true i (b.insts.take j))).length ≤ 70000000 := fun j hj => by have := hbU hi2 (j := j) (by rw [hbi]; exact hj); rwa [hbi] at this
   have hbD2 : ∀ j, j ≤ b.insts.length → (VD ++ (blksE f l false i ++ insE f l false i (b.insts.take j))).length ≤ 70000000 := fun j hj => by have := hbD hi2 (j := j) (by rw [hbi]; exact hj); rwa [hbi] at this
   refine zc<|za<|zh<|zSr<|z2 (zMi rfl)<|z2 (zIM i underlying24 sizeOf66 rfl rfl rfl hget)<|z2 (zk isAgg66 sizeOf66 rfl rfl)<|zq (cs := [.str ⟨#[]⟩, .raw (.slice none 0 0), .raw (.slice none 0 0), .int .i64 0, .int .i64 0, .int .i64 0, .int .i64 0]) zeroValue66 rfl rfl<|fun i14 => z2 (zAi rfl)<|zm sizeOf66 rfl rfl rfl rfl rfl rfl .head rfl<|zd (y9 (t := 14) rfl .head)<|z6<|zSr<|z2 (zFF underlying66 rfl sizeOf60 rfl rfl)<|z2 (zLf isAgg60 rfl)<|z2 (zz underlying60 rfl)<|z2 (zMi rfl)<|z6<|zh<|y6 (γ := Nat × Nat × Nat) [1, 2, 6, 7, 13, 70, 71, 72, 78, 79] (fun g => [(80, .int .i64 g.1), (4, .own g.2.1 (VU ++ (blksE f l true i ++ insE f l true i (b.insts.take g.1))).length), (5, .own g.2.2 (VD ++ (blksE f l false i ++ insE f l false i (b.insts.take g.1))).length)]) (fun g => [(g.2.1, .grow 3 119 (eC (VU ++ (blksE f l true i ++ insE f l true i (b.insts.take g.1))))), (g.2.2, .grow 3 119 (eC (VD ++ (blksE f l false i ++ insE f l false i (b.insts.take g.1)))))]) (fun g => g.1 ≤ b.insts.length) (fun g => b.insts.length - g.1) (0, ju, jd) ⟨rfl, (by rw [ins_0, qt] <;> rfl), (by rw [ins_0, qt] <;> rfl), trivial⟩ ⟨_, (.refl _), by rw [ins_0, ins_0, qt, qt]⟩ (qm _) ?_
   rintro ⟨j, ju, jd⟩ hj
   try dsimp only at *
   refine zSr<|z2 (y8 rfl rfl)<|z6<|za<|zp rfl (fun cj=>?_) (fun cj=>?_)
   ·have hj2 : j < b.insts.length := by simp at cj; omega
    obtain ⟨z, hz⟩ : ∃ z, b.insts[j] = z := ⟨_, rfl⟩
    have hI := instP_F (hIn z (hz ▸ qn hj2))
    have hleU := hbU2 j (by omega)
    have hleD := hbD2 j (by omega)
    have hsn : ∀ (V : List Ejk) (up : Bool), V ++ (blksE f l up i ++ insE f l up i (b.insts.take (j + 1))) = V ++ (blksE f l up i ++ insE f l up i (b.insts.take j)) ++ stepE f l up z i j := fun V up => by rw [insE_succ f l up i hj2, hz]; simp
    have hsU := hsn VU true
    have hsD := hsn VD false
    obtain ⟨eu, heu⟩ : ∃ e, VU ++ (blksE f l true i ++ insE f l true i (b.insts.take j)) = e := ⟨_, rfl⟩
    obtain ⟨ed, hed⟩ : ∃ e, VD ++ (blksE f l false i ++ insE f l false i (b.insts.take j)) = e := ⟨_, rfl⟩
    rw [heu] at hleU hsU
    rw [hed] at hleD hsD
    rw [heu, hed]
    have hdst : 0 ≤ z.dst → z.dst.toNat < f.vars.length ∧ hasV f z.dst = true := fun h0 => by
     rcases hI.dst with ⟨_, h⟩ | ⟨_, _, h⟩
     ·omega
     ·have := hasV_rng h; exact ⟨by omega, h⟩
    refine zc<|za<|zh<|zSr<|z2 (zMi rfl)<|z2 (zIM j underlying60 sizeOf33 rfl rfl rfl (by rw [qj hj2, hz]))<|z2 (zk isAgg33 sizeOf33 rfl rfl)<|zq (cs := [.int .i64 0, .int .i64 0, .raw (.slice none 0 0), .int .i64 0]) zeroValue33 rfl rfl<|fun i16 => z2 (zAi rfl)<|zm sizeOf33 rfl rfl rfl rfl rfl rfl .head rfl<|zd (y9 (t := 16) rfl .head)<|z6<|za<|za<|yc (γ := Bool) [1, 2, 4, 5, 6, 7, 13, 15, 16, 70, 71, 72, 78, 79, 80] (fun u => [(97, .bool u)]) (fun u => [(ju, .grow 3 119 (eC (eu))), (jd, .grow 3 119 (eC (ed)))]) (fun u => u = !decide (0 ≤ z.dst ∧ tyV f z.dst ≠ 1)) ?_ (fun _ _ h => h) ?_
    ·refine zRg<|z2 (zFF underlying33 rfl sizeOf3 rfl rfl)<|z2 (zLi isAgg3 rfl)<|z2 (y8 rfl rfl)<|z2 (zMb rfl)<|zl (s := 88) rfl (fun cd=>?_) (fun cd=>?_)
     ·have hd0 : z.dst < 0 := qz cd
      refine z7 rfl rfl cd<|z7 rfl rfl cd<|z7 rfl rfl cd<|z7 rfl rfl cd<|z7 rfl rfl cd<|z7 rfl rfl cd<|z7 rfl rfl cd<|z7 rfl rfl cd<|z2 (zPt rfl cd rfl)<|z6 ?_
      exact ⟨_, zR15, zR1, zLe, by rw [qv (fun h => by omega)]; rfl⟩
     ·have hd0 : ¬ z.dst < 0 := w3 cd
      have hdl := (hdst (by omega)).1
      have hty : tyV f z.dst = f.vars[z.dst.toNat].ty := by have := tyV_get (f := f) hdl; rwa [qy (by omega)] at this
      refine z8 rfl rfl cd<|z2 (zFF underlying26 rfl sizeOf22 rfl rfl)<|z8 rfl rfl cd<|z2 (zLf isAgg22 rfl)<|z8 rfl rfl cd<|z2 (zFF underlying33 rfl sizeOf3 rfl rfl)<|z8 rfl rfl cd<|z2 (zLi isAgg3 rfl)<|z8 rfl rfl cd<|z2 (zIM z.dst.toNat underlying22 sizeOf56 rfl rfl (by omega) (qj hdl))<|z8 rfl rfl cd<|z2 (zFF underlying56 rfl sizeOf54 rfl rfl)<|z8 rfl rfl cd<|z2 (zLi isAgg54 rfl)<|z8 rfl rfl cd<|z2 (y3 rfl rfl)<|z2 (zPf rfl cd rfl)<|z6 ?_
      exact ⟨_, zR15, zR1, zLe, by rw [hty, qs]; simp; omega⟩
    ·rintro u hu
     subst hu
     refine zr rfl (fun cc=>?_) (fun cc=>?_)
     ·have hc0 : ¬ (0 ≤ z.dst ∧ tyV f z.dst ≠ 1) := notdecT cc
      have hst : ∀ up, stepE f l up z i j = [] := fun up => by unfold stepE; rw [if_neg hc0]
      refine y4<|zRg<|z2 (zAd rfl rfl)<|z2 (zMi rfl)<|z6 ?_
      exact ⟨(j + 1, ju, jd), zR10, ⟨rfl, (by rw [hsU, hst, qt] <;> rfl), (by rw [hsD, hst, qt] <;> rfl), trivial⟩, ⟨_, (.refl _), by rw [hsU, hsD, hst, hst, qt, qt]⟩, hj2, by dsimp only; omega⟩
     ·have hc0 : 0 ≤ z.dst ∧ tyV f z.dst ≠ 1 := notdecF cc
      obtain ⟨hdl, hdv⟩ := hdst hc0.1
      obtain ⟨y, hy, hyt, hy0, hy2⟩ := ty_get hS hdv
      have hilU := instE_len f l true z i j
      have hilD := instE_len f l false z i j
      obtain ⟨IU, hIU⟩ : ∃ I, instE f l true z i j = I := ⟨_, rfl⟩
      obtain ⟨ID, hID⟩ : ∃ I, instE f l false z i j = I := ⟨_, rfl⟩
      have hOf := refOf_spec (E := E) f hf hS hE l hll hok z hI i j hi2
      rw [hIU, hID] at hOf
      rw [hIU] at hilU
      rw [hID] at hilD
      have hlU : (eu ++ IU).length ≤ 80000000 := by rw [qp]; omega
      have hlD : (ed ++ ID).length ≤ 80000000 := by rw [qp]; omega
      have fu : VU ++ (blksE f l true i ++ insE f l true i (b.insts.take (j + 1))) = withE (eu ++ IU) z.dst (n0 f) (ofR f l z.dst) (ofR f l z.dst).2 1 := by rw [hsU]; unfold stepE; rw [if_pos hc0, hIU, ← ql]; rfl
      have fd : VD ++ (blksE f l false i ++ insE f l false i (b.insts.take (j + 1))) = withE (ed ++ ID) z.dst (n0 f) (ofR f l z.dst) (ofR f l z.dst).1 1 := by rw [hsD]; unfold stepE; rw [if_pos hc0, hID, ← ql]; rfl
      refine zc<|zSr<|z2 (zk isAgg26 sizeOf26 rfl rfl)<|z2 (zMf rfl)<|z2 (zMf rfl)<|z2 (zk isAgg33 sizeOf33 rfl rfl)<|z2 (zMi rfl)<|z2 (zMi rfl)<|ze (hOf) rfl<|z2 (zMu rfl)<|z2 (yy (v := .fro _ _) rfl rfl)<|z2 (yy (v := .fro _ _) rfl rfl)<|z2 (zAf rfl)<|z2 (zAf rfl)<|z6<|za<|yc (γ := Nat × Nat) [1, 2, 6, 7, 13, 16, 70, 71, 72, 78, 79, 80] (fun g => [(4, .own g.1 (eu ++ IU).length), (5, .own g.2 (ed ++ ID).length)]) (fun g => [(g.1, .grow 3 119 (eC (eu ++ IU))), (g.2, .grow 3 119 (eC (ed ++ ID)))]) (fun g => True) ?_ (fun _ _ h => h) ?_
      ·refine zRg<|z2 (zMo rfl)<|z2 (zMf rfl)<|yl (k := 3) underlying44 type119 rfl rfl rfl rfl rfl (fun _ => .head) (by rw [eC_len]) (by decide) (cellsE _) (by rw [qq]; show (_ + _) * 24 ≤ _; omega) (by rw [qq]; omega)<|fun i110 => z2 (zMo rfl)<|z2 (zMf rfl)<|yl (k := 3) underlying44 type119 rfl rfl rfl rfl rfl (fun _ => .t1) (by rw [eC_len]) (by decide) (cellsE _) (by rw [qq]; show (_ + _) * 24 ≤ _; omega) (by rw [qq]; omega)<|fun i113 => z2 (zAo rfl)<|z2 (zAo rfl)<|z6 ?_
       exact ⟨(i110, i113), zR12, ⟨congrArg (AV.own i110) (show eu.length + (IU.map encE).length = (eu ++ IU).length by rw [qp, qq]), congrArg (AV.own i113) (show ed.length + (ID.map encE).length = (ed ++ ID).length by rw [qp, qq]), trivial⟩, ⟨_, (.refl _), (by rw [eC_app, eC_app] <;> rfl)⟩, trivial⟩
      ·rintro ⟨ju, jd⟩ _
       have hms := rMeet_s (E := E) (lv l z.dst) (rType y.ty)
       rw [show rMeet (lv l z.dst) (rType y.ty) = ofR f l z.dst by unfold ofR; rw [← hyt]] at hms
       refine za<|yc (γ := Nat) [1, 2, 4, 5, 6, 7, 13, 16, 70, 71, 72, 78, 79, 80] (fun q => [(19, .po q 0)]) (fun q => [(q, .cells 75 (encZ (ofR f l z.dst))), (ju, .grow 3 119 (eC (eu ++ IU))), (jd, .grow 3 119 (eC (ed ++ ID)))]) (fun q => True) ?_ (fun _ _ h => h) ?_
       ·refine y1 (fun j => false) (by kernel_rfl) rfl (zn (.rest _))<|zTk 0 rfl (zMf rfl)<|zTk 1 rfl (zFF underlying33 rfl sizeOf3 rfl rfl)<|zTk 2 rfl (zLi isAgg3 rfl)<|zTk 3 rfl (zIM z.dst.toNat underlying47 sizeOf75 rfl rfl (by omega) (by have := lv_nat (l := l) (k := z.dst.toNat) (by omega); rwa [qy hc0.1] at this))<|zTk 4 rfl (zk isAgg75 sizeOf75 rfl rfl)<|zTk 5 rfl (zFF underlying26 rfl sizeOf22 rfl rfl)<|zTk 6 rfl (zLf isAgg22 rfl)<|zTk 7 rfl (zFF underlying33 rfl sizeOf3 rfl rfl)<|zTk 8 rfl (zLi isAgg3 rfl)<|zTk 9 rfl (zIM z.dst.toNat underlying22 sizeOf56 rfl rfl (by omega) hy)<|zTk 10 rfl (zFF underlying56 rfl sizeOf54 rfl rfl)<|zTk 11 rfl (zLi isAgg54 rfl)<|yk (i := 12) (j := 14) rfl rfl (by kernel_rfl) ?_ ?_
        ·refine ze (rType_s (t := y.ty) ⟨hy0, hy2⟩) rfl<|z6<|yk (i := 13) (j := 14) rfl rfl (by kernel_rfl) ?_ ?_
         ·refine ze (hms) rfl<|z6<|zOn 14 rfl<|zq (cs := [.int .i64 0, .int .i64 0]) zeroValue75 rfl rfl<|fun i19 => z6<|zOn 15 rfl<|zm sizeOf75 rfl rfl rfl rfl rfl rfl .head rfl<|z6<|zDn ?_
          exact ⟨i19, zR14, zR1, zLe, trivial⟩
         ·refine zq (cs := [.int .i64 0, .int .i64 0]) zeroValue75 rfl rfl<|fun i19 => z6<|zOn 13 rfl<|ze (hms) rfl<|z6<|zOn 15 rfl<|zm sizeOf75 rfl rfl rfl rfl rfl rfl .head rfl<|z6<|zDn ?_
          exact ⟨i19, zR14, zR1, zLe, trivial⟩
        ·refine zq (cs := [.int .i64 0, .int .i64 0]) zeroValue75 rfl rfl<|fun i19 => z6<|zOn 12 rfl<|ze (rType_s (t := y.ty) ⟨hy0, hy2⟩) rfl<|z6<|zOn 13 rfl<|ze (hms) rfl<|z6<|zOn 15 rfl<|zm sizeOf75 rfl rfl rfl rfl rfl rfl .head rfl<|z6<|zDn ?_
         exact ⟨i19, zR14, zR1, zLe, trivial⟩
       ·rintro q _
        refine yf (y9 (t := 19) rfl .head)<|y1 (fun j => false) (by kernel_rfl) rfl (zn (.rest _))<|zTk 0 rfl (zMo rfl)<|zTk 1 rfl (zFF underlying33 rfl sizeOf3 rfl rfl)<|zTk 2 rfl (zLi isAgg3 rfl)<|zTk 3 rfl (zMi rfl)<|zTk 4 rfl (zk isAgg75 sizeOf75 rfl rfl)<|zTk 5 rfl (zFF underlying75 rfl sizeOf2 rfl rfl)<|zTk 6 rfl (zLi isAgg2 rfl)<|zTk 8 rfl (zMo rfl)<|zTk 9 rfl (zFF underlying33 rfl sizeOf3 rfl rfl)<|zTk 10 rfl (zLi isAgg3 rfl)<|zTk 11 rfl (zMi rfl)<|zTk 12 rfl (zk isAgg75 sizeOf75 rfl rfl)<|zTk 13 rfl (zFF underlying75 rfl sizeOf2 rfl rfl)<|zTk 14 rfl (zLi isAgg2 rfl)<|zOn 7 rfl<|zt rfl (zn (.l (.r (.rest _)))) (with_spec ju (eu ++ IU) (by omega) z.dst (n0 f) (ofR f l z.dst) (ofR f l z.dst).2 1 (hend true z.dst hc0.1)) ?_
        rintro r135 O135 ⟨j1, rfl, rfl, _⟩
        refine z6<|zOn 15 rfl<|zt rfl (zn (.r (.l (.rest _)))) (with_spec jd (ed ++ ID) (by omega) z.dst (n0 f) (ofR f l z.dst) (ofR f l z.dst).1 1 (hend false z.dst hc0.1)) ?_
        rintro r143 O143 ⟨j2, rfl, rfl, _⟩
        refine z6<|zTk 16 rfl (zAo rfl)<|zTk 17 rfl (zAo rfl)<|zDn<|yf (zg (zi .t1))<|zRg<|z2 (zAd rfl rfl)<|z2 (zMi rfl)<|z6 ?_
        exact ⟨(j + 1, j1, j2), zR10, ⟨rfl, (by rw [fu] <;> rfl), (by rw [fd] <;> rfl), trivial⟩, ⟨_, (.refl _), (by rw [fu, fd] <;> rfl)⟩, hj2, by dsimp only; omega⟩
   ·have hjn : j = b.insts.length := by simp at cj; omega
    subst hjn
    have eb : ∀ up, blksE f l up i ++ insE f l up i b.insts = blksE f l up (i + 1) := fun up => by rw [blksE_succ l up hi2, hbi]
    rw [qo, eb, eb]
    refine y4<|zRg<|z2 (zAd rfl rfl)<|z2 (zMi rfl)<|z6 ?_
    exact ⟨(i + 1, ju, jd), zR6, zR3, zLe, hi2, by dsimp only; omega⟩
  ·have hin : i = f.blocks.length := by simp at ci; omega
   subst hin
   have eU : VU ++ blksE f l true f.blocks.length = edgesE f l true := by rw [← hVU]; rfl
   have eD : VD ++ blksE f l false f.blocks.length = edgesE f l false := by rw [← hVD]; rfl
   rw [eU, eD]
   refine y4<|zSr<|z2 (zMo rfl)<|z2 (zMo rfl)<|z2 (zAo rfl)<|z2 (zAo rfl)<|z6<|yf (GStep.knowE (t := 4) (by rfl) .head (by rfl))<|yf (GStep.knowE (t := 5) (by rfl) .head (by rfl))<|zf<|q7 (x := .fro _ _) (y := .fro _ _) rfl rfl ?_
   rfl
end Go.Proofs.YtjnpcfpecilejaaGreatDoor
namespace Go.Proofs.YtjnpcfpecilejaaGreatDoor
open Go.Proofs.Tryz
open Go.Proofs Go.Lib Go.Shelf Go.RowKit
theorem ps22_1 : PlacesS prog 22 56 1 2 [.str ⟨#[]⟩, .int .i64 0] := ⟨_, underlying22, sizeOf56, zeroValue56, by decide, by decide, by kernel_rfl⟩
theorem ps41_1 : PlacesS prog 41 74 1 2 [.int .i64 0, .int .i64 0] := ⟨_, underlying41, sizeOf74, zeroValue74, by decide, by decide, by kernel_rfl⟩
variable {E : World}
set_option maxRecDepth 20000
end Go.Proofs.YtjnpcfpecilejaaGreatDoor
namespace Go.Proofs.YtjnpcfpecilejaaGreatDoor
open Go.Proofs.Tryz
open Go.Proofs Go.Lib Go.Shelf Go.RowKit
variable {E : World}
set_option maxRecDepth 20000
end Go.Proofs.YtjnpcfpecilejaaGreatDoor
namespace Go.Proofs.YtjnpcfpecilejaaGreatDoor
open Go.Proofs.Tryz
open Go.Proofs Go.Lib Go.Shelf Go.RowKit
variable {E : World}
set_option maxRecDepth 20000
theorem tSound_spec (f : PFunc) (up : Bool) (s : Int) (es : List Ejk) (shut : Int → Bool) (low : Bnd) (d : List Bnd) (bp bs : Nat) (P S : List (Int × AV)) (hO : SideOk f es shut d P S) :
  ACall prog E 83 [.pf (sideC up s (intoA (rowsE es (f.vars.length + 1))) bp bs low (.fro 2 (d.map encBd)))] (mapsO bp bs P S) fun y O => y = .bool (soundB up s f.vars.length es (phiF f) shut low d) ∧ O = mapsO bp bs P S := by
 have hvn := hO.small.1
 have hdl := hO.len
 have hnode := fun (v : Nat) hv => tNode_spec (E := E) f up s es shut low d bp bs P S hO v hv
 have hbad : ∀ k : Nat, k < d.length → nodeB up s f.vars.length es (phiF f) shut low d k = false → soundB up s f.vars.length es (phiF f) shut low d = false := fun k hk hb => by unfold soundB; exact range_all_bad (p := fun v : Nat => nodeB up s f.vars.length es (phiF f) shut low d v) hk hb
 refine ACall.now2 ?_
 unfold mapsO at hnode ⊢
 unfold sideC at hnode ⊢
 refine zo func83 rfl (by decide) rfl<|zSr<|z2 (zAb rfl)<|z6<|za<|zSr<|z2 (zMg rfl)<|z2 (yq rfl)<|z2 (zFF underlying146 rfl sizeOf85 rfl rfl)<|z2 (zLf isAgg85 rfl)<|z2 (zz underlying85 rfl)<|z2 (zMi rfl)<|z6<|zh<|y6 (γ := Nat) [0, 8] (fun k => [(9, .int .i64 k)]) (fun k => [(0, mapAO bp P), (0, mapAO bs S)]) (fun k => k ≤ d.length ∧ (List.range k).all (fun v : Nat => nodeB up s f.vars.length es (phiF f) shut low d v) = true) (fun k => d.length - k) 0 zR1 zLe (⟨qm _, rfl⟩) ?_
 rintro k ⟨hk, hall⟩
 refine zSr<|z2 (y8 rfl rfl)<|z6<|za<|zp rfl (fun ck=>?_) (fun ck=>?_)
 ·have hk2 : k < d.length := by simp at ck; omega
  refine zc<|za<|zh<|zSr<|z2 (zMi rfl)<|z2 (zAi rfl)<|z6<|zSr<|z2 (zMg rfl)<|z2 (zMi rfl)<|zt rfl (zn (.l (.l (.rest _)))) (hnode k (by omega)) ?_
  rintro r14 O14 ⟨rfl, rfl⟩
  refine z2 (yd rfl)<|z6<|zr rfl (fun cn=>?_) (fun cn=>?_)
  ·refine zSr<|z2 (zAb rfl)<|z6<|zf<|zj (x := .bool _) rfl ?_
   exact ⟨jb (hbad k hk2 (by rwa [Bool.not_eq_true'] at cn)).symm, .d0⟩
  ·refine zc<|zRg<|z2 (zAd rfl rfl)<|z2 (zMi rfl)<|z6 ?_
   exact ⟨k + 1, zR2, zR1, zLe, ⟨hk2, range_all_succ hall (by rwa [Bool.not_eq_false'] at cn)⟩, by omega⟩
 ·have hkn : k = d.length := by simp at ck; omega
  subst hkn
  refine y4<|zSr<|z2 (zAb rfl)<|z6<|zf<|zj (x := .bool _) rfl ?_
  exact ⟨jb hall.symm, .d0⟩
theorem putIf_mem {c : Bool} {e d : Ejk} (h : e ∈ putIf c d) : c = true ∧ e = d := by
 unfold putIf at h
 split at h
 ·rename_i c0; exact ⟨c0, by simpa using h⟩
 ·cases h
theorem endE_num {f : PFunc} {l : List Rng} {up : Bool} {v : Int} {o : Bool} {to from_ s : Int} {e : Ejk} (hv : ok64 (ofR f l v)) (hs : s = 1 ∨ s = -1) (h : e ∈ endE f l up v o to from_ s) : is64 e.2.2 := by
 obtain ⟨h1, rfl⟩ := putIf_mem h
 exact told_end hv (by unfold endN; split; exact .inr rfl; exact .inl rfl) hs h1
theorem one_is : is64 0 ∧ is64 1 ∧ is64 (-1) := by decide
theorem inst_num {f : PFunc} {l : List Rng} {up : Bool} {x : PInst} {b a : Int} {e : Ejk} (hok : ∀ u : Int, 0 ≤ u → ok64 (lv l u)) (h0 : ∀ v ∈ x.args, 0 ≤ v) (hl : fromOps2 x.op → 2 ≤ x.args.length) (hn : is64 x.num) (h : e ∈ instE f l up x b a) : is64 e.2.2 := by
 have k0 := one_is.1
 have k1 := one_is.2.1
 have k2 := one_is.2.2
 unfold instE at h
 split at h
 ·rw [List.mem_singleton.1 h]; exact hn
 split at h
 ·rw [List.mem_singleton.1 h]; exact k0
 split at h
 ·rename_i c2
  have hl2 := hl (by unfold fromOps2; omega)
  have o0 : ok64 (ofR f l (x0 x)) := ofR_ok hok (h0 _ (x0_mem (by omega)))
  have o1 : ok64 (ofR f l (x1 x)) := ofR_ok hok (h0 _ (x1_mem hl2))
  unfold sumE at h
  split at h
  ·split at h
   ·exact endE_num o1 (.inr rfl) h
   ·rcases List.mem_append.1 h with h | h
    ·exact endE_num o1 (.inl rfl) h
    ·exact endE_num o0 (.inl rfl) h
  ·cases h
 split at h
 ·unfold restE at h
  rcases List.mem_append.1 h with h | h
  ·split at h
   ·rw [List.mem_singleton.1 h]; split <;> exact k0
   ·cases h
  ·rw [(putIf_mem h).2]; exact k2
 split at h
 ·rw [List.mem_singleton.1 h]; exact k0
 split at h
 ·unfold piE at h
  rcases List.mem_cons.1 h with h | h
  ·rw [h]; exact k0
  ·split at h
   ·rw [List.mem_singleton.1 h]; exact k2
   ·split at h
    ·rw [List.mem_singleton.1 h]; exact k0
    ·split at h
     ·rw [List.mem_singleton.1 h]; exact k1
     ·cases h
 split at h
 ·rcases List.mem_cons.1 h with h | h
  ·rw [h]; exact k0
  ·rw [List.mem_singleton.1 h]; split
   ·exact k2
   ·exact k0
 ·cases h
theorem edges_num {f : PFunc} (hS : ShapedP f) (hN : ∀ b ∈ f.blocks, ∀ x ∈ b.insts, is64 x.num) {l : List Rng} (hol : ∀ r ∈ l, ok64 r) {up : Bool} {e : Ejk} (h : e ∈ edgesE f l up) : is64 e.2.2 := by
 have hok : ∀ u : Int, 0 ≤ u → ok64 (lv l u) := fun u _ => lv_ok hol u
 unfold edgesE at h
 rcases List.mem_append.1 h with h | h
 ·unfold varsE at h
  obtain ⟨v, hv, h⟩ := List.mem_flatMap.1 h
  unfold varE at h
  split at h
  ·exact endE_num (ofR_ok hok (by omega)) (.inl rfl) h
  ·cases h
 ·unfold blksE at h
  rw [qo] at h
  obtain ⟨⟨b, i⟩, hb, h⟩ := List.mem_flatMap.1 h
  unfold insE at h
  obtain ⟨⟨x, k⟩, hx, h⟩ := List.mem_flatMap.1 h
  have hbm : b ∈ f.blocks := List.mem_of_getElem? (List.mem_zipIdx_iff_getElem?.1 hb)
  have hxm : x ∈ b.insts := List.mem_of_getElem? (List.mem_zipIdx_iff_getElem?.1 hx)
  have hI := instP_F ((hS.2.2.2.2.2 b hbm).2.1 x hxm)
  unfold stepE at h
  split at h
  ·rename_i c
   rcases List.mem_append.1 h with h | h
   ·exact inst_num hok (fun v hv => (hasV_rng (hI.args v hv)).1) (fun ho => by rw [hI.len, takes2 ho]; exact Nat.le_refl 2) (hN b hbm x hxm) h
   ·exact endE_num (ofR_ok hok c.1) (.inl rfl) h
  ·cases h
end Go.Proofs.YtjnpcfpecilejaaGreatDoor
namespace Go.Proofs.YtjnpcfpecilejaaGreatDoor
open Go.Proofs.Tryz
open Go.Proofs Go.Lib Go.Shelf Go.RowKit
variable {E : World}
set_option maxRecDepth 20000
theorem lv_at2 {l : List Rng} {n : Nat} (hl : l.length = n) {v : Int} (h0 : 0 ≤ v) (h1 : v < n) : l[v.toNat]? = some (lv l v) := by
 have := lv_nat (l := l) (k := v.toNat) (by omega)
 rwa [qy h0] at this
theorem wrap_neg {a : Int} (h0 : 0 ≤ a) (h1 : a ≤ 64) : IntKind.i64.wrap (0 - a) = -a := by rw [wrap_fit (by unfold is64; omega)]; omega
def shutU (f : PFunc) (s v : Int) : Bool := decide (s < f.vars.length) && shutF f s v
def lowU (f : PFunc) (l : List Rng) (s : Int) : Bnd := if s < f.vars.length then lowF l s else (false, 0)
def shU (f : PFunc) (s : Int) : List (Int × AV) := if s < f.vars.length then (if 0 ≤ (makerT f s).1 then shMap f (makerT f s).1 (phsTo f f.blocks.length) else []) else []
def upC (f : PFunc) (l : List Rng) (s : Int) (d : List Bnd) : Prop := (typedB f && singB f) = true ∧ l.length = f.vars.length ∧ d.length = f.vars.length + 1 ∧ 0 ≤ s ∧ s ≤ f.vars.length ∧ (s < f.vars.length → tyV f s = 2)
instance (f : PFunc) (l : List Rng) (s : Int) (d : List Bnd) : Decidable (upC f l s d) := by unfold upC; infer_instance
def upB (f : PFunc) (l : List Rng) (s : Int) (d : List Bnd) : Bool := decide (upC f l s d) && soundB true s f.vars.length (edgesE f l true) (phiF f) (shutU f s) (lowU f l s) d
def loC (f : PFunc) (l : List Rng) (d : List Bnd) : Prop := (typedB f && singB f) = true ∧ l.length = f.vars.length ∧ d.length = f.vars.length + 1
instance (f : PFunc) (l : List Rng) (d : List Bnd) : Decidable (loC f l d) := by unfold loC; infer_instance
def loB (f : PFunc) (l : List Rng) (d : List Bnd) : Bool := decide (loC f l d) && soundB false f.vars.length f.vars.length (edgesE f l false) (phiF f) (fun _ => false) (false, 0) d
theorem makings_out {f : PFunc} (hS : ShapedP f) {v : Int} (h : v = f.vars.length) : makings f v = [] := by
 refine List.eq_nil_iff_forall_not_mem.2 fun m hm => ?_
 obtain ⟨i, b, hb, hm⟩ := mem_makings.1 hm
 have hbm := List.mem_of_getElem? hb
 obtain ⟨hPh, hIn, _⟩ := hS.2.2.2.2.2 b hbm
 rcases mem_mkBlk.1 hm with ⟨p, hp, hd, _⟩ | ⟨k, x, hx, hd, _⟩
 ·have := hasV_rng (hPh p hp).1; omega
 ·have hI := instP_F (hIn x (List.mem_of_getElem? hx))
  rcases hI.dst with ⟨_, h2⟩ | ⟨_, _, h2⟩
  ·omega
  ·have := hasV_rng h2; omega
theorem side_ok {f : PFunc} (hF : RuleF f) (h : (typedB f && singB f) = true) (hN : ∀ b ∈ f.blocks, ∀ x ∈ b.insts, is64 x.num) {l : List Rng} (hol : ∀ r ∈ l, ok64 r) (up : Bool) {d : List Bnd} (hd : ∀ b ∈ d, is64 b.2) (hdl : d.length = f.vars.length + 1) {shut : Int → Bool} {S : List (Int × AV)}
  (hs : ∀ (v : Nat) p, phiF f v = some p → (ag v S).getD (.int .i64 0) = .int .i64 (if shut v = true then 1 else 0)) : SideOk f (edgesE f l up) shut d (phMapL (phsTo f f.blocks.length)) S where
 small := hF.small
 shaped := hF.shaped
 len := hdl
 num := hd
 edge := fun e he => by
  have := edge_ok hF h l up e he
  exact ⟨this.from0, this.from1, edges_num hF.shaped hN hol he⟩
 elen := edges_few hF.small l up
 phi := fun v hv => by
  refine phMap_ag ?_
  rcases (by omega : v < f.vars.length ∨ v = f.vars.length) with h | h
  ·exact (hF.once v h).1
  ·rw [makings_out hF.shaped (by omega)]; exact qm _
 shut := hs
theorem edge_to {f : PFunc} (hF : RuleF f) (h : (typedB f && singB f) = true) (l : List Rng) (up : Bool) : ∀ e ∈ edgesE f l up, 0 ≤ e.2.1 ∧ e.2.1 ≤ f.vars.length := fun e he => by
 have h1 := edge_ok hF h l up e he
 exact ⟨h1.to0, by have := h1.to1; omega⟩
theorem shutU_ok {f : PFunc} (hF : RuleF f) {s : Int} : ∀ (v : Nat) p, phiF f v = some p → (ag v (shU f s)).getD (.int .i64 0) = .int .i64 (if shutU f s v = true then 1 else 0) := fun v p hp => by
 obtain ⟨i, b, hb, hpm, hd, _, _⟩ := phi_got hp
 have hv : v < f.vars.length := by
  have := hasV_rng ((hF.shaped.2.2.2.2.2 b (List.mem_of_getElem? hb)).1 p hpm).1
  omega
 unfold shU shutU
 by_cases c : s < f.vars.length
 ·rw [if_pos c, qu c, Bool.true_and, shut_eq (p := p)]
  by_cases c2 : 0 ≤ (makerT f s).1
  ·rw [if_pos c2, qu c2, Bool.true_and]
   exact shMap_ag (hF.once v hv).1 hp
  ·rw [if_neg c2, qv c2, Bool.false_and]; rfl
 ·rw [if_neg c, qv c, Bool.false_and]; rfl
theorem low_rng (l : List Rng) (s : Int) (h : ¬ (rMeet (lv l s) (rType 2)).2 < (rMeet (lv l s) (rType 2)).1) : 0 ≤ (rMeet (lv l s) (rType 2)).1 ∧ (rMeet (lv l s) (rType 2)).1 ≤ 64 := by
 have h1 := (meet_sub (a := lv l s) (b := rType 2)).2
 rw [show rType 2 = (0, 64) from rfl] at h h1 ⊢
 rcases h1 with h1 | h1
 ·exact absurd h1 h
 ·dsimp only at h1; omega
set_option maxHeartbeats 8000000 in
theorem tUpper_spec (f : PFunc) (hf : small f) (hL : Letters E) (hN : ∀ b ∈ f.blocks, ∀ x ∈ b.insts, is64 x.num) (l : List Rng) (hol : ∀ r ∈ l, ok64 r) (hl : l.length ≤ 9223372036854775807) (s : Int) (d : List Bnd) (hd : ∀ b ∈ d, is64 b.2) (hdl : d.length ≤ 9223372036854775807) :
  AFun prog E 43 [.agg (encF f), .fro 2 (l.map encZ), .int .i64 s, .fro 2 (d.map encBd)] (.bool (upB f l s d)) := by
 have hvn := hf.1
 have hru := upper_spec (E := E) f hf hL l hol
 refine zo func43 rfl (by decide) rfl<|zSr<|y7 (cs := _) rfl rfl rfl<|z2 (zAb rfl)<|z6<|zSr<|z2 (zFF underlying26 rfl sizeOf22 rfl rfl)<|z2 (zLf isAgg22 rfl)<|z2 (zz underlying22 rfl)<|z2 (zAi rfl)<|z6<|za<|za<|yc (γ := Bool) [1, 2, 3, 4, 9] (fun u => [(48, .bool u)]) (fun u => []) (fun u => u = !decide (upC f l s d)) ?_ (fun _ _ h => h) ?_
 ·refine zRg<|z2 (zk isAgg26 sizeOf26 rfl rfl)<|z2 (zMf rfl)<|ze (tRight_spec f hf hL l hl) rfl<|z2 (yd rfl)<|z2 (zMb rfl)<|zl (s := 19) rfl (fun c1=>?_) (fun c1=>?_)
  ·have h1 : ((typedB f && singB f) && decide (l.length = f.vars.length)) = false := by rwa [Bool.not_eq_true'] at c1
   refine z7 rfl rfl c1<|z7 rfl rfl c1<|z7 rfl rfl c1<|z7 rfl rfl c1<|z7 rfl rfl c1<|z2 (zPt rfl c1 rfl)<|z2 (zMb rfl)<|z7 rfl rfl rfl<|z7 rfl rfl rfl<|z2 (zPt rfl rfl rfl)<|z2 (zMb rfl)<|z7 rfl rfl rfl<|z7 rfl rfl rfl<|z7 rfl rfl rfl<|z2 (zPt rfl rfl rfl)<|z2 (zMb rfl)<|z7 rfl rfl rfl<|z7 rfl rfl rfl<|z7 rfl rfl rfl<|z7 rfl rfl rfl<|zb rfl rfl<|zb rfl rfl<|zb rfl rfl<|zb rfl rfl<|zb rfl rfl<|zb rfl rfl<|zb rfl rfl<|z7 rfl rfl rfl<|z2 (zPt rfl rfl rfl)<|z6 ?_
   exact ⟨_, zR5, zR1, zLe, by rw [qv (fun h => by unfold upC at h; rw [h.1, qu h.2.1] at h1; cases h1)]; rfl⟩
  ·have h1 : ((typedB f && singB f) && decide (l.length = f.vars.length)) = true := by rwa [Bool.not_eq_false'] at c1
   have hts := (and3 h1).1
   have hll : l.length = f.vars.length := by simpa using (and3 h1).2
   refine z8 rfl rfl c1<|z2 (zMf rfl)<|z8 rfl rfl c1<|z2 (zz underlying85 rfl)<|z8 rfl rfl c1<|z2 (zMi rfl)<|z8 rfl rfl c1<|z2 (zAd rfl rfl)<|z8 rfl rfl c1<|z2 (yi rfl rfl)<|z2 (zPf rfl c1 rfl)<|z2 (zMb rfl)<|zl (s := 26) rfl (fun c2=>?_) (fun c2=>?_)
   ·have h2 : ¬ d.length = f.vars.length + 1 := fun e => by have h : (!decide ((d.length : Int) = (f.vars.length : Int) + 1)) = true := c2; rw [qu (by omega)] at h; cases h
    refine z7 rfl rfl c2<|z7 rfl rfl c2<|z2 (zPt rfl c2 rfl)<|z2 (zMb rfl)<|z7 rfl rfl rfl<|z7 rfl rfl rfl<|z7 rfl rfl rfl<|z2 (zPt rfl rfl rfl)<|z2 (zMb rfl)<|z7 rfl rfl rfl<|z7 rfl rfl rfl<|z7 rfl rfl rfl<|z7 rfl rfl rfl<|zb rfl rfl<|zb rfl rfl<|zb rfl rfl<|zb rfl rfl<|zb rfl rfl<|zb rfl rfl<|zb rfl rfl<|z7 rfl rfl rfl<|z2 (zPt rfl rfl rfl)<|z6 ?_
    exact ⟨_, zR5, zR1, zLe, by rw [qv (fun h => h2 h.2.2.1)]; rfl⟩
   ·have h2 : d.length = f.vars.length + 1 := by have h : (!decide ((d.length : Int) = (f.vars.length : Int) + 1)) = false := c2; have := notdecF h; omega
    refine z8 rfl rfl c2<|z2 (zMi rfl)<|z8 rfl rfl c2<|z2 (y8 rfl rfl)<|z2 (zPf rfl c2 rfl)<|z2 (zMb rfl)<|zl (s := 30) rfl (fun c3=>?_) (fun c3=>?_)
    ·have h3 : s < 0 := qz c3
     refine z7 rfl rfl c3<|z7 rfl rfl c3<|z7 rfl rfl c3<|z2 (zPt rfl c3 rfl)<|z2 (zMb rfl)<|z7 rfl rfl rfl<|z7 rfl rfl rfl<|z7 rfl rfl rfl<|z7 rfl rfl rfl<|zb rfl rfl<|zb rfl rfl<|zb rfl rfl<|zb rfl rfl<|zb rfl rfl<|zb rfl rfl<|zb rfl rfl<|z7 rfl rfl rfl<|z2 (zPt rfl rfl rfl)<|z6 ?_
     exact ⟨_, zR5, zR1, zLe, by rw [qv (fun h => by have := h.2.2.2.1; omega)]; rfl⟩
    ·have h3 : ¬ s < 0 := w3 c3
     refine z8 rfl rfl c3<|z2 (zMi rfl)<|z8 rfl rfl c3<|z2 (zMi rfl)<|z8 rfl rfl c3<|z2 (yv rfl rfl)<|z2 (zPf rfl c3 rfl)<|z2 (zMb rfl)<|zl (s := 35) rfl (fun c4=>?_) (fun c4=>?_)
     ·have h4 : (f.vars.length : Int) < s := qz c4
      refine z7 rfl rfl c4<|z7 rfl rfl c4<|z7 rfl rfl c4<|z7 rfl rfl c4<|zb rfl rfl<|zb rfl rfl<|zb rfl rfl<|zb rfl rfl<|zb rfl rfl<|zb rfl rfl<|zb rfl rfl<|z7 rfl rfl c4<|z2 (zPt rfl c4 rfl)<|z6 ?_
      exact ⟨_, zR5, zR1, zLe, by rw [qv (fun h => by have := h.2.2.2.2.1; omega)]; rfl⟩
     ·have h4 : ¬ (f.vars.length : Int) < s := w3 c4
      refine z8 rfl rfl c4<|z2 (zMi rfl)<|z8 rfl rfl c4<|z2 (zMi rfl)<|z8 rfl rfl c4<|z2 (y8 rfl rfl)<|z8 rfl rfl c4<|z2 (zMb rfl)<|zl (s := 39) rfl (fun c5=>?_) (fun c5=>?_)
      ·have h5 : s < f.vars.length := qz c5
       have hty : tyV f s = f.vars[s.toNat].ty := by have := tyV_get (f := f) (v := s.toNat) (by omega); rwa [qy (by omega)] at this
       refine z8 rfl rfl c5<|z2 (zFF underlying26 rfl sizeOf22 rfl rfl)<|z8 rfl rfl c5<|z2 (zLf isAgg22 rfl)<|z8 rfl rfl c5<|z2 (zMi rfl)<|z8 rfl rfl c5<|z2 (zIM s.toNat underlying22 sizeOf56 rfl rfl (by omega) (qj (by omega)))<|z8 rfl rfl c5<|z2 (zFF underlying56 rfl sizeOf54 rfl rfl)<|z8 rfl rfl c5<|z2 (zLi isAgg54 rfl)<|z8 rfl rfl c5<|z2 (yi rfl rfl)<|z8 rfl rfl c4<|z2 (zPt rfl c5 rfl)<|z2 (zPf rfl c4 rfl)<|z6 ?_
       exact ⟨_, zR5, zR1, zLe, by rw [← hty]; congr 1; exact decide_eq_decide.2 ⟨fun h => ⟨hts, hll, h2, by omega, by omega, fun _ => h⟩, fun h => h.2.2.2.2.2 h5⟩⟩
      ·have h5 : ¬ s < f.vars.length := w3 c5
       refine z7 rfl rfl c5<|z7 rfl rfl c5<|z7 rfl rfl c5<|z7 rfl rfl c5<|z7 rfl rfl c5<|z7 rfl rfl c5<|z7 rfl rfl c5<|z8 rfl rfl c4<|z2 (zPf rfl c5 rfl)<|z2 (zPf rfl c4 rfl)<|z6 ?_
       exact ⟨_, zR5, zR1, zLe, by rw [qu (show upC f l s d from ⟨hts, hll, h2, by omega, by omega, fun h => absurd h h5⟩)]; rfl⟩
 ·rintro u hu
  subst hu
  refine zr rfl (fun c=>?_) (fun c=>?_)
  ·refine zSr<|z2 (zAb rfl)<|z6<|zf<|zj (x := .bool _) rfl ?_
   exact jb (by unfold upB; rw [qv (notdecT c)]; rfl)
  ·have hc := notdecF c
   obtain ⟨hts, hll, hdl2, hs0, hs1, hsty⟩ := id hc
   have hF := ruleF_of hf hts
   have hty := (and3 hts).1
   have hed : edgesB f l true = edgesE f l true := by unfold edgesB; rw [if_pos ⟨hts, hll⟩]
   rw [hed] at hru
   have hside := side_ok hF hts hN hol true hd hdl2 (shutU_ok hF (s := s))
   have hsound := fun bp bs => tSound_spec (E := E) f true s (edgesE f l true) (shutU f s) (lowU f l s) d bp bs _ (shU f s) hside
   obtain ⟨bnd, hbnd⟩ : ∃ x, soundB true s f.vars.length (edgesE f l true) (phiF f) (shutU f s) (lowU f l s) d = x := ⟨_, rfl⟩
   have hub : upB f l s d = bnd := by unfold upB; rw [qu hc, hbnd]; rfl
   rw [hub]
   rw [hbnd] at hsound
   obtain ⟨PM, hPM⟩ : ∃ PM, phMapL (phsTo f f.blocks.length) = PM := ⟨_, rfl⟩
   have hbeg := tBegin_spec (E := E) f hf (edgesE f l true) (edges_few hf l true) (edge_to hF hts l true) s true d
   rw [hPM] at hbeg hsound
   refine zc<|za<|y1 (fun j => false) (by kernel_rfl) rfl (zn (.rest _))<|zTk 0 rfl (zk isAgg26 sizeOf26 rfl rfl)<|zTk 1 rfl (zk isAgg26 sizeOf26 rfl rfl)<|zTk 2 rfl (zMf rfl)<|zTk 4 rfl (zMi rfl)<|zTk 5 rfl (zMf rfl)<|zOn 3 rfl<|ze (hru) rfl<|z6<|zOn 6 rfl<|zt rfl (zn (.rest _)) (hbeg) ?_
   rintro r55 O55 ⟨⟨j, bp, bs⟩, rfl, rfl, _⟩
   refine z6<|zTk 7 rfl (zAp rfl)<|zDn<|za<|zSr<|z2 (zMi rfl)<|z2 (zMi rfl)<|z2 (y8 rfl rfl)<|z6<|yc (γ := Unit) [10] (fun w => []) (fun w => [(j, .cells 146 (sideC true s (intoA (rowsE (edgesE f l true) (f.vars.length + 1))) bp bs (lowU f l s) (.fro 2 (d.map encBd)))), (0, mapAO bp PM), (0, mapAO bs (shU f s))]) (fun w => True) ?_ (fun _ _ h => h) ?_
   ·refine zp rfl (fun cs=>?_) (fun cs=>?_)
    ·have hsn : ((s.toNat : Nat) : Int) = s := qy hs0
     have hcl := fun I D => tClose_spec (E := E) f hf hL hty s.toNat (by omega) true I D bp bs (false, 0) j
     rw [hsn] at hcl
     have hsh : shU f s = if 0 ≤ (makerT f s).1 then shMap f (makerT f s).1 (phsTo f f.blocks.length) else [] := by unfold shU; rw [if_pos cs]
     rw [← hsh] at hcl
     have hlow : lowU f l s = lowF l s := by unfold lowU; rw [if_pos cs]
     rw [hlow]
     obtain ⟨r, hr⟩ : ∃ r, rMeet (lv l s) (rType 2) = r := ⟨_, rfl⟩
     have hms := iMeet (E := E) (lv l s) (rType 2)
     rw [hr] at hms
     have hlr := low_rng l s
     have hlf : lowF l s = if r.2 < r.1 then (false, 0) else (true, -r.1) := by unfold lowF; rw [hr]
     rw [hr] at hlr
     refine zSr<|z2 (zMp rfl)<|z2 (zk isAgg26 sizeOf26 rfl rfl)<|zt rfl (zn (.l (.r (.l (.rest _))))) (hcl _ _) ?_
     rintro r61 O61 ⟨rfl, rfl⟩
     refine z6<|za<|yc (γ := Nat) [10] (fun z => [(11, .po z 0)]) (fun z => [(z, .cells 74 (encZ r)), (j, .cells 146 (sideC true s (intoA (rowsE (edgesE f l true) (f.vars.length + 1))) bp bs (false, 0) (.fro 2 (d.map encBd)))), (0, mapAO bp PM), (0, mapAO bs (shU f s))]) (fun z => True) ?_ (fun _ _ h => h) ?_
     ·refine y1 (fun j => false) (by kernel_rfl) rfl (zn (.rest _))<|zTk 0 rfl (zMf rfl)<|zTk 1 rfl (zMi rfl)<|zTk 2 rfl (zIM s.toNat underlying41 sizeOf74 rfl rfl (by omega) (lv_at2 hll hs0 (by omega)))<|zTk 3 rfl (zk isAgg74 sizeOf74 rfl rfl)<|yk (i := 4) (j := 6) rfl rfl (by kernel_rfl) ?_ ?_
      ·refine ze (iType 2) rfl<|z6<|yk (i := 5) (j := 6) rfl rfl (by kernel_rfl) ?_ ?_
       ·refine ze (hms) rfl<|z6<|zOn 6 rfl<|zq (cs := [.int .i64 0, .int .i64 0]) zeroValue74 rfl rfl<|fun i11 => z6<|zOn 7 rfl<|zm sizeOf74 rfl rfl rfl rfl rfl rfl .head rfl<|zd (zg (zi .t2))<|zd (zg (zi .t3))<|zd (zg (zi .t3))<|zd (zg (zi .t3))<|z6<|zDn ?_
        exact ⟨i11, zR1, zR1, zLe, trivial⟩
       ·refine zq (cs := [.int .i64 0, .int .i64 0]) zeroValue74 rfl rfl<|fun i11 => z6<|zOn 5 rfl<|ze (hms) rfl<|z6<|zOn 7 rfl<|zm sizeOf74 rfl rfl rfl rfl rfl rfl .head rfl<|zd (zg (zi .t2))<|zd (zg (zi .t3))<|zd (zg (zi .t3))<|zd (zg (zi .t3))<|z6<|zDn ?_
        exact ⟨i11, zR1, zR1, zLe, trivial⟩
      ·refine zq (cs := [.int .i64 0, .int .i64 0]) zeroValue74 rfl rfl<|fun i11 => z6<|zOn 4 rfl<|ze (iType 2) rfl<|z6<|zOn 5 rfl<|ze (hms) rfl<|z6<|zOn 7 rfl<|zm sizeOf74 rfl rfl rfl rfl rfl rfl .head rfl<|zd (zg (zi .t2))<|zd (zg (zi .t3))<|zd (zg (zi .t3))<|zd (zg (zi .t3))<|z6<|zDn ?_
       exact ⟨i11, zR1, zR1, zLe, trivial⟩
     ·rintro z _
      refine yf (y9 (t := 11) rfl .head)<|zSr<|z2 (zk isAgg74 sizeOf74 rfl rfl)<|ze (iEmpty r) rfl<|z2 (yd rfl)<|z6<|zr rfl (fun ce=>?_) (fun ce=>?_)
      ·have hne : ¬ r.2 < r.1 := notdecT ce
       have h64 := hlr hne
       refine zRg<|z2 (zMp rfl)<|z2 (zFF underlying74 rfl sizeOf2 rfl rfl)<|z2 (zLi isAgg2 rfl)<|z2 (Gv.neg rfl)<|z2 (y5 (cps := [(0, [_]), (1, [_])]) (rs := [_, _]) pl142 rfl rfl rfl)<|z2 (ya rfl)<|z2 (zu underlying146 rfl sizeOf142 (by decide) rfl rfl)<|qg (l := [_, _]) (new := [_, _, _, _, _, _, _, _]) sizeOf142 rfl rfl rfl rfl rfl rfl .head rfl rfl<|z6 ?_
       exact ⟨(), zR1, trivial, ⟨_, (.refl _), (by rw [hlf, if_neg hne, ← wrap_neg (a := r.1) (by omega) (by omega)]; rfl)⟩, trivial⟩
      ·have hne : r.2 < r.1 := notdecF ce
       refine zc ?_
       exact ⟨(), zR1, trivial, ⟨_, (.refl _), (by rw [hlf, if_pos hne] <;> rfl)⟩, trivial⟩
    ·refine zc ?_
     exact ⟨(), zR1, trivial, ⟨_, (.refl _), (by rw [lowU, if_neg cs, shU, if_neg cs] <;> rfl)⟩, trivial⟩
   ·rintro _ _
    refine yf (y9 (t := 10) rfl .head)<|zSr<|z2 (zMg rfl)<|zt rfl (zn (.l (.l (.rest _)))) (hsound bp bs) ?_
    rintro r79 O79 ⟨rfl, rfl⟩
    refine z2 (zAb rfl)<|z6<|zf<|zj (x := .bool _) rfl ?_
    rfl
set_option maxHeartbeats 4000000 in
theorem tLower_spec (f : PFunc) (hf : small f) (hL : Letters E) (hN : ∀ b ∈ f.blocks, ∀ x ∈ b.insts, is64 x.num) (l : List Rng) (hol : ∀ r ∈ l, ok64 r) (hl : l.length ≤ 9223372036854775807) (d : List Bnd) (hd : ∀ b ∈ d, is64 b.2) (hdl : d.length ≤ 9223372036854775807) :
  AFun prog E 44 [.agg (encF f), .fro 2 (l.map encZ), .fro 2 (d.map encBd)] (.bool (loB f l d)) := by
 have hvn := hf.1
 have hru := lower_spec (E := E) f hf hL l hol
 refine zo func44 rfl (by decide) rfl<|zSr<|y7 (cs := _) rfl rfl rfl<|z2 (zAb rfl)<|z6<|za<|za<|yc (γ := Bool) [1, 2, 3] (fun u => [(19, .bool u)]) (fun u => []) (fun u => u = !decide (loC f l d)) ?_ (fun _ _ h => h) ?_
 ·refine zRg<|z2 (zk isAgg26 sizeOf26 rfl rfl)<|z2 (zMf rfl)<|ze (tRight_spec f hf hL l hl) rfl<|z2 (yd rfl)<|z2 (zMb rfl)<|zl (s := 11) rfl (fun c1=>?_) (fun c1=>?_)
  ·have h1 : ((typedB f && singB f) && decide (l.length = f.vars.length)) = false := by rwa [Bool.not_eq_true'] at c1
   refine z7 rfl rfl c1<|z7 rfl rfl c1<|z7 rfl rfl c1<|z7 rfl rfl c1<|z7 rfl rfl c1<|z7 rfl rfl c1<|z7 rfl rfl c1<|z2 (zPt rfl c1 rfl)<|z6 ?_
   exact ⟨_, zR3, zR1, zLe, by rw [qv (fun h => by unfold loC at h; rw [h.1, qu h.2.1] at h1; cases h1)]; rfl⟩
  ·have h1 : ((typedB f && singB f) && decide (l.length = f.vars.length)) = true := by rwa [Bool.not_eq_false'] at c1
   have hts := (and3 h1).1
   have hll : l.length = f.vars.length := by simpa using (and3 h1).2
   refine z8 rfl rfl c1<|z2 (zMf rfl)<|z8 rfl rfl c1<|z2 (zz underlying85 rfl)<|z8 rfl rfl c1<|z2 (zFF underlying26 rfl sizeOf22 rfl rfl)<|z8 rfl rfl c1<|z2 (zLf isAgg22 rfl)<|z8 rfl rfl c1<|z2 (zz underlying22 rfl)<|z8 rfl rfl c1<|z2 (zAd rfl rfl)<|z8 rfl rfl c1<|z2 (yi rfl rfl)<|z2 (zPf rfl c1 rfl)<|z6 ?_
   exact ⟨_, zR3, zR1, zLe, by congr 1; exact decide_eq_decide.2 ⟨fun h => ⟨hts, hll, by omega⟩, fun h => by have := h.2.2; omega⟩⟩
 ·rintro u hu
  subst hu
  refine zr rfl (fun c=>?_) (fun c=>?_)
  ·refine zSr<|z2 (zAb rfl)<|z6<|zf<|zj (x := .bool _) rfl ?_
   exact jb (by unfold loB; rw [qv (notdecT c)]; rfl)
  ·have hc := notdecF c
   obtain ⟨hts, hll, hdl2⟩ := id hc
   have hF := ruleF_of hf hts
   have hed : edgesB f l false = edgesE f l false := by unfold edgesB; rw [if_pos ⟨hts, hll⟩]
   rw [hed] at hru
   have hside := side_ok hF hts hN hol false hd hdl2 (shut := fun _ => false) (S := []) (fun _ _ _ => rfl)
   have hsound := fun bp bs => tSound_spec (E := E) f false f.vars.length (edgesE f l false) (fun _ => false) (false, 0) d bp bs _ [] hside
   obtain ⟨bnd, hbnd⟩ : ∃ x, soundB false f.vars.length f.vars.length (edgesE f l false) (phiF f) (fun _ => false) (false, 0) d = x := ⟨_, rfl⟩
   have hub : loB f l d = bnd := by unfold loB; rw [qu hc, hbnd]; rfl
   rw [hub]
   rw [hbnd] at hsound
   obtain ⟨PM, hPM⟩ : ∃ PM, phMapL (phsTo f f.blocks.length) = PM := ⟨_, rfl⟩
   have hbeg := tBegin_spec (E := E) f hf (edgesE f l false) (edges_few hf l false) (edge_to hF hts l false) f.vars.length false d
   rw [hPM] at hbeg hsound
   refine zc<|za<|y1 (fun j => false) (by kernel_rfl) rfl (zn (.rest _))<|zTk 0 rfl (zk isAgg26 sizeOf26 rfl rfl)<|zTk 1 rfl (zk isAgg26 sizeOf26 rfl rfl)<|zTk 2 rfl (zMf rfl)<|zTk 4 rfl (zFF underlying26 rfl sizeOf22 rfl rfl)<|zTk 5 rfl (zLf isAgg22 rfl)<|zTk 6 rfl (zz underlying22 rfl)<|zTk 7 rfl (zMf rfl)<|zOn 3 rfl<|ze (hru) rfl<|z6<|zOn 8 rfl<|zt rfl (zn (.rest _)) (hbeg) ?_
   rintro r28 O28 ⟨⟨j, bp, bs⟩, rfl, rfl, _⟩
   refine zd (y9 (t := 28) rfl .head)<|z6<|zOn 9 rfl<|zt rfl (zn (.l (.l (.rest _)))) (hsound bp bs) ?_
   rintro r29 O29 ⟨rfl, rfl⟩
   refine z6<|zTk 10 rfl (zAb rfl)<|zDn<|zf<|zj (x := .bool _) rfl ?_
   rfl
end Go.Proofs.YtjnpcfpecilejaaGreatDoor
