/- Where the checks of sums stand; a look at a program. Of programs that are little. -/
import Derived.Test.YtjnpcfpecilejaaGreatDoorZr
import Derived.Test.YtjnpcfpecilejaaGreatDoorZm
import Derived.Test.YtjnpcfpecilejaaGreatDoorZq
import Derived.Test.YtjnpcfpecilejaaGreatDoorZo
import Derived.Test.YtjnpcfpecilejaaGreatDoorZh
set_option linter.unusedVariables false
set_option linter.unusedSimpArgs false
set_option linter.unusedSectionVars false
namespace Go.Proofs.YtjnpcfpecilejaaGreatDoor
open Go.Proofs.Tryz
open Go.Proofs Go.Lib Go.Shelf Go.RowKit
variable {E : World}
set_option maxRecDepth 20000
theorem firstI_find {α : Type} {p : α → Bool} {x : α} : ∀ {xs : List α} (j : Nat), xs.find? p = some x → ∃ k : Nat, firstI p xs j = ((j + k : Nat) : Int) ∧ xs[k]? = some x
 | [], j, h => by simp at h
 | y :: xs, j, h => by
  by_cases c : p y = true
  ·rw [List.find?_cons_of_pos c] at h
   exact ⟨0, by rw [firstI, if_pos c]; rfl, by simpa using h⟩
  ·rw [List.find?_cons_of_neg (by simpa using c)] at h
   obtain ⟨k, h1, h2⟩ := firstI_find (j + 1) h
   exact ⟨k + 1, by rw [firstI, if_neg c, h1]; congr 1; omega, by simpa using h2⟩
theorem rule1_spec (v : Int) (p : PPhi) : AFun Tryz.prog E 123 ([.agg (encPhi p)] ++ [.pf [.int .i64 v]]) (.bool (decide (p.dst = v))) := by
 refine zy func123 rfl (by decide) rfl<|za<|z7 rfl<|yc (cs := _) rfl rfl rfl<|z2 (zd (v := .bool _) rfl)<|z6<|za<|z7 rfl<|z2 (zg underlying95 rfl sizeOf3 (by decide) rfl rfl)<|z2 (zf (c := .int _ _) isAgg3 rfl)<|z2 (zf (c := .int _ _) isAgg3 rfl)<|z2 (y6 rfl rfl)<|z2 (zd (v := .bool _) rfl)<|z6<|zj<|zx (x := .bool _) rfl ?_
 rfl
structure RuleF (f : PFunc) : Prop where
 small : small f
 shaped : ShapedP f
 once : OnceP f
 bool : ∀ b ∈ f.blocks, ∀ x ∈ b.insts, x.op = 10 ∨ x.op = 11 → ∀ v ∈ x.args, tyV f v = 1
theorem makesB_sum {op : Int} (h : op = 2 ∨ op = 3 ∨ op = 4) : makesB op = true := by rcases h with rfl | rfl | rfl <;> decide
theorem vrule_spec (f : PFunc) (hF : RuleF f) (l : List Rng) (chk : List Bool) (hck : chk.length = f.vars.length) (Lv : AV) {i : Nat} {HL : AObj} (hof : ∀ {a : Int}, hasV f a = true → ACall Tryz.prog E 176 [viewV f chk Lv, .int .i64 a] [(i, HL)] (sameO i HL (.agg (encZ (ofR f l a)))))
  (ho : ∀ u : Int, 0 ≤ u → ok64 (lv l u)) (v : Nat) (hv : v < f.vars.length) (hm : 0 ≤ (makerT f v).1) :
  ACall Tryz.prog E 76 [viewV f chk Lv, .int .i64 v] [(i, HL)] (sameO i HL (.agg (encZ (ruleR f (gb chk) l v)))) := by
 have hS := hF.shaped
 have hf := hF.small
 have hn := hf.2.2.1
 have hone := (hF.once v hv).1
 obtain ⟨bi, b, hget, hcase⟩ := maker_cases hm
 have hbi : bi < f.blocks.length := (List.getElem?_eq_some_iff.1 hget).1
 have hmem := List.mem_of_getElem? hget
 obtain ⟨hb0, hb1, hb2, hb3, hb4⟩ := hf.2.2.2.2 b hmem
 obtain ⟨hPh, hIn, hTm⟩ := hS.2.2.2.2.2 b hmem
 have hmk0 := makersT_get (f := f) hv
 refine ACall.same<|zy func76 rfl (by decide) rfl<|za<|z7 rfl<|yc (cs := [_]) rfl rfl rfl<|y1 (cs := [.int .i64 0, .int .i64 0]) zeroValue74 rfl rfl<|fun i4 => z6 ?_
 rcases hcase with ⟨p0, hp0, hd0, hmk⟩ | ⟨k, x, hxk, hxd, hmk⟩
 ·have hrule := rule_phi (chk := gb chk) (l := l) hone hget hp0 hd0 hmk
  rw [hrule]
  rw [hmk] at hmk0
  obtain ⟨k, hk1, hk2⟩ := firstI_find 0 (phi_find hone hget hp0 hd0)
  rw [Nat.zero_add] at hk1
  obtain ⟨hpd, hpl, hpn, hpa, hpf⟩ := hPh p0 hp0
  have hpb := (hb3 p0 hp0).1
  have hix := indexFuncP_spec (E := E) b.phis (by omega) (fun p _ => rule1_spec (v : Int) p)
  rw [hk1] at hix
  refine za<|yb (fun j => false) (by kernel_rfl) rfl (y4 (.rest _))<|ze (i := 0) rfl (by kernel_rfl) (zc (v := .pf _) rfl)<|ze (i := 1) rfl (by kernel_rfl) (qg rfl)<|ze (i := 2) rfl (by kernel_rfl) (zg underlying125 rfl sizeOf102 (by decide) rfl rfl)<|ze (i := 3) rfl (by kernel_rfl) (zf (c := .fro _ _) isAgg102 rfl)<|ze (i := 4) rfl (by kernel_rfl) (zf (c := .int _ _) isAgg3 rfl)<|ze (i := 5) rfl (by kernel_rfl) (y7 (j := v) underlying102 sizeOf109 rfl rfl rfl hmk0)<|ze (i := 6) rfl (by kernel_rfl) (zo isAgg109 sizeOf109 rfl rfl)<|zp (i := 7) rfl (by kernel_rfl)<|y1 (cs := [.int .i64 0, .int .i64 0]) zeroValue109 rfl rfl<|fun i5 => z6<|zp (i := 8) rfl (by kernel_rfl)<|zi sizeOf109 rfl rfl rfl rfl rfl rfl .head rfl<|z6<|ya (by kernel_rfl)<|yw (yp (t := 5) rfl .head)<|za<|yb (fun j => false) (by kernel_rfl) rfl (y4 (.rest _))<|ze (i := 0) rfl (by kernel_rfl) (zc (v := .pf _) rfl)<|ze (i := 1) rfl (by kernel_rfl) (qg rfl)<|ze (i := 2) rfl (by kernel_rfl) (zg underlying125 rfl sizeOf26 (by decide) rfl rfl)<|ze (i := 3) rfl (by kernel_rfl) (zg underlying26 rfl sizeOf24 (by decide) rfl rfl)<|ze (i := 4) rfl (by kernel_rfl) (zf (c := .fro _ _) isAgg24 rfl)<|ze (i := 5) rfl (by kernel_rfl) (zg underlying109 rfl sizeOf3 (by decide) rfl rfl)<|ze (i := 6) rfl (by kernel_rfl) (zf (c := .int _ _) isAgg3 rfl)<|ze (i := 7) rfl (by kernel_rfl) (y7 (j := bi) underlying24 sizeOf66 rfl rfl rfl hget)<|ze (i := 8) rfl (by kernel_rfl) (zo isAgg66 sizeOf66 rfl rfl)<|zp (i := 9) rfl (by kernel_rfl)<|y1 (cs := [.str ⟨#[]⟩, .raw (.slice none 0 0), .raw (.slice none 0 0), .int .i64 0, .int .i64 0, .int .i64 0, .int .i64 0]) zeroValue66 rfl rfl<|fun i6 => z6<|zp (i := 10) rfl (by kernel_rfl)<|zi sizeOf66 rfl rfl rfl rfl rfl rfl .head rfl<|z6<|ya (by kernel_rfl)<|yw (yp (t := 6) rfl .head)<|za<|za<|z7 rfl ?_
  refine z2 (zg underlying109 rfl sizeOf3 (by decide) rfl rfl)<|z2 (zf (c := .int _ _) isAgg3 rfl)<|z2 (qf rfl rfl)<|z6<|q4 rfl rfl<|zk<|za<|z7 rfl<|z2 (zg underlying66 rfl sizeOf59 (by decide) rfl rfl)<|z2 (zf (c := .fro _ _) isAgg59 rfl)<|z2 (Gv.func rfl rfl)<|zh (hix) rfl<|z2 (zd (v := .int _ _) rfl)<|z6<|za<|z7 rfl<|z2 (zc (v := .pf _) rfl)<|z2 (zg underlying66 rfl sizeOf59 (by decide) rfl rfl)<|z2 (zf (c := .fro _ _) isAgg59 rfl)<|z2 (zc (v := .int _ _) rfl)<|z2 (y7 (j := k) underlying59 sizeOf95 rfl rfl rfl hk2)<|z2 (zo isAgg95 sizeOf95 rfl rfl)<|yk rfl (y4 (.r (.l (.rest _)))) (vphi_spec f l hof p0 hpa hpb) ?_
  rintro r45 O45 ⟨rfl, rfl⟩
  refine zi sizeOf74 rfl rfl rfl rfl rfl rfl (.tail .head) rfl<|z6<|yw (zl (zr (.tail .head)))<|zj<|yl rfl ⟨_, .head⟩ isAgg74 sizeOf74 rfl ?_
  exact ⟨rfl, .d1⟩
 ·have hI := instP_F (hIn x (List.mem_of_getElem? hxk))
  have hrule := rule_inst (chk := gb chk) (l := l) hget hxk hmk
  rw [hrule, instR]
  rw [hmk] at hmk0
  refine za<|yb (fun j => false) (by kernel_rfl) rfl (y4 (.rest _))<|ze (i := 0) rfl (by kernel_rfl) (zc (v := .pf _) rfl)<|ze (i := 1) rfl (by kernel_rfl) (qg rfl)<|ze (i := 2) rfl (by kernel_rfl) (zg underlying125 rfl sizeOf102 (by decide) rfl rfl)<|ze (i := 3) rfl (by kernel_rfl) (zf (c := .fro _ _) isAgg102 rfl)<|ze (i := 4) rfl (by kernel_rfl) (zf (c := .int _ _) isAgg3 rfl)<|ze (i := 5) rfl (by kernel_rfl) (y7 (j := v) underlying102 sizeOf109 rfl rfl rfl hmk0)<|ze (i := 6) rfl (by kernel_rfl) (zo isAgg109 sizeOf109 rfl rfl)<|zp (i := 7) rfl (by kernel_rfl)<|y1 (cs := [.int .i64 0, .int .i64 0]) zeroValue109 rfl rfl<|fun i5 => z6<|zp (i := 8) rfl (by kernel_rfl)<|zi sizeOf109 rfl rfl rfl rfl rfl rfl .head rfl<|z6<|ya (by kernel_rfl)<|yw (yp (t := 5) rfl .head)<|za<|yb (fun j => false) (by kernel_rfl) rfl (y4 (.rest _))<|ze (i := 0) rfl (by kernel_rfl) (zc (v := .pf _) rfl)<|ze (i := 1) rfl (by kernel_rfl) (qg rfl)<|ze (i := 2) rfl (by kernel_rfl) (zg underlying125 rfl sizeOf26 (by decide) rfl rfl)<|ze (i := 3) rfl (by kernel_rfl) (zg underlying26 rfl sizeOf24 (by decide) rfl rfl)<|ze (i := 4) rfl (by kernel_rfl) (zf (c := .fro _ _) isAgg24 rfl)<|ze (i := 5) rfl (by kernel_rfl) (zg underlying109 rfl sizeOf3 (by decide) rfl rfl)<|ze (i := 6) rfl (by kernel_rfl) (zf (c := .int _ _) isAgg3 rfl)<|ze (i := 7) rfl (by kernel_rfl) (y7 (j := bi) underlying24 sizeOf66 rfl rfl rfl hget)<|ze (i := 8) rfl (by kernel_rfl) (zo isAgg66 sizeOf66 rfl rfl)<|zp (i := 9) rfl (by kernel_rfl)<|y1 (cs := [.str ⟨#[]⟩, .raw (.slice none 0 0), .raw (.slice none 0 0), .int .i64 0, .int .i64 0, .int .i64 0, .int .i64 0]) zeroValue66 rfl rfl<|fun i6 => z6<|zp (i := 10) rfl (by kernel_rfl)<|zi sizeOf66 rfl rfl rfl rfl rfl rfl .head rfl<|z6<|ya (by kernel_rfl)<|yw (yp (t := 6) rfl .head)<|za<|za<|z7 rfl ?_
  refine z2 (zg underlying109 rfl sizeOf3 (by decide) rfl rfl)<|z2 (zf (c := .int _ _) isAgg3 rfl)<|z2 (qf rfl rfl)<|z6<|q6 rfl (decide_eq_true (by show (0 : Int) ≤ (k : Int); omega))<|za<|z7 rfl<|z2 (zc (v := .pf _) rfl)<|z2 (zg underlying66 rfl sizeOf60 (by decide) rfl rfl)<|z2 (zf (c := .fro _ _) isAgg60 rfl)<|z2 (zg underlying109 rfl sizeOf3 (by decide) rfl rfl)<|z2 (zf (c := .int _ _) isAgg3 rfl)<|z2 (y7 (j := k) underlying60 sizeOf33 rfl rfl rfl hxk)<|z2 (zo isAgg33 sizeOf33 rfl rfl)<|yk rfl (y4 (.r (.l (.rest _)))) (vinst_spec f l chk Lv hof ho x hI (hF.bool b hmem x (List.mem_of_getElem? hxk)) (fun _ => by rw [hxd, hck]; exact hv) (fun _ => by rw [hxd]; omega)) ?_
  rintro r34 O34 ⟨rfl, rfl⟩
  refine zi sizeOf74 rfl rfl rfl rfl rfl rfl (.tail .head) rfl<|z6<|yw (zl (zr (.tail .head)))<|zj<|yl rfl ⟨_, .head⟩ isAgg74 sizeOf74 rfl ?_
  exact ⟨rfl, .d1⟩
end Go.Proofs.YtjnpcfpecilejaaGreatDoor
namespace Go.Proofs.YtjnpcfpecilejaaGreatDoor
open Go.Proofs.Tryz
def isChk (q : Int) : Prop := 21 ≤ q ∧ q ≤ 23
instance (q : Int) : Decidable (isChk q) := by unfold isChk; infer_instance
def plIn (q : Int) (i : Nat) (xs : List PInst) : List Plc := if isChk q then (xs.zipIdx.filter fun x => decide (x.1.op = q)).map fun x => ((i : Int), (x.2 : Int)) else []
def plTo (f : PFunc) (k : Nat) (q : Int) : List Plc := (f.blocks.take k).zipIdx.flatMap fun b => plIn q b.2 b.1.insts
theorem plIn_succ (q : Int) (i : Nat) {xs : List PInst} {j : Nat} (h : j < xs.length) : plIn q i (xs.take (j + 1)) = plIn q i (xs.take j) ++ if isChk q ∧ xs[j].op = q then [((i : Int), (j : Int))] else [] := by
 unfold plIn
 by_cases hq : isChk q
 ·rw [if_pos hq, if_pos hq, zipTake h, List.filter_append, List.map_append]
  congr 1
  by_cases c : xs[j].op = q
  ·rw [if_pos ⟨hq, c⟩]; simp [c]
  ·rw [if_neg (fun h => c h.2)]; simp [c]
 ·rw [if_neg hq, if_neg hq, if_neg (fun h => hq h.1)]; rfl
theorem plTo_succ {f : PFunc} {k : Nat} (q : Int) (h : k < f.blocks.length) : plTo f (k + 1) q = plTo f k q ++ plIn q k f.blocks[k].insts := by
 unfold plTo; rw [zipTake h, List.flatMap_append]; simp
theorem plIn_len (q : Int) (i : Nat) (xs : List PInst) : (plIn q i xs).length ≤ xs.length := by
 unfold plIn
 split
 ·rw [List.length_map]
  have := List.length_filter_le (fun x : PInst × Nat => decide (x.1.op = q)) xs.zipIdx
  simpa using this
 ·simp
theorem plTo_len {f : PFunc} {q : Int} {m : Nat} (h : ∀ b ∈ f.blocks, b.insts.length ≤ m) : ∀ k, k ≤ f.blocks.length → (plTo f k q).length ≤ k * m
 | 0, _ => by simp [plTo]
 | k + 1, hk => by
  have h1 := plTo_len (q := q) h k (by omega)
  have h2 := plIn_len q k (f.blocks[k]'(by omega)).insts
  have h3 := h _ (List.getElem_mem (show k < f.blocks.length by omega))
  rw [plTo_succ q (by omega), List.length_append, Nat.add_mul]; omega
theorem mem_plTo {f : PFunc} {q : Int} {m : Plc} : m ∈ plTo f f.blocks.length q ↔ isChk q ∧ ∃ (i k : Nat) (b : PBlock) (z : PInst), f.blocks[i]? = some b ∧ b.insts[k]? = some z ∧ z.op = q ∧ m = ((i : Int), (k : Int)) := by
 unfold plTo plIn
 rw [List.take_length, List.mem_flatMap]
 constructor
 ·rintro ⟨⟨b, i⟩, h1, h2⟩
  have hb := List.mem_zipIdx_iff_getElem?.1 h1
  dsimp only at h2 hb
  split at h2
  ·rename_i hq
   obtain ⟨⟨z, k⟩, h3, h4⟩ := List.mem_map.1 h2
   obtain ⟨h5, h6⟩ := List.mem_filter.1 h3
   exact ⟨hq, i, k, b, z, hb, List.mem_zipIdx_iff_getElem?.1 h5, by simpa using h6, h4.symm⟩
  ·cases h2
 ·rintro ⟨hq, i, k, b, z, h1, h2, h3, rfl⟩
  refine ⟨(b, i), List.mem_zipIdx_iff_getElem?.2 h1, ?_⟩
  dsimp only
  rw [if_pos hq]
  exact List.mem_map.2 ⟨(z, k), List.mem_filter.2 ⟨List.mem_zipIdx_iff_getElem?.2 h2, by simpa using h3⟩, rfl⟩
def hitB (f : PFunc) (x : PInst) (i k : Nat) (m : Plc) : Bool := ((instAt f m).map fun c => decide (c.args = x.args)).getD false && aheadB f m i k
theorem chkW_iff {f : PFunc} {x : PInst} {i k : Nat} {q : Int} : chkW f q x.args i k = true ↔ ∃ (i' k' : Nat) (b : PBlock) (z : PInst), f.blocks[i']? = some b ∧ b.insts[k']? = some z ∧ z.op = q ∧ z.args = x.args ∧ aheadB f ((i' : Int), (k' : Int)) i k = true := by
 unfold chkW
 rw [List.any_eq_true]
 constructor
 ·rintro ⟨i', hi, h⟩
  rw [List.mem_range] at hi
  rw [chkI_at (List.getElem?_eq_getElem hi)] at h
  obtain ⟨⟨z, k'⟩, h1, h2⟩ := List.any_eq_true.1 h
  unfold chkQ at h2
  simp only [Bool.and_eq_true, decide_eq_true_eq] at h2
  exact ⟨i', k', _, z, List.getElem?_eq_getElem hi, List.mem_zipIdx_iff_getElem?.1 h1, h2.1.1, h2.1.2, h2.2⟩
 ·rintro ⟨i', k', b, z, h1, h2, h3, h4, h5⟩
  have hi := (List.getElem?_eq_some_iff.1 h1).1
  refine ⟨i', List.mem_range.2 hi, ?_⟩
  rw [chkI_at h1]
  refine List.any_eq_true.2 ⟨(z, k'), List.mem_zipIdx_iff_getElem?.2 h2, ?_⟩
  unfold chkQ
  simp only [Bool.and_eq_true, decide_eq_true_eq]
  exact ⟨⟨h3, h4⟩, h5⟩
theorem instAt_nat {f : PFunc} {i k : Nat} {b : PBlock} {z : PInst} (h1 : f.blocks[i]? = some b) (h2 : b.insts[k]? = some z) : instAt f ((i : Int), (k : Int)) = some z := by
 unfold instAt
 rw [if_pos ⟨by dsimp only; omega, by dsimp only; omega⟩]
 show ((f.blocks[i]?).bind fun b => b.insts[k]?) = _
 rw [h1]; exact h2
def matchQ (op : Int) : Int := if op = 2 ∨ op = 3 ∨ op = 4 then op + 19 else 0
theorem chkX_iff {f : PFunc} {x : PInst} {i k : Nat} : chkX f x i k = true ↔ ∃ m ∈ plTo f f.blocks.length (matchQ x.op), hitB f x i k m = true := by
 unfold chkX isSum matchQ
 by_cases hs : x.op = 2 ∨ x.op = 3 ∨ x.op = 4
 ·rw [decide_eq_true hs, Bool.true_and, if_pos hs, chkW_iff]
  constructor
  ·rintro ⟨i', k', b, z, h1, h2, h3, h4, h5⟩
   refine ⟨((i' : Int), (k' : Int)), mem_plTo.2 ⟨by unfold isChk; omega, i', k', b, z, h1, h2, h3, rfl⟩, ?_⟩
   unfold hitB
   rw [instAt_nat h1 h2, h5]; simp [h4]
  ·rintro ⟨m, hm, hh⟩
   obtain ⟨hq, i', k', b, z, h1, h2, h3, rfl⟩ := mem_plTo.1 hm
   unfold hitB at hh
   rw [instAt_nat h1 h2] at hh
   simp at hh
   exact ⟨i', k', b, z, h1, h2, h3, hh.1, hh.2⟩
 ·rw [decide_eq_false hs, Bool.false_and, if_neg hs]
  constructor
  ·intro h; cases h
  ·rintro ⟨m, hm, _⟩
   obtain ⟨hq, _⟩ := mem_plTo.1 hm
   unfold isChk at hq; omega
def Done (f : PFunc) (i k : Nat) (v : Int) : Prop := ∃ (i' k' : Nat) (b : PBlock) (z : PInst), f.blocks[i']? = some b ∧ b.insts[k']? = some z ∧ z.dst = v ∧ chkX f z i' k' = true ∧ (i' < i ∨ i' = i ∧ k' < k)
theorem Done.step {f : PFunc} {i k : Nat} {b : PBlock} {z : PInst} (h1 : f.blocks[i]? = some b) (h2 : b.insts[k]? = some z) (v : Int) : Done f i (k + 1) v ↔ Done f i k v ∨ (v = z.dst ∧ chkX f z i k = true) := by
 constructor
 ·rintro ⟨i', k', b', z', g1, g2, g3, g4, g5⟩
  by_cases e : i' = i ∧ k' = k
  ·obtain ⟨rfl, rfl⟩ := e
   rw [h1] at g1; cases g1
   rw [h2] at g2; cases g2
   exact .inr ⟨g3.symm, g4⟩
  ·exact .inl ⟨i', k', b', z', g1, g2, g3, g4, by omega⟩
 ·rintro (⟨i', k', b', z', g1, g2, g3, g4, g5⟩ | ⟨rfl, h⟩)
  ·exact ⟨i', k', b', z', g1, g2, g3, g4, by omega⟩
  ·exact ⟨i, k, b, z, h1, h2, rfl, h, .inr ⟨rfl, by omega⟩⟩
theorem Done.next {f : PFunc} {i : Nat} {b : PBlock} (h1 : f.blocks[i]? = some b) (v : Int) : Done f (i + 1) 0 v ↔ Done f i b.insts.length v := by
 constructor
 ·rintro ⟨i', k', b', z', g1, g2, g3, g4, g5⟩
  refine ⟨i', k', b', z', g1, g2, g3, g4, ?_⟩
  by_cases e : i' = i
  ·subst e
   rw [h1] at g1; cases g1
   exact .inr ⟨rfl, (List.getElem?_eq_some_iff.1 g2).1⟩
  ·exact .inl (by omega)
 ·rintro ⟨i', k', b', z', g1, g2, g3, g4, g5⟩
  exact ⟨i', k', b', z', g1, g2, g3, g4, .inl (by omega)⟩
theorem Done.zero (f : PFunc) (v : Int) : ¬ Done f 0 0 v := by
 rintro ⟨i', k', b', z', g1, g2, g3, g4, g5⟩; omega
theorem Done.all {f : PFunc} (ho : OnceP f) {v : Nat} (hv : v < f.vars.length) : Done f f.blocks.length 0 v ↔ chkV f v = true := by
 constructor
 ·rintro ⟨i', k', b', z', g1, g2, g3, g4, g5⟩
  have hm : ((i' : Int), (k' : Int)) ∈ makings f v := mem_makings.2 ⟨i', b', g1, mem_mkBlk.2 (.inr ⟨k', z', g2, g3, rfl⟩)⟩
  have := maker_eq (ho v hv).1 hm
  rw [chkV_at g1 g2 this]; exact g4
 ·intro h
  by_cases h0 : 0 ≤ (makerT f v).1
  ·obtain ⟨i, b, h1, ⟨p, h2, h3, h4⟩ | ⟨k, x, h2, h3, h4⟩⟩ := maker_cases h0
   ·unfold chkV instAt at h
    rw [h4, if_neg (by dsimp only; omega)] at h
    cases h
   ·rw [chkV_at h1 h2 h4] at h
    exact ⟨i, k, b, x, h1, h2, h3, h, .inl (List.getElem?_eq_some_iff.1 h1).1⟩
  ·unfold chkV instAt at h
   rw [if_neg (fun hh => h0 hh.1)] at h
   cases h
def chkL (f : PFunc) : List Bool := (List.range f.vars.length).map fun (v : Nat) => chkV f v
theorem chkL_len (f : PFunc) : (chkL f).length = f.vars.length := by simp [chkL]
theorem chkL_gb {f : PFunc} {v : Int} (h0 : 0 ≤ v) (h : v < f.vars.length) : gb (chkL f) v = chkV f v := by
 obtain ⟨k, rfl⟩ : ∃ k : Nat, v = (k : Int) := ⟨v.toNat, by omega⟩
 rw [gb_nat]
 unfold chkL
 rw [List.getElem?_map, List.getElem?_range (by omega)]; rfl
theorem chkL_eq {f : PFunc} (ho : OnceP f) {L : List Bool} (hl : L.length = f.vars.length) (h : ∀ v : Nat, v < f.vars.length → (gb L v = true ↔ Done f f.blocks.length 0 v)) : L = chkL f := by
 apply List.ext_getElem?
 intro v
 by_cases hv : v < f.vars.length
 ·have h1 := h v hv
  rw [Done.all ho hv] at h1
  unfold chkL
  rw [List.getElem?_map, List.getElem?_range hv, gb_some (out := L) (by omega)]
  simp only [Option.map_some]
  rw [Bool.eq_iff_iff.2 h1]
 ·rw [List.getElem?_eq_none (by omega), List.getElem?_eq_none (by rw [chkL_len]; omega)]
theorem gb_set2 {L : List Bool} {d v : Nat} (hd : d < L.length) : gb (L.set d true) v = true ↔ v = d ∨ gb L v = true := by
 rw [gb_nat, gb_nat, List.getElem?_set]
 by_cases e : d = v
 ·subst e; rw [if_pos rfl, if_pos hd]; simp
 ·rw [if_neg e]
  constructor
  ·exact .inr
  ·rintro (h | h)
   ·exact absurd h.symm e
   ·exact h
end Go.Proofs.YtjnpcfpecilejaaGreatDoor
namespace Go.Proofs.YtjnpcfpecilejaaGreatDoor
open Go.Proofs.Tryz
open Go.Proofs Go.Lib Go.Shelf Go.RowKit
set_option maxRecDepth 20000
variable {E : World}
theorem sum_take {α : Type} (g : α → Nat) : ∀ (l : List α) (k : Nat), ((l.take k).map g).sum ≤ (l.map g).sum
 | [], k => by simp
 | x :: l, 0 => by simp
 | x :: l, k + 1 => by
  have := sum_take g l k
  simp only [List.take_succ_cons, List.map_cons, List.sum_cons]; omega
theorem wP_take (l : List PPhi) (k : Nat) : wP (l.take k) ≤ wP l := sum_take _ l k
theorem wX_take (l : List PInst) (k : Nat) : wX (l.take k) ≤ wX l := sum_take _ l k
theorem little_le {f : PFunc} (h : little f) {k : Nat} (hk : k < f.blocks.length) : wV f.vars + wBs (f.blocks.take k) + wB f.blocks[k] ≤ 4000 := by
 have h1 := h.2.2.2.2.2 (fun e => by rw [e] at hk; exact absurd hk (Nat.not_lt_zero _))
 have h2 : wBs (f.blocks.take (k + 1)) ≤ wBs f.blocks := sum_take _ f.blocks (k + 1)
 rw [wBs_succ hk] at h2
 omega
set_option maxHeartbeats 8000000 in
theorem fewIff_spec (f : PFunc) (hf : wFunc f) : ACall Tryz.prog E 12 [.agg (encF f)] [] (fun x _ => ∃ b : Bool, x = .bool b ∧ (b = true ↔ little f)) := by
 obtain ⟨hf1, hf2, hf3, hf4⟩ := hf
 have hl1 := hf1.lt
 have hl3 := hf3.lt
 refine zy func12 rfl (by decide) rfl<|za<|z7 rfl<|yc (cs := _) rfl rfl rfl<|z2 (zd (v := .bool _) rfl)<|z6<|za<|za<|yq (γ := Unit) [1] (fun u => [(27, .bool (few1 f))]) (fun u => []) (fun u => True) ?_ (fun _ _ h => h) ?_
 ·refine z7 rfl<|z2 (zg underlying26 rfl sizeOf22 (by decide) rfl rfl)<|z2 (zf (c := .fro _ _) isAgg22 rfl)<|z2 (yd underlying22 rfl)<|z2 (q7 rfl rfl)<|z2 (zc (v := .bool _) rfl)<|zz (s := 16) rfl (fun c1 => ?_) (fun c1 => ?_)
  ·refine z8 rfl rfl c1<|z8 rfl rfl c1<|z8 rfl rfl c1<|z8 rfl rfl c1<|z2 (zu (v := .bool _) rfl c1 rfl)<|z2 (zc (v := .bool _) rfl)<|z8 rfl rfl rfl<|z8 rfl rfl rfl<|z8 rfl rfl rfl<|z8 rfl rfl rfl<|z2 (zu (v := .bool _) rfl rfl rfl)<|z6 ?_
   exact ⟨(), ⟨rfl, trivial⟩, ⟨jb (by simp_all [few1] <;> grind), trivial⟩, ⟨_, (.refl _), rfl⟩, trivial⟩
  ·refine zb rfl rfl c1<|z2 (zg underlying26 rfl sizeOf24 (by decide) rfl rfl)<|zb rfl rfl c1<|z2 (zf (c := .fro _ _) isAgg24 rfl)<|zb rfl rfl c1<|z2 (yd underlying24 rfl)<|zb rfl rfl c1<|z2 (q7 rfl rfl)<|z2 (zw (v := .bool _) rfl c1 rfl)<|z2 (zc (v := .bool _) rfl)<|zz (s := 22) rfl (fun c2 => ?_) (fun c2 => ?_)
   ·refine z8 rfl rfl c2<|z8 rfl rfl c2<|z8 rfl rfl c2<|z8 rfl rfl c2<|z2 (zu (v := .bool _) rfl c2 rfl)<|z6 ?_
    exact ⟨(), ⟨rfl, trivial⟩, ⟨jb (by simp_all [few1] <;> grind), trivial⟩, ⟨_, (.refl _), rfl⟩, trivial⟩
   ·refine zb rfl rfl c2<|z2 (zg underlying26 rfl sizeOf23 (by decide) rfl rfl)<|zb rfl rfl c2<|z2 (zf (c := .fro _ _) isAgg23 rfl)<|zb rfl rfl c2<|z2 (yd underlying23 rfl)<|zb rfl rfl c2<|z2 (q7 rfl rfl)<|z2 (zw (v := .bool _) rfl c2 rfl)<|z6 ?_
    exact ⟨(), ⟨rfl, trivial⟩, ⟨jb (by simp_all [few1] <;> grind), trivial⟩, ⟨_, (.refl _), rfl⟩, trivial⟩
 ·rintro _ _
  refine y8 rfl (fun c1 => ?_) (fun c1 => ?_)
  ·refine za<|z7 rfl<|z2 (zd (v := .bool _) rfl)<|z6<|zj<|zx (x := .bool _) rfl ?_
   exact ⟨_, rfl, fun h => (by cases h), fun hl => absurd hl (fun hl => by have h1 := hl.1; have h2 := hl.2.1; have h3 := hl.2.2.1; unfold few1 at c1; simp at c1; omega)⟩
  ·have hsz : f.vars.length ≤ 100 ∧ f.blocks.length ≤ 40 ∧ f.params.length ≤ 20 := by unfold few1 at c1; simp at c1; omega
   refine zk<|za<|z7 rfl<|z2 (zd (v := .int _ _) rfl)<|z6<|za<|za<|z7 rfl<|z2 (zg underlying26 rfl sizeOf22 (by decide) rfl rfl)<|z2 (zf (c := .fro _ _) isAgg22 rfl)<|z2 (yd underlying22 rfl)<|z2 (zc (v := .int _ _) rfl)<|z6<|zq<|yh (γ := Nat) [1, 29, 30] (fun k => [(31, .int .i64 k), (3, .int .i64 (wV (f.vars.take k)))]) (fun k => []) (fun k => k ≤ f.vars.length ∧ wV (f.vars.take k) ≤ 400 * k ∧ ∀ v ∈ f.vars.take k, v.name.size ≤ 400) (fun k => f.vars.length - k) 0 ⟨rfl, rfl, trivial⟩ ⟨_, (.refl _), rfl⟩ (⟨Nat.zero_le _, Nat.le_refl _, by simp⟩) ?_
   rintro k ⟨hk, hw, hv⟩
   refine za<|z7 rfl<|z2 (yj rfl rfl)<|z6<|za<|zt rfl (fun ck => ?_) (fun ck => ?_)
   ·have hk1 : k < f.vars.length := by omega
    have hs := wV_succ hk1
    refine zk<|za<|zq<|za<|z7 rfl<|z2 (y7 underlying22 sizeOf56 rfl rfl rfl (List.getElem?_eq_getElem (by omega))) ?_
    refine z2 (zo isAgg56 sizeOf56 rfl rfl)<|y1 (cs := [.str ⟨#[]⟩, .int .i64 0]) zeroValue56 rfl rfl<|fun i5 => zi sizeOf56 rfl rfl rfl rfl rfl rfl .head rfl<|z6<|za<|za<|z7 rfl<|z2 (y3 underlying56 rfl sizeOf9 (by decide) rfl rfl)<|z2 (y5 (c := .str _) isAgg9 rfl ⟨_, .head⟩ rfl)<|z2 (Gv.lenT underlying9 rfl)<|z2 (q7 rfl rfl)<|z6<|zt rfl (fun cn => ?_) (fun cn => ?_)
    ·refine za<|z7 rfl<|z2 (zd (v := .bool _) rfl)<|z6<|zj<|zx (x := .bool _) rfl ?_
     exact ⟨_, rfl, fun h => (by cases h), fun hl => absurd hl (fun hl => by have h1 := hl.2.2.2.1 _ (List.getElem_mem hk1); omega)⟩
    ·refine zk<|z7 rfl<|z2 (zc (v := .int _ _) rfl)<|z2 (y3 underlying56 rfl sizeOf9 (by decide) rfl rfl)<|z2 (y5 (c := .str _) isAgg9 rfl ⟨_, .head⟩ rfl)<|z2 (Gv.lenT underlying9 rfl)<|z2 (yi rfl rfl (by unfold I64; omega))<|z2 (zd (v := .int _ _) rfl)<|z6<|z7 rfl<|z2 (yi rfl rfl (by unfold I64; omega))<|z2 (zc (v := .int _ _) rfl)<|z6 ?_
     exact ⟨k + 1, ⟨rfl, rfl, rfl, trivial⟩, ⟨rfl, congrArg (AV.int .i64) (by rw [hs]; omega), trivial⟩, ⟨_, (.drop (.refl _)), rfl⟩, ⟨hk1, by omega, forall_take hk1 hv (by omega)⟩, by omega⟩
   ·obtain rfl : k = f.vars.length := by omega
    rw [List.take_length] at hw hv
    rw [List.take_length]
    refine yg<|za<|za<|z7 rfl<|z2 (zg underlying26 rfl sizeOf24 (by decide) rfl rfl)<|z2 (zf (c := .fro _ _) isAgg24 rfl)<|z2 (yd underlying24 rfl)<|z2 (zc (v := .int _ _) rfl)<|z6<|zq<|yh (γ := Nat) [46, 47] (fun k => [(48, .int .i64 k), (3, .int .i64 (wV f.vars + wBs (f.blocks.take k) : Nat))]) (fun k => []) (fun k => k ≤ f.blocks.length ∧ (0 < k → wV f.vars + wBs (f.blocks.take k) ≤ 4000) ∧ wBs (f.blocks.take k) ≤ 4000 ∧ ∀ b ∈ f.blocks.take k, littleB b) (fun k => f.blocks.length - k) 0 ⟨rfl, rfl, trivial⟩ ⟨_, (.refl _), rfl⟩ (⟨Nat.zero_le _, by omega, by simp [wBs], by simp⟩) ?_
    rintro k ⟨hk, hw2, hw3, hb⟩
    refine za<|z7 rfl<|z2 (yj rfl rfl)<|z6<|za<|zt rfl (fun ck => ?_) (fun ck => ?_)
    ·have hk1 : k < f.blocks.length := by omega
     obtain ⟨hb1, hb2, hb3, hb4⟩ := hf4 _ (List.getElem_mem hk1)
     have hs := wBs_succ hk1
     refine zk<|za<|zq<|za<|z7 rfl<|z2 (y7 underlying24 sizeOf66 rfl rfl rfl (List.getElem?_eq_getElem (by omega))) ?_
     refine z2 (zo isAgg66 sizeOf66 rfl rfl)<|y1 (cs := [.str ⟨#[]⟩, .raw (.slice none 0 0), .raw (.slice none 0 0), .int .i64 0, .int .i64 0, .int .i64 0, .int .i64 0]) zeroValue66 rfl rfl<|fun i7 => zi sizeOf66 rfl rfl rfl rfl rfl rfl .head rfl<|z6<|za<|za<|yq (γ := Unit) [3, 7, 46, 47, 48] (fun u => [(67, .bool (few2 f.blocks[k]))]) (fun u => [(i7, .cells 66 (encBlk f.blocks[k]))]) (fun u => True) ?_ (fun _ _ h => h) ?_
     ·refine z7 rfl<|z2 (y3 underlying66 rfl sizeOf9 (by decide) rfl rfl)<|z2 (y5 (c := .str _) isAgg9 rfl ⟨_, .head⟩ rfl)<|z2 (Gv.lenT underlying9 rfl)<|z2 (q7 rfl rfl)<|z2 (zc (v := .bool _) rfl)<|zz (s := 56) rfl (fun c3 => ?_) (fun c3 => ?_)
      ·refine z8 rfl rfl c3<|z8 rfl rfl c3<|z8 rfl rfl c3<|z8 rfl rfl c3<|z2 (zu (v := .bool _) rfl c3 rfl)<|z2 (zc (v := .bool _) rfl)<|z8 rfl rfl rfl<|z8 rfl rfl rfl<|z8 rfl rfl rfl<|z8 rfl rfl rfl<|z2 (zu (v := .bool _) rfl rfl rfl)<|z6 ?_
       exact ⟨(), ⟨rfl, rfl, rfl, rfl, rfl, trivial⟩, ⟨jb (by simp_all [few2] <;> grind), trivial⟩, ⟨_, (.refl _), rfl⟩, trivial⟩
      ·refine zb rfl rfl c3<|z2 (y3 underlying66 rfl sizeOf59 (by decide) rfl rfl)<|zb rfl rfl c3<|z2 (y5 (c := .fro _ _) isAgg59 rfl ⟨_, .head⟩ rfl)<|zb rfl rfl c3<|z2 (yd underlying59 rfl)<|zb rfl rfl c3<|z2 (q7 rfl rfl)<|z2 (zw (v := .bool _) rfl c3 rfl)<|z2 (zc (v := .bool _) rfl)<|zz (s := 62) rfl (fun c4 => ?_) (fun c4 => ?_)
       ·refine z8 rfl rfl c4<|z8 rfl rfl c4<|z8 rfl rfl c4<|z8 rfl rfl c4<|z2 (zu (v := .bool _) rfl c4 rfl)<|z6 ?_
        exact ⟨(), ⟨rfl, rfl, rfl, rfl, rfl, trivial⟩, ⟨jb (by simp_all [few2] <;> grind), trivial⟩, ⟨_, (.refl _), rfl⟩, trivial⟩
       ·refine zb rfl rfl c4<|z2 (y3 underlying66 rfl sizeOf60 (by decide) rfl rfl)<|zb rfl rfl c4<|z2 (y5 (c := .fro _ _) isAgg60 rfl ⟨_, .head⟩ rfl)<|zb rfl rfl c4<|z2 (yd underlying60 rfl)<|zb rfl rfl c4<|z2 (q7 rfl rfl)<|z2 (zw (v := .bool _) rfl c4 rfl)<|z6 ?_
        exact ⟨(), ⟨rfl, rfl, rfl, rfl, rfl, trivial⟩, ⟨jb (by simp_all [few2] <;> grind), trivial⟩, ⟨_, (.refl _), rfl⟩, trivial⟩
     ·rintro _ _
      refine y8 rfl (fun c2 => ?_) (fun c2 => ?_)
      ·refine za<|z7 rfl<|z2 (zd (v := .bool _) rfl)<|z6<|zj<|zx (x := .bool _) rfl ?_
       exact ⟨_, rfl, fun h => (by cases h), fun hl => absurd hl (fun hl => by obtain ⟨h1, h2, h3, _⟩ := hl.2.2.2.2.1 _ (List.getElem_mem hk1); unfold few2 at c2; simp at c2; omega)⟩
      ·have hsb : f.blocks[k].name.size ≤ 400 ∧ f.blocks[k].phis.length ≤ 400 ∧ f.blocks[k].insts.length ≤ 400 := by unfold few2 at c2; simp at c2; omega
       refine zk<|za<|z7 rfl<|z2 (zc (v := .int _ _) rfl)<|z2 (y3 underlying66 rfl sizeOf9 (by decide) rfl rfl)<|z2 (y5 (c := .str _) isAgg9 rfl ⟨_, .head⟩ rfl)<|z2 (Gv.lenT underlying9 rfl)<|z2 (y3 underlying66 rfl sizeOf59 (by decide) rfl rfl)<|z2 (y5 (c := .fro _ _) isAgg59 rfl ⟨_, .head⟩ rfl)<|z2 (yd underlying59 rfl)<|z2 (y3 underlying66 rfl sizeOf60 (by decide) rfl rfl)<|z2 (y5 (c := .fro _ _) isAgg60 rfl ⟨_, .head⟩ rfl)<|z2 (yd underlying60 rfl)<|z2 (yi rfl rfl (by unfold I64; omega))<|z2 (Gv.mul rfl rfl (by unfold I64; omega))<|z2 (yi rfl rfl (by unfold I64; omega))<|z2 (yi rfl rfl (by unfold I64; omega))<|z2 (zd (v := .int _ _) rfl)<|z6<|za<|za<|z7 rfl<|z2 (y3 underlying66 rfl sizeOf59 (by decide) rfl rfl)<|z2 (y5 (c := .fro _ _) isAgg59 rfl ⟨_, .head⟩ rfl)<|z2 (yd underlying59 rfl)<|z2 (zc (v := .int _ _) rfl)<|z6<|zq<|yh (γ := Nat) [7, 46, 47, 48, 83, 84] (fun m => [(85, .int .i64 m), (3, .int .i64 (wV f.vars + wBs (f.blocks.take k) + (f.blocks[k].name.size + 10 * (f.blocks[k].phis.length + f.blocks[k].insts.length)) + wP (f.blocks[k].phis.take m) : Nat))]) (fun m => [(i7, .cells 66 (encBlk f.blocks[k]))]) (fun m => m ≤ f.blocks[k].phis.length ∧ wP (f.blocks[k].phis.take m) ≤ 800 * m ∧ ∀ p ∈ f.blocks[k].phis.take m, p.args.length ≤ 400 ∧ p.from_.length ≤ 400) (fun m => f.blocks[k].phis.length - m) 0 ⟨rfl, (congrArg (AV.int .i64) (by simp [wP] <;> omega)), trivial⟩ ⟨_, (.refl _), rfl⟩ (⟨Nat.zero_le _, by simp [wP], by simp⟩) ?_
       rintro m ⟨hm, hwp, hp⟩
       refine za<|z7 rfl<|z2 (yj rfl rfl)<|z6<|za<|zt rfl (fun cm => ?_) (fun cm => ?_)
       ·have hm1 : m < f.blocks[k].phis.length := by omega
        obtain ⟨hq1, hq2⟩ := hb3 _ (List.getElem_mem hm1)
        have hl6 := hq1.lt
        have hl7 := hq2.lt
        have hs2 := wP_succ hm1
        refine zk<|za<|zq<|za<|z7 rfl<|z2 (y7 underlying59 sizeOf95 rfl rfl rfl (List.getElem?_eq_getElem (by omega))) ?_
        refine z2 (zo isAgg95 sizeOf95 rfl rfl)<|y1 (cs := [.int .i64 0, .raw (.slice none 0 0), .raw (.slice none 0 0)]) zeroValue95 rfl rfl<|fun i9 => zi sizeOf95 rfl rfl rfl rfl rfl rfl .head rfl<|z6<|za<|za<|yq (γ := Unit) [3, 7, 9, 46, 47, 48, 83, 84, 85] (fun u => [(102, .bool (decide ((4000 : Int) < (wV f.vars + wBs (f.blocks.take k) + (f.blocks[k].name.size + 10 * (f.blocks[k].phis.length + f.blocks[k].insts.length)) + wP (f.blocks[k].phis.take m) : Nat)) || (decide ((400 : Int) < f.blocks[k].phis[m].args.length) || decide ((400 : Int) < f.blocks[k].phis[m].from_.length))))]) (fun u => [(i9, .cells 95 (encPhi f.blocks[k].phis[m])), (i7, .cells 66 (encBlk f.blocks[k]))]) (fun u => True) ?_ (fun _ _ h => h) ?_
        ·refine z7 rfl<|z2 (zc (v := .int _ _) rfl)<|z2 (q7 rfl rfl)<|z2 (zc (v := .bool _) rfl)<|zz (s := 91) rfl (fun c5 => ?_) (fun c5 => ?_)
         ·refine z8 rfl rfl c5<|z8 rfl rfl c5<|z8 rfl rfl c5<|z8 rfl rfl c5<|z2 (zu (v := .bool _) rfl c5 rfl)<|z2 (zc (v := .bool _) rfl)<|z8 rfl rfl rfl<|z8 rfl rfl rfl<|z8 rfl rfl rfl<|z8 rfl rfl rfl<|z2 (zu (v := .bool _) rfl rfl rfl)<|z6 ?_
          exact ⟨(), ⟨rfl, rfl, rfl, rfl, rfl, rfl, rfl, rfl, rfl, trivial⟩, ⟨jb (by simp_all <;> grind), trivial⟩, ⟨_, (.refl _), rfl⟩, trivial⟩
         ·refine zb rfl rfl c5<|z2 (y3 underlying95 rfl sizeOf23 (by decide) rfl rfl)<|zb rfl rfl c5<|z2 (y5 (c := .fro _ _) isAgg23 rfl ⟨_, .head⟩ rfl)<|zb rfl rfl c5<|z2 (yd underlying23 rfl)<|zb rfl rfl c5<|z2 (q7 rfl rfl)<|z2 (zw (v := .bool _) rfl c5 rfl)<|z2 (zc (v := .bool _) rfl)<|zz (s := 97) rfl (fun c6 => ?_) (fun c6 => ?_)
          ·refine z8 rfl rfl c6<|z8 rfl rfl c6<|z8 rfl rfl c6<|z8 rfl rfl c6<|z2 (zu (v := .bool _) rfl c6 rfl)<|z6 ?_
           exact ⟨(), ⟨rfl, rfl, rfl, rfl, rfl, rfl, rfl, rfl, rfl, trivial⟩, ⟨jb (by simp_all <;> grind), trivial⟩, ⟨_, (.refl _), rfl⟩, trivial⟩
          ·refine zb rfl rfl c6<|z2 (y3 underlying95 rfl sizeOf23 (by decide) rfl rfl)<|zb rfl rfl c6<|z2 (y5 (c := .fro _ _) isAgg23 rfl ⟨_, .head⟩ rfl)<|zb rfl rfl c6<|z2 (yd underlying23 rfl)<|zb rfl rfl c6<|z2 (q7 rfl rfl)<|z2 (zw (v := .bool _) rfl c6 rfl)<|z6 ?_
           exact ⟨(), ⟨rfl, rfl, rfl, rfl, rfl, rfl, rfl, rfl, rfl, trivial⟩, ⟨jb (by simp_all <;> grind), trivial⟩, ⟨_, (.refl _), rfl⟩, trivial⟩
        ·rintro _ _
         refine y8 rfl (fun cp => ?_) (fun cp => ?_)
         ·refine za<|z7 rfl<|z2 (zd (v := .bool _) rfl)<|z6<|zj<|zx (x := .bool _) rfl ?_
          exact ⟨_, rfl, fun h => (by cases h), fun hl => absurd hl (fun hl => by obtain ⟨_, _, _, h4, _⟩ := hl.2.2.2.2.1 _ (List.getElem_mem hk1); have h5 := h4 _ (List.getElem_mem hm1); have h9 := little_le hl hk1; have hwb : wB f.blocks[k] = f.blocks[k].name.size + 10 * (f.blocks[k].phis.length + f.blocks[k].insts.length) + wP f.blocks[k].phis + wX f.blocks[k].insts := rfl; have h10 := wP_take f.blocks[k].phis m; simp only [Bool.or_eq_true, decide_eq_true_eq] at cp; omega)⟩
         ·rcases Bool.or_eq_false_iff.1 cp with ⟨a1, a2⟩
          rcases Bool.or_eq_false_iff.1 a2 with ⟨a3, a4⟩
          have a3 := of_decide_eq_false a3
          have a4 := of_decide_eq_false a4
          refine zk<|z7 rfl<|z2 (zc (v := .int _ _) rfl)<|z2 (y3 underlying95 rfl sizeOf23 (by decide) rfl rfl)<|z2 (y5 (c := .fro _ _) isAgg23 rfl ⟨_, .head⟩ rfl)<|z2 (yd underlying23 rfl)<|z2 (y3 underlying95 rfl sizeOf23 (by decide) rfl rfl)<|z2 (y5 (c := .fro _ _) isAgg23 rfl ⟨_, .head⟩ rfl)<|z2 (yd underlying23 rfl)<|z2 (yi rfl rfl (by unfold I64; omega))<|z2 (yi rfl rfl (by unfold I64; omega))<|z2 (zd (v := .int _ _) rfl)<|z6<|z7 rfl<|z2 (yi rfl rfl (by unfold I64; omega))<|z2 (zc (v := .int _ _) rfl)<|z6 ?_
          exact ⟨m + 1, ⟨rfl, rfl, rfl, rfl, rfl, rfl, trivial⟩, ⟨rfl, congrArg (AV.int .i64) (by rw [hs2]; omega), trivial⟩, ⟨_, (.drop (.refl _)), rfl⟩, ⟨hm1, by omega, forall_take hm1 hp ⟨by omega, by omega⟩⟩, by omega⟩
       ·obtain rfl : m = f.blocks[k].phis.length := by omega
        rw [List.take_length] at hwp hp
        rw [List.take_length]
        refine yg<|za<|za<|z7 rfl<|z2 (y3 underlying66 rfl sizeOf60 (by decide) rfl rfl)<|z2 (y5 (c := .fro _ _) isAgg60 rfl ⟨_, .head⟩ rfl)<|z2 (yd underlying60 rfl)<|z2 (zc (v := .int _ _) rfl)<|z6<|zq<|yh (γ := Nat) [46, 47, 48, 114, 115] (fun m => [(116, .int .i64 m), (3, .int .i64 (wV f.vars + wBs (f.blocks.take k) + (f.blocks[k].name.size + 10 * (f.blocks[k].phis.length + f.blocks[k].insts.length)) + wP f.blocks[k].phis + wX (f.blocks[k].insts.take m) : Nat))]) (fun m => [(i7, .cells 66 (encBlk f.blocks[k]))]) (fun m => m ≤ f.blocks[k].insts.length ∧ wX (f.blocks[k].insts.take m) ≤ 400 * m ∧ ∀ p ∈ f.blocks[k].insts.take m, p.args.length ≤ 400) (fun m => f.blocks[k].insts.length - m) 0 ⟨rfl, (congrArg (AV.int .i64) (by simp [wX] <;> omega)), trivial⟩ ⟨_, (.refl _), rfl⟩ (⟨Nat.zero_le _, by simp [wX], by simp⟩) ?_
        rintro m ⟨hm, hwx, hx⟩
        refine za<|z7 rfl<|z2 (yj rfl rfl)<|z6<|za<|zt rfl (fun cm => ?_) (fun cm => ?_)
        ·have hm1 : m < f.blocks[k].insts.length := by omega
         have hq1 := hb4 _ (List.getElem_mem hm1)
         have hl6 := hq1.lt
         have hs2 := wX_succ hm1
         refine zk<|za<|zq<|za<|z7 rfl<|z2 (y7 underlying60 sizeOf33 rfl rfl rfl (List.getElem?_eq_getElem (by omega))) ?_
         refine z2 (zo isAgg33 sizeOf33 rfl rfl)<|y1 (cs := [.int .i64 0, .int .i64 0, .raw (.slice none 0 0), .int .i64 0]) zeroValue33 rfl rfl<|fun i11 => zi sizeOf33 rfl rfl rfl rfl rfl rfl .head rfl<|z6<|za<|za<|yq (γ := Unit) [3, 11, 46, 47, 48, 114, 115, 116] (fun u => [(127, .bool (decide ((4000 : Int) < (wV f.vars + wBs (f.blocks.take k) + (f.blocks[k].name.size + 10 * (f.blocks[k].phis.length + f.blocks[k].insts.length)) + wP f.blocks[k].phis + wX (f.blocks[k].insts.take m) : Nat)) || decide ((400 : Int) < f.blocks[k].insts[m].args.length)))]) (fun u => [(i11, .cells 33 (encInst f.blocks[k].insts[m])), (i7, .cells 66 (encBlk f.blocks[k]))]) (fun u => True) ?_ (fun _ _ h => h) ?_
         ·refine z7 rfl<|z2 (zc (v := .int _ _) rfl)<|z2 (q7 rfl rfl)<|z2 (zc (v := .bool _) rfl)<|zz (s := 122) rfl (fun c7 => ?_) (fun c7 => ?_)
          ·refine z8 rfl rfl c7<|z8 rfl rfl c7<|z8 rfl rfl c7<|z8 rfl rfl c7<|z2 (zu (v := .bool _) rfl c7 rfl)<|z6 ?_
           exact ⟨(), ⟨rfl, rfl, rfl, rfl, rfl, rfl, rfl, rfl, trivial⟩, ⟨jb (by simp_all <;> grind), trivial⟩, ⟨_, (.refl _), rfl⟩, trivial⟩
          ·refine zb rfl rfl c7<|z2 (y3 underlying33 rfl sizeOf23 (by decide) rfl rfl)<|zb rfl rfl c7<|z2 (y5 (c := .fro _ _) isAgg23 rfl ⟨_, .head⟩ rfl)<|zb rfl rfl c7<|z2 (yd underlying23 rfl)<|zb rfl rfl c7<|z2 (q7 rfl rfl)<|z2 (zw (v := .bool _) rfl c7 rfl)<|z6 ?_
           exact ⟨(), ⟨rfl, rfl, rfl, rfl, rfl, rfl, rfl, rfl, trivial⟩, ⟨jb (by simp_all <;> grind), trivial⟩, ⟨_, (.refl _), rfl⟩, trivial⟩
         ·rintro _ _
          refine y8 rfl (fun cp => ?_) (fun cp => ?_)
          ·refine za<|z7 rfl<|z2 (zd (v := .bool _) rfl)<|z6<|zj<|zx (x := .bool _) rfl ?_
           exact ⟨_, rfl, fun h => (by cases h), fun hl => absurd hl (fun hl => by obtain ⟨_, _, _, _, h4⟩ := hl.2.2.2.2.1 _ (List.getElem_mem hk1); have h5 := h4 _ (List.getElem_mem hm1); have h9 := little_le hl hk1; have hwb : wB f.blocks[k] = f.blocks[k].name.size + 10 * (f.blocks[k].phis.length + f.blocks[k].insts.length) + wP f.blocks[k].phis + wX f.blocks[k].insts := rfl; have h10 := wX_take f.blocks[k].insts m; simp only [Bool.or_eq_true, decide_eq_true_eq] at cp; omega)⟩
          ·rcases Bool.or_eq_false_iff.1 cp with ⟨a1, a2⟩
           have a2 := of_decide_eq_false a2
           refine zk<|z7 rfl<|z2 (zc (v := .int _ _) rfl)<|z2 (y3 underlying33 rfl sizeOf23 (by decide) rfl rfl)<|z2 (y5 (c := .fro _ _) isAgg23 rfl ⟨_, .head⟩ rfl)<|z2 (yd underlying23 rfl)<|z2 (yi rfl rfl (by unfold I64; omega))<|z2 (zd (v := .int _ _) rfl)<|z6<|z7 rfl<|z2 (yi rfl rfl (by unfold I64; omega))<|z2 (zc (v := .int _ _) rfl)<|z6 ?_
           exact ⟨m + 1, ⟨rfl, rfl, rfl, rfl, rfl, trivial⟩, ⟨rfl, congrArg (AV.int .i64) (by rw [hs2]; omega), trivial⟩, ⟨_, (.drop (.refl _)), rfl⟩, ⟨hm1, by omega, forall_take hm1 hx (by omega)⟩, by omega⟩
        ·obtain rfl : m = f.blocks[k].insts.length := by omega
         rw [List.take_length] at hwx hx
         rw [List.take_length]
         refine yg<|za<|z7 rfl<|z2 (zc (v := .int _ _) rfl)<|z2 (q7 rfl rfl)<|z6<|zt rfl (fun cz => ?_) (fun cz => ?_)
         ·refine za<|z7 rfl<|z2 (zd (v := .bool _) rfl)<|z6<|zj<|zx (x := .bool _) rfl ?_
          exact ⟨_, rfl, fun h => (by cases h), fun hl => absurd hl (fun hl => by have h9 := little_le hl hk1; have hwb : wB f.blocks[k] = f.blocks[k].name.size + 10 * (f.blocks[k].phis.length + f.blocks[k].insts.length) + wP f.blocks[k].phis + wX f.blocks[k].insts := rfl; omega)⟩
         ·have hwb : wB f.blocks[k] = f.blocks[k].name.size + 10 * (f.blocks[k].phis.length + f.blocks[k].insts.length) + wP f.blocks[k].phis + wX f.blocks[k].insts := rfl
          refine zk<|z7 rfl<|z2 (yi rfl rfl (by unfold I64; omega))<|z2 (zc (v := .int _ _) rfl)<|z6 ?_
          exact ⟨k + 1, ⟨rfl, rfl, trivial⟩, ⟨rfl, congrArg (AV.int .i64) (by rw [hs]; omega), trivial⟩, ⟨_, (.drop (.refl _)), rfl⟩, ⟨hk1, by omega, by omega, forall_take hk1 hb ⟨hsb.1, hsb.2.1, hsb.2.2, hp, hx⟩⟩, by omega⟩
    ·obtain rfl : k = f.blocks.length := by omega
     rw [List.take_length] at hw2 hw3 hb
     refine yg<|za<|z7 rfl<|z2 (zd (v := .bool _) rfl)<|z6<|zj<|zx (x := .bool _) rfl ?_
     exact ⟨_, rfl, fun _ => ⟨hsz.1, hsz.2.1, hsz.2.2, hv, hb, fun hne => hw2 (List.length_pos_iff.2 hne)⟩, fun _ => rfl⟩
theorem lawShaped2_spec (f : PFunc) (hf : okFunc f) (hn : okNames f) (hL : Letters E) : AFun Tryz.prog E 119 [.agg (encF f)] (.bool (decide (ShapedP f))) := by
 refine zy func119 rfl (by decide) rfl<|za<|z7 rfl<|yc (cs := _) rfl rfl rfl<|z2 (zd (v := .bool _) rfl)<|z6<|za<|z7 rfl<|z2 (zo isAgg26 sizeOf26 rfl rfl)<|zh (refShaped_spec _ (by assumption) (by assumption) hL) rfl<|z2 (zd (v := .bool _) rfl)<|z6<|zj<|zx (x := .bool _) rfl ?_
 rfl
noncomputable def fewB (f : PFunc) : Bool := @decide (little f) (Classical.propDecidable _)
theorem fewB_iff (f : PFunc) : fewB f = true ↔ little f := by unfold fewB; exact @decide_eq_true_iff _ (Classical.propDecidable _)
theorem fewT_spec (f : PFunc) (hf : wFunc f) : AFun Tryz.prog E 12 [.agg (encF f)] (.bool (fewB f)) :=
 (fewIff_spec f hf).mono fun x O' ⟨b, e, h⟩ => by
  rw [e]
  congr 1
  rw [Bool.eq_iff_iff, h, fewB_iff]
theorem lawTyped8_spec (f : PFunc) (hf : small f) (hL : Letters E) : AFun Tryz.prog E 75 [.agg (encF f)] (.bool (typedB f)) := by
 have hs := lawShaped2_spec (E := E) f hf.ok hf.names hL
 refine zy func75 rfl (by decide) rfl<|za<|z7 rfl<|yc (cs := _) rfl rfl rfl<|z2 (zd (v := .bool _) rfl)<|z6<|za<|z7 rfl<|z2 (zo isAgg26 sizeOf26 rfl rfl)<|zh (hs) rfl ?_
 by_cases g4 : ShapedP f
 ·refine z2 (zc (v := .bool _) rfl)<|zb rfl rfl (decide_eq_true g4)<|z2 (zo isAgg26 sizeOf26 rfl rfl)<|zb rfl rfl (decide_eq_true g4)<|zh (refTyped_spec f hf g4) rfl<|z2 (zu (v := .bool _) rfl (decide_eq_true g4) rfl)<|z2 (zd (v := .bool _) rfl)<|z6<|zj<|zx (x := .bool _) rfl ?_
  exact jb (by unfold typedB; rw [shapedB_eq, decide_eq_true g4]; rfl)
 ·refine z2 (zc (v := .bool _) rfl)<|z8 rfl rfl (decide_eq_false g4)<|z8 rfl rfl (decide_eq_false g4)<|z2 (zw (v := .bool _) rfl (decide_eq_false g4) rfl)<|z2 (zd (v := .bool _) rfl)<|z6<|zj<|zx (x := .bool _) rfl ?_
  exact jb (by unfold typedB; rw [shapedB_eq, decide_eq_false g4]; rfl)
theorem lawTyped_spec (f : PFunc) (hw : wFunc f) (hL : Letters E) : AFun Tryz.prog E 37 [.agg (encF f)] (.bool (fewB f && typedB f)) := by
 refine zy func37 rfl (by decide) rfl<|za<|z7 rfl<|yc (cs := _) rfl rfl rfl<|z2 (zd (v := .bool _) rfl)<|z6<|za<|z7 rfl<|z2 (zo isAgg26 sizeOf26 rfl rfl)<|zh (fewT_spec f hw) rfl<|z2 (zc (v := .bool _) rfl)<|zz (s := 5) rfl (fun g => ?_) (fun g => ?_)
 ·refine zb rfl rfl g<|z2 (zo isAgg26 sizeOf26 rfl rfl)<|zb rfl rfl g<|zh (lawTyped8_spec f ((fewB_iff f).1 g).small hL) rfl<|z2 (zu (v := .bool _) rfl g rfl)<|z2 (zd (v := .bool _) rfl)<|z6<|zj<|zx (x := .bool _) rfl ?_
  exact jb (by rw [g]; rfl)
 ·refine z8 rfl rfl g<|z8 rfl rfl g<|z2 (zw (v := .bool _) rfl g rfl)<|z2 (zd (v := .bool _) rfl)<|z6<|zj<|zx (x := .bool _) rfl ?_
  exact jb (by rw [g]; rfl)
noncomputable def lawSing (f : PFunc) : Bool := fewB f && typedB f && singB f
theorem and3 {a b : Bool} (h : (a && b) = true) : a = true ∧ b = true := by simpa using h
theorem singR_typed {f : PFunc} (h : typedB f = true) : singR f = singB f :=
 singR_eq (typedB_ends h) fun b hb p hp c hc => by
  have h1 := ((typedB_shaped h).2.2.2.2.2 b hb).1 p hp
  have h2 := List.all_eq_true.1 h1.2.2.2.2 c hc
  simpa [hasB] using h2
theorem lawSingle_spec (f : PFunc) (hw : wFunc f) (hL : Letters E) : AFun Tryz.prog E 24 [.agg (encF f)] (.bool (lawSing f)) := by
 refine zy func24 rfl (by decide) rfl<|za<|z7 rfl<|yc (cs := _) rfl rfl rfl<|z2 (zd (v := .bool _) rfl)<|z6<|za<|z7 rfl<|z2 (zo isAgg26 sizeOf26 rfl rfl)<|zh (lawTyped_spec f hw hL) rfl<|z2 (zc (v := .bool _) rfl)<|zz (s := 5) rfl (fun g => ?_) (fun g => ?_)
 ·refine zb rfl rfl g<|z2 (zo isAgg26 sizeOf26 rfl rfl)<|zb rfl rfl g<|zh (refSingle_spec f (typedB_ends (and3 g).2) ((fewB_iff f).1 (and3 g).1).small (typedB_shaped (and3 g).2)) rfl<|z2 (zu (v := .bool _) rfl g rfl)<|z2 (zd (v := .bool _) rfl)<|z6<|zj<|zx (x := .bool _) rfl ?_
  exact jb (by unfold lawSing; rw [g, singR_typed (and3 g).2]; rfl)
 ·refine z8 rfl rfl g<|z8 rfl rfl g<|z2 (zw (v := .bool _) rfl g rfl)<|z2 (zd (v := .bool _) rfl)<|z6<|zj<|zx (x := .bool _) rfl ?_
  exact jb (by unfold lawSing; rw [g]; rfl)
end Go.Proofs.YtjnpcfpecilejaaGreatDoor
namespace Go.Proofs.YtjnpcfpecilejaaGreatDoor
open Go.Proofs.Tryz
open Go.Proofs Go.Lib Go.Shelf Go.RowKit
theorem pl125 : Places Tryz.prog 125 #[(0, 3), (3, 1), (4, 1), (5, 1)] [.raw (.slice none 0 0), .raw (.slice none 0 0), .raw (.slice none 0 0), .raw (.slice none 0 0), .raw (.slice none 0 0), .raw (.slice none 0 0)] := ⟨_, _, underlying125, zeroValue125, fun w => by kernel_rfl, rfl⟩
variable {E : World}
set_option maxRecDepth 20000
theorem matching_spec (op : Int) : AFun Tryz.prog E 112 [.int .i64 op] (.int .i64 (matchQ op)) := by
 refine zy func112 rfl (by decide) rfl<|za<|z7 rfl<|z2 (zd (v := .int _ _) rfl)<|z6<|za<|za<|z7 rfl<|z2 (zc (v := .int _ _) rfl)<|z6<|zq<|za<|za<|z7 rfl<|z2 (y6 rfl rfl)<|z2 (zd (v := .bool _) rfl)<|z6<|yq (γ := Bool) [0] (fun u => [(4, .bool u)]) (fun u => []) (fun u => u = decide (op = 2 ∨ op = 3 ∨ op = 4)) ?_ (fun _ _ h => h) ?_
 ·refine y8 rfl (fun c1 => ?_) (fun c1 => ?_)
  ·refine zk ?_
   exact ⟨_, ⟨rfl, trivial⟩, ⟨rfl, trivial⟩, ⟨_, (.refl _), rfl⟩, by simp_all⟩
  ·refine za<|z7 rfl<|z2 (y6 rfl rfl)<|z2 (zd (v := .bool _) rfl)<|z6<|y8 rfl (fun c2 => ?_) (fun c2 => ?_)
   ·refine zk ?_
    exact ⟨_, ⟨rfl, trivial⟩, ⟨rfl, trivial⟩, ⟨_, (.refl _), rfl⟩, by simp_all⟩
   ·refine z7 rfl<|z2 (y6 rfl rfl)<|z2 (zd (v := .bool _) rfl)<|z6 ?_
    exact ⟨_, ⟨rfl, trivial⟩, ⟨rfl, trivial⟩, ⟨_, (.refl _), rfl⟩, by simp_all⟩
 ·rintro u hu
  subst hu
  refine zt rfl (fun c => ?_) (fun c => ?_)
  ·refine za<|z7 rfl<|z2 (zc (v := .int _ _) rfl)<|z2 (Gv.addW rfl rfl)<|z2 (Gv.subW rfl rfl)<|z2 (zd (v := .int _ _) rfl)<|z6<|zj<|zx (x := .int _ _) rfl ?_
   rw [matchQ, if_pos c, wrap_fit (z := 21 + op) (by unfold is64; omega), wrap_fit (by unfold is64; omega)]; congr 1; omega
  ·refine zk<|za<|z7 rfl<|z2 (zd (v := .int _ _) rfl)<|z6<|zj<|zx (x := .int _ _) rfl ?_
   rw [matchQ, if_neg c]
def mapsTo (f : PFunc) (es : List (Int × List Plc)) : Prop := ∀ q, mg q es = plTo f f.blocks.length q
set_option maxHeartbeats 4000000 in
theorem checks_spec (f : PFunc) (hf : small f) : ACall Tryz.prog E 111 [.agg (encF f)] [] fun x O => ∃ g : Nat × List (Int × List Plc), x = mref g.1 ∧ O = [(0, mfroO eP g.1 g.2)] ∧ mapsTo f g.2 := by
 have hn := hf.2.2.1
 have hpl : ∀ q k, k ≤ f.blocks.length → (plTo f k q).length ≤ k * 1000 := fun q k hk => plTo_len (fun b hb => (hf.2.2.2.2 b hb).2.2.1) k hk
 refine ACall.exact (γ := Nat × List (Int × List Plc)) (x := fun g => mref g.1) (M := fun g => [(0, mfroO eP g.1 g.2)]) (p := fun g => mapsTo f g.2)<|zy func111 rfl (by decide) rfl<|za<|z7 rfl<|yc (cs := _) rfl rfl rfl<|z2 (zd (v := .raw _) rfl)<|z6<|za<|z7 rfl<|AOps.makeMapN eP 109<|fun b8 => z2 (zd (v := mref _) rfl)<|z6<|za<|za<|z7 rfl<|z2 (zg underlying26 rfl sizeOf24 (by decide) rfl rfl)<|z2 (zf (c := .fro _ _) isAgg24 rfl)<|z2 (yd underlying24 rfl)<|z2 (zc (v := .int _ _) rfl)<|z6<|zq<|yh (γ := Nat × List (Int × List Plc)) [3, 10, 11] (fun g => [(12, .int .i64 g.1)]) (fun g => [(0, mnestO eP 109 b8 g.2)]) (fun g => g.1 ≤ f.blocks.length ∧ ∀ q, mg q g.2 = plTo f g.1 q) (fun g => f.blocks.length - g.1) (0, []) ⟨rfl, trivial⟩ ⟨_, (.refl _), rfl⟩ (⟨Nat.zero_le _, fun q => rfl⟩) ?_
 rintro ⟨i, es⟩ ⟨hi, hes⟩
 try dsimp only at *
 refine za<|z7 rfl<|z2 (yj rfl rfl)<|z6<|za<|zt rfl (fun ci => ?_) (fun ci => ?_)
 ·have hi2 : i < f.blocks.length := by simp at ci; omega
  obtain ⟨b, hbi⟩ : ∃ b, f.blocks[i] = b := ⟨_, rfl⟩
  have hget : f.blocks[i]? = some b := by rw [List.getElem?_eq_getElem hi2, hbi]
  obtain ⟨hb0, hb1, hb2, hb3, hb4⟩ := hf.2.2.2.2 b (hbi ▸ List.getElem_mem hi2)
  refine zk<|za<|zq<|za<|z7 rfl<|z2 (zc (v := .int _ _) rfl)<|z2 (y7 (j := i) underlying24 sizeOf66 rfl rfl rfl hget)<|z2 (zo isAgg66 sizeOf66 rfl rfl)<|y1 (cs := [.str ⟨#[]⟩, .raw (.slice none 0 0), .raw (.slice none 0 0), .int .i64 0, .int .i64 0, .int .i64 0, .int .i64 0]) zeroValue66 rfl rfl<|fun i5 => z2 (zd (v := .int _ _) rfl)<|zi sizeOf66 rfl rfl rfl rfl rfl rfl .head rfl<|zn (yp (t := 5) rfl .head)<|z6<|za<|z7 rfl<|z2 (zg underlying66 rfl sizeOf60 (by decide) rfl rfl)<|z2 (zf (c := .fro _ _) isAgg60 rfl)<|z2 (yd underlying60 rfl)<|z2 (zc (v := .int _ _) rfl)<|z6<|zq<|yh (γ := Nat × List (Int × List Plc)) [3, 4, 10, 11, 12, 18, 19] (fun g => [(20, .int .i64 g.1)]) (fun g => [(0, mnestO eP 109 b8 g.2)]) (fun g => g.1 ≤ b.insts.length ∧ ∀ q, mg q g.2 = plTo f i q ++ plIn q i (b.insts.take g.1)) (fun g => b.insts.length - g.1) (0, es) ⟨rfl, trivial⟩ ⟨_, (.refl _), rfl⟩ (⟨Nat.zero_le _, fun q => by rw [hes q]; unfold plIn; split <;> simp⟩) ?_
  rintro ⟨j, es⟩ ⟨hj, hes⟩
  try dsimp only at *
  refine za<|z7 rfl<|z2 (yj rfl rfl)<|z6<|za<|zt rfl (fun cj => ?_) (fun cj => ?_)
  ·have hj2 : j < b.insts.length := by simp at cj; omega
   obtain ⟨z, hz⟩ : ∃ z, b.insts[j] = z := ⟨_, rfl⟩
   have hstep : ∀ q, plTo f i q ++ plIn q i (b.insts.take (j + 1)) = mg q es ++ if isChk q ∧ z.op = q then [((i : Int), (j : Int))] else [] := fun q => by rw [plIn_succ q i hj2, hz, ← List.append_assoc, ← hes q]
   have hlen : ∀ q, (mg q es).length ≤ 2000000 := fun q => by
    have h1 := hpl q i hi
    have h2 := plIn_len q i (b.insts.take j)
    rw [List.length_take] at h2
    rw [hes q, List.length_append]; omega
   refine zk<|za<|zq<|za<|z7 rfl<|z2 (zc (v := .int _ _) rfl)<|z2 (y7 (j := j) underlying60 sizeOf33 rfl rfl rfl (by rw [List.getElem?_eq_getElem hj2, hz])) ?_
   refine z2 (zo isAgg33 sizeOf33 rfl rfl)<|y1 (cs := [.int .i64 0, .int .i64 0, .raw (.slice none 0 0), .int .i64 0]) zeroValue33 rfl rfl<|fun i7 => z2 (zd (v := .int _ _) rfl)<|zi sizeOf33 rfl rfl rfl rfl rfl rfl .head rfl<|zn (yp (t := 7) rfl .head)<|z6<|za<|yq (γ := Bool) [3, 4, 6, 7, 10, 11, 12, 18, 19, 20] (fun u => [(32, .bool u)]) (fun u => [(0, mnestO eP 109 b8 es)]) (fun u => u = decide (isChk z.op)) ?_ (fun _ _ h => h) ?_
   ·refine z7 rfl<|z2 (zg underlying33 rfl sizeOf31 (by decide) rfl rfl)<|z2 (zf (c := .int _ _) isAgg31 rfl)<|z2 (qf rfl rfl)<|z2 (zc (v := .bool _) rfl)<|zz (s := 28) rfl (fun c1 => ?_) (fun c1 => ?_)
    ·refine zb rfl rfl c1<|z2 (zg underlying33 rfl sizeOf31 (by decide) rfl rfl)<|zb rfl rfl c1<|z2 (zf (c := .int _ _) isAgg31 rfl)<|zb rfl rfl c1<|z2 (Gv.leq rfl rfl)<|z2 (zu (v := .bool _) rfl c1 rfl)<|z6 ?_
     exact ⟨_, ⟨rfl, rfl, rfl, rfl, rfl, rfl, rfl, rfl, rfl, rfl, trivial⟩, ⟨rfl, trivial⟩, ⟨_, (.refl _), rfl⟩, decide_eq_decide.2 (by unfold isChk; have := of_decide_eq_true c1; omega)⟩
    ·refine z8 rfl rfl c1<|z8 rfl rfl c1<|z8 rfl rfl c1<|z2 (zw (v := .bool _) rfl c1 rfl)<|z6 ?_
     exact ⟨_, ⟨rfl, rfl, rfl, rfl, rfl, rfl, rfl, rfl, rfl, rfl, trivial⟩, ⟨rfl, trivial⟩, ⟨_, (.refl _), rfl⟩, (decide_eq_false (by unfold isChk; have := of_decide_eq_false c1; omega)).symm⟩
   ·rintro u hu
    subst hu
    refine zt rfl (fun cc => ?_) (fun cc => ?_)
    ·have hlz := hlen z.op
     refine yq (γ := Unit) [3, 4, 10, 11, 12, 18, 19, 20] (fun u => []) (fun u => [(0, mnestO eP 109 b8 (ms z.op (mg z.op es ++ [((i : Int), (j : Int))]) es))]) (fun u => True) ?_ (fun _ _ h => h) ?_
     ·refine yb (fun j => false) (by kernel_rfl) rfl (y4 (.rest _))<|ze (i := 0) rfl (by kernel_rfl) (zc (v := mref _) rfl)<|ze (i := 1) rfl (by kernel_rfl) (zg underlying33 rfl sizeOf31 (by decide) rfl rfl)<|ze (i := 2) rfl (by kernel_rfl) (zf (c := .int _ _) isAgg31 rfl)<|ze (i := 3) rfl (by kernel_rfl) (zc (v := mref _) rfl)<|ze (i := 4) rfl (by kernel_rfl) (zg underlying33 rfl sizeOf31 (by decide) rfl rfl)<|ze (i := 5) rfl (by kernel_rfl) (zf (c := .int _ _) isAgg31 rfl)<|ze (i := 7) rfl (by kernel_rfl) (zc (v := .int _ _) rfl)<|ze (i := 8) rfl (by kernel_rfl) (zc (v := .int _ _) rfl)<|ze (i := 9) rfl (by kernel_rfl) (y9 (cps := [(0, [_]), (1, [_])]) (rs := [_, _]) pl109 rfl rfl rfl)<|yz (i := 6) (j := 10) rfl rfl (by kernel_rfl) ?_ ?_
      ·refine AOps.mapTake underlying178 underlying31 zeroValue102 rfl rfl .head<|fun i39 => z6<|zp (i := 10) rfl (by kernel_rfl)<|yf (rows := [[_, _]]) ps102_1 rfl rfl rfl rfl rfl<|z6<|zp (i := 11) rfl (by kernel_rfl)<|q8 (k := 2) underlying102 Tryz.type109 rfl rfl rfl rfl rfl (fun _ => .head) (by rw [eP.av_len]; rfl) (by decide) rfl (by show (_ + 1) * 16 ≤ _; omega) (by show _ + 1 ≤ _; omega)<|fun i44 => z6<|zp (i := 12) rfl (by kernel_rfl)<|AOps.mapPut (r := mg z.op es ++ [((i : Int), (j : Int))]) underlying178 underlying31 rfl rfl rfl .head .head rfl (eP.av_push (mg z.op es) ((i : Int), (j : Int))) (by rw [List.length_append]; rfl)<|z6<|ya (by kernel_rfl) ?_
       exact ⟨(), ⟨rfl, rfl, rfl, rfl, rfl, rfl, rfl, rfl, trivial⟩, trivial, ⟨_, (.refl _), rfl⟩, trivial⟩
      ·refine yf (rows := [[_, _]]) ps102_1 rfl rfl rfl rfl rfl<|z6<|zp (i := 6) rfl (by kernel_rfl)<|AOps.mapTake underlying178 underlying31 zeroValue102 rfl rfl .head<|fun i39 => z6<|zp (i := 11) rfl (by kernel_rfl)<|q8 (k := 2) underlying102 Tryz.type109 rfl rfl rfl rfl rfl (fun _ => .head) (by rw [eP.av_len]; rfl) (by decide) rfl (by show (_ + 1) * 16 ≤ _; omega) (by show _ + 1 ≤ _; omega)<|fun i44 => z6<|zp (i := 12) rfl (by kernel_rfl)<|AOps.mapPut (r := mg z.op es ++ [((i : Int), (j : Int))]) underlying178 underlying31 rfl rfl rfl .head .head rfl (eP.av_push (mg z.op es) ((i : Int), (j : Int))) (by rw [List.length_append]; rfl)<|z6<|ya (by kernel_rfl) ?_
       exact ⟨(), ⟨rfl, rfl, rfl, rfl, rfl, rfl, rfl, rfl, trivial⟩, trivial, ⟨_, (.refl _), rfl⟩, trivial⟩
     ·rintro _ _
      refine z7 rfl<|z2 (yi rfl rfl (by unfold I64; omega))<|z2 (zc (v := .int _ _) rfl)<|z6 ?_
      exact ⟨(j + 1, ms z.op (mg z.op es ++ [((i : Int), (j : Int))]) es), ⟨rfl, rfl, rfl, rfl, rfl, rfl, rfl, trivial⟩, ⟨rfl, trivial⟩, ⟨_, (.refl _), rfl⟩, ⟨hj2, fun q => by rw [hstep, mg_ms]; by_cases e : q = z.op; rw [if_pos e, if_pos ⟨e ▸ cc, e.symm⟩, e]; rw [if_neg e, if_neg (fun h : isChk q ∧ z.op = q => e h.2.symm), List.append_nil]⟩, by dsimp only; omega⟩
    ·refine zk<|z7 rfl<|z2 (yi rfl rfl (by unfold I64; omega))<|z2 (zc (v := .int _ _) rfl)<|z6 ?_
     exact ⟨(j + 1, es), ⟨rfl, rfl, rfl, rfl, rfl, rfl, rfl, trivial⟩, ⟨rfl, trivial⟩, ⟨_, (.refl _), rfl⟩, ⟨hj2, fun q => by rw [hstep, if_neg (fun h : isChk q ∧ z.op = q => cc (h.2 ▸ h.1)), List.append_nil]⟩, by dsimp only; omega⟩
  ·have hjn : j = b.insts.length := by simp at cj; omega
   subst hjn
   refine yg<|z7 rfl<|z2 (yi rfl rfl (by unfold I64; omega))<|z2 (zc (v := .int _ _) rfl)<|z6 ?_
   exact ⟨(i + 1, es), ⟨rfl, rfl, rfl, trivial⟩, ⟨rfl, trivial⟩, ⟨_, (.refl _), rfl⟩, ⟨hi2, fun q => by rw [hes q, List.take_length, plTo_succ q hi2, hbi]⟩, by dsimp only; omega⟩
 ·have hin : i = f.blocks.length := by simp at ci; omega
  subst hin
  refine yg<|yw (GStep.mapKnow .head)<|za<|z7 rfl<|z2 (zc (v := mref _) rfl)<|z2 (zd (v := mref _) rfl)<|z6<|zj<|zx (x := mref _) rfl ?_
  exact ⟨(b8, es), rfl, ⟨_, .refl _, rfl⟩, hes⟩
def lookR (f : PFunc) (x : AV) (O : OL) : Prop := ∃ iv : Nat, x = .tup [.po iv 0, .int .i64 0] ∧ O = [(iv, .cells 125 (viewL f (chkL f) (.raw (.slice none 0 0))))]
theorem look_bad (f : PFunc) (hf : small f) (hL : Letters E) (h : (typedB f && singB f) = false) : AFun Tryz.prog E 67 [.agg (encF f)] (.tup [.raw (.pointer none), .int .i64 3]) := by
 have hR := SingRight_spec (E := E) f hf hL
 rw [h] at hR
 refine zy func67 rfl (by decide) rfl<|za<|z7 rfl<|yc (cs := _) rfl rfl rfl<|z2 (zd (v := .raw _) rfl)<|z2 (zd (v := .int _ _) rfl)<|z6<|za<|za<|z7 rfl<|z2 (zo isAgg26 sizeOf26 rfl rfl)<|zh (hR) rfl<|z2 (zd (v := .int _ _) rfl)<|z6<|za<|z7 rfl<|z2 (zc (v := .int _ _) rfl)<|z2 (yx rfl rfl)<|z6<|q6 rfl rfl<|za<|z7 rfl<|z2 (zc (v := .int _ _) rfl)<|z2 (zd (v := .raw _) rfl)<|z2 (zd (v := .int _ _) rfl)<|z6<|zj<|qk (x := .raw _) (y := .int _ _) rfl rfl ?_
 rfl
set_option maxHeartbeats 8000000 in
theorem look_ok (f : PFunc) (hf : small f) (hL : Letters E) (h : (typedB f && singB f) = true) : ACall Tryz.prog E 67 [.agg (encF f)] [] (lookR f) := by
 have hn := hf.2.2.1
 have hvn := hf.1
 have hR := SingRight_spec (E := E) f hf hL
 rw [h] at hR
 have ht := (and3 h).1
 have hs := (and3 h).2
 have hE := typedB_ends ht
 have hS := typedB_shaped ht
 have honce : OnceP f := (onceB_iff f).1 (by unfold singB at hs; simp only [Bool.and_eq_true] at hs; exact hs.2.2.1)
 refine ACall.exact (γ := Nat) (x := fun iv => .tup [.po iv 0, .int .i64 0]) (M := fun iv => [(iv, .cells 125 (viewL f (chkL f) (.raw (.slice none 0 0))))]) (p := fun _ => True) ?_ |>.mono fun x O ⟨iv, h1, h2, _⟩ => ⟨iv, h1, h2⟩
 refine zy func67 rfl (by decide) rfl<|za<|z7 rfl<|yc (cs := _) rfl rfl rfl<|z2 (zd (v := .raw _) rfl)<|z2 (zd (v := .int _ _) rfl)<|z6<|za<|za<|z7 rfl<|z2 (zo isAgg26 sizeOf26 rfl rfl)<|zh (hR) rfl<|z2 (zd (v := .int _ _) rfl)<|z6<|za<|z7 rfl<|z2 (zc (v := .int _ _) rfl)<|z2 (yx rfl rfl)<|z6<|q4 rfl rfl<|zk<|za<|z7 rfl<|z2 (zo isAgg26 sizeOf26 rfl rfl)<|zh (New_spec f hf hL ht) rfl<|z2 (zc (v := .tup _) rfl)<|z2 (yr (v := .pf _) rfl rfl)<|z2 (yr (v := .int _ _) rfl rfl)<|z2 (zd (v := .pf _) rfl)<|z2 (zd (v := .int _ _) rfl)<|z6<|za<|za<|z7 rfl<|z2 (zc (v := .int _ _) rfl)<|z2 (yx rfl rfl)<|z6<|q4 rfl rfl<|zk<|za<|yq (γ := Nat × Nat) [1, 5] (fun z => [(7, .po z.1 0)]) (fun z => [(z.1, .cells 125 (encF f ++ [.fro 2 ((makersT f).map eP.row), .own z.2 f.vars.length, .raw (.slice none 0 0)])), (z.2, .grow 1 4 (cB (List.replicate f.vars.length false)))]) (fun z => True) ?_ (fun _ _ h => h) ?_
 ·refine yb (fun j => false) (by kernel_rfl) rfl (y4 (.rest _))<|ze (i := 0) rfl (by kernel_rfl) (zo isAgg26 sizeOf26 rfl rfl)<|ze (i := 1) rfl (by kernel_rfl) (zo isAgg26 sizeOf26 rfl rfl)<|ze (i := 3) rfl (by kernel_rfl) (zg underlying26 rfl sizeOf22 (by decide) rfl rfl)<|ze (i := 4) rfl (by kernel_rfl) (zf (c := .fro _ _) isAgg22 rfl)<|ze (i := 5) rfl (by kernel_rfl) (yd underlying22 rfl)<|yz (i := 2) (j := 6) rfl rfl (by kernel_rfl) ?_ ?_
  ·refine zh (Makers_spec f hf hL ht) rfl<|z6<|zp (i := 6) rfl (by kernel_rfl)<|AOps.makeB (m := f.vars.length) underlying111 Tryz.type4 rfl rfl rfl rfl rfl (by simp) (by simp) (by show (1 : Int) * _ ≤ _; omega) (by omega)<|fun i35 => z6<|ze (i := 7) rfl (by kernel_rfl) (y9 (cps := [(0, [_, _, _]), (1, [_]), (2, [_])]) (rs := [_, _, _, _, _, .raw (.slice none 0 0)]) pl125 rfl rfl rfl)<|zp (i := 8) rfl (by kernel_rfl)<|yv (cs := _) rfl rfl rfl rfl<|fun i37 => z6<|ze (i := 9) rfl (by kernel_rfl) (zd (v := .po _ _) rfl)<|ya (by kernel_rfl) ?_
   exact ⟨(i37, i35), ⟨rfl, rfl, trivial⟩, ⟨rfl, trivial⟩, ⟨_, (.refl _), rfl⟩, trivial⟩
  ·refine AOps.makeB (m := f.vars.length) underlying111 Tryz.type4 rfl rfl rfl rfl rfl (by simp) (by simp) (by show (1 : Int) * _ ≤ _; omega) (by omega)<|fun i35 => z6<|zp (i := 2) rfl (by kernel_rfl)<|zh (Makers_spec f hf hL ht) rfl<|z6<|ze (i := 7) rfl (by kernel_rfl) (y9 (cps := [(0, [_, _, _]), (1, [_]), (2, [_])]) (rs := [_, _, _, _, _, .raw (.slice none 0 0)]) pl125 rfl rfl rfl)<|zp (i := 8) rfl (by kernel_rfl)<|yv (cs := _) rfl rfl rfl rfl<|fun i37 => z6<|ze (i := 9) rfl (by kernel_rfl) (zd (v := .po _ _) rfl)<|ya (by kernel_rfl) ?_
   exact ⟨(i37, i35), ⟨rfl, rfl, trivial⟩, ⟨rfl, trivial⟩, ⟨_, (.refl _), rfl⟩, trivial⟩
 ·rintro ⟨iv, ck⟩ _
  refine za<|z7 rfl<|z2 (zo isAgg26 sizeOf26 rfl rfl)<|yk rfl (y4 (.r (.r (.rest _)))) (checks_spec f hf) ?_
  rintro r39 O39 ⟨⟨mb, es⟩, rfl, rfl, hes⟩
  refine z2 (zd (v := mref _) rfl)<|z6<|za<|za<|z7 rfl<|z2 (zg underlying26 rfl sizeOf24 (by decide) rfl rfl)<|z2 (zf (c := .fro _ _) isAgg24 rfl)<|z2 (yd underlying24 rfl)<|z2 (zc (v := .int _ _) rfl)<|z6<|yw (zl (zr (.tail (.tail .head))))<|yw (zl (zr (.tail (.tail .head))))<|zq<|yh (γ := Nat × List Bool) [1, 5, 7, 8, 41, 42] (fun g => [(43, .int .i64 g.1)]) (fun g => [(iv, .cells 125 (encF f ++ [.fro 2 ((makersT f).map eP.row), .own ck f.vars.length, .raw (.slice none 0 0)])), (ck, .grow 1 4 (cB g.2)), (0, mfroO eP mb es)]) (fun g => g.1 ≤ f.blocks.length ∧ g.2.length = f.vars.length ∧ ∀ v : Nat, v < f.vars.length → (gb g.2 v = true ↔ Done f g.1 0 v)) (fun g => f.blocks.length - g.1) (0, List.replicate f.vars.length false) ⟨rfl, trivial⟩ ⟨_, (.refl _), rfl⟩ (⟨Nat.zero_le _, by simp, fun v hv => by rw [gb_nat, List.getElem?_replicate, if_pos hv]; simpa using Done.zero f v⟩) ?_
  rintro ⟨i, L⟩ ⟨hi, hLl, hLd⟩
  try dsimp only at *
  refine za<|z7 rfl<|z2 (yj rfl rfl)<|z6<|za<|zt rfl (fun ci => ?_) (fun ci => ?_)
  ·have hi2 : i < f.blocks.length := by simp at ci; omega
   obtain ⟨b, hbi⟩ : ∃ b, f.blocks[i] = b := ⟨_, rfl⟩
   have hget : f.blocks[i]? = some b := by rw [List.getElem?_eq_getElem hi2, hbi]
   have hmem : b ∈ f.blocks := hbi ▸ List.getElem_mem hi2
   obtain ⟨hb0, hb1, hb2, hb3, hb4⟩ := hf.2.2.2.2 b hmem
   obtain ⟨hPh, hIn, hTm⟩ := hS.2.2.2.2.2 b hmem
   refine zk<|za<|zq<|za<|z7 rfl<|z2 (zc (v := .int _ _) rfl)<|z2 (y7 (j := i) underlying24 sizeOf66 rfl rfl rfl hget)<|z2 (zo isAgg66 sizeOf66 rfl rfl)<|y1 (cs := [.str ⟨#[]⟩, .raw (.slice none 0 0), .raw (.slice none 0 0), .int .i64 0, .int .i64 0, .int .i64 0, .int .i64 0]) zeroValue66 rfl rfl<|fun i10 => z2 (zd (v := .int _ _) rfl)<|zi sizeOf66 rfl rfl rfl rfl rfl rfl .head rfl<|zn (yp (t := 10) rfl .head)<|z6<|za<|z7 rfl<|z2 (zg underlying66 rfl sizeOf60 (by decide) rfl rfl)<|z2 (zf (c := .fro _ _) isAgg60 rfl)<|z2 (yd underlying60 rfl)<|z2 (zc (v := .int _ _) rfl)<|z6<|zq<|yh (γ := Nat × List Bool) [1, 5, 7, 8, 9, 41, 42, 43, 49, 50] (fun g => [(51, .int .i64 g.1)]) (fun g => [(iv, .cells 125 (encF f ++ [.fro 2 ((makersT f).map eP.row), .own ck f.vars.length, .raw (.slice none 0 0)])), (ck, .grow 1 4 (cB g.2)), (0, mfroO eP mb es)]) (fun g => g.1 ≤ b.insts.length ∧ g.2.length = f.vars.length ∧ ∀ v : Nat, v < f.vars.length → (gb g.2 v = true ↔ Done f i g.1 v)) (fun g => b.insts.length - g.1) (0, L) ⟨rfl, trivial⟩ ⟨_, (.refl _), rfl⟩ (⟨Nat.zero_le _, hLl, hLd⟩) ?_
   rintro ⟨j, L⟩ ⟨hj, hLl, hLd⟩
   try dsimp only at *
   refine za<|z7 rfl<|z2 (yj rfl rfl)<|z6<|za<|zt rfl (fun cj => ?_) (fun cj => ?_)
   ·have hj2 : j < b.insts.length := by simp at cj; omega
    obtain ⟨z, hz⟩ : ∃ z, b.insts[j] = z := ⟨_, rfl⟩
    have hzg : b.insts[j]? = some z := by rw [List.getElem?_eq_getElem hj2, hz]
    have hzm : z ∈ b.insts := hz ▸ List.getElem_mem hj2
    have hI := instP_F (hIn z hzm)
    have hzl := hb4 z hzm
    have hstep := fun v : Int => Done.step (f := f) hget hzg v
    have hmq := hes (matchQ z.op)
    obtain ⟨ps, hps⟩ : ∃ ps, mg (matchQ z.op) es = ps := ⟨_, rfl⟩
    have hpl : ps.length ≤ 2000000 := by
     have := plTo_len (f := f) (q := matchQ z.op) (fun b hb => (hf.2.2.2.2 b hb).2.2.1) f.blocks.length (Nat.le_refl _)
     rw [← hps, hmq]; omega
    have hcx : chkX f z i j = true ↔ ∃ m ∈ ps, hitB f z i j m = true := by rw [chkX_iff, ← hps, hmq]
    have hpm : ∀ m ∈ ps, ∃ (i' k' : Nat) (b' : PBlock) (c : PInst), f.blocks[i']? = some b' ∧ b'.insts[k']? = some c ∧ m = ((i' : Int), (k' : Int)) ∧ 0 ≤ z.dst ∧ z.dst.toNat < f.vars.length := fun m hm => by
     rw [← hps, hmq] at hm
     obtain ⟨hq, i', k', b', c, g1, g2, g3, g4⟩ := mem_plTo.1 hm
     have hso : z.op = 2 ∨ z.op = 3 ∨ z.op = 4 := Classical.byContradiction fun hno => by
      unfold matchQ at hq; rw [if_neg hno] at hq; unfold isChk at hq; omega
     rcases hI.dst with ⟨d1, _⟩ | ⟨_, _, d3⟩
     ·rw [makesB_sum hso] at d1; cases d1
     ·have := hasV_rng d3
      exact ⟨i', k', b', c, g1, g2, g4, this.1, by omega⟩
    refine zk<|za<|zq<|za<|z7 rfl<|z2 (zc (v := .int _ _) rfl)<|z2 (y7 (j := j) underlying60 sizeOf33 rfl rfl rfl hzg)<|z2 (zo isAgg33 sizeOf33 rfl rfl)<|y1 (cs := [.int .i64 0, .int .i64 0, .raw (.slice none 0 0), .int .i64 0]) zeroValue33 rfl rfl<|fun i12 => z2 (zd (v := .int _ _) rfl)<|zi sizeOf33 rfl rfl rfl rfl rfl rfl .head rfl<|zn (yp (t := 12) rfl .head)<|z6<|za<|z7 rfl<|z2 (zc (v := mref _) rfl)<|z2 (zg underlying33 rfl sizeOf31 (by decide) rfl rfl)<|z2 (zf (c := .int _ _) isAgg31 rfl)<|zh (matching_spec z.op) rfl<|z2 (Gv.lookupF underlying178 underlying31 zeroValue102 rfl rfl ⟨_, (.tail (.tail .head))⟩)<|z2 (yd underlying102 rfl)<|z2 (zc (v := .int _ _) rfl)<|z6 ?_
    rw [hps]
    refine zq<|yh (γ := Nat × List Bool) [1, 5, 7, 8, 9, 11, 12, 41, 42, 43, 49, 50, 51, 60, 61] (fun g => [(62, .int .i64 g.1)]) (fun g => [(iv, .cells 125 (encF f ++ [.fro 2 ((makersT f).map eP.row), .own ck f.vars.length, .raw (.slice none 0 0)])), (ck, .grow 1 4 (cB g.2)), (0, mfroO eP mb es)]) (fun g => g.1 ≤ ps.length ∧ g.2.length = f.vars.length ∧ ∀ v : Nat, v < f.vars.length → (gb g.2 v = true ↔ Done f i j v ∨ ((v : Int) = z.dst ∧ ∃ m ∈ ps.take g.1, hitB f z i j m = true))) (fun g => ps.length - g.1) (0, L) ⟨rfl, trivial⟩ ⟨_, (.refl _), rfl⟩ (⟨Nat.zero_le _, hLl, fun v hv => by rw [hLd v hv]; simp⟩) ?_
    rintro ⟨q, L⟩ ⟨hq, hLl, hLd⟩
    try dsimp only at *
    refine za<|z7 rfl<|z2 (yj rfl rfl)<|z6<|za<|zt rfl (fun cq => ?_) (fun cq => ?_)
    ·have hq2 : q < ps.length := by simp at cq; omega
     obtain ⟨m, hm⟩ : ∃ m, ps[q] = m := ⟨_, rfl⟩
     obtain ⟨i', k', b', c, g1, g2, rfl, hz0, hz1⟩ := hpm m (hm ▸ List.getElem_mem hq2)
     have hcl := (hf.2.2.2.2 b' (List.mem_of_getElem? g1)).2.2.2.2 c (List.mem_of_getElem? g2)
     have htk : ∀ P : Plc → Prop, (∃ m ∈ ps.take (q + 1), P m) ↔ (∃ m ∈ ps.take q, P m) ∨ P ((i' : Int), (k' : Int)) := fun P => by
      rw [List.take_succ_eq_append_getElem hq2, hm]
      simp only [List.mem_append, List.mem_singleton]
      constructor
      ·rintro ⟨m, h | rfl, hp⟩
       ·exact .inl ⟨m, h, hp⟩
       ·exact .inr hp
      ·rintro (⟨m, h, hp⟩ | hp)
       ·exact ⟨m, .inl h, hp⟩
       ·exact ⟨_, .inr rfl, hp⟩
     have hhit : hitB f z i j ((i' : Int), (k' : Int)) = (decide (c.args = z.args) && aheadB f ((i' : Int), (k' : Int)) i j) := by unfold hitB; rw [instAt_nat g1 g2]; rfl
     refine zk<|za<|zq<|za<|z7 rfl<|z2 (y7 (j := q) underlying102 sizeOf109 rfl rfl rfl (by rw [List.getElem?_eq_getElem hq2, hm])) ?_
     refine z2 (zo isAgg109 sizeOf109 rfl rfl)<|y1 (cs := [.int .i64 0, .int .i64 0]) zeroValue109 rfl rfl<|fun i14 => zi sizeOf109 rfl rfl rfl rfl rfl rfl .head rfl<|zn (yp (t := 14) rfl .head)<|z6<|za<|yb (fun j => false) (by kernel_rfl) rfl (y4 (.rest _))<|ze (i := 0) rfl (by kernel_rfl) (zg underlying26 rfl sizeOf24 (by decide) rfl rfl)<|ze (i := 1) rfl (by kernel_rfl) (zf (c := .fro _ _) isAgg24 rfl)<|ze (i := 2) rfl (by kernel_rfl) (zg underlying109 rfl sizeOf3 (by decide) rfl rfl)<|ze (i := 3) rfl (by kernel_rfl) (zf (c := .int _ _) isAgg3 rfl)<|ze (i := 4) rfl (by kernel_rfl) (y7 (j := i') underlying24 sizeOf66 rfl rfl rfl g1)<|ze (i := 5) rfl (by kernel_rfl) (zg underlying66 rfl sizeOf60 (by decide) rfl rfl)<|ze (i := 6) rfl (by kernel_rfl) (zf (c := .fro _ _) isAgg60 rfl)<|ze (i := 7) rfl (by kernel_rfl) (zg underlying109 rfl sizeOf3 (by decide) rfl rfl)<|ze (i := 8) rfl (by kernel_rfl) (zf (c := .int _ _) isAgg3 rfl)<|ze (i := 9) rfl (by kernel_rfl) (y7 (j := k') underlying60 sizeOf33 rfl rfl rfl g2)<|ze (i := 10) rfl (by kernel_rfl) (zo isAgg33 sizeOf33 rfl rfl)<|zp (i := 11) rfl (by kernel_rfl)<|y1 (cs := [.int .i64 0, .int .i64 0, .raw (.slice none 0 0), .int .i64 0]) zeroValue33 rfl rfl<|fun i15 => z6<|zp (i := 12) rfl (by kernel_rfl)<|zi sizeOf33 rfl rfl rfl rfl rfl rfl .head rfl<|z6<|ya (by kernel_rfl)<|yw (yp (t := 15) rfl .head)<|za<|yq (γ := Bool) [1, 5, 7, 8, 9, 11, 12, 41, 42, 43, 49, 50, 51, 60, 61, 62] (fun u => [(88, .bool u)]) (fun u => [(iv, .cells 125 (encF f ++ [.fro 2 ((makersT f).map eP.row), .own ck f.vars.length, .raw (.slice none 0 0)])), (ck, .grow 1 4 (cB L)), (0, mfroO eP mb es)]) (fun u => u = hitB f z i j ((i' : Int), (k' : Int))) ?_ (fun _ _ h => h) ?_
     ·refine z7 rfl<|z2 (zg underlying33 rfl sizeOf23 (by decide) rfl rfl)<|z2 (zf (c := .fro _ _) isAgg23 rfl)<|z2 (zg underlying33 rfl sizeOf23 (by decide) rfl rfl)<|z2 (zf (c := .fro _ _) isAgg23 rfl)<|zh (equalI_spec c.args z.args (by unfold okL; omega)) rfl<|z2 (zc (v := .bool _) rfl)<|zz (s := 82) rfl (fun c1 => ?_) (fun c1 => ?_)
      ·refine zb rfl rfl c1<|z2 (zc (v := .pf _) rfl)<|zb rfl rfl c1<|z2 (zo isAgg109 sizeOf109 rfl rfl)<|zb rfl rfl c1<|z2 (zc (v := .int _ _) rfl)<|zb rfl rfl c1<|z2 (zc (v := .int _ _) rfl)<|zb rfl rfl c1<|zh (ahead_spec f hE hn ((i' : Int), (k' : Int)) i j (froN eI (kidsR f)) .any) rfl<|z2 (zu (v := .bool _) rfl c1 rfl)<|z6 ?_
       exact ⟨_, ⟨rfl, rfl, rfl, rfl, rfl, rfl, rfl, rfl, rfl, rfl, rfl, rfl, rfl, rfl, rfl, rfl, trivial⟩, ⟨rfl, trivial⟩, ⟨_, (.refl _), rfl⟩, by rw [hhit, show decide (c.args = z.args) = true from c1]; rfl⟩
      ·refine z8 rfl rfl c1<|z8 rfl rfl c1<|z8 rfl rfl c1<|z8 rfl rfl c1<|z8 rfl rfl c1<|z2 (zw (v := .bool _) rfl c1 rfl)<|z6 ?_
       exact ⟨_, ⟨rfl, rfl, rfl, rfl, rfl, rfl, rfl, rfl, rfl, rfl, rfl, rfl, rfl, rfl, rfl, rfl, trivial⟩, ⟨rfl, trivial⟩, ⟨_, (.refl _), rfl⟩, by rw [hhit, show decide (c.args = z.args) = false from c1]; rfl⟩
     ·rintro u hu
      subst hu
      refine y8 rfl (fun ch => ?_) (fun ch => ?_)
      ·refine yb (fun j => Nat.beq j 7) (by kernel_rfl) rfl (y4 (.r (.r (.rest _))))<|ze (i := 0) rfl (by kernel_rfl) (zc (v := .po _ _) rfl)<|ze (i := 1) rfl (by kernel_rfl) (q3 rfl)<|ze (i := 2) rfl (by kernel_rfl) (y3 underlying125 rfl sizeOf111 (by decide) rfl rfl)<|ze (i := 3) rfl (by kernel_rfl) (y5 (c := .own _ _) isAgg111 rfl ⟨_, .head⟩ rfl)<|ze (i := 4) rfl (by kernel_rfl) (zg underlying33 rfl sizeOf3 (by decide) rfl rfl)<|ze (i := 5) rfl (by kernel_rfl) (zf (c := .int _ _) isAgg3 rfl)<|ze (i := 6) rfl (by kernel_rfl) (q9 (j := z.dst.toNat) underlying111 sizeOf4 rfl rfl (by omega) ⟨_, (.tail .head)⟩ (by rw [cB_len]; exact hLl) hz1)<|yy<|q5 (i := 7) rfl (by kernel_rfl) (by kernel_rfl)<|AOps.storeB (j := z.dst.toNat) sizeOf4 rfl rfl (.tail .head) (by omega)<|z6<|q0 (by kernel_rfl)<|z7 rfl<|z2 (yi rfl rfl (by unfold I64; omega))<|z2 (zc (v := .int _ _) rfl)<|z6 ?_
       exact ⟨(q + 1, L.set z.dst.toNat true), ⟨rfl, rfl, rfl, rfl, rfl, rfl, rfl, rfl, rfl, rfl, rfl, rfl, rfl, rfl, rfl, trivial⟩, ⟨rfl, trivial⟩, ⟨_, (.refl _), rfl⟩, ⟨hq2, by rw [List.length_set]; exact hLl, fun v hv => by rw [gb_set2 (by omega), hLd v hv, htk, ch]; constructor; (rintro (h | h | h); exact .inr ⟨by omega, .inr rfl⟩; exact .inl h; exact .inr ⟨h.1, .inl h.2⟩); (rintro (h | ⟨h1, h2⟩); exact .inr (.inl h); exact .inl (by omega))⟩, by dsimp only; omega⟩
      ·refine zk<|z7 rfl<|z2 (yi rfl rfl (by unfold I64; omega))<|z2 (zc (v := .int _ _) rfl)<|z6 ?_
       exact ⟨(q + 1, L), ⟨rfl, rfl, rfl, rfl, rfl, rfl, rfl, rfl, rfl, rfl, rfl, rfl, rfl, rfl, rfl, trivial⟩, ⟨rfl, trivial⟩, ⟨_, (.refl _), rfl⟩, ⟨hq2, hLl, fun v hv => by rw [hLd v hv, htk]; simp [show hitB f z i j ((i' : Int), (k' : Int)) = false from ch]⟩, by dsimp only; omega⟩
    ·have hqn : q = ps.length := by simp at cq; omega
     subst hqn
     refine yg<|z7 rfl<|z2 (yi rfl rfl (by unfold I64; omega))<|z2 (zc (v := .int _ _) rfl)<|z6 ?_
     exact ⟨(j + 1, L), ⟨rfl, rfl, rfl, rfl, rfl, rfl, rfl, rfl, rfl, rfl, trivial⟩, ⟨rfl, trivial⟩, ⟨_, (.refl _), rfl⟩, ⟨hj2, hLl, fun v hv => by rw [hLd v hv, List.take_length, hstep, hcx]⟩, by dsimp only; omega⟩
   ·have hjn : j = b.insts.length := by simp at cj; omega
    subst hjn
    refine yg<|z7 rfl<|z2 (yi rfl rfl (by unfold I64; omega))<|z2 (zc (v := .int _ _) rfl)<|z6 ?_
    exact ⟨(i + 1, L), ⟨rfl, rfl, rfl, rfl, rfl, rfl, trivial⟩, ⟨rfl, trivial⟩, ⟨_, (.refl _), rfl⟩, ⟨hi2, hLl, fun v hv => by rw [hLd v hv, Done.next hget]⟩, by dsimp only; omega⟩
  ·have hin : i = f.blocks.length := by simp at ci; omega
   subst hin
   have hLe := chkL_eq honce hLl hLd
   subst hLe
   refine yg<|yw (GStep.knowBC (off := 4) (.tail .head) .head rfl (chkL_len f))<|za<|z7 rfl<|z2 (zc (v := .po _ _) rfl)<|z2 (zd (v := .po _ _) rfl)<|z2 (zd (v := .int _ _) rfl)<|z6<|zj<|qk (x := .po _ _) (y := .int _ _) rfl rfl ?_
   exact ⟨iv, rfl, ⟨_, .keep (.drop (.refl _)), rfl⟩, trivial⟩
end Go.Proofs.YtjnpcfpecilejaaGreatDoor
