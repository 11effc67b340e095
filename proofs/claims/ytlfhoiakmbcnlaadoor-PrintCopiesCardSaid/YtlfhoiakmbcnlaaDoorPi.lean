/- Lines: the printer's is the document's. No conditions but bounds. -/
import Derived.Test.YtlfhoiakmbcnlaaDoorPh
namespace Go.Proofs.YtlfhoiakmbcnlaaDoor
open Go.Proofs Go.Lib Go.Shelf Go.RowKit

set_option maxRecDepth 20000
variable {E : World}

/-! ### The plain law -/
theorem joinTail_app (sep a : List UInt8) (r : List (List UInt8)) : Lib.joinTail sep (r ++ [a]) = Lib.joinTail sep r ++ sep ++ a := by
  induction r with
  | nil => simp [Lib.joinTail]
  | cons x r ih =>
    have h3 : ∀ r, Lib.joinTail sep (x :: r) = sep ++ x ++ Lib.joinTail sep r := fun r => rfl
    rw [List.cons_append, h3, h3, ih]; simp
theorem joinS_app (w : ByteArray) (ws : List ByteArray) (a : ByteArray) : joinS ((w :: ws) ++ [a]) ⟨#[32]⟩ = (joinS (w :: ws) ⟨#[32]⟩ ++ spc) ++ a := by
  have hs : spc = strL [32] := rfl
  have ha : a = strL a.data.toList := by unfold strL; simp
  unfold joinS
  show strL _ = (strL _ ++ spc) ++ a
  rw [hs, ha, strL_app, strL_app]
  congr 1
  simp only [List.cons_append, List.map_cons, List.map_append, List.map_nil, Lib.join_cons]
  rw [joinTail_app]
  simp [strL]
theorem joinS_one (w : ByteArray) : joinS [w] ⟨#[32]⟩ = w := by
  unfold joinS; simp [Lib.join_cons, Lib.joinTail]
theorem rows_27 : ∀ r ∈ kindT, r.1 ≠ ⟨#[]⟩ := by decide
theorem word_ne {op : Int} (h : 0 ≤ op ∧ op ≤ 26) : (kRow op).1 ≠ ⟨#[]⟩ := by
  have hm : kRow op ∈ kindT := by
    unfold kRow
    rw [if_pos h.1, List.getElem?_eq_getElem (show _ < 27 by omega)]
    exact List.getElem_mem _
  exact rows_27 _ hm
theorem word_num : ∀ j : Nat, j < 27 → isNum (j : Int) = (decide ((kRow (j : Int)).1 = ⟨#[99, 111, 110, 115, 116]⟩) || decide ((kRow (j : Int)).1 = ⟨#[112, 105]⟩)) := by decide
theorem wordB_num {x : PInst} (h : 0 ≤ x.op ∧ x.op ≤ 26) : wordB x = isNum x.op := by
  have := word_num x.op.toNat (by omega)
  rw [Int.toNat_of_nonneg h.1] at this
  unfold wordB; exact this.symm
theorem takes_len (op : Int) : (takesL op).length = (kRow op).2.1.size := by unfold takesL; rw [List.length_map]; exact Array.length_toList
theorem bytes_nil (b : ByteArray) : b.data.toList.isEmpty = decide (b = ⟨#[]⟩) := by
  obtain ⟨⟨l⟩⟩ := b
  cases l <;> simp
theorem makesB_eq (op : Int) : makesB op = !decide ((kRow op).2.2 = ⟨#[]⟩) := by unfold makesB; rw [bytes_nil]
theorem kRow_none {op : Int} (h : ¬ (0 ≤ op ∧ op ≤ 26)) : kRow op = (⟨#[]⟩, ⟨#[]⟩, ⟨#[]⟩) := kRow_out (by unfold isOp; simp; omega)

theorem instOK_iff (f : PFunc) (x : PInst) : instOK f x = true ↔ InstP f x := by
  by_cases h : 0 ≤ x.op ∧ x.op ≤ 26
  · have hw := word_ne h
    have hn := wordB_num h
    unfold instOK inst1 inst2 InstP bad2
    rw [takes_len, makesB_eq, hn]
    by_cases h1 : x.args.length = (kRow x.op).2.1.size <;> by_cases h2 : (kRow x.op).2.2 = ⟨#[]⟩ <;> by_cases h3 : x.dst = -1 <;> by_cases h4 : x.num = 0 <;> by_cases h5 : x.args.all (hasV f) = true <;> simp_all [Int.ofNat_inj] <;> (try (unfold hasV; simp)) <;> (try grind)
  · constructor
    · intro h2
      have := kRow_none h
      unfold instOK inst1 at h2
      rw [this] at h2; simp at h2
    · intro h2; exact absurd ⟨h2.1, h2.2.1⟩ h

theorem line_eq {f : PFunc} {x : PInst} (h : InstP f x) : instLine f x = refLine f x := by
  have hop : 0 ≤ x.op ∧ x.op ≤ 26 := ⟨h.1, h.2.1⟩
  have hok := (instOK_iff f x).2 h
  unfold instLine
  rw [if_pos hok]
  have hb := h.2.2.1
  have hd : (kRow x.op).2.2 = ⟨#[]⟩ ↔ x.dst = -1 := by
    unfold bad2 at hb
    simp at hb
    have := hb.2.1
    by_cases h1 : (kRow x.op).2.2 = ⟨#[]⟩ <;> by_cases h2 : x.dst = -1 <;> simp_all
  have hdv : x.dst ≠ -1 → 0 ≤ x.dst := by
    intro h1
    unfold bad2 at hb
    simp at hb
    have := hb.2.2.1 h1
    unfold hasV at this; simp at this; exact this.1
  have h1 : ∃ w ws, words1 f x ++ [(kRow x.op).1] = w :: ws ∧ joinS (w :: ws) ⟨#[32]⟩ = refWord f x := by
    unfold words1 refWord
    by_cases h1 : x.dst = -1
    · rw [if_neg (by omega), if_pos (hd.2 h1)]; exact ⟨_, [], rfl, joinS_one _⟩
    · rw [if_pos (hdv h1), if_neg (fun e => h1 (hd.1 e))]
      refine ⟨vname f x.dst, [⟨#[61]⟩, (kRow x.op).1], rfl, ?_⟩
      have e1 := joinS_app (vname f x.dst) [⟨#[61]⟩] (kRow x.op).1
      have e2 := joinS_app (vname f x.dst) [] ⟨#[61]⟩
      simp only [List.cons_append, List.nil_append] at e1 e2
      rw [e1, e2, joinS_one]
      have e3 : spc = strL [32] := rfl
      have e4 : (⟨#[32, 61, 32]⟩ : ByteArray) = strL [32, 61, 32] := rfl
      have e5 : (⟨#[61]⟩ : ByteArray) = strL [61] := rfl
      have ha : vname f x.dst = strL (vname f x.dst).data.toList := by unfold strL; simp
      rw [e3, e4, e5, ha, strL_app, strL_app, strL_app, strL_app]; simp
  have h2 : ∀ k, k ≤ x.args.length → ∃ w ws, words2 f x k = w :: ws ∧ joinS (w :: ws) ⟨#[32]⟩ = refArgs f x k := by
    intro k
    induction k with
    | zero => intro _; obtain ⟨w, ws, e1, e2⟩ := h1; exact ⟨w, ws, by unfold words2; simpa using e1, by rw [e2]; rfl⟩
    | succ k ih =>
      intro hk
      obtain ⟨w, ws, e1, e2⟩ := ih (by omega)
      refine ⟨w, ws ++ [vname f x.args[k]], by rw [words2_succ f x hk, e1]; rfl, ?_⟩
      rw [← List.cons_append, joinS_app, e2, refArgs_succ f x hk]
  obtain ⟨w, ws, e1, e2⟩ := h2 x.args.length (Nat.le_refl _)
  unfold wordsOf refLine
  rw [e1, wordB_num hop]
  by_cases hn : isNum x.op = true
  · rw [if_pos hn, if_pos hn, joinS_app, e2]; rfl
  · rw [if_neg hn, if_neg hn, List.append_nil, e2]

/-- The program of one block, of one instruction. -/
def only (f : PFunc) (x : PInst) : PFunc := { f with blocks := [⟨⟨#[111, 110, 108, 121]⟩, [], [x], ⟨0, 0, 0, 0⟩⟩] }
theorem only_name : nameB ⟨#[111, 110, 108, 121]⟩ = true := by
  have h : ∀ p n, nameFrom ⟨#[111, 110, 108, 121]⟩ p n = if p < 4 then (if okRune (Utf8.decode ⟨#[111, 110, 108, 121]⟩ p).1 n then nameFrom ⟨#[111, 110, 108, 121]⟩ (p + (Utf8.decode ⟨#[111, 110, 108, 121]⟩ p).2) (n + 1) else false) else decide ((1 : Int) ≤ n) && decide ((n : Int) ≤ 16) := by
    intro p n
    rw [nameFrom]
    rfl
  unfold nameB
  rw [h, if_pos (by decide), if_pos (by kernel_rfl)]
  rw [show Utf8.decode ⟨#[111, 110, 108, 121]⟩ 0 = (111, 1) from by kernel_rfl]
  rw [h, if_pos (by decide), if_pos (by kernel_rfl)]
  rw [show Utf8.decode ⟨#[111, 110, 108, 121]⟩ (0 + 1) = (110, 1) from by kernel_rfl]
  rw [h, if_pos (by decide), if_pos (by kernel_rfl)]
  rw [show Utf8.decode ⟨#[111, 110, 108, 121]⟩ (0 + 1 + 1) = (108, 1) from by kernel_rfl]
  rw [h, if_pos (by decide), if_pos (by kernel_rfl)]
  rw [show Utf8.decode ⟨#[111, 110, 108, 121]⟩ (0 + 1 + 1 + 1) = (121, 1) from by kernel_rfl]
  rw [h, if_neg (by decide)]
  rfl
theorem instP_only (f : PFunc) (x : PInst) : InstP (only f x) x ↔ InstP f x := Iff.rfl
theorem only_iff {f : PFunc} (h : ShapedP f) (x : PInst) : ShapedP (only f x) ↔ InstP f x := by
  constructor
  · intro h2; exact (h2.2.2.2.2.2 _ (.head _)).2.1 x (.head _)
  · intro hx
    obtain ⟨h1, h2, h3, _⟩ := h
    refine ⟨?_, h2, h3, ?_, by simp [only, sumTo], ?_⟩
    · unfold bad1 at h1 ⊢
      simp only [Bool.or_eq_false_iff, decide_eq_false_iff_not] at h1 ⊢
      exact ⟨h1.1, h1.2.1, h1.2.2.1, by simp [only], by simp [only]⟩
    · intro i hi
      have : i = 0 := by simp [only] at hi; exact hi
      subst this
      exact ⟨only_name, by simp [only]⟩
    · intro b hb
      simp only [only, List.mem_singleton] at hb
      subst hb
      refine ⟨by simp, ?_, by simp [termOK, hasB, only]⟩
      intro y hy
      rw [List.mem_singleton.1 hy]; exact hx

/-- The program with another end of its first block. -/
def ended (f : PFunc) (b0 : PBlock) (bs : List PBlock) (t : PTerm) : PFunc := { f with blocks := { b0 with term := t } :: bs }
theorem ended_has {f : PFunc} {b0 : PBlock} {bs : List PBlock} (t : PTerm) (hb : f.blocks = b0 :: bs) : hasB (ended f b0 bs t) = hasB f := by
  funext v
  have : ((ended f b0 bs t).blocks.length : Int) = f.blocks.length := by rw [hb]; rfl
  unfold hasB; rw [this]
theorem ended_iff {f : PFunc} {b0 : PBlock} {bs : List PBlock} {t : PTerm} (h : ShapedP f) (hb : f.blocks = b0 :: bs) : ShapedP (ended f b0 bs t) ↔ termOK f t = true := by
  have hB := ended_has t hb
  have hV : hasV (ended f b0 bs t) = hasV f := rfl
  have hT : ∀ t', termOK (ended f b0 bs t) t' = termOK f t' := fun t' => by unfold termOK; rw [hB, hV]
  have hP : ∀ p, PhiP (ended f b0 bs t) p ↔ PhiP f p := fun p => by unfold PhiP; rw [hB, hV]
  have hX : ∀ x, InstP (ended f b0 bs t) x ↔ InstP f x := fun x => Iff.rfl
  obtain ⟨h1, h2, h3, h4, h5, h6⟩ := h
  constructor
  · intro h; have := (h.2.2.2.2.2 _ (.head _)).2.2; rw [hT] at this; exact this
  · intro ht
    refine ⟨?_, h2, h3, ?_, ?_, ?_⟩
    · unfold bad1 at h1 ⊢; rw [hb] at h1; exact h1
    · intro i hi
      have hi2 : i < f.blocks.length := by rw [hb]; simpa [ended] using hi
      have := h4 i hi2
      obtain ⟨g1, g2⟩ := this
      have hnames : (ended f b0 bs t).blocks.map (·.name) = f.blocks.map (·.name) := by rw [hb]; rfl
      have hn : (ended f b0 bs t).blocks[i].name = f.blocks[i].name := by
        have e1 : ((ended f b0 bs t).blocks.map (·.name))[i]? = some (ended f b0 bs t).blocks[i].name := by rw [List.getElem?_map, List.getElem?_eq_getElem hi]; rfl
        have e2 : (f.blocks.map (·.name))[i]? = some f.blocks[i].name := by rw [List.getElem?_map, List.getElem?_eq_getElem hi2]; rfl
        rw [hnames, e2] at e1; exact (Option.some.inj e1).symm
      refine ⟨by rw [hn]; exact g1, ?_⟩
      rw [hn, List.map_take, hnames, ← List.map_take]; exact g2
    · rw [hb] at h5; exact h5
    · intro b hbm
      simp only [ended, List.mem_cons] at hbm
      rcases hbm with rfl | hbm
      · obtain ⟨g1, g2, g3⟩ := h6 b0 (by rw [hb]; exact .head _)
        exact ⟨fun p hp => (hP p).2 (g1 p hp), fun x hx => (hX x).2 (g2 x hx), by rw [hT]; exact ht⟩
      · obtain ⟨g1, g2, g3⟩ := h6 b (by rw [hb]; exact .tail _ hbm)
        exact ⟨fun p hp => (hP p).2 (g1 p hp), fun x hx => (hX x).2 (g2 x hx), by rw [hT]; exact g3⟩
theorem size_ne {b : ByteArray} (h : 0 < b.size) : b ≠ ⟨#[]⟩ := fun e => by rw [e] at h; cases h
theorem termLine_ne (f : PFunc) (t : PTerm) : decide (termLine f t = ⟨#[]⟩) = !termOK f t := by
  unfold termLine
  by_cases h : termOK f t = true
  · rw [if_pos h, h]
    refine decide_eq_false (size_ne ?_)
    split
    · rw [app_size]; show 0 < 5 + _; omega
    · split
      · simp only [app_size]; have e1 : (⟨#[105, 102, 32]⟩ : ByteArray).size = 3 := rfl; omega
      · rw [app_size]; show 0 < 4 + _; omega
  · rw [if_neg h]
    have : termOK f t = false := by simpa using h
    rw [this]; rfl
end Go.Proofs.YtlfhoiakmbcnlaaDoor
