/- The greater of two. No conditions. -/
import Derived.Test.YtdkhlgiohpdihaaGreatDoorXj
import Derived.Test.YtdkhlgiohpdihaaGreatDoorXg
namespace Go.Proofs.YtdkhlgiohpdihaaGreatDoor
open Go.Proofs Go.Lib Go.Shelf Go.RowKit
set_option maxRecDepth 20000
def nameR : List Int → Bool
  | [] => false
  | c :: rs => letterC c && (rs.all innerC && decide (rs.length + 1 ≤ 16))
theorem letter_inner {c : Int} (h : letterC c = true) : innerC c = true := by unfold innerC; rw [h]; rfl
theorem nmGo_pos (s : ByteArray) : ∀ (n p : Nat), s.size - p ≤ n → 0 < p → p ≤ s.size → nmGo s p = ((runesFrom s p).all innerC && decide ((runesFrom s 0).length ≤ 16)) := by
  intro n
  induction n with
  | zero =>
    intro p h hp hps
    have hne : ¬ s = ⟨#[]⟩ := fun e => by subst e; have : p ≤ 0 := hps; omega
    rw [nmGo, dif_neg (by omega), runesFrom_ge (p := p) (by omega)]
    simp [hne]; omega
  | succ n ih =>
    intro p h hp hps
    by_cases hlt : p < s.size
    · have hd := (decode_ok s p).1
      have hw : p + (Utf8.decode s p).2 ≤ s.size := by
        have := decodeL_le (s.data.toList.drop p) (by intro e; have := congrArg List.length e; rw [List.length_drop] at this; have h2 : s.data.toList.length = s.size := Array.length_toList; simp only [List.length_nil] at this; omega)
        rw [decodeL_drop, List.length_drop] at this
        have h2 : s.data.toList.length = s.size := Array.length_toList
        omega
      rw [nmGo, dif_pos hlt, runesFrom_lt hlt, List.all_cons]
      have hp0 : decide (p = 0) = false := decide_eq_false (by omega)
      rw [hp0, Bool.false_and, Bool.false_or]
      cases hi : innerC ((Utf8.decode s p).1 : Int) with
      | false => simp
      | true => rw [if_neg (by simp), ih _ (by omega) (by omega) hw]; simp
    · have hne : ¬ s = ⟨#[]⟩ := fun e => by subst e; have : p ≤ 0 := hps; omega
      rw [nmGo, dif_neg hlt, runesFrom_ge (p := p) hlt]
      simp [hne]; omega
theorem step_le {s : ByteArray} {p : Nat} (hlt : p < s.size) : p + (Utf8.decode s p).2 ≤ s.size := by
  have h2 : s.data.toList.length = s.size := Array.length_toList
  have := decodeL_le (s.data.toList.drop p) (by intro e; have := congrArg List.length e; rw [List.length_drop] at this; simp only [List.length_nil] at this; omega)
  rw [decodeL_drop, List.length_drop] at this
  omega
theorem scanName_R (s : ByteArray) : scanName s = nameR (runesFrom s 0) := by
  unfold scanName
  by_cases hlt : 0 < s.size
  · have hd := (decode_ok s 0).1
    have hw := step_le hlt
    have hr := runesFrom_lt hlt
    have hl := congrArg List.length hr
    rw [List.length_cons] at hl
    rw [nmGo, dif_pos hlt]
    have h2 : nameR (runesFrom s 0) = (letterC ((Utf8.decode s 0).1 : Int) && ((runesFrom s (0 + (Utf8.decode s 0).2)).all innerC && decide ((runesFrom s (0 + (Utf8.decode s 0).2)).length + 1 ≤ 16))) := by rw [hr]; rfl
    rw [h2]
    cases hc : letterC ((Utf8.decode s 0).1 : Int) with
    | false => simp
    | true =>
      rw [letter_inner hc, if_neg (by simp), nmGo_pos s _ _ (Nat.le_refl _) (by omega) hw, hl]; rfl
  · rw [nmGo, dif_neg hlt, runesFrom_ge hlt]
    have : s = ⟨#[]⟩ := by
      have h2 : s.data.toList.length = s.size := Array.length_toList
      have h3 : s.data.toList = [] := List.eq_nil_of_length_eq_zero (by omega)
      rw [← strL_of s, h3]; rfl
    simp [this, nameR]
theorem cnt_end (k : Nat) : (decide ((1 : Int) ≤ ((k + 1 : Nat) : Int)) && decide (((k + 1 : Nat) : Int) ≤ 16)) = (([] : List Int).all innerC && decide (k + 1 + ([] : List Int).length ≤ 16)) := by
  rw [decide_eq_true (by omega), Bool.true_and]
  show _ = (true && _)
  rw [Bool.true_and, decide_eq_decide]
  show ((k + 1 : Nat) : Int) ≤ 16 ↔ k + 1 + 0 ≤ 16
  omega
theorem nameFrom_pos (s : ByteArray) : ∀ (n p k : Nat), s.size - p ≤ n → nameFrom s p (k + 1) = ((runesFrom s p).all innerC && decide (k + 1 + (runesFrom s p).length ≤ 16)) := by
  intro n
  induction n with
  | zero =>
    intro p k h
    rw [nameFrom, dif_neg (by omega), runesFrom_ge (by omega)]
    exact cnt_end k
  | succ n ih =>
    intro p k h
    by_cases hlt : p < s.size
    · have hd := (decode_ok s p).1
      rw [nameFrom, dif_pos hlt, runesFrom_lt hlt, List.all_cons]
      have ho : okRune ((Utf8.decode s p).1 : Int) (k + 1) = innerC ((Utf8.decode s p).1 : Int) := by
        unfold okRune innerC letterC digitC
        have : decide (((k + 1 : Nat) : Int) = 0) = false := decide_eq_false (by omega)
        rw [this]; simp [Bool.or_assoc]
      rw [ho]
      cases hi : innerC ((Utf8.decode s p).1 : Int) with
      | false => simp
      | true => rw [if_pos rfl, ih _ _ (by omega), Bool.true_and, List.length_cons]; congr 2; simp; omega
    · rw [nameFrom, dif_neg hlt, runesFrom_ge hlt]
      exact cnt_end k
theorem nameB_R (s : ByteArray) : nameB s = nameR (runesFrom s 0) := by
  unfold nameB
  by_cases hlt : 0 < s.size
  · rw [nameFrom, dif_pos hlt, runesFrom_lt hlt]
    have ho : okRune ((Utf8.decode s 0).1 : Int) 0 = letterC ((Utf8.decode s 0).1 : Int) := by unfold okRune letterC; simp
    rw [ho]
    show _ = (letterC ((Utf8.decode s 0).1 : Int) && _)
    cases hc : letterC ((Utf8.decode s 0).1 : Int) with
    | false => simp
    | true => rw [if_pos rfl, nameFrom_pos s _ _ _ (Nat.le_refl _), Bool.true_and]; congr 2; simp; omega
  · rw [nameFrom, dif_neg hlt, runesFrom_ge hlt]; rfl
theorem name_eq (s : ByteArray) : nameB s = scanName s := by rw [nameB_R, scanName_R]
theorem valid_runes (s : ByteArray) : ∀ (n p : Nat), s.size - p ≤ n → (∀ r ∈ runesFrom s p, r ≠ 65533) → validD (s.data.toList.drop p) = true := by
  have h2 : s.data.toList.length = s.size := Array.length_toList
  intro n
  induction n with
  | zero => intro p h _; rw [List.drop_eq_nil_of_le (by omega)]; rfl
  | succ n ih =>
    intro p h hr
    by_cases hlt : p < s.size
    · have hd := (decode_ok s p).1
      rw [runesFrom_lt hlt] at hr
      have hne : s.data.toList.drop p ≠ [] := fun e => by have := congrArg List.length e; rw [List.length_drop] at this; simp only [List.length_nil] at this; omega
      rw [validD_step _ hne, decodeL_drop, if_neg (by rintro ⟨h3, _⟩; exact hr _ (.head _) (by rw [h3]; rfl)), List.drop_drop]
      exact ih _ (by omega) fun r hm => hr r (.tail _ hm)
    · rw [List.drop_eq_nil_of_le (by omega)]; rfl
theorem low_letters : ∀ n : Nat, n < 65 → isLetterU (n : Int) = false := by decide
theorem inner_ge {c : Int} (h0 : 0 ≤ c) (h : innerC c = true) : (65 ≤ c ∨ (48 ≤ c ∧ c ≤ 57) ∨ c = 46) ∧ c ≠ 65533 := by
  unfold innerC at h
  have hl : letterC c = true → 65 ≤ c ∧ c ≠ 65533 := fun h1 => by
    unfold letterC at h1
    simp only [Bool.and_eq_true, Bool.not_eq_true', decide_eq_false_iff_not] at h1
    refine ⟨?_, h1.2⟩
    rcases Int.lt_or_le c 65 with h2 | h2
    · obtain ⟨n, rfl⟩ : ∃ n : Nat, c = n := ⟨c.toNat, by omega⟩
      rw [low_letters n (by omega)] at h1
      cases h1.1
    · exact h2
  rcases Bool.or_eq_true_iff.1 h with h1 | h1
  · have := hl h1; omega
  · unfold digitC at h1; simp at h1; omega
theorem name_runes {s : ByteArray} (h : scanName s = true) : ∃ rs, s = strL (encs rs) ∧ okL1 rs ∧ rs ≠ [] ∧ ∀ c ∈ rs, 0 ≤ c ∧ (65 ≤ c ∨ (48 ≤ c ∧ c ≤ 57) ∨ c = 46) := by
  rw [scanName_R] at h
  have hin : ∀ r ∈ runesFrom s 0, innerC r = true := by
    cases hr : runesFrom s 0 with
    | nil => simp
    | cons c rs =>
      rw [hr] at h
      unfold nameR at h
      simp only [Bool.and_eq_true, List.all_eq_true] at h
      intro r hm
      rcases List.mem_cons.1 hm with rfl | hm
      · exact letter_inner h.1
      · exact h.2.1 r hm
  have hpos : ∀ (n p : Nat), s.size - p ≤ n → ∀ r ∈ runesFrom s p, 0 ≤ r := by
    intro n
    induction n with
    | zero => intro p hp r hm; rw [runesFrom_ge (by omega)] at hm; cases hm
    | succ n ih =>
      intro p hp r hm
      by_cases hlt : p < s.size
      · have hd := (decode_ok s p).1
        rw [runesFrom_lt hlt] at hm
        rcases List.mem_cons.1 hm with rfl | hm
        · omega
        · exact ih _ (by omega) r hm
      · rw [runesFrom_ge hlt] at hm; cases hm
  have hp := hpos _ 0 (Nat.le_refl _)
  have hv := valid_runes s _ 0 (Nat.le_refl _) fun r hm => (inner_ge (hp r hm) (hin r hm)).2
  rw [List.drop_zero] at hv
  obtain ⟨rs, h1, h2⟩ := encs_of_valid _ _ (Nat.le_refl _) hv
  have hrs : runesFrom s 0 = rs := runes_encs h2 (Nat.zero_le _) (by rw [List.drop_zero]; exact h1)
  refine ⟨rs, by rw [← h1, strL_of], h2, ?_, fun c hc => ?_⟩
  · intro e; rw [hrs, e] at h; cases h
  · rw [hrs] at hin hp; exact ⟨hp c hc, (inner_ge (hp c hc) (hin c hc)).1⟩
theorem name_okW {s : ByteArray} (h : scanName s = true) : okW s := by
  obtain ⟨rs, h1, h2, h3, h4⟩ := name_runes h
  exact ⟨rs, h1, h2, h3, fun c hc => ⟨by have := h4 c hc; omega, by have := h4 c hc; omega, by have := h4 c hc; omega, by have := h4 c hc; unfold lineC; simp; omega⟩⟩
theorem name_no {s : ByteArray} (h : scanName s = true) {x : Nat} (hx : x < 128) (hn : ¬ (65 ≤ x ∨ (48 ≤ x ∧ x ≤ 57) ∨ x = 46)) : ∃ l : List UInt8, s = strL l ∧ x.toUInt8 ∉ l := by
  obtain ⟨rs, h1, h2, h3, h4⟩ := name_runes h
  exact ⟨encs rs, h1, not_encs h2 hx fun hm => hn (by have := h4 _ hm; omega)⟩
theorem name_ne {s : ByteArray} (h : scanName s = true) : s ≠ ⟨#[]⟩ := (name_okW h).ne
theorem name_ne_eq {s : ByteArray} (h : scanName s = true) : s ≠ eqS := fun e => by
  obtain ⟨l, h1, h2⟩ := name_no h (x := 61) (by omega) (by omega)
  have : l = [61] := strL_inj (h1.symm.trans e)
  subst this
  exact h2 (.head _)
theorem eq_not_name : scanName eqS = false := by
  cases h : scanName eqS with
  | false => rfl
  | true => exact absurd rfl (name_ne_eq h)
def pairW (v : PVar) : ByteArray := (v.name ++ colon) ++ tyWord v.ty
theorem cut_colon {l r : List UInt8} (h : (58 : UInt8) ∉ l) : cutA (strL (l ++ 58 :: r)) colon = strL l ∧ cutB2 (strL (l ++ 58 :: r)) colon = strL r ∧ cutT (strL (l ++ 58 :: r)) colon = true := by
  have hi : indexB (strL (l ++ 58 :: r)) colon = (l.length : Int) := by show index (strL (l ++ 58 :: r)).data.toList [58] = _; rw [strL_list, index_one, idxB_some h]
  obtain ⟨h1, h2, h3⟩ := cutB_hit _ _ _ hi
  refine ⟨h1.trans (extract_left _ _), h2.trans ?_, h3⟩
  have e : l ++ 58 :: r = (l ++ [58]) ++ r := by simp
  have e2 : l.length + colon.size = (l ++ [58]).length := by rw [List.length_append]; rfl
  rw [e2, e, extract_right]
theorem ty_words : ∀ t : Int, 0 ≤ t ∧ t ≤ 2 → tyOf (tyWord t) = t ∧ isTy (tyWord t) = true ∧ ∃ l, tyWord t = strL l ∧ asciiW l = true := fun t h => by
  have : t = 0 ∨ t = 1 ∨ t = 2 := by omega
  rcases this with rfl | rfl | rfl
  · exact ⟨by decide, by decide, _, rfl, by decide⟩
  · exact ⟨by decide, by decide, _, rfl, by decide⟩
  · exact ⟨by decide, by decide, _, rfl, by decide⟩
theorem pair_read {v : PVar} (hn : scanName v.name = true) (ht : 0 ≤ v.ty ∧ v.ty ≤ 2) : varOk (pairW v) = true ∧ varOf (pairW v) = v := by
  obtain ⟨l, h1, h2⟩ := name_no hn (x := 58) (by omega) (by omega)
  obtain ⟨t1, t2, r, t3, _⟩ := ty_words v.ty ht
  have hw : pairW v = strL (l ++ 58 :: r) := by
    unfold pairW
    have hc : colon = strL [58] := rfl
    rw [h1, t3, hc, strL_app, strL_app]; simp
  obtain ⟨c1, c2, c3⟩ := cut_colon (r := r) h2
  have hok : pairOk (pairW v) = true := by unfold pairOk; rw [hw, c3, c1, ← h1, hn]; rfl
  have hA : pairA (pairW v) = v.name := by unfold pairA; rw [if_pos hok, hw, c1, ← h1]
  have hB : pairB (pairW v) = tyWord v.ty := by unfold pairB; rw [if_pos hok, hw, c2, ← t3]
  refine ⟨by unfold varOk; rw [hok, hB, t2]; rfl, ?_⟩
  unfold varOf; rw [hA, hB, t1]
theorem pair_okW {v : PVar} (hn : scanName v.name = true) (ht : 0 ≤ v.ty ∧ v.ty ≤ 2) : okW (pairW v) := by
  obtain ⟨_, _, r, t3, t4⟩ := ty_words v.ty ht
  unfold pairW
  rw [t3]
  exact ((name_okW hn).app (okW_ascii (l := [58]) (by decide))).app (okW_ascii t4)
theorem pairs_read : ∀ {l : List PVar}, (∀ v ∈ l, scanName v.name = true ∧ 0 ≤ v.ty ∧ v.ty ≤ 2) → varsOk (l.map pairW) = true ∧ varsOf (l.map pairW) = l := fun {l} h => by
  have h1 : varsOk (l.map pairW) = true := by
    unfold varsOk
    rw [List.all_map]
    exact List.all_eq_true.2 fun v hv => (pair_read (h v hv).1 (h v hv).2).1
  refine ⟨h1, ?_⟩
  unfold varsOf
  rw [if_pos h1, List.map_map]
  conv => rhs; rw [← List.map_id l]
  exact List.map_congr_left fun v hv => (pair_read (h v hv).1 (h v hv).2).2
end Go.Proofs.YtdkhlgiohpdihaaGreatDoor
namespace Go.Proofs.YtdkhlgiohpdihaaGreatDoor
open Go.Proofs Go.Lib Go.Shelf Go.RowKit
set_option maxRecDepth 20000
structure FOk (f : PFunc) : Prop where
  vars : ∀ v ∈ f.vars, scanName v.name = true ∧ 0 ≤ v.ty ∧ v.ty ≤ 2
  blks : ∀ b ∈ f.blocks, scanName b.name = true ∧ BlkP f b
theorem vname_ok {f : PFunc} (hf : FOk f) {v : Int} (h : hasV f v = true) : scanName (vname f v) = true := by
  obtain ⟨h1, _, _, h2⟩ := has_get h
  rw [h2]; exact (hf.vars _ (List.getElem_mem h1)).1
theorem bname_ok {f : PFunc} (hf : FOk f) {v : Int} (h : hasB f v = true) : scanName (bname f v) = true := by
  obtain ⟨h1, _, _, h2⟩ := hasB_get h
  rw [h2]; exact (hf.blks _ (List.getElem_mem h1)).1
theorem namesOk_map {α : Type} {g : α → ByteArray} {l : List α} (h : ∀ x ∈ l, scanName (g x) = true) : namesOk (l.map g) = true := by
  unfold namesOk
  rw [List.all_map]
  exact List.all_eq_true.2 h
def inter : List ByteArray → List ByteArray → List ByteArray
  | a :: l, b :: m => a :: b :: inter l m
  | _, _ => []
theorem inter_ok : ∀ {l m : List ByteArray}, l.length = m.length → evens (inter l m) = l ∧ odds (inter l m) = m ∧ (inter l m).length = 2 * l.length
  | [], [], _ => ⟨rfl, rfl, rfl⟩
  | [], _ :: _, h => by cases h
  | _ :: _, [], h => by cases h
  | a :: l, b :: m, h => by
    obtain ⟨h1, h2, h3⟩ := inter_ok (l := l) (m := m) (by simpa using h)
    exact ⟨by rw [inter, evens, h1], by rw [inter, odds, h2], by rw [inter, List.length_cons, List.length_cons, List.length_cons, h3]; omega⟩
theorem inter_mem : ∀ {l m : List ByteArray} {x : ByteArray}, x ∈ inter l m → x ∈ l ∨ x ∈ m
  | [], _, x, h => by unfold inter at h; cases h
  | _ :: _, [], x, h => by unfold inter at h; cases h
  | a :: l, b :: m, x, h => by
    rw [inter] at h
    rcases List.mem_cons.1 h with rfl | h
    · exact .inl (.head _)
    · rcases List.mem_cons.1 h with rfl | h
      · exact .inr (.head _)
      · exact (inter_mem h).imp (fun h => .tail _ h) (fun h => .tail _ h)
def phiL (f : PFunc) (p : PPhi) : List ByteArray := vname f p.dst :: eqS :: phiS :: inter (p.from_.map (bname f)) (p.args.map (vname f))
def termL (f : PFunc) (t : PTerm) : List ByteArray :=
  if t.kind = 0 then [jumpS, bname f t.to0] else if t.kind = 1 then [ifS, vname f t.var, bname f t.to0, bname f t.to1] else [retS, vname f t.var]
def blkL (f : PFunc) (b : PBlock) : List (List ByteArray) := [blockS, b.name] :: (b.phis.map (phiL f) ++ (b.insts.map (wordsOf f) ++ [termL f b.term]))
def headL (f : PFunc) : List ByteArray := funcS :: (f.vars.take f.params.length).map pairW
def varL (v : PVar) : List ByteArray := [varS, pairW v]
def linesF (f : PFunc) : List (List ByteArray) := headL f :: ((f.vars.drop f.params.length).map varL ++ f.blocks.flatMap (blkL f))
def toPhi (f : PFunc) (p : PPhi) : PItem := .phi (vname f p.dst) (p.from_.map (bname f)) (p.args.map (vname f))
def toInst (f : PFunc) (x : PInst) : PItem := .inst x.op (if x.dst = -1 then ⟨#[]⟩ else vname f x.dst) (x.args.map (vname f)) x.num
def toHead (f : PFunc) (b : PBlock) : PHead :=
  if b.term.kind = 0 then ⟨b.name, 0, ⟨#[]⟩, [bname f b.term.to0], true⟩
  else if b.term.kind = 1 then ⟨b.name, 1, vname f b.term.var, [bname f b.term.to0, bname f b.term.to1], true⟩
  else ⟨b.name, 2, vname f b.term.var, [], true⟩
def toB (f : PFunc) (b : PBlock) : PHead × List PItem := (toHead f b, b.phis.map (toPhi f) ++ b.insts.map (toInst f))
def mkP (ps vs : List PVar) (bs : List (PHead × List PItem)) : PProg := ⟨ps, vs, bs.dropLast, bs.getLast?⟩
def progF (f : PFunc) : PProg := mkP (f.vars.take f.params.length) (f.vars.drop f.params.length) (f.blocks.map (toB f))
theorem notB_len {w : List ByteArray} (h : w.length ≠ 2) : isBlockLine w = false := by unfold isBlockLine; exact decide_eq_false fun h2 => h h2.2.1
theorem notB_head {w : List ByteArray} (h : atW w 0 ≠ blockS) : isBlockLine w = false := by unfold isBlockLine; exact decide_eq_false fun h2 => h h2.1
theorem namesOk_eq (l : List ByteArray) : namesOk (eqS :: l) = false := by unfold namesOk; rw [List.all_cons, eq_not_name]; rfl
theorem endB_eq {h : PHead} {a : ByteArray} {l : List ByteArray} : endB h (a :: eqS :: l) = none := by
  unfold endB
  rw [if_pos (.inr (by show ¬ namesOk (eqS :: l) = true; rw [namesOk_eq]; simp))]
theorem phi_line {f : PFunc} (hf : FOk f) {p : PPhi} (hp : PhiP f p) {h : PHead} (he : h.ended = false) {items : List PItem} (hi : ∀ x ∈ items, x.isPhi = true) :
    isBlockLine (phiL f p) = false ∧ lineB h items (phiL f p) = some (h, items ++ [toPhi f p]) := by
  obtain ⟨h1, h2, h3, h4, h5⟩ := hp
  have h4 := List.all_eq_true.1 h4
  have h5 := List.all_eq_true.1 h5
  obtain ⟨e1, e2, e3⟩ := inter_ok (l := p.from_.map (bname f)) (m := p.args.map (vname f)) (by simp [h2])
  rw [List.length_map] at e3
  have hlen : (phiL f p).length = 2 * p.from_.length + 3 := by unfold phiL; rw [List.length_cons, List.length_cons, List.length_cons, e3]
  refine ⟨notB_len (by omega), ?_⟩
  have hend : endB h (phiL f p) = none := endB_eq
  have hnm : namesOk (inter (p.from_.map (bname f)) (p.args.map (vname f))) = true := List.all_eq_true.2 fun x hx => by
    rcases inter_mem hx with hx | hx
    · obtain ⟨b, hb, rfl⟩ := List.mem_map.1 hx; exact bname_ok hf (h5 b hb)
    · obtain ⟨a, ha, rfl⟩ := List.mem_map.1 hx; exact vname_ok hf (h4 a ha)
  have hphi : phiOk (inter (p.from_.map (bname f)) (p.args.map (vname f))) = true := by
    unfold phiOk
    rw [hnm, e3]
    have a1 : (2 : Int) ≤ ((2 * p.from_.length : Nat) : Int) := by omega
    have a2 : ((2 * p.from_.length : Nat) : Int).tmod 2 = 0 := (Int.ofNat_tmod (2 * p.from_.length) 2).symm.trans (by simp)
    rw [decide_eq_true a1, decide_eq_true a2]; rfl
  have hit : instrItem (phiL f p) = some (toPhi f p) := by
    unfold instrItem
    have b1 : atW (phiL f p) 1 = eqS := rfl
    have b0 : atW (phiL f p) 0 = vname f p.dst := rfl
    have b2 : atW (phiL f p) 2 = phiS := rfl
    rw [if_neg (by rintro (h | h); omega; exact h b1), if_neg (by rintro (h | h); exact h (by rw [b0]; exact vname_ok hf h1); omega), if_pos b2, b0]
    show phiItem (vname f p.dst) (inter (p.from_.map (bname f)) (p.args.map (vname f))) = _
    unfold phiItem
    rw [if_pos hphi, e1, e2]; rfl
  unfold lineB
  rw [if_neg (by rw [he]; simp), hend]
  dsimp only
  rw [hit]
  dsimp only
  rw [if_neg]
  rintro ⟨_, hl⟩
  cases hg : items.getLast? with
  | none => rw [hg] at hl; cases hl
  | some y =>
    rw [hg] at hl
    have := hi y (List.mem_of_getLast? hg)
    simp only [Option.map_some, Option.some.injEq] at hl
    rw [this] at hl; cases hl
theorem op_words : ∀ j : Nat, j < 27 → isOpW (kRow (j : Int)).1 = true ∧ opOf (kRow (j : Int)).1 = (j : Int) ∧ (kRow (j : Int)).1 ≠ jumpS ∧ (kRow (j : Int)).1 ≠ ifS ∧ (kRow (j : Int)).1 ≠ retS ∧ (kRow (j : Int)).1 ≠ blockS ∧ (kRow (j : Int)).1 ≠ phiS ∧ (isNum (j : Int) = true → makesB (j : Int) = true) := by decide
theorem op_word {op : Int} (h : 0 ≤ op ∧ op ≤ 26) : isOpW (kRow op).1 = true ∧ opOf (kRow op).1 = op ∧ (kRow op).1 ≠ jumpS ∧ (kRow op).1 ≠ ifS ∧ (kRow op).1 ≠ retS ∧ (kRow op).1 ≠ blockS ∧ (kRow op).1 ≠ phiS ∧ (isNum op = true → makesB op = true) := by
  obtain ⟨n, rfl⟩ : ∃ n : Nat, op = n := ⟨op.toNat, by omega⟩
  exact op_words n (by omega)
theorem endB_head {h : PHead} {w : List ByteArray} (h1 : atW w 0 ≠ jumpS) (h2 : atW w 0 ≠ ifS) (h3 : atW w 0 ≠ retS) : endB h w = none := by
  unfold endB
  split
  · rfl
  · rw [if_neg (fun h => h1 h.1), if_neg (fun h => h2 h.1), if_neg (fun h => h3 h.1)]
structure InstF (f : PFunc) (x : PInst) : Prop where
  op : 0 ≤ x.op ∧ x.op ≤ 26
  len : x.args.length = (takesL x.op).length
  dst : (makesB x.op = false ∧ x.dst = -1) ∨ (makesB x.op = true ∧ x.dst ≠ -1 ∧ hasV f x.dst = true)
  num : isNum x.op = false → x.num = 0
  args : ∀ a ∈ x.args, hasV f a = true
theorem instP_F {f : PFunc} {x : PInst} (h : InstP f x) : InstF f x := by
  obtain ⟨h1, h2, h3, h4⟩ := h
  have hw := wordB_num ⟨h1, h2⟩
  unfold bad2 at h3
  simp only [Bool.or_eq_false_iff, Bool.not_eq_false', decide_eq_true_eq, Bool.and_eq_false_iff, beq_iff_eq] at h3
  obtain ⟨g1, g2, g3, g4⟩ := h3
  refine ⟨⟨h1, h2⟩, by rw [takes_len]; omega, ?_, fun hn => ?_, List.all_eq_true.1 h4⟩
  · rw [makesB_eq]
    by_cases hd : x.dst = -1
    · left
      rw [decide_eq_true hd] at g2
      exact ⟨by rw [g2]; rfl, hd⟩
    · right
      rw [decide_eq_false hd] at g2
      refine ⟨by rw [g2]; rfl, hd, ?_⟩
      rcases g3 with g | g
      · exact absurd g hd
      · exact g
  · rcases g4 with g | g
    · exact g
    · rw [hw, hn] at g; cases g
theorem inst_item {f : PFunc} (hf : FOk f) {x : PInst} (hx : InstF f x) (hI : -9223372036854775808 ≤ x.num ∧ x.num ≤ 9223372036854775807) :
    isBlockLine (wordsOf f x) = false ∧ (∀ h : PHead, endB h (wordsOf f x) = none) ∧ instrItem (wordsOf f x) = some (toInst f x) := by
  obtain ⟨w1, w2, w3, w4, w5, w6, w7, w8⟩ := op_word hx.op
  have hargs : namesOk (x.args.map (vname f)) = true := namesOk_map fun a ha => vname_ok hf (hx.args a ha)
  have hwo : wordsOf f x = words1 f x ++ [(kRow x.op).1] ++ x.args.map (vname f) ++ (if isNum x.op then [strL (itoa x.num)] else []) := by
    unfold wordsOf words2; rw [List.take_length]; rfl
  rcases hx.dst with ⟨d1, d2⟩ | ⟨d1, d2, d3⟩
  · have hn : isNum x.op = false := by
      cases h : isNum x.op with
      | false => rfl
      | true => rw [w8 h] at d1; cases d1
    have hw : wordsOf f x = (kRow x.op).1 :: x.args.map (vname f) := by
      rw [hwo, hn]; unfold words1; rw [if_neg (by omega)]; simp
    have h0 : atW (wordsOf f x) 0 = (kRow x.op).1 := by rw [hw]; rfl
    refine ⟨notB_head (by rw [h0]; exact w6), fun h => endB_head (by rw [h0]; exact w3) (by rw [h0]; exact w4) (by rw [h0]; exact w5), ?_⟩
    have hop : opItem ⟨#[]⟩ (wordsOf f x) = some (toInst f x) := by
      rw [hw]
      show opCons ⟨#[]⟩ (kRow x.op).1 (x.args.map (vname f)) = _
      unfold opCons
      rw [w2, if_pos ⟨w1, by rw [d1]; rfl⟩, if_neg (by rw [hn]; simp), if_pos ⟨by rw [List.length_map]; exact hx.len, hargs⟩]
      unfold toInst
      rw [if_pos d2, hx.num hn]
    unfold instrItem
    rw [if_pos, hop]
    by_cases hl : (wordsOf f x).length < 2
    · exact .inl hl
    · right
      intro he
      rw [hw] at hl he
      cases ha : x.args with
      | nil => rw [ha] at hl; simp at hl
      | cons a r =>
        rw [ha] at he
        have he : vname f a = eqS := he
        exact name_ne_eq (vname_ok hf (hx.args a (by rw [ha]; exact .head _))) he
  · have hd0 : 0 ≤ x.dst := by unfold hasV at d3; simp at d3; exact d3.1
    have hvn := vname_ok hf d3
    obtain ⟨rest, hrest⟩ : ∃ rest, x.args.map (vname f) ++ (if isNum x.op then [strL (itoa x.num)] else []) = rest := ⟨_, rfl⟩
    have hw : wordsOf f x = vname f x.dst :: eqS :: (kRow x.op).1 :: rest := by
      rw [hwo]; unfold words1; rw [if_pos hd0, ← hrest]; simp; rfl
    have hlen : (wordsOf f x).length = rest.length + 3 := by rw [hw]; rfl
    refine ⟨notB_len (by omega), fun h => by rw [hw]; exact endB_eq, ?_⟩
    have b0 : atW (wordsOf f x) 0 = vname f x.dst := by rw [hw]; rfl
    have b1 : atW (wordsOf f x) 1 = eqS := by rw [hw]; rfl
    have b2 : atW (wordsOf f x) 2 = (kRow x.op).1 := by rw [hw]; rfl
    unfold instrItem
    rw [if_neg (by rintro (h | h); omega; exact h b1), if_neg (by rintro (h | h); exact h (by rw [b0]; exact hvn); omega), if_neg (by rw [b2]; exact w7), b0, hw]
    show opCons (vname f x.dst) (kRow x.op).1 rest = _
    unfold opCons
    rw [w2, if_pos ⟨w1, by rw [d1, decide_eq_false (name_ne hvn)]; rfl⟩]
    have hti : toInst f x = .inst x.op (vname f x.dst) (x.args.map (vname f)) x.num := by unfold toInst; rw [if_neg d2]
    rw [hti]
    cases hn : isNum x.op with
    | false =>
      rw [hn] at hrest
      have hrest : rest = x.args.map (vname f) := by rw [← hrest]; simp
      rw [if_neg (by simp), if_pos ⟨by rw [hrest, List.length_map]; exact hx.len, by rw [hrest]; exact hargs⟩, hrest, hx.num hn]
    | true =>
      rw [hn] at hrest
      have hrest : rest = x.args.map (vname f) ++ [strL (itoa x.num)] := by rw [← hrest]; rfl
      have hk : (x.args.map (vname f)).length = (takesL x.op).length := by rw [List.length_map]; exact hx.len
      have hat : atW rest (takesL x.op).length = strL (itoa x.num) := by unfold atW; rw [hrest, ← hk, List.getElem?_append_right (Nat.le_refl _), Nat.sub_self]; rfl
      have htk : rest.take (takesL x.op).length = x.args.map (vname f) := by rw [hrest, ← hk, List.take_left]
      have hp := pint_itoa hI
      have hno : numOk (strL (itoa x.num)) = true := by unfold numOk; rw [hp]; exact decide_eq_true rfl
      have hnv : numV (strL (itoa x.num)) = x.num := by unfold numV; rw [if_pos hno, hp]; rfl
      rw [if_pos rfl, hat, htk, if_pos ⟨by rw [hrest, List.length_append, hk]; rfl, hno, hargs⟩, hnv]
theorem inst_line {f : PFunc} (hf : FOk f) {x : PInst} (hx : InstF f x) (hI : -9223372036854775808 ≤ x.num ∧ x.num ≤ 9223372036854775807) {h : PHead} (he : h.ended = false) {items : List PItem} :
    isBlockLine (wordsOf f x) = false ∧ lineB h items (wordsOf f x) = some (h, items ++ [toInst f x]) := by
  obtain ⟨h1, h2, h3⟩ := inst_item hf hx hI
  refine ⟨h1, ?_⟩
  unfold lineB
  rw [if_neg (by rw [he]; simp), h2 h]
  dsimp only
  rw [h3]
  dsimp only
  rw [if_neg]
  rintro ⟨h4, _⟩
  unfold toInst at h4
  cases h4
theorem term_line {f : PFunc} (hf : FOk f) {b : PBlock} (ht : termOK f b.term = true) {items : List PItem} :
    isBlockLine (termL f b.term) = false ∧ lineB (newHead b.name) items (termL f b.term) = some (toHead f b, items) := by
  have key : ∀ {w : List ByteArray} {h' : PHead}, endB (newHead b.name) w = some h' → lineB (newHead b.name) items w = some (h', items) := fun {w h'} he => by
    unfold lineB; rw [if_neg (by show ¬ false = true; simp), he]
  unfold termL toHead
  by_cases k0 : b.term.kind = 0
  · have hb := bname_ok hf (termOK_0 ht k0)
    rw [if_pos k0, if_pos k0]
    refine ⟨notB_head (by show jumpS ≠ blockS; decide), key ?_⟩
    unfold endB
    rw [if_neg, if_pos ⟨rfl, rfl⟩]; rfl
    rintro (h | h)
    · have : (2 : Nat) < 2 := h; omega
    · exact h (by show namesOk [bname f b.term.to0] = true; unfold namesOk; simp [hb])
  · rw [if_neg k0, if_neg k0]
    by_cases k1 : b.term.kind = 1
    · obtain ⟨t1, t2, t3⟩ := termOK_1 ht k1
      have h1 := vname_ok hf t1
      have h2 := bname_ok hf t2
      have h3 := bname_ok hf t3
      rw [if_pos k1, if_pos k1]
      refine ⟨notB_len (by show 4 ≠ 2; decide), key ?_⟩
      unfold endB
      rw [if_neg, if_neg, if_pos ⟨rfl, rfl⟩]; rfl
      · rintro ⟨_, h⟩; cases h
      · rintro (h | h)
        · have : (4 : Nat) < 2 := h; omega
        · exact h (by show namesOk [vname f b.term.var, bname f b.term.to0, bname f b.term.to1] = true; unfold namesOk; simp [h1, h2, h3])
    · have h1 := vname_ok hf (termOK_2 ht k0 k1)
      rw [if_neg k1, if_neg k1]
      refine ⟨notB_head (by show retS ≠ blockS; decide), key ?_⟩
      unfold endB
      rw [if_neg, if_neg, if_neg, if_pos ⟨rfl, rfl⟩]; rfl
      · rintro ⟨_, h⟩; cases h
      · rintro ⟨h, _⟩; have h : retS = jumpS := h; revert h; decide
      · rintro (h | h)
        · have : (2 : Nat) < 2 := h; omega
        · exact h (by show namesOk [vname f b.term.var] = true; unfold namesOk; simp [h1])
end Go.Proofs.YtdkhlgiohpdihaaGreatDoor
namespace Go.Proofs.YtdkhlgiohpdihaaGreatDoor
open Go.Proofs Go.Lib Go.Shelf Go.RowKit
set_option maxRecDepth 20000
def runW (S : PProg) (ws : List (List ByteArray)) : Option PProg := runLines S (ws.map wline)
theorem runW_nil (S : PProg) : runW S [] = some S := rfl
theorem runW_cons {S S' : PProg} {w : List ByteArray} (ws : List (List ByteArray)) (h : lineP S w = some S') : runW S (w :: ws) = runW S' ws := by
  unfold runW
  rw [List.map_cons, runLines, show (wline w).2 = w from rfl, h]; rfl
theorem runW_app : ∀ {S S' : PProg} {a : List (List ByteArray)} (b : List (List ByteArray)), runW S a = some S' → runW S (a ++ b) = runW S' b
  | S, S', [], b, h => by cases h; rfl
  | S, S', w :: a, b, h => by
    cases hl : lineP S w with
    | none => unfold runW at h; rw [List.map_cons, runLines, show (wline w).2 = w from rfl, hl] at h; cases h
    | some S1 =>
      rw [runW_cons a hl] at h
      rw [List.cons_append, runW_cons (a ++ b) hl]
      exact runW_app b h
theorem mkP_last (ps vs : List PVar) (bs : List (PHead × List PItem)) (b : PHead × List PItem) : mkP ps vs (bs ++ [b]) = ⟨ps, vs, bs, some b⟩ := by
  unfold mkP; simp
theorem begin_line {ps vs : List PVar} {bs : List (PHead × List PItem)} (h : ∀ b ∈ bs, b.1.ended = true) {nm : ByteArray} (hn : scanName nm = true) :
    lineP (mkP ps vs bs) [blockS, nm] = some ⟨ps, vs, bs, some (newHead nm, [])⟩ := by
  have hb : isBlockLine [blockS, nm] = true := by unfold isBlockLine; exact decide_eq_true ⟨rfl, rfl, hn⟩
  rcases snoc_cases bs with rfl | ⟨pre, y, rfl⟩
  · show lineP0 _ _ = _
    unfold lineP0; rw [if_pos hb]; rfl
  · rw [mkP_last]
    show lineP1 _ y _ = _
    unfold lineP1; rw [if_pos hb, if_pos (h y (by simp))]; rfl
theorem item_line {ps vs : List PVar} {bs : List (PHead × List PItem)} {h : PHead} {it : List PItem} {w : List ByteArray} {r : PHead × List PItem} (h1 : isBlockLine w = false) (h2 : lineB h it w = some r) :
    lineP ⟨ps, vs, bs, some (h, it)⟩ w = some ⟨ps, vs, bs, some r⟩ := by
  show lineP1 _ (h, it) w = _
  unfold lineP1; rw [if_neg (by rw [h1]; simp), h2]; rfl
theorem phis_run {f : PFunc} (hf : FOk f) {ps vs : List PVar} {bs : List (PHead × List PItem)} {h : PHead} (he : h.ended = false) : ∀ {l : List PPhi} {it : List PItem}, (∀ p ∈ l, PhiP f p) → (∀ x ∈ it, x.isPhi = true) →
    runW ⟨ps, vs, bs, some (h, it)⟩ (l.map (phiL f)) = some ⟨ps, vs, bs, some (h, it ++ l.map (toPhi f))⟩
  | [], it, _, _ => by simp [runW_nil]
  | p :: l, it, hl, hit => by
    obtain ⟨h1, h2⟩ := phi_line hf (hl p (.head _)) he hit
    rw [List.map_cons, runW_cons _ (item_line h1 h2), phis_run hf he (fun x hx => hl x (.tail _ hx)) (fun x hx => by
      rcases List.mem_append.1 hx with hx | hx
      · exact hit x hx
      · rw [List.mem_singleton.1 hx]; rfl)]
    simp
theorem insts_run {f : PFunc} (hf : FOk f) {ps vs : List PVar} {bs : List (PHead × List PItem)} {h : PHead} (he : h.ended = false) : ∀ {l : List PInst} {it : List PItem}, (∀ x ∈ l, InstF f x ∧ -9223372036854775808 ≤ x.num ∧ x.num ≤ 9223372036854775807) →
    runW ⟨ps, vs, bs, some (h, it)⟩ (l.map (wordsOf f)) = some ⟨ps, vs, bs, some (h, it ++ l.map (toInst f))⟩
  | [], it, _ => by simp [runW_nil]
  | x :: l, it, hl => by
    obtain ⟨h1, h2⟩ := inst_line hf (hl x (.head _)).1 (hl x (.head _)).2 he (items := it)
    rw [List.map_cons, runW_cons _ (item_line h1 h2), insts_run hf he (fun y hy => hl y (.tail _ hy))]
    simp
def NumsOk (f : PFunc) : Prop := ∀ b ∈ f.blocks, ∀ x ∈ b.insts, -9223372036854775808 ≤ x.num ∧ x.num ≤ 9223372036854775807
theorem blk_run {f : PFunc} (hf : FOk f) {ps vs : List PVar} {bs : List (PHead × List PItem)} (h : ∀ b ∈ bs, b.1.ended = true) {b : PBlock} (hb : scanName b.name = true) (hp : BlkP f b) (hn : ∀ x ∈ b.insts, -9223372036854775808 ≤ x.num ∧ x.num ≤ 9223372036854775807) :
    runW (mkP ps vs bs) (blkL f b) = some (mkP ps vs (bs ++ [toB f b])) := by
  obtain ⟨h1, h2, h3⟩ := hp
  obtain ⟨t1, t2⟩ := term_line hf h3 (items := b.phis.map (toPhi f) ++ b.insts.map (toInst f))
  unfold blkL
  rw [runW_cons _ (begin_line h hb), runW_app _ (phis_run hf rfl h1 (by simp)), List.nil_append, runW_app _ (insts_run hf rfl fun x hx => ⟨instP_F (h2 x hx), hn x hx⟩), runW_cons _ (item_line t1 t2), runW_nil, mkP_last]
  rfl
theorem toHead_ended (f : PFunc) (b : PBlock) : (toHead f b).ended = true := by unfold toHead; split; rfl; split <;> rfl
theorem blks_run {f : PFunc} (hf : FOk f) {ps vs : List PVar} : ∀ {l : List PBlock} {bs : List (PHead × List PItem)}, (∀ b ∈ bs, b.1.ended = true) → (∀ b ∈ l, scanName b.name = true ∧ BlkP f b ∧ ∀ x ∈ b.insts, -9223372036854775808 ≤ x.num ∧ x.num ≤ 9223372036854775807) →
    runW (mkP ps vs bs) (l.flatMap (blkL f)) = some (mkP ps vs (bs ++ l.map (toB f)))
  | [], bs, _, _ => by simp [runW_nil]
  | b :: l, bs, h, hl => by
    obtain ⟨h1, h2, h3⟩ := hl b (.head _)
    rw [List.flatMap_cons, runW_app _ (blk_run hf h h1 h2 h3), blks_run hf (fun x hx => by
      rcases List.mem_append.1 hx with hx | hx
      · exact h x hx
      · rw [List.mem_singleton.1 hx]; exact toHead_ended f b) (fun x hx => hl x (.tail _ hx))]
    simp
theorem vars_run {ps : List PVar} : ∀ {l vs : List PVar}, (∀ v ∈ l, scanName v.name = true ∧ 0 ≤ v.ty ∧ v.ty ≤ 2) → runW (mkP ps vs []) (l.map varL) = some (mkP ps (vs ++ l) [])
  | [], vs, _ => by simp [runW_nil]
  | v :: l, vs, h => by
    obtain ⟨h1, h2⟩ := pairs_read (l := [v]) (fun x hx => by rw [List.mem_singleton.1 hx]; exact h v (.head _))
    have hl : lineP (mkP ps vs []) (varL v) = some (mkP ps (vs ++ [v]) []) := by
      show lineP0 _ _ = _
      unfold lineP0
      rw [if_neg (by rw [notB_head (by show varS ≠ blockS; decide)]; simp), if_pos ⟨by unfold isVarLine; exact decide_eq_true ⟨rfl, by show 1 < 2; omega⟩, h1⟩]
      show some _ = some _
      rw [show (varL v).drop 1 = [v].map pairW from rfl, h2]; rfl
    rw [List.map_cons, runW_cons _ hl, vars_run fun x hx => h x (.tail _ hx)]
    simp
theorem read_lines {f : PFunc} (hf : FOk f) (hn : NumsOk f) (hb : f.blocks ≠ []) : readW (linesF f) = some (progF f) := by
  have hpar : ∀ v ∈ f.vars.take f.params.length, scanName v.name = true ∧ 0 ≤ v.ty ∧ v.ty ≤ 2 := fun v hv => hf.vars v (List.mem_of_mem_take hv)
  obtain ⟨p1, p2⟩ := pairs_read hpar
  show (if atW (headL f) 0 = funcS then (tgt (wline (headL f)) (((f.vars.drop f.params.length).map varL ++ f.blocks.flatMap (blkL f)).map wline)).bind endP else none) = _
  rw [if_pos (show atW (headL f) 0 = funcS from rfl)]
  unfold tgt
  have hd : (wline (headL f)).2.drop 1 = (f.vars.take f.params.length).map pairW := rfl
  have hst : start (wline (headL f)).2 = mkP (f.vars.take f.params.length) [] [] := by unfold start; rw [hd, p2]; rfl
  rw [hd, if_pos p1, hst]
  show (runW _ ((f.vars.drop f.params.length).map varL ++ f.blocks.flatMap (blkL f))).bind endP = _
  rw [runW_app _ (vars_run fun v hv => hf.vars v (List.mem_of_mem_drop hv)), blks_run hf (by simp) fun b hb2 => ⟨(hf.blks b hb2).1, (hf.blks b hb2).2, hn b hb2⟩]
  show endP (mkP _ _ _) = _
  rw [List.nil_append, List.nil_append]
  unfold progF
  rcases snoc_cases f.blocks with h | ⟨pre, y, h⟩
  · exact absurd h hb
  · rw [h, List.map_append, List.map_cons, List.map_nil, mkP_last]
    show (if (toB f y).1.ended = true then _ else none) = _
    rw [if_pos (show (toB f y).1.ended = true from toHead_ended f y)]
end Go.Proofs.YtdkhlgiohpdihaaGreatDoor
namespace Go.Proofs.YtdkhlgiohpdihaaGreatDoor
open Go.Proofs Go.Lib Go.Shelf Go.RowKit
set_option maxRecDepth 20000
def Unlike (ns : List ByteArray) : Prop := ∀ i (h : i < ns.length), ns[i] ∉ ns.take i
def mapFrom : List ByteArray → Nat → NMap
  | [], _ => []
  | n :: ns, k => (n, (k : Int)) :: mapFrom ns (k + 1)
theorem mapFrom_len : ∀ (ns : List ByteArray) (k : Nat), (mapFrom ns k).length = ns.length
  | [], _ => rfl
  | _ :: ns, k => by rw [mapFrom, List.length_cons, List.length_cons, mapFrom_len ns]
theorem mapFrom_app : ∀ (ns ms : List ByteArray) (k : Nat), mapFrom (ns ++ ms) k = mapFrom ns k ++ mapFrom ms (k + ns.length)
  | [], _, _ => rfl
  | n :: ns, ms, k => by rw [List.cons_append, mapFrom, mapFrom_app ns ms, mapFrom, List.cons_append, List.length_cons]; congr 3; omega
theorem mget_no {s : ByteArray} : ∀ {ns : List ByteArray} {k : Nat}, s ∉ ns → mget s (mapFrom ns k) = none
  | [], _, _ => rfl
  | n :: ns, k, h => by
    rw [mapFrom, mget, if_neg (fun e => h (by rw [e]; exact .head _))]
    exact mget_no fun hm => h (.tail _ hm)
theorem mset_new {s : ByteArray} {v : Int} : ∀ {es : NMap}, mget s es = none → mset s v es = es ++ [(s, v)]
  | [], _ => rfl
  | (k, u) :: es, h => by
    rw [mget] at h
    split at h
    · cases h
    · rename_i hk
      rw [mset, if_neg hk, mset_new h]; rfl
theorem Unlike.cons {n : ByteArray} {ns : List ByteArray} (h : Unlike (n :: ns)) : n ∉ ns ∧ Unlike ns := by
  constructor
  · intro hm
    obtain ⟨i, hi, e⟩ := List.getElem_of_mem hm
    have := h (i + 1) (by simp; omega)
    exact this (by rw [List.getElem_cons_succ, e, List.take_succ_cons]; exact .head _)
  · intro i hi hm
    have := h (i + 1) (by simp; omega)
    exact this (by rw [List.getElem_cons_succ, List.take_succ_cons]; exact .tail _ hm)
theorem mget_at {s : ByteArray} : ∀ {ns : List ByteArray} {k i : Nat}, Unlike ns → ns[i]? = some s → mget s (mapFrom ns k) = some (((k + i : Nat) : Int))
  | [], _, _, _, h => by simp at h
  | n :: ns, k, 0, _, h => by
    simp at h; subst h
    rw [mapFrom, mget, if_pos rfl]; rfl
  | n :: ns, k, i + 1, hu, h => by
    obtain ⟨h1, h2⟩ := hu.cons
    have h : ns[i]? = some s := by simpa using h
    have hne : ¬ s = n := fun e => h1 (by rw [← e]; exact List.mem_of_getElem? h)
    rw [mapFrom, mget, if_neg hne, mget_at h2 h]
    congr 2; omega
theorem putAll_un {l0 : Bool} {ns : List ByteArray} (h : Unlike ns) : ∀ k, k ≤ ns.length → putAll ([], l0) (ns.take k) = (mapFrom (ns.take k) 0, l0)
  | 0, _ => rfl
  | k + 1, hk => by
    have hk2 : k < ns.length := by omega
    have hno : mget ns[k] (mapFrom (ns.take k) 0) = none := mget_no (h k hk2)
    rw [putAll_step hk2, putAll_un h k (by omega)]
    unfold putS hasM
    dsimp only
    rw [hno, mset_new hno, List.take_succ_eq_append_getElem hk2, mapFrom_app, mapFrom_len, List.length_take, Nat.min_eq_left (by omega), Nat.zero_add]
    simp [mapFrom]
theorem putAll_all {l0 : Bool} {ns : List ByteArray} (h : Unlike ns) : putAll ([], l0) ns = (mapFrom ns 0, l0) := by
  have := putAll_un (l0 := l0) h ns.length (Nat.le_refl _)
  rwa [List.take_length] at this
theorem shaped_ok {f : PFunc} (h : ShapedP f) : FOk f ∧ Unlike (f.vars.map PVar.name) ∧ Unlike (f.blocks.map PBlock.name) ∧ f.blocks ≠ [] := by
  obtain ⟨h1, h2, h3, h4, h5, h6⟩ := h
  refine ⟨⟨fun v hv => ?_, fun b hb => ?_⟩, fun i hi hm => ?_, fun i hi hm => ?_, fun e => ?_⟩
  · obtain ⟨i, hi, rfl⟩ := List.getElem_of_mem hv
    obtain ⟨g1, g2, g3, _⟩ := h3 i hi
    exact ⟨by rw [← name_eq]; exact g1, g2, g3⟩
  · obtain ⟨i, hi, rfl⟩ := List.getElem_of_mem hb
    exact ⟨by rw [← name_eq]; exact (h4 i hi).1, h6 _ hb⟩
  · have hi2 : i < f.vars.length := by simpa using hi
    rw [List.getElem_map, ← List.map_take] at hm
    exact (h3 i hi2).2.2.2 _ hm rfl
  · have hi2 : i < f.blocks.length := by simpa using hi
    rw [List.getElem_map, ← List.map_take] at hm
    exact (h4 i hi2).2 _ hm rfl
  · unfold bad1 at h1; rw [e] at h1; simp at h1
theorem var_at {f : PFunc} (hu : Unlike (f.vars.map PVar.name)) {v : Int} (h : hasV f v = true) : mget (vname f v) (mapFrom (f.vars.map PVar.name) 0) = some v := by
  obtain ⟨h1, h2, h3, h4⟩ := has_get h
  have := mget_at (s := vname f v) (k := 0) (i := v.toNat) hu (by rw [List.getElem?_map, h2, h4]; rfl)
  rw [this]; congr 1; omega
theorem blk_at {f : PFunc} (hu : Unlike (f.blocks.map PBlock.name)) {v : Int} (h : hasB f v = true) : mget (bname f v) (mapFrom (f.blocks.map PBlock.name) 0) = some v := by
  obtain ⟨h1, h2, h3, h4⟩ := hasB_get h
  have := mget_at (s := bname f v) (k := 0) (i := v.toNat) hu (by rw [List.getElem?_map, h2, h4]; rfl)
  rw [this]; congr 1; omega
section
variable {f : PFunc} (hf : FOk f) (hu : Unlike (f.vars.map PVar.name)) (hb : Unlike (f.blocks.map PBlock.name))
theorem getV {v : Int} (hu : Unlike (f.vars.map PVar.name)) (h : hasV f v = true) : getI (mapFrom (f.vars.map PVar.name) 0) (vname f v) = v ∧ hasM (mapFrom (f.vars.map PVar.name) 0) (vname f v) = true := by
  unfold getI hasM; rw [var_at hu h]; exact ⟨rfl, rfl⟩
theorem getB {v : Int} (hb : Unlike (f.blocks.map PBlock.name)) (h : hasB f v = true) : getI (mapFrom (f.blocks.map PBlock.name) 0) (bname f v) = v ∧ hasM (mapFrom (f.blocks.map PBlock.name) 0) (bname f v) = true := by
  unfold getI hasM; rw [blk_at hb h]; exact ⟨rfl, rfl⟩
theorem map_back {g : Int → ByteArray} {k : ByteArray → Int} : ∀ {l : List Int}, (∀ a ∈ l, k (g a) = a) → (l.map g).map k = l
  | [], _ => rfl
  | a :: l, h => by rw [List.map_cons, List.map_cons, h a (.head _), map_back fun x hx => h x (.tail _ hx)]
theorem any_back {g : Int → ByteArray} {k : ByteArray → Bool} {l : List Int} (h : ∀ a ∈ l, k (g a) = true) : (l.map g).any (fun s => !k s) = false := by
  rw [List.any_map]
  exact List.any_eq_false.2 fun a ha => by simp [h a ha]
theorem phi_back (hf : FOk f) (hu : Unlike (f.vars.map PVar.name)) (hb : Unlike (f.blocks.map PBlock.name)) {p : PPhi} (hp : PhiP f p) :
    phiOf (mapFrom (f.vars.map PVar.name) 0) (mapFrom (f.blocks.map PBlock.name) 0) (toPhi f p) = some p ∧ lostI (mapFrom (f.vars.map PVar.name) 0) (mapFrom (f.blocks.map PBlock.name) 0) (toPhi f p) = false := by
  obtain ⟨h1, _, _, h4, h5⟩ := hp
  have h4 := List.all_eq_true.1 h4
  have h5 := List.all_eq_true.1 h5
  have hne := name_ne (vname_ok hf h1)
  constructor
  · unfold toPhi phiOf dstI
    dsimp only
    rw [if_neg hne, (getV hu h1).1, map_back fun a ha => (getV hu (h4 a ha)).1, map_back fun a ha => (getB hb (h5 a ha)).1]
  · unfold toPhi lostI dstL
    dsimp only
    rw [(getV hu h1).2, any_back fun a ha => (getV hu (h4 a ha)).2, any_back fun a ha => (getB hb (h5 a ha)).2]; simp
theorem inst_back (hf : FOk f) (hu : Unlike (f.vars.map PVar.name)) {bm : NMap} {x : PInst} (hx : InstF f x) :
    instOf (mapFrom (f.vars.map PVar.name) 0) (toInst f x) = some x ∧ lostI (mapFrom (f.vars.map PVar.name) 0) bm (toInst f x) = false := by
  have hd : dstI (mapFrom (f.vars.map PVar.name) 0) (if x.dst = -1 then ⟨#[]⟩ else vname f x.dst) = x.dst ∧ dstL (mapFrom (f.vars.map PVar.name) 0) (if x.dst = -1 then ⟨#[]⟩ else vname f x.dst) = false := by
    rcases hx.dst with ⟨_, d2⟩ | ⟨_, d2, d3⟩
    · rw [if_pos d2]; unfold dstI dstL; rw [if_pos rfl, d2]; exact ⟨rfl, rfl⟩
    · rw [if_neg d2]; unfold dstI dstL
      rw [if_neg (name_ne (vname_ok hf d3)), (getV hu d3).1, (getV hu d3).2]; exact ⟨rfl, by simp⟩
  constructor
  · unfold toInst instOf
    dsimp only
    rw [hd.1, map_back fun a ha => (getV hu (hx.args a ha)).1]
  · unfold toInst lostI
    dsimp only
    rw [hd.2, any_back fun a ha => (getV hu (hx.args a ha)).2]; rfl
theorem fm_some {α β γ : Type} {g : α → β} {k : β → Option γ} {j : α → γ} : ∀ {l : List α}, (∀ a ∈ l, k (g a) = some (j a)) → (l.map g).filterMap k = l.map j
  | [], _ => rfl
  | a :: l, h => by rw [List.map_cons, List.filterMap_cons, h a (.head _)]; dsimp only; rw [fm_some fun x hx => h x (.tail _ hx)]; rfl
theorem fm_none {α β γ : Type} {g : α → β} {k : β → Option γ} : ∀ {l : List α}, (∀ a ∈ l, k (g a) = none) → (l.map g).filterMap k = []
  | [], _ => rfl
  | a :: l, h => by rw [List.map_cons, List.filterMap_cons, h a (.head _)]; dsimp only; exact fm_none fun x hx => h x (.tail _ hx)
theorem blk_back (hf : FOk f) (hu : Unlike (f.vars.map PVar.name)) (hb : Unlike (f.blocks.map PBlock.name)) {b : PBlock} (hp : BlkP f b) :
    blockOf (mapFrom (f.vars.map PVar.name) 0) (mapFrom (f.blocks.map PBlock.name) 0) (toB f b) = b ∧ lostBlk (mapFrom (f.vars.map PVar.name) 0) (mapFrom (f.blocks.map PBlock.name) 0) (toB f b) = false := by
  obtain ⟨h1, h2, h3⟩ := hp
  have e1 : (toB f b).2.filterMap (phiOf (mapFrom (f.vars.map PVar.name) 0) (mapFrom (f.blocks.map PBlock.name) 0)) = b.phis := by
    show (b.phis.map (toPhi f) ++ b.insts.map (toInst f)).filterMap _ = _
    rw [List.filterMap_append, fm_some (j := id) fun p hp => (phi_back hf hu hb (h1 p hp)).1, fm_none fun x _ => rfl]; simp
  have e2 : (toB f b).2.filterMap (instOf (mapFrom (f.vars.map PVar.name) 0)) = b.insts := by
    show (b.phis.map (toPhi f) ++ b.insts.map (toInst f)).filterMap _ = _
    rw [List.filterMap_append, fm_none fun x _ => rfl, fm_some (j := id) fun x hx => (inst_back (bm := []) hf hu (instP_F (h2 x hx))).1]; simp
  have e3 : (toB f b).2.any (lostI (mapFrom (f.vars.map PVar.name) 0) (mapFrom (f.blocks.map PBlock.name) 0)) = false := by
    show (b.phis.map (toPhi f) ++ b.insts.map (toInst f)).any _ = _
    rw [List.any_append, List.any_map, List.any_map]
    rw [List.any_eq_false.2 fun p hp => by simp [(phi_back hf hu hb (h1 p hp)).2], List.any_eq_false.2 fun x hx => by simp [(inst_back hf hu (instP_F (h2 x hx))).2]]; rfl
  have e4 : (toHead f b).name = b.name := by unfold toHead; split; rfl; split <;> rfl
  have e5 : termOf (mapFrom (f.vars.map PVar.name) 0) (mapFrom (f.blocks.map PBlock.name) 0) (toHead f b) = b.term ∧ ((!decide ((toHead f b).v = ⟨#[]⟩) && !hasM (mapFrom (f.vars.map PVar.name) 0) (toHead f b).v) = false ∧ (toHead f b).tos.any (fun s => !hasM (mapFrom (f.blocks.map PBlock.name) 0) s) = false) := by
    obtain ⟨bn, bp, bi, ⟨tk, tv, t0, t1⟩⟩ := b
    unfold toHead
    by_cases k0 : tk = 0
    · have hb0 := termOK_0 h3 k0
      have h3' := h3
      unfold termOK at h3'
      rw [if_pos k0] at h3'
      simp only [Bool.and_eq_true, decide_eq_true_eq] at h3'
      rw [if_pos k0]
      refine ⟨?_, ?_, ?_⟩
      · unfold termOf
        rw [if_pos rfl]
        simp only [List.map_cons, List.map_nil]
        rw [(getB hb hb0).1]
        simp [k0, h3']
      · simp
      · simp [(getB hb hb0).2]
    · rw [if_neg k0]
      by_cases k1 : tk = 1
      · obtain ⟨g1, g2, g3⟩ := termOK_1 h3 k1
        have hne := name_ne (vname_ok hf g1)
        rw [if_pos k1]
        refine ⟨?_, ?_, ?_⟩
        · unfold termOf
          dsimp only
          rw [if_neg hne, (getV hu g1).1]
          simp only [List.map_cons, List.map_nil]
          rw [(getB hb g2).1, (getB hb g3).1]
          simp [k1]
        · dsimp only; rw [(getV hu g1).2]; simp
        · simp [(getB hb g2).2, (getB hb g3).2]
      · have g1 := termOK_2 h3 k0 k1
        have hne := name_ne (vname_ok hf g1)
        have h3' := h3
        unfold termOK at h3'
        rw [if_neg k0, if_neg k1] at h3'
        rw [if_neg k1]
        refine ⟨?_, ?_, ?_⟩
        · unfold termOf
          dsimp only
          rw [if_neg hne, (getV hu g1).1]
          split at h3'
          · rename_i k2
            simp only [Bool.and_eq_true, decide_eq_true_eq] at h3'
            have k2 : tk = 2 := k2
            simp [k2, h3']
          · cases h3'
        · dsimp only; rw [(getV hu g1).2]; simp
        · rfl
  constructor
  · unfold blockOf
    rw [e1, e2]
    show PBlock.mk (toHead f b).name b.phis b.insts (termOf _ _ (toHead f b)) = b
    rw [e4, e5.1]
  · unfold lostBlk
    rw [e3]
    show (false || (!decide ((toHead f b).v = ⟨#[]⟩) && !hasM _ (toHead f b).v) || (toHead f b).tos.any _) = false
    rw [e5.2.1, e5.2.2]; rfl
end
end Go.Proofs.YtdkhlgiohpdihaaGreatDoor
namespace Go.Proofs.YtdkhlgiohpdihaaGreatDoor
open Go.Proofs Go.Lib Go.Shelf Go.RowKit
set_option maxRecDepth 20000
theorem mkP_blocks (ps vs : List PVar) (bs : List (PHead × List PItem)) : blocksOf (mkP ps vs bs) = bs := by
  rcases snoc_cases bs with rfl | ⟨pre, y, rfl⟩
  · rfl
  · rw [mkP_last]; rfl
theorem toHead_name (f : PFunc) (b : PBlock) : (toHead f b).name = b.name := by unfold toHead; split; rfl; split <;> rfl
theorem parL_eq {ps : List Int} (h : ∀ i (h : i < ps.length), ps[i] = (i : Int)) {m : Nat} (hm : ps.length ≤ m) : parL ps.length m = ps := by
  unfold parL
  rw [Nat.min_eq_right hm]
  apply List.ext_getElem
  · simp
  · intro i h1 h2
    rw [List.getElem_map, List.getElem_range, h i h2]
theorem build_back {f : PFunc} (hS : ShapedP f) : buildP (progF f) = some f := by
  obtain ⟨hf, hu, hb, hne⟩ := shaped_ok hS
  obtain ⟨s1, s2, s3, s4, s5, s6⟩ := hS
  have hpl : f.params.length ≤ f.vars.length := by unfold bad1 at s1; simp at s1; omega
  have hvn : varNames (progF f) = f.vars.map PVar.name := by
    show (f.vars.take f.params.length ++ f.vars.drop f.params.length).map PVar.name = _
    rw [List.take_append_drop]
  have hbo : blocksOf (progF f) = f.blocks.map (toB f) := mkP_blocks _ _ _
  have hbn : blkNames (progF f) = f.blocks.map PBlock.name := by
    unfold blkNames; rw [hbo, List.map_map]; exact List.map_congr_left fun b _ => toHead_name f b
  have hv : vState (progF f) = (mapFrom (f.vars.map PVar.name) 0, false) := by unfold vState; rw [hvn, putAll_all hu]
  have hbs : bState (progF f) = (mapFrom (f.blocks.map PBlock.name) 0, false) := by unfold bState; rw [hbn, hv, putAll_all hb]
  have hback : ∀ b ∈ f.blocks, blockOf (vState (progF f)).1 (bState (progF f)).1 (toB f b) = b ∧ lostBlk (vState (progF f)).1 (bState (progF f)).1 (toB f b) = false := fun b hm => by
    rw [hv, hbs]; exact blk_back hf hu hb (s6 b hm)
  have hlost : lostP (progF f) = false := by
    unfold lostP
    rw [hbo, List.any_map]
    rw [List.any_eq_false.2 fun b hm => by simp [(hback b hm).2], hbs]; rfl
  unfold buildP
  rw [if_neg (by rw [hlost]; simp)]
  unfold funcP
  rw [hbo, List.map_map]
  have e1 : f.blocks.map (blockOf (vState (progF f)).1 (bState (progF f)).1 ∘ toB f) = f.blocks := by
    conv => rhs; rw [← List.map_id f.blocks]
    exact List.map_congr_left fun b hm => (hback b hm).1
  have e2 : (progF f).params ++ (progF f).vars = f.vars := List.take_append_drop _ _
  have e3 : (progF f).params.length = f.params.length := by show (f.vars.take f.params.length).length = _; rw [List.length_take]; omega
  rw [e1, e2, e3, parL_eq s2 hpl]
theorem items_sum (f : PFunc) : ∀ l : List PBlock, itemsN (l.map (toB f)) = sumTo l
  | [] => rfl
  | b :: l => by
    have ih := items_sum f l
    unfold itemsN sumTo at ih ⊢
    rw [List.map_cons, List.map_cons, List.sum_cons, List.map_cons, List.sum_cons, ih]
    show (b.phis.map (toPhi f) ++ b.insts.map (toInst f)).length + _ = _
    rw [List.length_append, List.length_map, List.length_map]
theorem fits_back {f : PFunc} (hS : ShapedP f) : fitsP (progF f) = true := by
  obtain ⟨s1, s2, s3, s4, s5, s6⟩ := hS
  have hbo : blocksOf (progF f) = f.blocks.map (toB f) := mkP_blocks _ _ _
  have e2 : (progF f).params.length + (progF f).vars.length = f.vars.length := by
    show (f.vars.take f.params.length).length + (f.vars.drop f.params.length).length = _
    rw [List.length_take, List.length_drop]; omega
  have e3 : (progF f).params.length ≤ f.params.length := by show (f.vars.take f.params.length).length ≤ _; rw [List.length_take]; omega
  unfold bad1 at s1
  simp at s1
  unfold fitsP
  rw [hbo, items_sum, List.length_map]
  simp only [Bool.and_eq_true, decide_eq_true_eq]
  omega
theorem wf_words {f : PFunc} (hf : FOk f) (hn : NumsOk f) : ∀ l ∈ linesF f, l ≠ [] ∧ ∀ w ∈ l, okW w := by
  have hkw : ∀ l : List UInt8, asciiW l = true → okW (strL l) := fun l h => okW_ascii h
  intro l hl
  unfold linesF at hl
  rcases List.mem_cons.1 hl with rfl | hl
  · refine ⟨by unfold headL; simp, fun w hw => ?_⟩
    unfold headL at hw
    rcases List.mem_cons.1 hw with rfl | hw
    · exact hkw [102, 117, 110, 99] (by decide)
    · obtain ⟨v, hv, rfl⟩ := List.mem_map.1 hw
      have := hf.vars v (List.mem_of_mem_take hv)
      exact pair_okW this.1 this.2
  · rcases List.mem_append.1 hl with hl | hl
    · obtain ⟨v, hv, rfl⟩ := List.mem_map.1 hl
      have := hf.vars v (List.mem_of_mem_drop hv)
      refine ⟨by unfold varL; simp, fun w hw => ?_⟩
      unfold varL at hw
      rcases List.mem_cons.1 hw with rfl | hw
      · exact hkw [118, 97, 114] (by decide)
      · rw [List.mem_singleton.1 hw]; exact pair_okW this.1 this.2
    · obtain ⟨b, hb, hl⟩ := List.mem_flatMap.1 hl
      obtain ⟨hbn, h1, h2, h3⟩ := hf.blks b hb
      unfold blkL at hl
      rcases List.mem_cons.1 hl with rfl | hl
      · refine ⟨by simp, fun w hw => ?_⟩
        rcases List.mem_cons.1 hw with rfl | hw
        · exact hkw [98, 108, 111, 99, 107] (by decide)
        · rw [List.mem_singleton.1 hw]; exact name_okW hbn
      · rcases List.mem_append.1 hl with hl | hl
        · obtain ⟨p, hp, rfl⟩ := List.mem_map.1 hl
          obtain ⟨g1, _, _, g4, g5⟩ := h1 p hp
          refine ⟨by unfold phiL; simp, fun w hw => ?_⟩
          unfold phiL at hw
          rcases List.mem_cons.1 hw with rfl | hw
          · exact name_okW (vname_ok hf g1)
          · rcases List.mem_cons.1 hw with rfl | hw
            · exact hkw [61] (by decide)
            · rcases List.mem_cons.1 hw with rfl | hw
              · exact hkw [112, 104, 105] (by decide)
              · rcases inter_mem hw with hw | hw
                · obtain ⟨x, hx, rfl⟩ := List.mem_map.1 hw; exact name_okW (bname_ok hf (List.all_eq_true.1 g5 x hx))
                · obtain ⟨x, hx, rfl⟩ := List.mem_map.1 hw; exact name_okW (vname_ok hf (List.all_eq_true.1 g4 x hx))
        · rcases List.mem_append.1 hl with hl | hl
          · obtain ⟨x, hx, rfl⟩ := List.mem_map.1 hl
            have hF := instP_F (h2 x hx)
            have hwo : wordsOf f x = words1 f x ++ [(kRow x.op).1] ++ x.args.map (vname f) ++ (if isNum x.op then [strL (itoa x.num)] else []) := by
              unfold wordsOf words2; rw [List.take_length]; rfl
            refine ⟨by rw [hwo]; simp, fun w hw => ?_⟩
            rw [hwo] at hw
            rcases List.mem_append.1 hw with hw | hw
            · rcases List.mem_append.1 hw with hw | hw
              · rcases List.mem_append.1 hw with hw | hw
                · unfold words1 at hw
                  split at hw
                  · rename_i hd
                    rcases List.mem_cons.1 hw with rfl | hw
                    · rcases hF.dst with ⟨_, d⟩ | ⟨_, _, d⟩
                      · omega
                      · exact name_okW (vname_ok hf d)
                    · rw [List.mem_singleton.1 hw]; exact hkw [61] (by decide)
                  · cases hw
                · rw [List.mem_singleton.1 hw]
                  have hk : ∀ j : Nat, j < 27 → asciiW (kRow (j : Int)).1.data.toList = true := by decide
                  have := hk x.op.toNat (by have := hF.op; omega)
                  rw [Int.toNat_of_nonneg hF.op.1] at this
                  rw [← strL_of (kRow x.op).1]
                  exact hkw _ this
              · obtain ⟨a, ha, rfl⟩ := List.mem_map.1 hw; exact name_okW (vname_ok hf (hF.args a ha))
            · split at hw
              · rw [List.mem_singleton.1 hw]
                refine hkw _ ?_
                have hdec : ∀ u : Nat, ∀ b ∈ decDigits u, 48 ≤ b.toNat ∧ b.toNat ≤ 57 := fun u => by
                  have key : ∀ n u, u ≤ n → ∀ b ∈ decDigits u, 48 ≤ b.toNat ∧ b.toNat ≤ 57 := by
                    intro n
                    induction n with
                    | zero => intro u hu b hb; rw [decDigits, dif_pos (by omega)] at hb; rw [List.mem_singleton.1 hb, UInt8.toNat_ofNat']; omega
                    | succ n ih =>
                      intro u hu b hb
                      rw [decDigits] at hb
                      by_cases h10 : u < 10
                      · rw [dif_pos h10] at hb; rw [List.mem_singleton.1 hb, UInt8.toNat_ofNat']; omega
                      · rw [dif_neg h10] at hb
                        rcases List.mem_append.1 hb with hb | hb
                        · exact ih (u / 10) (by omega) b hb
                        · rw [List.mem_singleton.1 hb, UInt8.toNat_ofNat']; omega
                  exact key u u (Nat.le_refl _)
                unfold asciiW itoa
                split
                · simp only [List.isEmpty_cons, Bool.not_false, Bool.true_and, List.all_cons, Bool.and_eq_true, List.all_eq_true]
                  exact ⟨by decide, fun b hb => by have := hdec _ b hb; simp; omega⟩
                · obtain ⟨c, r, e, _⟩ := dec_ne x.num.toNat
                  simp only [Bool.and_eq_true, List.all_eq_true]
                  exact ⟨by rw [e]; rfl, fun b hb => by have := hdec _ b hb; simp; omega⟩
              · cases hw
          · rw [List.mem_singleton.1 hl]
            unfold termL
            by_cases k0 : b.term.kind = 0
            · rw [if_pos k0]
              refine ⟨by simp, fun w hw => ?_⟩
              rcases List.mem_cons.1 hw with rfl | hw
              · exact hkw [106, 117, 109, 112] (by decide)
              · rw [List.mem_singleton.1 hw]; exact name_okW (bname_ok hf (termOK_0 h3 k0))
            · rw [if_neg k0]
              by_cases k1 : b.term.kind = 1
              · obtain ⟨t1, t2, t3⟩ := termOK_1 h3 k1
                rw [if_pos k1]
                refine ⟨by simp, fun w hw => ?_⟩
                rcases List.mem_cons.1 hw with rfl | hw
                · exact hkw [105, 102] (by decide)
                · rcases List.mem_cons.1 hw with rfl | hw
                  · exact name_okW (vname_ok hf t1)
                  · rcases List.mem_cons.1 hw with rfl | hw
                    · exact name_okW (bname_ok hf t2)
                    · rw [List.mem_singleton.1 hw]; exact name_okW (bname_ok hf t3)
              · rw [if_neg k1]
                refine ⟨by simp, fun w hw => ?_⟩
                rcases List.mem_cons.1 hw with rfl | hw
                · exact hkw [114, 101, 116] (by decide)
                · rw [List.mem_singleton.1 hw]; exact name_okW (vname_ok hf (termOK_2 h3 k0 k1))
def textF (f : PFunc) : ByteArray := unB (linesF f)
theorem parse_text {f : PFunc} (hS : ShapedP f) (hn : NumsOk f) : parseC (textF f) = if 16384 < (textF f).size then (4, none) else (0, some f) := by
  obtain ⟨hf, hu, hb, hne⟩ := shaped_ok hS
  by_cases hsz : 16384 < (textF f).size
  · have hr : rightE (textF f) = 4 := by unfold rightE; rw [if_pos hsz]
    rw [if_pos hsz]
    unfold parseC
    rw [if_neg (by rw [hr]; decide), hr]
  · obtain ⟨h1, h2⟩ := un_lines (wf_words hf hn) (by show (textF f).size ≤ 16384; omega)
    rw [if_neg hsz]
    unfold parseC
    rw [if_pos (show rightE (textF f) = 0 from h1), readP_W, show (linesOf (textF f)).map (·.2) = linesF f from h2, read_lines hf hn hne]
    dsimp only
    rw [if_pos (fits_back hS), build_back hS]
end Go.Proofs.YtdkhlgiohpdihaaGreatDoor
namespace Go.Proofs.YtdkhlgiohpdihaaGreatDoor
open Go.Proofs Go.Lib Go.Shelf Go.RowKit
theorem ps62_3 : PlacesS Tryz.prog 62 9 3 1 [.str ⟨#[]⟩, .str ⟨#[]⟩, .str ⟨#[]⟩] := ⟨_, Tryz.underlying62, Tryz.sizeOf9, Tryz.zeroValue9, by decide, by decide, by kernel_rfl⟩
set_option maxRecDepth 20000
variable {E : World}
theorem lit_size (a : Array UInt8) : (⟨a⟩ : ByteArray).size = a.size := rfl
theorem unB_app : ∀ (ls : List (List ByteArray)) (l : List ByteArray), unB (ls ++ [l]) = unB ls ++ (lineS l ++ nl)
  | [], l => by show (lineS l ++ nl) ++ unB [] = unB [] ++ (lineS l ++ nl); show (lineS l ++ nl) ++ ByteArray.empty = ByteArray.empty ++ _; rw [ByteArray.append_empty, ByteArray.empty_append]
  | x :: ls, l => by rw [List.cons_append, unB, unB_app ls l, unB]; simp only [ByteArray.append_assoc]
theorem lineS_snoc (w : ByteArray) (ws : List ByteArray) (a : ByteArray) : lineS ((w :: ws) ++ [a]) = (lineS (w :: ws) ++ spc) ++ a := joinS_app w ws a
theorem lineS_one (w : ByteArray) : lineS [w] = w := joinS_one w
theorem lineS_two (a b : ByteArray) : lineS [a, b] = (a ++ spc) ++ b := by rw [show [a, b] = [a] ++ [b] from rfl, lineS_snoc, lineS_one]
theorem lineS_three (a b c : ByteArray) : lineS [a, b, c] = (((a ++ spc) ++ b) ++ spc) ++ c := by rw [show [a, b, c] = [a, b] ++ [c] from rfl, lineS_snoc, lineS_two]
theorem lineS_four (a b c d : ByteArray) : lineS [a, b, c, d] = (((((a ++ spc) ++ b) ++ spc) ++ c) ++ spc) ++ d := by rw [show [a, b, c, d] = [a, b, c] ++ [d] from rfl, lineS_snoc, lineS_three]
theorem ty_row {t : Int} (h : 0 ≤ t ∧ t ≤ 2) : ([[.str ⟨#[105, 110, 116]⟩], [.str ⟨#[98, 111, 111, 108]⟩], [.str ⟨#[97, 114, 114]⟩]] : List (List AV))[t.toNat]? = some [.str (tyWord t)] := by
  have : t = 0 ∨ t = 1 ∨ t = 2 := by omega
  rcases this with rfl | rfl | rfl <;> rfl
theorem ty_size {t : Int} (h : 0 ≤ t ∧ t ≤ 2) : (tyWord t).size ≤ 4 := by
  have : t = 0 ∨ t = 1 ∨ t = 2 := by omega
  rcases this with rfl | rfl | rfl <;> decide
structure TBlk (b : PBlock) : Prop where
  phis : b.phis.length ≤ 2100
  insts : b.insts.length ≤ 2100
  args : ∀ p ∈ b.phis, p.args.length ≤ 2100 ∧ p.from_.length ≤ 2100
structure TOk (f : PFunc) : Prop where
  vars : f.vars.length ≤ 1000
  blks : f.blocks.length ≤ 100
  vn : ∀ v ∈ f.vars, v.name.size ≤ 1000
  bn : ∀ b ∈ f.blocks, b.name.size ≤ 1000
  each : ∀ b ∈ f.blocks, TBlk b
theorem inst_line_eq {f : PFunc} {x : PInst} (h : InstP f x) : refLine f x = lineS (wordsOf f x) := by
  rw [← line_eq h]; unfold instLine; rw [if_pos ((instOK_iff f x).2 h)]; rfl
theorem inter_succ : ∀ {l m : List ByteArray} {k : Nat} {a b : ByteArray}, l[k]? = some a → m[k]? = some b → inter (l.take (k + 1)) (m.take (k + 1)) = inter (l.take k) (m.take k) ++ [a, b]
  | [], _, _, _, _, h, _ => by simp at h
  | _ :: _, [], _, _, _, _, h => by simp at h
  | x :: l, y :: m, 0, a, b, h1, h2 => by
    simp at h1 h2; subst h1 h2
    simp [inter]
  | x :: l, y :: m, k + 1, a, b, h1, h2 => by
    rw [List.take_succ_cons, List.take_succ_cons, List.take_succ_cons, List.take_succ_cons, inter, inter, inter_succ (by simpa using h1) (by simpa using h2)]; rfl
def phiLk (f : PFunc) (p : PPhi) (k : Nat) : List ByteArray := vname f p.dst :: eqS :: phiS :: inter ((p.from_.map (bname f)).take k) ((p.args.map (vname f)).take k)
theorem phiLk_succ {f : PFunc} {p : PPhi} {k : Nat} (h1 : k < p.from_.length) (h2 : k < p.args.length) : lineS (phiLk f p (k + 1)) = (((lineS (phiLk f p k) ++ spc) ++ bname f p.from_[k]) ++ spc) ++ vname f p.args[k] := by
  have e1 : (p.from_.map (bname f))[k]? = some (bname f p.from_[k]) := by rw [List.getElem?_map, List.getElem?_eq_getElem h1]; rfl
  have e2 : (p.args.map (vname f))[k]? = some (vname f p.args[k]) := by rw [List.getElem?_map, List.getElem?_eq_getElem h2]; rfl
  unfold phiLk
  rw [inter_succ e1 e2]
  have : ∀ (a : ByteArray) (l : List ByteArray) (x y : ByteArray), a :: (l ++ [x, y]) = ((a :: l) ++ [x]) ++ [y] := fun a l x y => by simp
  rw [show vname f p.dst :: eqS :: phiS :: (inter ((p.from_.map (bname f)).take k) ((p.args.map (vname f)).take k) ++ [bname f p.from_[k], vname f p.args[k]]) = ((vname f p.dst :: eqS :: phiS :: inter ((p.from_.map (bname f)).take k) ((p.args.map (vname f)).take k)) ++ [bname f p.from_[k]]) ++ [vname f p.args[k]] by simp]
  rw [List.cons_append, lineS_snoc, ← List.cons_append, lineS_snoc]
def headLk (f : PFunc) (k : Nat) : List ByteArray := funcS :: (f.vars.take k).map pairW
theorem headLk_succ {f : PFunc} {k : Nat} (h : k < f.vars.length) : lineS (headLk f (k + 1)) = (((lineS (headLk f k) ++ spc) ++ f.vars[k].name) ++ colon) ++ tyWord f.vars[k].ty := by
  unfold headLk
  rw [List.take_succ_eq_append_getElem h, List.map_append, List.map_cons, List.map_nil, ← List.cons_append, lineS_snoc]
  unfold pairW
  simp only [ByteArray.append_assoc]
theorem var_line (v : PVar) : lineS (varL v) = ((((⟨#[118, 97, 114, 32]⟩ : ByteArray) ++ v.name) ++ colon) ++ tyWord v.ty) := by
  unfold varL; rw [lineS_two]; unfold pairW
  have : (⟨#[118, 97, 114, 32]⟩ : ByteArray) = varS ++ spc := by decide
  rw [this]; simp only [ByteArray.append_assoc]
theorem vname_sz {f : PFunc} (hT : TOk f) {v : Int} (h : hasV f v = true) : (vname f v).size ≤ 1000 := by
  obtain ⟨h1, _, _, h2⟩ := has_get h
  rw [h2]; exact hT.vn _ (List.getElem_mem h1)
theorem bname_sz {f : PFunc} (hT : TOk f) {v : Int} (h : hasB f v = true) : (bname f v).size ≤ 1000 := by
  obtain ⟨h1, _, _, h2⟩ := hasB_get h
  rw [h2]; exact hT.bn _ (List.getElem_mem h1)
theorem refLine_sz {f : PFunc} (hT : TOk f) {x : PInst} (hx : InstP f x) (hI : -9223372036854775808 ≤ x.num ∧ x.num ≤ 9223372036854775807) : x.args.length ≤ 3 ∧ (refLine f x).size ≤ 20000 := by
  have hF := instP_F hx
  have h3 := takesL_len x.op
  have hl := hF.len
  have hs := refArgs_size hT.vn x x.args.length (Nat.le_refl _)
  have hi := itoa_length_le x.num hI.1 hI.2
  refine ⟨by omega, ?_⟩
  unfold refLine
  split
  · rw [app_size, app_size, strL_size]
    have : spc.size = 1 := rfl
    omega
  · omega
theorem Left.none0 : ∀ O : OL, Left O []
  | [] => ⟨_, .refl _, rfl⟩
  | x :: O => let ⟨_, h1, h2⟩ := Left.none0 O; ⟨_, .drop h1, h2⟩
theorem refText_ex (f : PFunc) (hS : ShapedP f) (hT : TOk f) (hn : NumsOk f) : ACall Tryz.prog E 9 [.agg (encF f)] [] (fun x O => ∃ _ : Unit, x = .str (textF f) ∧ Left O [] ∧ (textF f).size ≤ 1000002000000) := by
  obtain ⟨hf, hu, hb, hne⟩ := shaped_ok hS
  have hpar := hS.2.1
  have hpl : f.params.length ≤ f.vars.length := by have s1 := hS.1; unfold bad1 at s1; simp at s1; omega
  have hvl := hT.vars
  have hbl := hT.blks
  refine ACall.intro Tryz.func9 rfl (by decide) rfl ?_
  refine AWP.seq ?_
  refine AWP.region rfl ?_
  refine AOps.boxF (cs := _) rfl rfl rfl ?_
  refine AOps.val (Gv.assign (v := .str _) rfl) ?_
  refine AOps.nil ?_
  refine AWP.seq ?_
  refine AWP.region rfl ?_
  refine AOps.buildSliceFF (rows := [[_], [_], [_]]) ps62_3 rfl rfl rfl rfl rfl ?_
  refine AOps.val (Gv.assign (v := .fro _ _) rfl) ?_
  refine AOps.nil ?_
  refine AWP.seq ?_
  refine AWP.region rfl ?_
  refine AOps.val (Gv.assign (v := .str _) rfl) ?_
  refine AOps.nil ?_
  refine AWP.seq ?_
  refine AWP.seq ?_
  refine AWP.region rfl ?_
  refine AOps.val (Gv.fieldF Tryz.underlying27 rfl Tryz.sizeOf24 (by decide) rfl rfl) ?_
  refine AOps.val (Gv.load1F (c := .fro _ _) Tryz.isAgg24 rfl) ?_
  refine AOps.val (Gv.lenM Tryz.underlying24 rfl) ?_
  refine AOps.val (Gv.move (v := .int _ _) rfl) ?_
  refine AOps.nil ?_
  refine AWP.block ?_
  refine AWP.loop (γ := Nat × ByteArray) [1, 3, 19] (fun g => [(20, .int .i64 g.1), (4, .str g.2)]) (fun g => []) (fun g => g.1 ≤ f.params.length ∧ g.2 = lineS (headLk f g.1) ∧ g.2.size ≤ 4 + g.1 * 1100) (fun g => f.params.length - g.1) (0, funcS) ⟨rfl, rfl, trivial⟩ ⟨_, (.refl _), rfl⟩ (⟨Nat.zero_le _, (lineS_one funcS).symm, by decide⟩) ?_
  rintro ⟨k, acc⟩ ⟨hk, hacc, hsz⟩
  try dsimp only at *
  refine AWP.seq ?_
  refine AWP.region rfl ?_
  refine AOps.val (Gv.lss rfl rfl) ?_
  refine AOps.nil ?_
  refine AWP.seq ?_
  refine AWP.condP rfl (fun ck => ?_) (fun ck => ?_)
  · skip
    have hk2 : k < f.params.length := by omega
    have hk3 : k < f.vars.length := by omega
    have hv := hf.vars _ (List.getElem_mem hk3)
    have hvs := hT.vn _ (List.getElem_mem hk3)
    have hts := ty_size hv.2
    refine AWP.skip ?_
    refine AWP.seq ?_
    refine AWP.block ?_
    refine AWP.seq ?_
    refine AWP.region rfl ?_
    refine AOps.val (Gv.move (v := .int _ _) rfl) ?_
    refine AOps.val (Gv.assign (v := .int _ _) rfl) ?_
    refine AOps.nil ?_
    refine AWP.regionDraw (fun j => false) (by kernel_rfl) rfl (Part.perm (.rest _)) ?_
    refine AAny.take (i := 0) rfl (by kernel_rfl) (by kernel_rfl) (by kernel_rfl) (by kernel_rfl) (by kernel_rfl) (by kernel_rfl) (Gv.move (v := .str _) rfl) ?_
    refine AAny.take (i := 1) rfl (by kernel_rfl) (by kernel_rfl) (by kernel_rfl) (by kernel_rfl) (by kernel_rfl) (by kernel_rfl) (Gv.addT rfl rfl (by (try simp only [app_size]); (try simp only [lit_size, List.size_toArray, List.length_cons, List.length_nil]); omega)) ?_
    refine AAny.take (i := 2) rfl (by kernel_rfl) (by kernel_rfl) (by kernel_rfl) (by kernel_rfl) (by kernel_rfl) (by kernel_rfl) (Gv.fieldF Tryz.underlying27 rfl Tryz.sizeOf23 (by decide) rfl rfl) ?_
    refine AAny.take (i := 3) rfl (by kernel_rfl) (by kernel_rfl) (by kernel_rfl) (by kernel_rfl) (by kernel_rfl) (by kernel_rfl) (Gv.load1F (c := .fro _ _) Tryz.isAgg23 rfl) ?_
    refine AAny.take (i := 4) rfl (by kernel_rfl) (by kernel_rfl) (by kernel_rfl) (by kernel_rfl) (by kernel_rfl) (by kernel_rfl) (Gv.move (v := .int _ _) rfl) ?_
    refine AAny.take (i := 5) rfl (by kernel_rfl) (by kernel_rfl) (by kernel_rfl) (by kernel_rfl) (by kernel_rfl) (by kernel_rfl) (Gv.idxM (j := k) Tryz.underlying23 Tryz.sizeOf38 rfl rfl rfl (List.getElem?_eq_getElem hk3)) ?_
    refine AAny.take (i := 6) rfl (by kernel_rfl) (by kernel_rfl) (by kernel_rfl) (by kernel_rfl) (by kernel_rfl) (by kernel_rfl) (Gv.fieldF Tryz.underlying38 rfl Tryz.sizeOf9 (by decide) rfl rfl) ?_
    refine AAny.take (i := 7) rfl (by kernel_rfl) (by kernel_rfl) (by kernel_rfl) (by kernel_rfl) (by kernel_rfl) (by kernel_rfl) (Gv.load1F (c := .str _) Tryz.isAgg9 rfl) ?_
    refine AAny.take (i := 8) rfl (by kernel_rfl) (by kernel_rfl) (by kernel_rfl) (by kernel_rfl) (by kernel_rfl) (by kernel_rfl) (Gv.addT rfl rfl (by (try simp only [app_size]); (try simp only [lit_size, List.size_toArray, List.length_cons, List.length_nil]); omega)) ?_
    refine AAny.take (i := 9) rfl (by kernel_rfl) (by kernel_rfl) (by kernel_rfl) (by kernel_rfl) (by kernel_rfl) (by kernel_rfl) (Gv.addT rfl rfl (by (try simp only [app_size]); (try simp only [lit_size, List.size_toArray, List.length_cons, List.length_nil]); omega)) ?_
    refine AAny.take (i := 10) rfl (by kernel_rfl) (by kernel_rfl) (by kernel_rfl) (by kernel_rfl) (by kernel_rfl) (by kernel_rfl) (Gv.move (v := .fro _ _) rfl) ?_
    refine AAny.take (i := 11) rfl (by kernel_rfl) (by kernel_rfl) (by kernel_rfl) (by kernel_rfl) (by kernel_rfl) (by kernel_rfl) (Gv.fieldF Tryz.underlying27 rfl Tryz.sizeOf23 (by decide) rfl rfl) ?_
    refine AAny.take (i := 12) rfl (by kernel_rfl) (by kernel_rfl) (by kernel_rfl) (by kernel_rfl) (by kernel_rfl) (by kernel_rfl) (Gv.load1F (c := .fro _ _) Tryz.isAgg23 rfl) ?_
    refine AAny.take (i := 13) rfl (by kernel_rfl) (by kernel_rfl) (by kernel_rfl) (by kernel_rfl) (by kernel_rfl) (by kernel_rfl) (Gv.move (v := .int _ _) rfl) ?_
    refine AAny.take (i := 14) rfl (by kernel_rfl) (by kernel_rfl) (by kernel_rfl) (by kernel_rfl) (by kernel_rfl) (by kernel_rfl) (Gv.idxM (j := k) Tryz.underlying23 Tryz.sizeOf38 rfl rfl rfl (List.getElem?_eq_getElem hk3)) ?_
    refine AAny.take (i := 15) rfl (by kernel_rfl) (by kernel_rfl) (by kernel_rfl) (by kernel_rfl) (by kernel_rfl) (by kernel_rfl) (Gv.fieldF Tryz.underlying38 rfl Tryz.sizeOf36 (by decide) rfl rfl) ?_
    refine AAny.take (i := 16) rfl (by kernel_rfl) (by kernel_rfl) (by kernel_rfl) (by kernel_rfl) (by kernel_rfl) (by kernel_rfl) (Gv.load1F (c := .int _ _) Tryz.isAgg36 rfl) ?_
    refine AAny.take (i := 17) rfl (by kernel_rfl) (by kernel_rfl) (by kernel_rfl) (by kernel_rfl) (by kernel_rfl) (by kernel_rfl) (Gv.idxF (j := f.vars[k].ty.toNat) Tryz.underlying62 Tryz.sizeOf9 rfl rfl (by have := hv.2.1; omega) (ty_row hv.2)) ?_
    refine AAny.take (i := 18) rfl (by kernel_rfl) (by kernel_rfl) (by kernel_rfl) (by kernel_rfl) (by kernel_rfl) (by kernel_rfl) (Gv.load1F (c := .str _) Tryz.isAgg9 rfl) ?_
    refine AAny.take (i := 19) rfl (by kernel_rfl) (by kernel_rfl) (by kernel_rfl) (by kernel_rfl) (by kernel_rfl) (by kernel_rfl) (Gv.addT rfl rfl (by (try simp only [app_size]); (try simp only [lit_size, List.size_toArray, List.length_cons, List.length_nil]); omega)) ?_
    refine AAny.take (i := 20) rfl (by kernel_rfl) (by kernel_rfl) (by kernel_rfl) (by kernel_rfl) (by kernel_rfl) (by kernel_rfl) (Gv.assign (v := .str _) rfl) ?_
    refine AAny.done (by kernel_rfl) ?_
    refine AWP.region rfl ?_
    refine AOps.val (Gv.add rfl rfl (by unfold I64; omega)) ?_
    refine AOps.val (Gv.move (v := .int _ _) rfl) ?_
    refine AOps.nil ?_
    exact ⟨(k + 1, (((acc ++ spc) ++ f.vars[k].name) ++ colon) ++ tyWord f.vars[k].ty), ⟨rfl, rfl, rfl, trivial⟩, ⟨rfl, rfl, trivial⟩, ⟨_, (.refl _), rfl⟩, ⟨hk2, by dsimp only; rw [headLk_succ hk3, hacc], by dsimp only; simp only [app_size]; have e1 : spc.size = 1 := rfl; have e2 : colon.size = 1 := rfl; omega⟩, by dsimp only; omega⟩
  · skip
    obtain rfl : k = f.params.length := by omega
    have hhead : headLk f f.params.length = headL f := rfl
    refine AWP.exit ?_
    refine AWP.seq ?_
    refine AWP.region rfl ?_
    refine AOps.val (Gv.move (v := .str _) rfl) ?_
    refine AOps.val (Gv.addT rfl rfl (by (try simp only [app_size]); (try simp only [lit_size, List.size_toArray, List.length_cons, List.length_nil]); omega)) ?_
    refine AOps.val (Gv.assign (v := .str _) rfl) ?_
    refine AOps.nil ?_
    refine AWP.seq ?_
    refine AWP.seq ?_
    refine AWP.region rfl ?_
    refine AOps.val (Gv.fieldF Tryz.underlying27 rfl Tryz.sizeOf24 (by decide) rfl rfl) ?_
    refine AOps.val (Gv.load1F (c := .fro _ _) Tryz.isAgg24 rfl) ?_
    refine AOps.val (Gv.lenM Tryz.underlying24 rfl) ?_
    refine AOps.val (Gv.assign (v := .int _ _) rfl) ?_
    refine AOps.nil ?_
    refine AWP.block ?_
    refine AWP.loop (γ := Nat × ByteArray) [1, 3] (fun g => [(6, .int .i64 g.1), (4, .str g.2)]) (fun g => []) (fun g => f.params.length ≤ g.1 ∧ g.1 ≤ f.vars.length ∧ g.2 = unB (headL f :: ((f.vars.take g.1).drop f.params.length).map varL) ∧ g.2.size ≤ 5 + g.1 * 1100) (fun g => f.vars.length - g.1) (f.params.length, acc ++ nl) ⟨rfl, rfl, trivial⟩ ⟨_, (.refl _), rfl⟩ (⟨Nat.le_refl _, hpl, by dsimp only; rw [List.drop_eq_nil_of_le (by rw [List.length_take]; omega), hacc, hhead]; show _ = (lineS (headL f) ++ nl) ++ ByteArray.empty; rw [ByteArray.append_empty], by dsimp only; rw [app_size]; have e1 : nl.size = 1 := rfl; omega⟩) ?_
    rintro ⟨i, acc2⟩ ⟨hi1, hi2, hacc2, hsz2⟩
    try dsimp only at *
    refine AWP.seq ?_
    refine AWP.seq ?_
    refine AWP.region rfl ?_
    refine AOps.val (Gv.move (v := .int _ _) rfl) ?_
    refine AOps.val (Gv.fieldF Tryz.underlying27 rfl Tryz.sizeOf23 (by decide) rfl rfl) ?_
    refine AOps.val (Gv.load1F (c := .fro _ _) Tryz.isAgg23 rfl) ?_
    refine AOps.val (Gv.lenM Tryz.underlying23 rfl) ?_
    refine AOps.val (Gv.lss rfl rfl) ?_
    refine AOps.nil ?_
    refine AWP.condP rfl (fun ci => ?_) (fun ci => ?_)
    · skip
      have hi3 : i < f.vars.length := by simpa using ci
      have hv := hf.vars _ (List.getElem_mem hi3)
      have hvs := hT.vn _ (List.getElem_mem hi3)
      have hts := ty_size hv.2
      refine AWP.skip ?_
      refine AWP.seq ?_
      refine AWP.block ?_
      refine AWP.regionDraw (fun j => false) (by kernel_rfl) rfl (Part.perm (.rest _)) ?_
      refine AAny.take (i := 0) rfl (by kernel_rfl) (by kernel_rfl) (by kernel_rfl) (by kernel_rfl) (by kernel_rfl) (by kernel_rfl) (Gv.move (v := .str _) rfl) ?_
      refine AAny.take (i := 1) rfl (by kernel_rfl) (by kernel_rfl) (by kernel_rfl) (by kernel_rfl) (by kernel_rfl) (by kernel_rfl) (Gv.addT rfl rfl (by (try simp only [app_size]); (try simp only [lit_size, List.size_toArray, List.length_cons, List.length_nil]); omega)) ?_
      refine AAny.take (i := 2) rfl (by kernel_rfl) (by kernel_rfl) (by kernel_rfl) (by kernel_rfl) (by kernel_rfl) (by kernel_rfl) (Gv.fieldF Tryz.underlying27 rfl Tryz.sizeOf23 (by decide) rfl rfl) ?_
      refine AAny.take (i := 3) rfl (by kernel_rfl) (by kernel_rfl) (by kernel_rfl) (by kernel_rfl) (by kernel_rfl) (by kernel_rfl) (Gv.load1F (c := .fro _ _) Tryz.isAgg23 rfl) ?_
      refine AAny.take (i := 4) rfl (by kernel_rfl) (by kernel_rfl) (by kernel_rfl) (by kernel_rfl) (by kernel_rfl) (by kernel_rfl) (Gv.move (v := .int _ _) rfl) ?_
      refine AAny.take (i := 5) rfl (by kernel_rfl) (by kernel_rfl) (by kernel_rfl) (by kernel_rfl) (by kernel_rfl) (by kernel_rfl) (Gv.idxM (j := i) Tryz.underlying23 Tryz.sizeOf38 rfl rfl rfl (List.getElem?_eq_getElem hi3)) ?_
      refine AAny.take (i := 6) rfl (by kernel_rfl) (by kernel_rfl) (by kernel_rfl) (by kernel_rfl) (by kernel_rfl) (by kernel_rfl) (Gv.fieldF Tryz.underlying38 rfl Tryz.sizeOf9 (by decide) rfl rfl) ?_
      refine AAny.take (i := 7) rfl (by kernel_rfl) (by kernel_rfl) (by kernel_rfl) (by kernel_rfl) (by kernel_rfl) (by kernel_rfl) (Gv.load1F (c := .str _) Tryz.isAgg9 rfl) ?_
      refine AAny.take (i := 8) rfl (by kernel_rfl) (by kernel_rfl) (by kernel_rfl) (by kernel_rfl) (by kernel_rfl) (by kernel_rfl) (Gv.addT rfl rfl (by (try simp only [app_size]); (try simp only [lit_size, List.size_toArray, List.length_cons, List.length_nil]); omega)) ?_
      refine AAny.take (i := 9) rfl (by kernel_rfl) (by kernel_rfl) (by kernel_rfl) (by kernel_rfl) (by kernel_rfl) (by kernel_rfl) (Gv.addT rfl rfl (by (try simp only [app_size]); (try simp only [lit_size, List.size_toArray, List.length_cons, List.length_nil]); omega)) ?_
      refine AAny.take (i := 10) rfl (by kernel_rfl) (by kernel_rfl) (by kernel_rfl) (by kernel_rfl) (by kernel_rfl) (by kernel_rfl) (Gv.move (v := .fro _ _) rfl) ?_
      refine AAny.take (i := 11) rfl (by kernel_rfl) (by kernel_rfl) (by kernel_rfl) (by kernel_rfl) (by kernel_rfl) (by kernel_rfl) (Gv.fieldF Tryz.underlying27 rfl Tryz.sizeOf23 (by decide) rfl rfl) ?_
      refine AAny.take (i := 12) rfl (by kernel_rfl) (by kernel_rfl) (by kernel_rfl) (by kernel_rfl) (by kernel_rfl) (by kernel_rfl) (Gv.load1F (c := .fro _ _) Tryz.isAgg23 rfl) ?_
      refine AAny.take (i := 13) rfl (by kernel_rfl) (by kernel_rfl) (by kernel_rfl) (by kernel_rfl) (by kernel_rfl) (by kernel_rfl) (Gv.move (v := .int _ _) rfl) ?_
      refine AAny.take (i := 14) rfl (by kernel_rfl) (by kernel_rfl) (by kernel_rfl) (by kernel_rfl) (by kernel_rfl) (by kernel_rfl) (Gv.idxM (j := i) Tryz.underlying23 Tryz.sizeOf38 rfl rfl rfl (List.getElem?_eq_getElem hi3)) ?_
      refine AAny.take (i := 15) rfl (by kernel_rfl) (by kernel_rfl) (by kernel_rfl) (by kernel_rfl) (by kernel_rfl) (by kernel_rfl) (Gv.fieldF Tryz.underlying38 rfl Tryz.sizeOf36 (by decide) rfl rfl) ?_
      refine AAny.take (i := 16) rfl (by kernel_rfl) (by kernel_rfl) (by kernel_rfl) (by kernel_rfl) (by kernel_rfl) (by kernel_rfl) (Gv.load1F (c := .int _ _) Tryz.isAgg36 rfl) ?_
      refine AAny.take (i := 17) rfl (by kernel_rfl) (by kernel_rfl) (by kernel_rfl) (by kernel_rfl) (by kernel_rfl) (by kernel_rfl) (Gv.idxF (j := f.vars[i].ty.toNat) Tryz.underlying62 Tryz.sizeOf9 rfl rfl (by have := hv.2.1; omega) (ty_row hv.2)) ?_
      refine AAny.take (i := 18) rfl (by kernel_rfl) (by kernel_rfl) (by kernel_rfl) (by kernel_rfl) (by kernel_rfl) (by kernel_rfl) (Gv.load1F (c := .str _) Tryz.isAgg9 rfl) ?_
      refine AAny.take (i := 19) rfl (by kernel_rfl) (by kernel_rfl) (by kernel_rfl) (by kernel_rfl) (by kernel_rfl) (by kernel_rfl) (Gv.addT rfl rfl (by (try simp only [app_size]); (try simp only [lit_size, List.size_toArray, List.length_cons, List.length_nil]); omega)) ?_
      refine AAny.take (i := 20) rfl (by kernel_rfl) (by kernel_rfl) (by kernel_rfl) (by kernel_rfl) (by kernel_rfl) (by kernel_rfl) (Gv.addT rfl rfl (by (try simp only [app_size]); (try simp only [lit_size, List.size_toArray, List.length_cons, List.length_nil]); omega)) ?_
      refine AAny.take (i := 21) rfl (by kernel_rfl) (by kernel_rfl) (by kernel_rfl) (by kernel_rfl) (by kernel_rfl) (by kernel_rfl) (Gv.assign (v := .str _) rfl) ?_
      refine AAny.done (by kernel_rfl) ?_
      refine AWP.region rfl ?_
      refine AOps.val (Gv.move (v := .int _ _) rfl) ?_
      refine AOps.val (Gv.add rfl rfl (by unfold I64; omega)) ?_
      refine AOps.val (Gv.assign (v := .int _ _) rfl) ?_
      refine AOps.nil ?_
      exact ⟨(i + 1, ((((acc2 ++ (⟨#[118, 97, 114, 32]⟩ : ByteArray)) ++ f.vars[i].name) ++ colon) ++ tyWord f.vars[i].ty) ++ nl), ⟨rfl, rfl, trivial⟩, ⟨rfl, rfl, trivial⟩, ⟨_, (.refl _), rfl⟩, ⟨by dsimp only; omega, hi3, by dsimp only; rw [List.take_succ_eq_append_getElem hi3, List.drop_append_of_le_length (by rw [List.length_take]; omega), List.map_append, List.map_cons, List.map_nil, ← List.cons_append, unB_app, ← hacc2, var_line]; simp only [ByteArray.append_assoc], by dsimp only; simp only [app_size]; have e1 : nl.size = 1 := rfl; have e2 : colon.size = 1 := rfl; have e3 : (⟨#[118, 97, 114, 32]⟩ : ByteArray).size = 4 := rfl; omega⟩, by dsimp only; omega⟩
    · skip
      obtain rfl : i = f.vars.length := by have : ¬ i < f.vars.length := (by simpa using ci); omega
      rw [List.take_length] at hacc2
      obtain ⟨P0, hP0⟩ : ∃ P0, headL f :: (f.vars.drop f.params.length).map varL = P0 := ⟨_, rfl⟩
      have hlines : linesF f = P0 ++ f.blocks.flatMap (blkL f) := by rw [← hP0]; rfl
      rw [hP0] at hacc2
      refine AWP.exit ?_
      refine AWP.seq ?_
      refine AWP.seq ?_
      refine AWP.region rfl ?_
      refine AOps.val (Gv.fieldF Tryz.underlying27 rfl Tryz.sizeOf25 (by decide) rfl rfl) ?_
      refine AOps.val (Gv.load1F (c := .fro _ _) Tryz.isAgg25 rfl) ?_
      refine AOps.val (Gv.lenM Tryz.underlying25 rfl) ?_
      refine AOps.val (Gv.move (v := .int _ _) rfl) ?_
      refine AOps.nil ?_
      refine AWP.block ?_
      refine AWP.loop (γ := Nat × ByteArray) [1, 78, 79] (fun g => [(80, .int .i64 g.1), (4, .str g.2)]) (fun g => []) (fun g => g.1 ≤ f.blocks.length ∧ g.2 = unB (P0 ++ (f.blocks.take g.1).flatMap (blkL f)) ∧ g.2.size ≤ 2000000 + g.1 * 10000000000) (fun g => f.blocks.length - g.1) (0, acc2) ⟨rfl, rfl, trivial⟩ ⟨_, (.refl _), rfl⟩ (⟨Nat.zero_le _, by dsimp only; rw [hacc2]; simp, by dsimp only; omega⟩) ?_
      rintro ⟨k, acc3⟩ ⟨hk3, hacc3, hsz3⟩
      try dsimp only at *
      refine AWP.seq ?_
      refine AWP.region rfl ?_
      refine AOps.val (Gv.lss rfl rfl) ?_
      refine AOps.nil ?_
      refine AWP.seq ?_
      refine AWP.condP rfl (fun cb => ?_) (fun cb => ?_)
      · skip
        have hk4 : k < f.blocks.length := by omega
        obtain ⟨b, hbk⟩ : ∃ b, f.blocks[k] = b := ⟨_, rfl⟩
        have hget : f.blocks[k]? = some b := by rw [List.getElem?_eq_getElem hk4, hbk]
        have hbm : b ∈ f.blocks := hbk ▸ List.getElem_mem hk4
        obtain ⟨hbn, hb1, hb2, hb3⟩ := hf.blks b hbm
        have hbs := hT.bn b hbm
        have hTb := hT.each b hbm
        have hnb := hn b hbm
        have hp1 := hTb.phis
        have hp2 := hTb.insts
        obtain ⟨Q, hQ⟩ : ∃ Q, P0 ++ (f.blocks.take k).flatMap (blkL f) ++ [[blockS, b.name]] = Q := ⟨_, rfl⟩
        refine AWP.skip ?_
        refine AWP.seq ?_
        refine AWP.block ?_
        refine AWP.seq ?_
        refine AWP.region rfl ?_
        refine AOps.val (Gv.idxM (j := k) Tryz.underlying25 Tryz.sizeOf48 rfl rfl rfl hget) ?_
        refine AOps.val (Gv.loadWF Tryz.isAgg48 Tryz.sizeOf48 rfl rfl) ?_
        refine AOps.alloc (cs := [.str ⟨#[]⟩, .raw (.slice none 0 0), .raw (.slice none 0 0), .int .i64 0, .int .i64 0, .int .i64 0, .int .i64 0]) Tryz.zeroValue48 rfl rfl ?_
        intro i8
        refine AOps.storeW Tryz.sizeOf48 rfl rfl rfl rfl rfl rfl .head rfl ?_
        refine AOps.nil ?_
        refine AWP.seq ?_
        refine AWP.region rfl ?_
        refine AOps.val (Gv.move (v := .str _) rfl) ?_
        refine AOps.val (Gv.addT rfl rfl (by (try simp only [app_size]); (try simp only [lit_size, List.size_toArray, List.length_cons, List.length_nil]); omega)) ?_
        refine AOps.val (Gv.fieldO Tryz.underlying48 rfl Tryz.sizeOf9 (by decide) rfl rfl) ?_
        refine AOps.val (Gv.load1C (c := .str _) Tryz.isAgg9 rfl ⟨_, .head⟩ rfl) ?_
        refine AOps.val (Gv.addT rfl rfl (by (try simp only [app_size]); (try simp only [lit_size, List.size_toArray, List.length_cons, List.length_nil]); omega)) ?_
        refine AOps.val (Gv.addT rfl rfl (by (try simp only [app_size]); (try simp only [lit_size, List.size_toArray, List.length_cons, List.length_nil]); omega)) ?_
        refine AOps.val (Gv.assign (v := .str _) rfl) ?_
        refine AOps.nil ?_
        refine AWP.seq ?_
        refine AWP.seq ?_
        refine AWP.region rfl ?_
        refine AOps.val (Gv.fieldO Tryz.underlying48 rfl Tryz.sizeOf41 (by decide) rfl rfl) ?_
        refine AOps.val (Gv.load1C (c := .fro _ _) Tryz.isAgg41 rfl ⟨_, .head⟩ rfl) ?_
        refine AOps.val (Gv.lenM Tryz.underlying41 rfl) ?_
        refine AOps.val (Gv.move (v := .int _ _) rfl) ?_
        refine AOps.nil ?_
        refine AWP.block ?_
        refine AWP.loop (γ := Nat × ByteArray) [1, 8, 78, 79, 80, 91, 92] (fun g => [(93, .int .i64 g.1), (4, .str g.2)]) (fun g => [(i8, .cells 48 (encBlk b))]) (fun g => g.1 ≤ b.phis.length ∧ g.2 = unB (Q ++ (b.phis.take g.1).map (phiL f)) ∧ g.2.size ≤ 2001100 + k * 10000000000 + g.1 * 4300000) (fun g => b.phis.length - g.1) (0, ((acc3 ++ (⟨#[98, 108, 111, 99, 107, 32]⟩ : ByteArray)) ++ b.name) ++ nl) ⟨rfl, rfl, trivial⟩ ⟨_, (.refl _), rfl⟩ (⟨Nat.zero_le _, by dsimp only; rw [List.take_zero, List.map_nil, List.append_nil, ← hQ, unB_app, ← hacc3, lineS_two, show (⟨#[98, 108, 111, 99, 107, 32]⟩ : ByteArray) = blockS ++ spc by decide]; simp only [ByteArray.append_assoc], by dsimp only; simp only [app_size]; have e1 : nl.size = 1 := rfl; have e2 : (⟨#[98, 108, 111, 99, 107, 32]⟩ : ByteArray).size = 6 := rfl; omega⟩) ?_
        rintro ⟨j, acc4⟩ ⟨hj, hacc4, hsz4⟩
        try dsimp only at *
        refine AWP.seq ?_
        refine AWP.region rfl ?_
        refine AOps.val (Gv.lss rfl rfl) ?_
        refine AOps.nil ?_
        refine AWP.seq ?_
        refine AWP.condP rfl (fun cj => ?_) (fun cj => ?_)
        · skip
          have hj2 : j < b.phis.length := by simp at cj; omega
          obtain ⟨p, hpj⟩ : ∃ p, b.phis[j] = p := ⟨_, rfl⟩
          have hgp : b.phis[j]? = some p := by rw [List.getElem?_eq_getElem hj2, hpj]
          have hpm : p ∈ b.phis := hpj ▸ List.getElem_mem hj2
          obtain ⟨g1, g2, g3, g4, g5⟩ := hb1 p hpm
          have g4 := List.all_eq_true.1 g4
          have g5 := List.all_eq_true.1 g5
          obtain ⟨d1, d2, d3, d4⟩ := has_get g1
          have hds := vname_sz hT g1
          have hpa := hTb.args p hpm
          have hds2 : (f.vars[p.dst.toNat]).name.size ≤ 1000 := by rw [← d4]; exact hds
          refine AWP.skip ?_
          refine AWP.seq ?_
          refine AWP.block ?_
          refine AWP.seq ?_
          refine AWP.region rfl ?_
          refine AOps.val (Gv.idxM (j := j) Tryz.underlying41 Tryz.sizeOf64 rfl rfl rfl hgp) ?_
          refine AOps.val (Gv.loadWF Tryz.isAgg64 Tryz.sizeOf64 rfl rfl) ?_
          refine AOps.alloc (cs := [.int .i64 0, .raw (.slice none 0 0), .raw (.slice none 0 0)]) Tryz.zeroValue64 rfl rfl ?_
          intro i10
          refine AOps.storeW Tryz.sizeOf64 rfl rfl rfl rfl rfl rfl .head rfl ?_
          refine AOps.nil ?_
          refine AWP.seq ?_
          refine AWP.region rfl ?_
          refine AOps.val (Gv.move (v := .str _) rfl) ?_
          refine AOps.val (Gv.fieldF Tryz.underlying27 rfl Tryz.sizeOf23 (by decide) rfl rfl) ?_
          refine AOps.val (Gv.load1F (c := .fro _ _) Tryz.isAgg23 rfl) ?_
          refine AOps.val (Gv.fieldO Tryz.underlying64 rfl Tryz.sizeOf3 (by decide) rfl rfl) ?_
          refine AOps.val (Gv.load1C (c := .int _ _) Tryz.isAgg3 rfl ⟨_, .head⟩ rfl) ?_
          refine AOps.val (Gv.idxM (j := p.dst.toNat) Tryz.underlying23 Tryz.sizeOf38 rfl rfl (by omega) d2) ?_
          refine AOps.val (Gv.fieldF Tryz.underlying38 rfl Tryz.sizeOf9 (by decide) rfl rfl) ?_
          refine AOps.val (Gv.load1F (c := .str _) Tryz.isAgg9 rfl) ?_
          refine AOps.val (Gv.addT rfl rfl (by (try simp only [app_size]); (try simp only [lit_size, List.size_toArray, List.length_cons, List.length_nil]); omega)) ?_
          refine AOps.val (Gv.addT rfl rfl (by (try simp only [app_size]); (try simp only [lit_size, List.size_toArray, List.length_cons, List.length_nil]); omega)) ?_
          refine AOps.val (Gv.assign (v := .str _) rfl) ?_
          refine AOps.nil ?_
          refine AWP.seq ?_
          refine AWP.seq ?_
          refine AWP.region rfl ?_
          refine AOps.val (Gv.fieldO Tryz.underlying64 rfl Tryz.sizeOf24 (by decide) rfl rfl) ?_
          refine AOps.val (Gv.load1C (c := .fro _ _) Tryz.isAgg24 rfl ⟨_, .head⟩ rfl) ?_
          refine AOps.val (Gv.lenM Tryz.underlying24 rfl) ?_
          refine AOps.val (Gv.move (v := .int _ _) rfl) ?_
          refine AOps.nil ?_
          refine AWP.block ?_
          refine AWP.loop (γ := Nat × ByteArray) [1, 8, 10, 78, 79, 80, 91, 92, 93, 108, 109] (fun g => [(110, .int .i64 g.1), (4, .str g.2)]) (fun g => [(i10, .cells 64 (encPhi p)), (i8, .cells 48 (encBlk b))]) (fun g => g.1 ≤ p.args.length ∧ g.2 = acc4 ++ lineS (phiLk f p g.1) ∧ g.2.size ≤ 2002110 + k * 10000000000 + j * 4300000 + g.1 * 2002) (fun g => p.args.length - g.1) (0, (acc4 ++ f.vars[p.dst.toNat].name) ++ (⟨#[32, 61, 32, 112, 104, 105]⟩ : ByteArray)) ⟨rfl, rfl, trivial⟩ ⟨_, (.refl _), rfl⟩ (⟨Nat.zero_le _, by dsimp only; rw [← d4]; show _ = acc4 ++ lineS [vname f p.dst, eqS, phiS]; rw [lineS_three, show (⟨#[32, 61, 32, 112, 104, 105]⟩ : ByteArray) = ((spc ++ eqS) ++ spc) ++ phiS by decide]; simp only [ByteArray.append_assoc], by dsimp only; simp only [app_size]; have e2 : (⟨#[32, 61, 32, 112, 104, 105]⟩ : ByteArray).size = 6 := rfl; omega⟩) ?_
          rintro ⟨m, acc5⟩ ⟨hm, hacc5, hsz5⟩
          try dsimp only at *
          refine AWP.seq ?_
          refine AWP.region rfl ?_
          refine AOps.val (Gv.lss rfl rfl) ?_
          refine AOps.nil ?_
          refine AWP.seq ?_
          refine AWP.condP rfl (fun cm => ?_) (fun cm => ?_)
          · skip
            have hm2 : m < p.args.length := by simp at cm; omega
            have hm3 : m < p.from_.length := by omega
            obtain ⟨b1, b2, b3, b4⟩ := hasB_get (g5 _ (List.getElem_mem hm3))
            obtain ⟨v1, v2, v3, v4⟩ := has_get (g4 _ (List.getElem_mem hm2))
            have hs1 := bname_sz hT (g5 _ (List.getElem_mem hm3))
            have hs2 := vname_sz hT (g4 _ (List.getElem_mem hm2))
            have hs3 : (f.blocks[(p.from_[m]).toNat]).name.size ≤ 1000 := by rw [← b4]; exact hs1
            have hs4 : (f.vars[(p.args[m]).toNat]).name.size ≤ 1000 := by rw [← v4]; exact hs2
            refine AWP.skip ?_
            refine AWP.seq ?_
            refine AWP.block ?_
            refine AWP.seq ?_
            refine AWP.region rfl ?_
            refine AOps.val (Gv.move (v := .int _ _) rfl) ?_
            refine AOps.val (Gv.idxM (j := m) Tryz.underlying24 Tryz.sizeOf3 rfl rfl rfl (List.getElem?_eq_getElem hm2)) ?_
            refine AOps.val (Gv.load1F (c := .int _ _) Tryz.isAgg3 rfl) ?_
            refine AOps.val (Gv.assign (v := .int _ _) rfl) ?_
            refine AOps.val (Gv.assign (v := .int _ _) rfl) ?_
            refine AOps.nil ?_
            refine AWP.regionDraw (fun j => false) (by kernel_rfl) rfl (Part.perm (.r (.rest _))) ?_
            refine AAny.take (i := 0) rfl (by kernel_rfl) (by kernel_rfl) (by kernel_rfl) (by kernel_rfl) (by kernel_rfl) (by kernel_rfl) (Gv.move (v := .str _) rfl) ?_
            refine AAny.take (i := 1) rfl (by kernel_rfl) (by kernel_rfl) (by kernel_rfl) (by kernel_rfl) (by kernel_rfl) (by kernel_rfl) (Gv.addT rfl rfl (by (try simp only [app_size]); (try simp only [lit_size, List.size_toArray, List.length_cons, List.length_nil]); omega)) ?_
            refine AAny.take (i := 2) rfl (by kernel_rfl) (by kernel_rfl) (by kernel_rfl) (by kernel_rfl) (by kernel_rfl) (by kernel_rfl) (Gv.fieldF Tryz.underlying27 rfl Tryz.sizeOf25 (by decide) rfl rfl) ?_
            refine AAny.take (i := 3) rfl (by kernel_rfl) (by kernel_rfl) (by kernel_rfl) (by kernel_rfl) (by kernel_rfl) (by kernel_rfl) (Gv.load1F (c := .fro _ _) Tryz.isAgg25 rfl) ?_
            refine AAny.take (i := 4) rfl (by kernel_rfl) (by kernel_rfl) (by kernel_rfl) (by kernel_rfl) (by kernel_rfl) (by kernel_rfl) (Gv.fieldO Tryz.underlying64 rfl Tryz.sizeOf24 (by decide) rfl rfl) ?_
            refine AAny.take (i := 5) rfl (by kernel_rfl) (by kernel_rfl) (by kernel_rfl) (by kernel_rfl) (by kernel_rfl) (by kernel_rfl) (Gv.load1C (c := .fro _ _) Tryz.isAgg24 rfl ⟨_, .head⟩ rfl) ?_
            refine AAny.take (i := 6) rfl (by kernel_rfl) (by kernel_rfl) (by kernel_rfl) (by kernel_rfl) (by kernel_rfl) (by kernel_rfl) (Gv.move (v := .int _ _) rfl) ?_
            refine AAny.take (i := 7) rfl (by kernel_rfl) (by kernel_rfl) (by kernel_rfl) (by kernel_rfl) (by kernel_rfl) (by kernel_rfl) (Gv.idxM (j := m) Tryz.underlying24 Tryz.sizeOf3 rfl rfl rfl (List.getElem?_eq_getElem hm3)) ?_
            refine AAny.take (i := 8) rfl (by kernel_rfl) (by kernel_rfl) (by kernel_rfl) (by kernel_rfl) (by kernel_rfl) (by kernel_rfl) (Gv.load1F (c := .int _ _) Tryz.isAgg3 rfl) ?_
            refine AAny.take (i := 9) rfl (by kernel_rfl) (by kernel_rfl) (by kernel_rfl) (by kernel_rfl) (by kernel_rfl) (by kernel_rfl) (Gv.idxM (j := (p.from_[m]).toNat) Tryz.underlying25 Tryz.sizeOf48 rfl rfl (by omega) b2) ?_
            refine AAny.take (i := 10) rfl (by kernel_rfl) (by kernel_rfl) (by kernel_rfl) (by kernel_rfl) (by kernel_rfl) (by kernel_rfl) (Gv.fieldF Tryz.underlying48 rfl Tryz.sizeOf9 (by decide) rfl rfl) ?_
            refine AAny.take (i := 11) rfl (by kernel_rfl) (by kernel_rfl) (by kernel_rfl) (by kernel_rfl) (by kernel_rfl) (by kernel_rfl) (Gv.load1F (c := .str _) Tryz.isAgg9 rfl) ?_
            refine AAny.take (i := 12) rfl (by kernel_rfl) (by kernel_rfl) (by kernel_rfl) (by kernel_rfl) (by kernel_rfl) (by kernel_rfl) (Gv.addT rfl rfl (by (try simp only [app_size]); (try simp only [lit_size, List.size_toArray, List.length_cons, List.length_nil]); omega)) ?_
            refine AAny.take (i := 13) rfl (by kernel_rfl) (by kernel_rfl) (by kernel_rfl) (by kernel_rfl) (by kernel_rfl) (by kernel_rfl) (Gv.addT rfl rfl (by (try simp only [app_size]); (try simp only [lit_size, List.size_toArray, List.length_cons, List.length_nil]); omega)) ?_
            refine AAny.take (i := 14) rfl (by kernel_rfl) (by kernel_rfl) (by kernel_rfl) (by kernel_rfl) (by kernel_rfl) (by kernel_rfl) (Gv.fieldF Tryz.underlying27 rfl Tryz.sizeOf23 (by decide) rfl rfl) ?_
            refine AAny.take (i := 15) rfl (by kernel_rfl) (by kernel_rfl) (by kernel_rfl) (by kernel_rfl) (by kernel_rfl) (by kernel_rfl) (Gv.load1F (c := .fro _ _) Tryz.isAgg23 rfl) ?_
            refine AAny.take (i := 16) rfl (by kernel_rfl) (by kernel_rfl) (by kernel_rfl) (by kernel_rfl) (by kernel_rfl) (by kernel_rfl) (Gv.move (v := .int _ _) rfl) ?_
            refine AAny.take (i := 17) rfl (by kernel_rfl) (by kernel_rfl) (by kernel_rfl) (by kernel_rfl) (by kernel_rfl) (by kernel_rfl) (Gv.idxM (j := (p.args[m]).toNat) Tryz.underlying23 Tryz.sizeOf38 rfl rfl (by omega) v2) ?_
            refine AAny.take (i := 18) rfl (by kernel_rfl) (by kernel_rfl) (by kernel_rfl) (by kernel_rfl) (by kernel_rfl) (by kernel_rfl) (Gv.fieldF Tryz.underlying38 rfl Tryz.sizeOf9 (by decide) rfl rfl) ?_
            refine AAny.take (i := 19) rfl (by kernel_rfl) (by kernel_rfl) (by kernel_rfl) (by kernel_rfl) (by kernel_rfl) (by kernel_rfl) (Gv.load1F (c := .str _) Tryz.isAgg9 rfl) ?_
            refine AAny.take (i := 20) rfl (by kernel_rfl) (by kernel_rfl) (by kernel_rfl) (by kernel_rfl) (by kernel_rfl) (by kernel_rfl) (Gv.addT rfl rfl (by (try simp only [app_size]); (try simp only [lit_size, List.size_toArray, List.length_cons, List.length_nil]); omega)) ?_
            refine AAny.take (i := 21) rfl (by kernel_rfl) (by kernel_rfl) (by kernel_rfl) (by kernel_rfl) (by kernel_rfl) (by kernel_rfl) (Gv.assign (v := .str _) rfl) ?_
            refine AAny.done (by kernel_rfl) ?_
            refine AWP.region rfl ?_
            refine AOps.val (Gv.add rfl rfl (by unfold I64; omega)) ?_
            refine AOps.val (Gv.move (v := .int _ _) rfl) ?_
            refine AOps.nil ?_
            exact ⟨(m + 1, (((acc5 ++ spc) ++ f.blocks[(p.from_[m]).toNat].name) ++ spc) ++ f.vars[(p.args[m]).toNat].name), ⟨rfl, rfl, rfl, rfl, rfl, rfl, rfl, rfl, rfl, rfl, rfl, trivial⟩, ⟨rfl, rfl, trivial⟩, ⟨_, (.refl _), rfl⟩, ⟨hm2, by dsimp only; rw [phiLk_succ hm3 hm2, b4, v4, hacc5]; simp only [ByteArray.append_assoc], by dsimp only; simp only [app_size]; have e1 : spc.size = 1 := rfl; omega⟩, by dsimp only; omega⟩
          · skip
            obtain rfl : m = p.args.length := by simp at cm; omega
            have hfull : phiLk f p p.args.length = phiL f p := by
              unfold phiLk phiL
              rw [List.take_of_length_le (by simp; omega), List.take_of_length_le (by simp)]
            refine AWP.exit ?_
            refine AWP.region rfl ?_
            refine AOps.val (Gv.move (v := .str _) rfl) ?_
            refine AOps.val (Gv.addT rfl rfl (by (try simp only [app_size]); (try simp only [lit_size, List.size_toArray, List.length_cons, List.length_nil]); omega)) ?_
            refine AOps.val (Gv.assign (v := .str _) rfl) ?_
            refine AOps.nil ?_
            refine AWP.region rfl ?_
            refine AOps.val (Gv.add rfl rfl (by unfold I64; omega)) ?_
            refine AOps.val (Gv.move (v := .int _ _) rfl) ?_
            refine AOps.nil ?_
            exact ⟨(j + 1, acc5 ++ nl), ⟨rfl, rfl, rfl, rfl, rfl, rfl, rfl, trivial⟩, ⟨rfl, rfl, trivial⟩, ⟨_, (.drop (.refl _)), rfl⟩, ⟨hj2, by dsimp only; rw [List.take_succ_eq_append_getElem hj2, hpj, List.map_append, List.map_cons, List.map_nil, ← List.append_assoc, unB_app, ← hacc4, hacc5, hfull]; simp only [ByteArray.append_assoc], by dsimp only; rw [app_size]; have e1 : nl.size = 1 := rfl; omega⟩, by dsimp only; omega⟩
        · skip
          obtain rfl : j = b.phis.length := by simp at cj; omega
          rw [List.take_length] at hacc4
          obtain ⟨Q2, hQ2⟩ : ∃ Q2, Q ++ b.phis.map (phiL f) = Q2 := ⟨_, rfl⟩
          rw [hQ2] at hacc4
          refine AWP.exit ?_
          refine AWP.seq ?_
          refine AWP.seq ?_
          refine AWP.region rfl ?_
          refine AOps.val (Gv.fieldO Tryz.underlying48 rfl Tryz.sizeOf42 (by decide) rfl rfl) ?_
          refine AOps.val (Gv.load1C (c := .fro _ _) Tryz.isAgg42 rfl ⟨_, .head⟩ rfl) ?_
          refine AOps.val (Gv.lenM Tryz.underlying42 rfl) ?_
          refine AOps.val (Gv.move (v := .int _ _) rfl) ?_
          refine AOps.nil ?_
          refine AWP.block ?_
          refine AWP.loop (γ := Nat × ByteArray) [1, 8, 78, 79, 80, 141, 142] (fun g => [(143, .int .i64 g.1), (4, .str g.2)]) (fun g => [(i8, .cells 48 (encBlk b))]) (fun g => g.1 ≤ b.insts.length ∧ g.2 = unB (Q2 ++ (b.insts.take g.1).map (wordsOf f)) ∧ g.2.size ≤ 9032001100 + k * 10000000000 + g.1 * 20001) (fun g => b.insts.length - g.1) (0, acc4) ⟨rfl, rfl, trivial⟩ ⟨_, (.refl _), rfl⟩ (⟨Nat.zero_le _, by dsimp only; rw [List.take_zero, List.map_nil, List.append_nil, hacc4], by dsimp only; omega⟩) ?_
          rintro ⟨j, acc6⟩ ⟨hj2, hacc6, hsz6⟩
          try dsimp only at *
          refine AWP.seq ?_
          refine AWP.region rfl ?_
          refine AOps.val (Gv.lss rfl rfl) ?_
          refine AOps.nil ?_
          refine AWP.seq ?_
          refine AWP.condP rfl (fun ci2 => ?_) (fun ci2 => ?_)
          · skip
            have hj3 : j < b.insts.length := by simp at ci2; omega
            obtain ⟨x, hxj⟩ : ∃ x, b.insts[j] = x := ⟨_, rfl⟩
            have hgx : b.insts[j]? = some x := by rw [List.getElem?_eq_getElem hj3, hxj]
            have hxm : x ∈ b.insts := hxj ▸ List.getElem_mem hj3
            have hxP := hb2 x hxm
            have hxF := instP_F hxP
            obtain ⟨hxl, hxs⟩ := refLine_sz hT hxP (hnb x hxm)
            have hdst : (kRow x.op).2.2 ≠ ⟨#[]⟩ → hasV f x.dst = true := fun h => by
              rcases hxF.dst with ⟨d, _⟩ | ⟨_, _, d⟩
              · rw [makesB_eq, decide_eq_false h] at d; cases d
              · exact d
            refine AWP.skip ?_
            refine AWP.seq ?_
            refine AWP.block ?_
            refine AWP.seq ?_
            refine AWP.region rfl ?_
            refine AOps.val (Gv.idxM (j := j) Tryz.underlying42 Tryz.sizeOf67 rfl rfl rfl hgx) ?_
            refine AOps.val (Gv.loadWF Tryz.isAgg67 Tryz.sizeOf67 rfl rfl) ?_
            refine AOps.alloc (cs := [.int .i64 0, .int .i64 0, .raw (.slice none 0 0), .int .i64 0]) Tryz.zeroValue67 rfl rfl ?_
            intro i14
            refine AOps.storeW Tryz.sizeOf67 rfl rfl rfl rfl rfl rfl .head rfl ?_
            refine AOps.nil ?_
            refine AWP.region rfl ?_
            refine AOps.val (Gv.move (v := .str _) rfl) ?_
            refine AOps.val (Gv.loadWF Tryz.isAgg27 Tryz.sizeOf27 rfl rfl) ?_
            refine AOps.val (Gv.loadWC Tryz.isAgg67 Tryz.sizeOf67 rfl ⟨_, .head⟩ rfl) ?_
            refine AOps.callP (refInst_spec f x hxP hdst (by omega) hT.vn (hnb x hxm)) rfl ?_
            refine AOps.val (Gv.addT rfl rfl (by (try simp only [app_size]); (try simp only [lit_size, List.size_toArray, List.length_cons, List.length_nil]); omega)) ?_
            refine AOps.val (Gv.addT rfl rfl (by (try simp only [app_size]); (try simp only [lit_size, List.size_toArray, List.length_cons, List.length_nil]); omega)) ?_
            refine AOps.val (Gv.assign (v := .str _) rfl) ?_
            refine AOps.nil ?_
            refine AWP.region rfl ?_
            refine AOps.val (Gv.add rfl rfl (by unfold I64; omega)) ?_
            refine AOps.val (Gv.move (v := .int _ _) rfl) ?_
            refine AOps.nil ?_
            exact ⟨(j + 1, (acc6 ++ refLine f x) ++ nl), ⟨rfl, rfl, rfl, rfl, rfl, rfl, rfl, trivial⟩, ⟨rfl, rfl, trivial⟩, ⟨_, (.drop (.refl _)), rfl⟩, ⟨hj3, by dsimp only; rw [List.take_succ_eq_append_getElem hj3, hxj, List.map_append, List.map_cons, List.map_nil, ← List.append_assoc, unB_app, ← hacc6, inst_line_eq hxP]; simp only [ByteArray.append_assoc], by dsimp only; simp only [app_size]; have e1 : nl.size = 1 := rfl; omega⟩, by dsimp only; omega⟩
          · skip
            obtain rfl : j = b.insts.length := by simp at ci2; omega
            rw [List.take_length] at hacc6
            have hnext : P0 ++ (f.blocks.take (k + 1)).flatMap (blkL f) = (Q2 ++ b.insts.map (wordsOf f)) ++ [termL f b.term] := by
              rw [List.take_succ_eq_append_getElem hk4, hbk, List.flatMap_append, ← hQ2, ← hQ]; simp [blkL]
            refine AWP.exit ?_
            refine AWP.seq ?_
            refine AWP.region rfl ?_
            refine AOps.val (Gv.fieldO Tryz.underlying48 rfl Tryz.sizeOf46 (by decide) rfl rfl) ?_
            refine AOps.val (Gv.loadAC (l := [_, _, _, _]) Tryz.isAgg46 Tryz.sizeOf46 rfl ⟨_, .head⟩ rfl rfl) ?_
            refine AOps.alloc (cs := [.int .i64 0, .int .i64 0, .int .i64 0, .int .i64 0]) Tryz.zeroValue46 rfl rfl ?_
            intro i15
            refine AOps.storeW Tryz.sizeOf46 rfl rfl rfl rfl rfl rfl .head rfl ?_
            refine AOps.nil ?_
            refine AWP.seq ?_
            refine AWP.region rfl ?_
            refine AOps.val (Gv.fieldO Tryz.underlying46 rfl Tryz.sizeOf43 (by decide) rfl rfl) ?_
            refine AOps.val (Gv.load1C (c := .int _ _) Tryz.isAgg43 rfl ⟨_, .head⟩ rfl) ?_
            refine AOps.nil ?_
            refine AWP.block ?_
            refine AWP.seq ?_
            refine AWP.region rfl ?_
            refine AOps.val (Gv.eqlI rfl rfl) ?_
            refine AOps.val (Gv.assign (v := .bool _) rfl) ?_
            refine AOps.nil ?_
            refine AWP.condP rfl (fun k0 => ?_) (fun k0 => ?_)
            · skip
              have k0 : b.term.kind = 0 := k0
              obtain ⟨b1, b2, b3, b4⟩ := hasB_get (termOK_0 hb3 k0)
              have hs1 := bname_sz hT (termOK_0 hb3 k0)
              have hs3 : (f.blocks[b.term.to0.toNat]).name.size ≤ 1000 := by rw [← b4]; exact hs1
              refine AWP.region rfl ?_
              refine AOps.val (Gv.move (v := .str _) rfl) ?_
              refine AOps.val (Gv.addT rfl rfl (by (try simp only [app_size]); (try simp only [lit_size, List.size_toArray, List.length_cons, List.length_nil]); omega)) ?_
              refine AOps.val (Gv.fieldF Tryz.underlying27 rfl Tryz.sizeOf25 (by decide) rfl rfl) ?_
              refine AOps.val (Gv.load1F (c := .fro _ _) Tryz.isAgg25 rfl) ?_
              refine AOps.val (Gv.fieldO Tryz.underlying46 rfl Tryz.sizeOf44 (by decide) rfl rfl) ?_
              refine AOps.val (Gv.idxAO (j := 0) Tryz.underlying44 Tryz.sizeOf3 rfl rfl rfl (by decide) rfl) ?_
              refine AOps.val (Gv.load1C (c := .int _ _) Tryz.isAgg3 rfl ⟨_, .head⟩ rfl) ?_
              refine AOps.val (Gv.idxM (j := b.term.to0.toNat) Tryz.underlying25 Tryz.sizeOf48 rfl rfl (by omega) b2) ?_
              refine AOps.val (Gv.fieldF Tryz.underlying48 rfl Tryz.sizeOf9 (by decide) rfl rfl) ?_
              refine AOps.val (Gv.load1F (c := .str _) Tryz.isAgg9 rfl) ?_
              refine AOps.val (Gv.addT rfl rfl (by (try simp only [app_size]); (try simp only [lit_size, List.size_toArray, List.length_cons, List.length_nil]); omega)) ?_
              refine AOps.val (Gv.addT rfl rfl (by (try simp only [app_size]); (try simp only [lit_size, List.size_toArray, List.length_cons, List.length_nil]); omega)) ?_
              refine AOps.val (Gv.assign (v := .str _) rfl) ?_
              refine AOps.nil ?_
              refine AWP.region rfl ?_
              refine AOps.val (Gv.add rfl rfl (by unfold I64; omega)) ?_
              refine AOps.val (Gv.move (v := .int _ _) rfl) ?_
              refine AOps.nil ?_
              exact ⟨(k + 1, ((acc6 ++ (⟨#[106, 117, 109, 112, 32]⟩ : ByteArray)) ++ f.blocks[b.term.to0.toNat].name) ++ nl), ⟨rfl, rfl, rfl, trivial⟩, ⟨rfl, rfl, trivial⟩, ⟨_, (.drop (.drop (.refl _))), rfl⟩, ⟨hk4, by dsimp only; rw [hnext, unB_app, ← hacc6]; unfold termL; rw [if_pos k0, lineS_two, b4, show (⟨#[106, 117, 109, 112, 32]⟩ : ByteArray) = jumpS ++ spc by decide]; simp only [ByteArray.append_assoc], by dsimp only; simp only [app_size]; have e1 : nl.size = 1 := rfl; have e2 : (⟨#[106, 117, 109, 112, 32]⟩ : ByteArray).size = 5 := rfl; omega⟩, by dsimp only; omega⟩
            · skip
              have k0 : ¬ b.term.kind = 0 := k0
              refine AWP.seq ?_
              refine AWP.region rfl ?_
              refine AOps.val (Gv.eqlI rfl rfl) ?_
              refine AOps.val (Gv.assign (v := .bool _) rfl) ?_
              refine AOps.nil ?_
              refine AWP.condP rfl (fun k1 => ?_) (fun k1 => ?_)
              · skip
                have k1 : b.term.kind = 1 := k1
                obtain ⟨t1, t2, t3⟩ := termOK_1 hb3 k1
                obtain ⟨v1, v2, v3, v4⟩ := has_get t1
                obtain ⟨b1, b2, b3, b4⟩ := hasB_get t2
                obtain ⟨c1, c2, c3, c4⟩ := hasB_get t3
                have hs1 : (f.vars[b.term.var.toNat]).name.size ≤ 1000 := by rw [← v4]; exact vname_sz hT t1
                have hs2 : (f.blocks[b.term.to0.toNat]).name.size ≤ 1000 := by rw [← b4]; exact bname_sz hT t2
                have hs3 : (f.blocks[b.term.to1.toNat]).name.size ≤ 1000 := by rw [← c4]; exact bname_sz hT t3
                refine AWP.regionDraw (fun j => false) (by kernel_rfl) rfl (Part.perm (.r (.rest _))) ?_
                refine AAny.take (i := 0) rfl (by kernel_rfl) (by kernel_rfl) (by kernel_rfl) (by kernel_rfl) (by kernel_rfl) (by kernel_rfl) (Gv.move (v := .str _) rfl) ?_
                refine AAny.take (i := 1) rfl (by kernel_rfl) (by kernel_rfl) (by kernel_rfl) (by kernel_rfl) (by kernel_rfl) (by kernel_rfl) (Gv.addT rfl rfl (by (try simp only [app_size]); (try simp only [lit_size, List.size_toArray, List.length_cons, List.length_nil]); omega)) ?_
                refine AAny.take (i := 2) rfl (by kernel_rfl) (by kernel_rfl) (by kernel_rfl) (by kernel_rfl) (by kernel_rfl) (by kernel_rfl) (Gv.fieldF Tryz.underlying27 rfl Tryz.sizeOf23 (by decide) rfl rfl) ?_
                refine AAny.take (i := 3) rfl (by kernel_rfl) (by kernel_rfl) (by kernel_rfl) (by kernel_rfl) (by kernel_rfl) (by kernel_rfl) (Gv.load1F (c := .fro _ _) Tryz.isAgg23 rfl) ?_
                refine AAny.take (i := 4) rfl (by kernel_rfl) (by kernel_rfl) (by kernel_rfl) (by kernel_rfl) (by kernel_rfl) (by kernel_rfl) (Gv.fieldO Tryz.underlying46 rfl Tryz.sizeOf3 (by decide) rfl rfl) ?_
                refine AAny.take (i := 5) rfl (by kernel_rfl) (by kernel_rfl) (by kernel_rfl) (by kernel_rfl) (by kernel_rfl) (by kernel_rfl) (Gv.load1C (c := .int _ _) Tryz.isAgg3 rfl ⟨_, .head⟩ rfl) ?_
                refine AAny.take (i := 6) rfl (by kernel_rfl) (by kernel_rfl) (by kernel_rfl) (by kernel_rfl) (by kernel_rfl) (by kernel_rfl) (Gv.idxM (j := b.term.var.toNat) Tryz.underlying23 Tryz.sizeOf38 rfl rfl (by omega) v2) ?_
                refine AAny.take (i := 7) rfl (by kernel_rfl) (by kernel_rfl) (by kernel_rfl) (by kernel_rfl) (by kernel_rfl) (by kernel_rfl) (Gv.fieldF Tryz.underlying38 rfl Tryz.sizeOf9 (by decide) rfl rfl) ?_
                refine AAny.take (i := 8) rfl (by kernel_rfl) (by kernel_rfl) (by kernel_rfl) (by kernel_rfl) (by kernel_rfl) (by kernel_rfl) (Gv.load1F (c := .str _) Tryz.isAgg9 rfl) ?_
                refine AAny.take (i := 9) rfl (by kernel_rfl) (by kernel_rfl) (by kernel_rfl) (by kernel_rfl) (by kernel_rfl) (by kernel_rfl) (Gv.addT rfl rfl (by (try simp only [app_size]); (try simp only [lit_size, List.size_toArray, List.length_cons, List.length_nil]); omega)) ?_
                refine AAny.take (i := 10) rfl (by kernel_rfl) (by kernel_rfl) (by kernel_rfl) (by kernel_rfl) (by kernel_rfl) (by kernel_rfl) (Gv.addT rfl rfl (by (try simp only [app_size]); (try simp only [lit_size, List.size_toArray, List.length_cons, List.length_nil]); omega)) ?_
                refine AAny.take (i := 11) rfl (by kernel_rfl) (by kernel_rfl) (by kernel_rfl) (by kernel_rfl) (by kernel_rfl) (by kernel_rfl) (Gv.fieldF Tryz.underlying27 rfl Tryz.sizeOf25 (by decide) rfl rfl) ?_
                refine AAny.take (i := 12) rfl (by kernel_rfl) (by kernel_rfl) (by kernel_rfl) (by kernel_rfl) (by kernel_rfl) (by kernel_rfl) (Gv.load1F (c := .fro _ _) Tryz.isAgg25 rfl) ?_
                refine AAny.take (i := 13) rfl (by kernel_rfl) (by kernel_rfl) (by kernel_rfl) (by kernel_rfl) (by kernel_rfl) (by kernel_rfl) (Gv.fieldO Tryz.underlying46 rfl Tryz.sizeOf44 (by decide) rfl rfl) ?_
                refine AAny.take (i := 14) rfl (by kernel_rfl) (by kernel_rfl) (by kernel_rfl) (by kernel_rfl) (by kernel_rfl) (by kernel_rfl) (Gv.idxAO (j := 0) Tryz.underlying44 Tryz.sizeOf3 rfl rfl rfl (by decide) rfl) ?_
                refine AAny.take (i := 15) rfl (by kernel_rfl) (by kernel_rfl) (by kernel_rfl) (by kernel_rfl) (by kernel_rfl) (by kernel_rfl) (Gv.load1C (c := .int _ _) Tryz.isAgg3 rfl ⟨_, .head⟩ rfl) ?_
                refine AAny.take (i := 16) rfl (by kernel_rfl) (by kernel_rfl) (by kernel_rfl) (by kernel_rfl) (by kernel_rfl) (by kernel_rfl) (Gv.idxM (j := b.term.to0.toNat) Tryz.underlying25 Tryz.sizeOf48 rfl rfl (by omega) b2) ?_
                refine AAny.take (i := 17) rfl (by kernel_rfl) (by kernel_rfl) (by kernel_rfl) (by kernel_rfl) (by kernel_rfl) (by kernel_rfl) (Gv.fieldF Tryz.underlying48 rfl Tryz.sizeOf9 (by decide) rfl rfl) ?_
                refine AAny.take (i := 18) rfl (by kernel_rfl) (by kernel_rfl) (by kernel_rfl) (by kernel_rfl) (by kernel_rfl) (by kernel_rfl) (Gv.load1F (c := .str _) Tryz.isAgg9 rfl) ?_
                refine AAny.take (i := 19) rfl (by kernel_rfl) (by kernel_rfl) (by kernel_rfl) (by kernel_rfl) (by kernel_rfl) (by kernel_rfl) (Gv.addT rfl rfl (by (try simp only [app_size]); (try simp only [lit_size, List.size_toArray, List.length_cons, List.length_nil]); omega)) ?_
                refine AAny.take (i := 20) rfl (by kernel_rfl) (by kernel_rfl) (by kernel_rfl) (by kernel_rfl) (by kernel_rfl) (by kernel_rfl) (Gv.addT rfl rfl (by (try simp only [app_size]); (try simp only [lit_size, List.size_toArray, List.length_cons, List.length_nil]); omega)) ?_
                refine AAny.take (i := 21) rfl (by kernel_rfl) (by kernel_rfl) (by kernel_rfl) (by kernel_rfl) (by kernel_rfl) (by kernel_rfl) (Gv.fieldF Tryz.underlying27 rfl Tryz.sizeOf25 (by decide) rfl rfl) ?_
                refine AAny.take (i := 22) rfl (by kernel_rfl) (by kernel_rfl) (by kernel_rfl) (by kernel_rfl) (by kernel_rfl) (by kernel_rfl) (Gv.load1F (c := .fro _ _) Tryz.isAgg25 rfl) ?_
                refine AAny.take (i := 23) rfl (by kernel_rfl) (by kernel_rfl) (by kernel_rfl) (by kernel_rfl) (by kernel_rfl) (by kernel_rfl) (Gv.fieldO Tryz.underlying46 rfl Tryz.sizeOf44 (by decide) rfl rfl) ?_
                refine AAny.take (i := 24) rfl (by kernel_rfl) (by kernel_rfl) (by kernel_rfl) (by kernel_rfl) (by kernel_rfl) (by kernel_rfl) (Gv.idxAO (j := 1) Tryz.underlying44 Tryz.sizeOf3 rfl rfl rfl (by decide) rfl) ?_
                refine AAny.take (i := 25) rfl (by kernel_rfl) (by kernel_rfl) (by kernel_rfl) (by kernel_rfl) (by kernel_rfl) (by kernel_rfl) (Gv.load1C (c := .int _ _) Tryz.isAgg3 rfl ⟨_, .head⟩ rfl) ?_
                refine AAny.take (i := 26) rfl (by kernel_rfl) (by kernel_rfl) (by kernel_rfl) (by kernel_rfl) (by kernel_rfl) (by kernel_rfl) (Gv.idxM (j := b.term.to1.toNat) Tryz.underlying25 Tryz.sizeOf48 rfl rfl (by omega) c2) ?_
                refine AAny.take (i := 27) rfl (by kernel_rfl) (by kernel_rfl) (by kernel_rfl) (by kernel_rfl) (by kernel_rfl) (by kernel_rfl) (Gv.fieldF Tryz.underlying48 rfl Tryz.sizeOf9 (by decide) rfl rfl) ?_
                refine AAny.take (i := 28) rfl (by kernel_rfl) (by kernel_rfl) (by kernel_rfl) (by kernel_rfl) (by kernel_rfl) (by kernel_rfl) (Gv.load1F (c := .str _) Tryz.isAgg9 rfl) ?_
                refine AAny.take (i := 29) rfl (by kernel_rfl) (by kernel_rfl) (by kernel_rfl) (by kernel_rfl) (by kernel_rfl) (by kernel_rfl) (Gv.addT rfl rfl (by (try simp only [app_size]); (try simp only [lit_size, List.size_toArray, List.length_cons, List.length_nil]); omega)) ?_
                refine AAny.take (i := 30) rfl (by kernel_rfl) (by kernel_rfl) (by kernel_rfl) (by kernel_rfl) (by kernel_rfl) (by kernel_rfl) (Gv.addT rfl rfl (by (try simp only [app_size]); (try simp only [lit_size, List.size_toArray, List.length_cons, List.length_nil]); omega)) ?_
                refine AAny.take (i := 31) rfl (by kernel_rfl) (by kernel_rfl) (by kernel_rfl) (by kernel_rfl) (by kernel_rfl) (by kernel_rfl) (Gv.assign (v := .str _) rfl) ?_
                refine AAny.done (by kernel_rfl) ?_
                refine AWP.region rfl ?_
                refine AOps.val (Gv.add rfl rfl (by unfold I64; omega)) ?_
                refine AOps.val (Gv.move (v := .int _ _) rfl) ?_
                refine AOps.nil ?_
                exact ⟨(k + 1, ((((((acc6 ++ (⟨#[105, 102, 32]⟩ : ByteArray)) ++ f.vars[b.term.var.toNat].name) ++ spc) ++ f.blocks[b.term.to0.toNat].name) ++ spc) ++ f.blocks[b.term.to1.toNat].name) ++ nl), ⟨rfl, rfl, rfl, trivial⟩, ⟨rfl, rfl, trivial⟩, ⟨_, (.drop (.drop (.refl _))), rfl⟩, ⟨hk4, by dsimp only; rw [hnext, unB_app, ← hacc6]; unfold termL; rw [if_neg k0, if_pos k1, lineS_four, v4, b4, c4, show (⟨#[105, 102, 32]⟩ : ByteArray) = ifS ++ spc by decide]; simp only [ByteArray.append_assoc], by dsimp only; simp only [app_size]; have e1 : nl.size = 1 := rfl; have e2 : (⟨#[105, 102, 32]⟩ : ByteArray).size = 3 := rfl; have e3 : spc.size = 1 := rfl; omega⟩, by dsimp only; omega⟩
              · skip
                have k1 : ¬ b.term.kind = 1 := k1
                have t1 := termOK_2 hb3 k0 k1
                obtain ⟨v1, v2, v3, v4⟩ := has_get t1
                have hs1 : (f.vars[b.term.var.toNat]).name.size ≤ 1000 := by rw [← v4]; exact vname_sz hT t1
                refine AWP.region rfl ?_
                refine AOps.val (Gv.move (v := .str _) rfl) ?_
                refine AOps.val (Gv.addT rfl rfl (by (try simp only [app_size]); (try simp only [lit_size, List.size_toArray, List.length_cons, List.length_nil]); omega)) ?_
                refine AOps.val (Gv.fieldF Tryz.underlying27 rfl Tryz.sizeOf23 (by decide) rfl rfl) ?_
                refine AOps.val (Gv.load1F (c := .fro _ _) Tryz.isAgg23 rfl) ?_
                refine AOps.val (Gv.fieldO Tryz.underlying46 rfl Tryz.sizeOf3 (by decide) rfl rfl) ?_
                refine AOps.val (Gv.load1C (c := .int _ _) Tryz.isAgg3 rfl ⟨_, .head⟩ rfl) ?_
                refine AOps.val (Gv.idxM (j := b.term.var.toNat) Tryz.underlying23 Tryz.sizeOf38 rfl rfl (by omega) v2) ?_
                refine AOps.val (Gv.fieldF Tryz.underlying38 rfl Tryz.sizeOf9 (by decide) rfl rfl) ?_
                refine AOps.val (Gv.load1F (c := .str _) Tryz.isAgg9 rfl) ?_
                refine AOps.val (Gv.addT rfl rfl (by (try simp only [app_size]); (try simp only [lit_size, List.size_toArray, List.length_cons, List.length_nil]); omega)) ?_
                refine AOps.val (Gv.addT rfl rfl (by (try simp only [app_size]); (try simp only [lit_size, List.size_toArray, List.length_cons, List.length_nil]); omega)) ?_
                refine AOps.val (Gv.assign (v := .str _) rfl) ?_
                refine AOps.nil ?_
                refine AWP.region rfl ?_
                refine AOps.val (Gv.add rfl rfl (by unfold I64; omega)) ?_
                refine AOps.val (Gv.move (v := .int _ _) rfl) ?_
                refine AOps.nil ?_
                exact ⟨(k + 1, ((acc6 ++ (⟨#[114, 101, 116, 32]⟩ : ByteArray)) ++ f.vars[b.term.var.toNat].name) ++ nl), ⟨rfl, rfl, rfl, trivial⟩, ⟨rfl, rfl, trivial⟩, ⟨_, (.drop (.drop (.refl _))), rfl⟩, ⟨hk4, by dsimp only; rw [hnext, unB_app, ← hacc6]; unfold termL; rw [if_neg k0, if_neg k1, lineS_two, v4, show (⟨#[114, 101, 116, 32]⟩ : ByteArray) = retS ++ spc by decide]; simp only [ByteArray.append_assoc], by dsimp only; simp only [app_size]; have e1 : nl.size = 1 := rfl; have e2 : (⟨#[114, 101, 116, 32]⟩ : ByteArray).size = 4 := rfl; omega⟩, by dsimp only; omega⟩
      · skip
        obtain rfl : k = f.blocks.length := by simp at cb; omega
        rw [List.take_length] at hacc3
        have he : acc3 = textF f := by rw [hacc3, ← hlines]; rfl
        refine AWP.exit ?_
        refine AWP.seq ?_
        refine AWP.region rfl ?_
        refine AOps.val (Gv.move (v := .str _) rfl) ?_
        refine AOps.val (Gv.assign (v := .str _) rfl) ?_
        refine AOps.nil ?_
        refine AWP.ret ?_
        repeat (first | refine aseqQ_ret ?_ | refine ablockQ_ret ?_)
        refine afin.t1 (x := .str _) rfl ?_
        exact ⟨(), by rw [he], Left.none0 _, by rw [← he]; omega⟩
theorem refText_own (f : PFunc) (hS : ShapedP f) (hT : TOk f) (hn : NumsOk f) : ACall Tryz.prog E 9 [.agg (encF f)] [] (fun x O => ∃ _ : Unit, x = .str (textF f) ∧ O = [] ∧ (textF f).size ≤ 1000002000000) :=
  ACall.exact (x := fun _ : Unit => .str (textF f)) (M := fun _ => []) (p := fun _ => (textF f).size ≤ 1000002000000) (refText_ex f hS hT hn)
end Go.Proofs.YtdkhlgiohpdihaaGreatDoor
namespace Go.Proofs.YtdkhlgiohpdihaaGreatDoor
section
variable {P : Program} {env : AEnv} {O : OL}
variable {d ty : Nat} {pos : String} {af : Array Edge} {x y : Operand}
theorem Gv.maxI {ts : Array TypeId} {k : IntKind} {a b : Int} (hx : aev env x = .int k a) (hy : aev env y = .int k b) : Gv P env O (Oper.mk (some d) (.call { callee := .builtin .max, args := #[x, y], argTypes := ts }) ty pos af none) (.int k (if b > a then b else a)) := Gv.ofEv fun I ρ h => ⟨_, rfl, fun w => by
  simp [execOp, resolve, evI h hx, evI h hy, invoke, builtin, Builtin.max_, Builtin.max2, Result.andThen]⟩
end
end Go.Proofs.YtdkhlgiohpdihaaGreatDoor
