/- Cells that are owned, lent for a call that only reads. No conditions. -/
import Derived.Test.YtiojekbkamegdaaGreatDoorLg
import Derived.Test.YtiojekbkamegdaaGreatDoorLf
import Derived.Sort.Grow
set_option linter.unusedVariables false
set_option linter.unusedSimpArgs false
set_option linter.unusedSectionVars false
namespace Go.Proofs.YtiojekbkamegdaaGreatDoor
theorem iteP {α : Type} {P : α → Prop} {c : Prop} [Decidable c] {a b : α} (h1 : c → P a) (h2 : ¬ c → P b) : P (if c then a else b) := by
 split
 ·exact h1 (by assumption)
 ·exact h2 (by assumption)
theorem doG_any {P : GS → Prop} (s : GS) (x : PInst) (h1 : ∀ e, P (stopG s e)) (h2 : ∀ v, P (stI s x.dst v)) (h3 : ∀ v, P (stB s x.dst v)) (h4 : ∀ v, P (stA s x.dst v)) (h5 : ∀ a b c, P (stA (stB (stI s x.dst a) x.dst b) x.dst c)) (h6 : ∀ A, P { s with arrays := A })
  (h7 : ∀ A v, P (stA { s with arrays := A } x.dst v)) (h8 : ∀ t, P { s with trace := t }) : P (doG s x) := by
 unfold doG
 refine iteP (P := P) (fun _ => h2 _) fun _ => iteP (P := P) (fun _ => h5 _ _ _) fun _ => iteP (P := P) (fun _ => h2 _) fun _ => iteP (P := P) (fun _ => h2 _) fun _ => iteP (P := P) (fun _ => h2 _) fun _ =>
  iteP (P := P) (fun _ => iteP (P := P) (fun _ => h1 _) fun _ => h2 _) fun _ => iteP (P := P) (fun _ => iteP (P := P) (fun _ => h1 _) fun _ => h2 _) fun _ => iteP (P := P) (fun _ => h3 _) fun _ => iteP (P := P) (fun _ => h3 _) fun _ => iteP (P := P) (fun _ => h3 _) fun _ =>
  iteP (P := P) (fun _ => h3 _) fun _ => iteP (P := P) (fun _ => h3 _) fun _ => iteP (P := P) (fun _ => iteP (P := P) (fun _ => h1 _) fun _ => h2 _) fun _ => iteP (P := P) (fun _ => iteP (P := P) (fun _ => h2 _) fun _ => h1 _) fun _ => iteP (P := P) (fun _ => iteP (P := P) (fun _ => h6 _) fun _ => h1 _) fun _ =>
  iteP (P := P) (fun _ => iteP (P := P) (fun _ => h1 _) fun _ => iteP (P := P) (fun _ => h1 _) fun _ => h7 _ _) fun _ => iteP (P := P) (fun _ => h4 _) fun _ => iteP (P := P) (fun _ => h1 _) fun _ => h8 _
theorem inst_st (s : GS) (x : PInst) : (instG s x).st = s.st := by
 unfold instG
 split
 ·split <;> rfl
 ·exact doG_any (P := fun t => t.st = s.st) s x (fun _ => rfl) (fun _ => rfl) (fun _ => rfl) (fun _ => rfl) (fun _ _ _ => rfl) (fun _ => rfl) (fun _ _ => rfl) (fun _ => rfl)
theorem inst_ck (s : GS) (x : PInst) (i : Nat) : (instG s x).ck i ≤ s.ck i + 1 := by
 unfold instG
 split
 ·split
  ·show (if i = _ then s.ck i + 1 else s.ck i) ≤ _
   split <;> omega
  ·show (if i = _ then s.ck i + 1 else s.ck i) ≤ _
   split <;> omega
 ·exact doG_any (P := fun t => t.ck i ≤ s.ck i + 1) s x (fun _ => Nat.le_succ _) (fun _ => Nat.le_succ _) (fun _ => Nat.le_succ _) (fun _ => Nat.le_succ _) (fun _ _ _ => Nat.le_succ _) (fun _ => Nat.le_succ _) (fun _ _ => Nat.le_succ _) (fun _ => Nat.le_succ _)
theorem assigns_keep (s : GS) : ∀ (l : List PPhi) (t : GS), (l.foldl (assign s) t).st = t.st ∧ (l.foldl (assign s) t).ck = t.ck ∧ (l.foldl (assign s) t).ended = t.ended
 | [], _ => ⟨rfl, rfl, rfl⟩
 | p :: l, t => assigns_keep s l (assign s t p)
theorem enter_keep (f : PFunc) (s : GS) (to : Int) : (enterG f s to).st = s.st ∧ (enterG f s to).ck = s.ck := by
 unfold enterG
 split
 ·obtain ⟨h1, h2, _⟩ := assigns_keep s (blkG f to).phis s
  exact ⟨h1, h2⟩
 ·exact ⟨rfl, rfl⟩
theorem step_st (f : PFunc) (s : GS) : (stepG f s).st = s.st + 1 := by
 unfold stepG
 split
 ·rw [inst_st]
 ·split
  ·rfl
  ·rw [(enter_keep f _ _).1]
theorem step_ck (f : PFunc) (s : GS) (i : Nat) : (stepG f s).ck i ≤ s.ck i + 1 := by
 unfold stepG
 split
 ·exact inst_ck _ _ i
 ·split
  ·exact Nat.le_succ _
  ·rw [(enter_keep f _ _).2]; exact Nat.le_succ _
theorem run_ended {f : PFunc} {s : GS} (h : s.ended = true) : ∀ k, runG f k s = s
 | 0 => rfl
 | k + 1 => by unfold runG; rw [if_pos h]
def badArg (f : PFunc) (i : PIn) (q : PArg × Nat) : Bool := decide (tyL f q.2 = 2 ∧ (q.1.arr < -1 ∨ (i.arrays.length : Int) ≤ q.1.arr))
def rightG (f : PFunc) (i : PIn) : Int := if ¬ i.args.length = f.params.length then 1 else if i.args.zipIdx.any (badArg f i) = true then 1 else if 32 < i.arrays.length then 4 else if i.arrays.any (fun r => decide (64 < r.length)) = true then 4 else 0
def alikeG (a b : GS) : Bool := decide (a.en = b.en ∧ a.val = b.val ∧ a.tr = b.tr ∧ a.trace = b.trace)
def in64 (i : PIn) : Prop := (∀ a ∈ i.args, is64 a.int) ∧ ∀ r ∈ i.arrays, ∀ x ∈ r, is64 x
theorem mem_fill {α β : Type} {g : Nat → α → β} {d : β} {n : Nat} {l : List α} {x : β} (h : x ∈ fillW g d n l) : (∃ j a, l[j]? = some a ∧ x = g j a) ∨ x = d := by
 unfold fillW at h
 rcases List.mem_append.1 h with h | h
 ·obtain ⟨⟨a, j⟩, hm, rfl⟩ := List.mem_map.1 h
  exact .inl ⟨j, a, List.mk_mem_zipIdx_iff_getElem?.1 hm, rfl⟩
 ·exact .inr (List.mem_replicate.1 h).2
theorem GInv.beg {f : PFunc} {i : PIn} (hR : RunP f) (hp : f.params.length ≤ f.vars.length) (ht : ∀ j, 0 ≤ tyL f j ∧ tyL f j ≤ 2) (h : rightG f i = 0) (h64 : in64 i) : GInv f (begG f i) ∧ i.args.length ≤ f.vars.length := by
 unfold rightG at h
 split at h
 ·cases h
 rename_i h1
 split at h
 ·cases h
 rename_i h2
 split at h
 ·cases h
 rename_i h3
 split at h
 ·cases h
 rename_i h4
 have h1 : i.args.length = f.params.length := Classical.not_not.1 h1
 have hr : ∀ r ∈ i.arrays, r.length ≤ 64 := fun r hr => by
  refine Classical.byContradiction fun hn => h4 (List.any_eq_true.2 ⟨r, hr, w4 (by omega)⟩)
 have hl : i.args.length ≤ f.vars.length := by omega
 have hf : ∀ {β : Type} (g : Nat → PArg → β) (d : β), (fillW g d f.vars.length i.args).length = f.vars.length := fun g d => by unfold fillW; simp; omega
 refine ⟨⟨hf _ _, hf _ _, hf _ _, fun x hx => ?_, fun x hx => ?_, by show i.arrays.length ≤ 40; omega, fun r h => Nat.le_trans (hr r h) (by omega), h64.2, qt _, Int.le_refl _, by show (0 : Int) < f.blocks.length; have := hR.pos; omega, qt _⟩, hl⟩
 ·rcases mem_fill hx with ⟨j, a, ha, rfl⟩ | rfl
  ·unfold begI; split
   ·exact h64.1 a (w1 ha)
   ·exact ⟨by decide, by decide⟩
  ·exact ⟨by decide, by decide⟩
 ·show _ ∧ _ < (i.arrays.length : Int)
  rcases mem_fill hx with ⟨j, a, ha, rfl⟩ | rfl
  ·unfold begA
   split
   ·exact ⟨by omega, by omega⟩
   split
   ·exact ⟨by omega, by omega⟩
   have := ht j
   have hb : ¬ badArg f i (a, j) = true := fun hb => h2 (List.any_eq_true.2 ⟨(a, j), w1 (i := j) (by rw [List.getElem?_zipIdx, ha]; simp), hb⟩)
   unfold badArg at hb
   simp only [w9] at hb
   have h2' : tyL f j = 2 := by omega
   omega
  ·exact ⟨by omega, by omega⟩
end Go.Proofs.YtiojekbkamegdaaGreatDoor
namespace Go.Proofs.YtiojekbkamegdaaGreatDoor
def V (s : GS) (v : Int) : Int × Bool × Int := (vi s.ints v, gb s.bools v, vi s.arrs v)
theorem vi_ne {l : List Int} {d v x : Int} (h0 : 0 ≤ d) (g0 : 0 ≤ v) (hne : v ≠ d) : vi (l.set d.toNat x) v = vi l v := by
 unfold vi; rw [List.getElem?_set_ne (by omega)]
theorem vi_eq {l : List Int} {d x : Int} (h0 : 0 ≤ d) (h1 : d < l.length) : vi (l.set d.toNat x) d = x := by
 unfold vi; rw [List.getElem?_set_self (by omega)]; rfl
theorem gb_ne {l : List Bool} {d v : Int} {x : Bool} (h0 : 0 ≤ d) (g0 : 0 ≤ v) (hne : v ≠ d) : gb (l.set d.toNat x) v = gb l v := by
 unfold gb; rw [List.getElem?_set_ne (by omega)]
theorem gb_eq {l : List Bool} {d : Int} {x : Bool} (h0 : 0 ≤ d) (h1 : d < l.length) : gb (l.set d.toNat x) d = x := by
 unfold gb; rw [List.getElem?_set_self (by omega)]; rfl
inductive Act where
 | stop (e : Int)
 | i (v : Int)
 | b (v : Bool)
 | a (v : Int)
 | all (v : Int × Bool × Int)
 | row (l : List (List Int))
 | new (l : List (List Int)) (v : Int)
 | out (l : List Int)
def act (s : GS) (d : Int) : Act → GS
 | .stop e => stopG s e
 | .i v => stI s d v
 | .b v => stB s d v
 | .a v => stA s d v
 | .all v => stA (stB (stI s d v.1) d v.2.1) d v.2.2
 | .row l => { s with arrays := l }
 | .new l v => stA { s with arrays := l } d v
 | .out l => { s with trace := l }
def actG (s : GS) (x : PInst) : Act :=
 if x.op = 0 then .i x.num
 else if x.op = 1 ∨ x.op = 25 ∨ x.op = 26 then .all (aG s x, pG s x, rG s x)
 else if x.op = 2 then .i (IntKind.i64.wrap (op3 0 (aG s x) (bG s x)))
 else if x.op = 3 then .i (IntKind.i64.wrap (op3 1 (aG s x) (bG s x)))
 else if x.op = 4 then .i (IntKind.i64.wrap (op3 2 (aG s x) (bG s x)))
 else if x.op = 5 then (if bG s x = 0 then .stop 2 else .i (quoG (aG s x) (bG s x)))
 else if x.op = 6 then (if bG s x = 0 then .stop 2 else .i (remG (aG s x) (bG s x)))
 else if x.op = 7 then .b (decide (aG s x = bG s x))
 else if x.op = 8 then .b (decide (aG s x < bG s x))
 else if x.op = 9 then .b (decide (aG s x ≤ bG s x))
 else if x.op = 10 then .b (!pG s x)
 else if x.op = 11 then .b (pG s x && qG s x)
 else if x.op = 12 then (if rG s x < 0 then .stop 2 else .i ((rowG s (rG s x)).length))
 else if x.op = 13 then (if placeG s (rG s x) (bG s x) = true then .i (vi (rowG s (rG s x)) (bG s x)) else .stop 2)
 else if x.op = 14 then (if placeG s (rG s x) (bG s x) = true then .row (s.arrays.set (rG s x).toNat ((rowG s (rG s x)).set (bG s x).toNat (vi s.ints (ar2 x)))) else .stop 2)
 else if x.op = 15 then (if aG s x < 0 ∨ 64 < aG s x then .stop 2 else if 32 ≤ s.arrays.length then .stop 3 else .new (s.arrays ++ [List.replicate (aG s x).toNat 0]) s.arrays.length)
 else if x.op = 16 then .a (-1)
 else (if 4096 ≤ s.trace.length then .stop 3 else .out (s.trace ++ [aG s x]))
theorem ite_act {s : GS} {d : Int} {c : Prop} [Decidable c] {p q : GS} {u v : Act} (h1 : c → p = act s d u) (h2 : ¬ c → q = act s d v) : (if c then p else q) = act s d (if c then u else v) := by
 by_cases h : c
 ·rw [if_pos h, if_pos h]; exact h1 h
 ·rw [if_neg h, if_neg h]; exact h2 h
theorem do_act (s : GS) (x : PInst) : doG s x = act s x.dst (actG s x) := by
 unfold doG actG
 repeat' (first | rfl | refine ite_act (fun _=>?_) (fun _=>?_))
structure ArgEq (s t : GS) (x y : PInst) : Prop where
 op : x.op = y.op
 num : x.num = y.num
 a0 : 0 < x.args.length → V s (ar0 x) = V t (ar0 y)
 a1 : 1 < x.args.length → V s (ar1 x) = V t (ar1 y)
 a2 : 2 < x.args.length → V s (ar2 x) = V t (ar2 y)
theorem ArgEq.reads {s t : GS} {x y : PInst} (h : ArgEq s t x y) : (0 < x.args.length → aG s x = aG t y ∧ pG s x = pG t y ∧ rG s x = rG t y) ∧ (1 < x.args.length → bG s x = bG t y ∧ qG s x = qG t y) ∧ (2 < x.args.length → vi s.ints (ar2 x) = vi t.ints (ar2 y)) :=
 ⟨fun hl => by have := h.a0 hl; unfold V at this; simp only [Prod.mk.injEq] at this; exact this, fun hl => by have := h.a1 hl; unfold V at this; simp only [Prod.mk.injEq] at this; exact ⟨this.1, this.2.1⟩, fun hl => by have := h.a2 hl; unfold V at this; simp only [Prod.mk.injEq] at this; exact this.1⟩
theorem place_congr {s t : GS} (ha : s.arrays = t.arrays) (a i : Int) : placeG s a i = placeG t a i := by unfold placeG rowG; rw [ha]
theorem row_congr {s t : GS} (ha : s.arrays = t.arrays) (a : Int) : rowG s a = rowG t a := by unfold rowG; rw [ha]
set_option maxRecDepth 4000 in
theorem act_congr {f : PFunc} {s t : GS} {x y : PInst} (hF : InstF f x) (ho : ¬ (18 ≤ x.op ∧ x.op ≤ 24)) (h : ArgEq s t x y) (ha : s.arrays = t.arrays) (htr : s.trace = t.trace) : actG s x = actG t y := by
 obtain ⟨r0, r1, r2⟩ := h.reads
 have hc := hF.argc
 have hop := hF.op
 unfold actG
 simp only [← h.op, ← h.num, ← place_congr ha, ← row_congr ha, ← ha, ← htr]
 obtain ⟨j, hj⟩ : ∃ j : Nat, x.op = (j : Int) := ⟨x.op.toNat, by omega⟩
 rw [hj] at hc ho
 rw [hj]
 have : j = 0 ∨ j = 1 ∨ j = 2 ∨ j = 3 ∨ j = 4 ∨ j = 5 ∨ j = 6 ∨ j = 7 ∨ j = 8 ∨ j = 9 ∨ j = 10 ∨ j = 11 ∨ j = 12 ∨ j = 13 ∨ j = 14 ∨ j = 15 ∨ j = 16 ∨ j = 17 ∨ j = 25 ∨ j = 26 := by omega
 rcases this with rfl | rfl | rfl | rfl | rfl | rfl | rfl | rfl | rfl | rfl | rfl | rfl | rfl | rfl | rfl | rfl | rfl | rfl | rfl | rfl
 all_goals
  have hc : x.args.length = _ := hc
  simp only [Int.toNat_natCast, List.getElem?_cons_zero, List.getElem?_cons_succ, Option.getD_some] at hc
  first
  | (rw [(r0 (by omega)).1, (r0 (by omega)).2.1, (r0 (by omega)).2.2, (r1 (by omega)).1, (r1 (by omega)).2, r2 (by omega)]; done)
  | (rw [(r0 (by omega)).1, (r0 (by omega)).2.1, (r0 (by omega)).2.2, (r1 (by omega)).1, (r1 (by omega)).2]; done)
  | (simp [(r0 (by omega)).1, (r0 (by omega)).2.1, (r0 (by omega)).2.2, (r1 (by omega)).1, (r1 (by omega)).2, r2 (by omega)]; done)
  | (simp [(r0 (by omega)).1, (r0 (by omega)).2.1, (r0 (by omega)).2.2, (r1 (by omega)).1, (r1 (by omega)).2]; done)
  | (simp [(r0 (by omega)).1, (r0 (by omega)).2.1, (r0 (by omega)).2.2]; done)
  | simp
theorem pass_congr {f : PFunc} {s t : GS} {x y : PInst} (hF : InstF f x) (ho : 18 ≤ x.op ∧ x.op ≤ 24) (h : ArgEq s t x y) (hl : x.args.length = y.args.length) (ha : s.arrays = t.arrays) : passG s x.op x.args = passG t y.op y.args := by
 obtain ⟨r0, r1, _⟩ := h.reads
 have hc := hF.argc
 have h0 : 0 < x.args.length := by
  obtain ⟨j, hj⟩ : ∃ j : Nat, x.op = (j : Int) := ⟨x.op.toNat, by omega⟩
  rw [hc, hj]
  have : j = 18 ∨ j = 19 ∨ j = 20 ∨ j = 21 ∨ j = 22 ∨ j = 23 ∨ j = 24 := by omega
  rcases this with rfl | rfl | rfl | rfl | rfl | rfl | rfl <;> decide
 obtain ⟨e1, e2, e3⟩ := r0 h0
 have e1 : vi s.ints ((x.args[0]?).getD 0) = vi t.ints ((y.args[0]?).getD 0) := e1
 have e3 : vi s.arrs ((x.args[0]?).getD 0) = vi t.arrs ((y.args[0]?).getD 0) := e3
 have e4 : bIf x.args s.ints = bIf y.args t.ints := by
  unfold bIf
  by_cases h1 : 1 < x.args.length
  ·rw [if_pos h1, if_pos (by omega)]
   exact (r1 h1).1
  ·rw [if_neg h1, if_neg (by omega)]
 unfold passG
 simp only [h.op, e1, e3, e4, place_congr ha]
end Go.Proofs.YtiojekbkamegdaaGreatDoor
namespace Go.Proofs.YtiojekbkamegdaaGreatDoor
def cntB (op : Int) : Bool := decide (op = 0 ∨ (2 ≤ op ∧ op ≤ 12) ∨ op = 16)
def trnB (op : Int) : Bool := decide (op = 2 ∨ op = 4 ∨ op = 7 ∨ op = 11)
def mapI (r : Int → Int) (x : PInst) : PInst := ⟨x.op, x.dst, x.args.map r, x.num⟩
def sameI (x y : PInst) : Bool := cntB x.op && (decide (x.op = y.op ∧ x.num = y.num) && (decide (x.args = y.args) || (trnB x.op && (decide (x.args.length = 2) && decide (x.args = y.args.reverse)))))
theorem sameI_iff {x y : PInst} : sameI x y = true ↔ cntB x.op = true ∧ (x.op = y.op ∧ x.num = y.num) ∧ (x.args = y.args ∨ (trnB x.op = true ∧ x.args.length = 2 ∧ x.args = y.args.reverse)) := by
 unfold sameI; simp only [w6, Bool.or_eq_true, w9]
theorem sameI_symm {x y : PInst} (h : sameI x y = true) : sameI y x = true := by
 obtain ⟨h1, ⟨h2, h3⟩, h4⟩ := sameI_iff.1 h
 refine sameI_iff.2 ⟨h2 ▸ h1, ⟨h2.symm, h3.symm⟩, ?_⟩
 rcases h4 with h4 | ⟨h5, h6, h7⟩
 ·exact .inl h4.symm
 ·exact .inr ⟨h2 ▸ h5, by rw [h7, List.length_reverse] at h6; exact h6, by rw [h7, List.reverse_reverse]⟩
theorem sameI_trans {x y z : PInst} (h : sameI x y = true) (k : sameI y z = true) : sameI x z = true := by
 obtain ⟨h1, ⟨h2, h3⟩, h4⟩ := sameI_iff.1 h
 obtain ⟨k1, ⟨k2, k3⟩, k4⟩ := sameI_iff.1 k
 refine sameI_iff.2 ⟨h1, ⟨h2.trans k2, h3.trans k3⟩, ?_⟩
 rcases h4 with h4 | ⟨h5, h6, h7⟩
 ·rcases k4 with k4 | ⟨k5, k6, k7⟩
  ·exact .inl (h4.trans k4)
  ·exact .inr ⟨h2 ▸ k5, by rw [h4]; exact k6, by rw [h4, k7]⟩
 ·rcases k4 with k4 | ⟨k5, k6, k7⟩
  ·exact .inr ⟨h5, h6, by rw [h7, k4]⟩
  ·exact .inl (by rw [h7, k7, List.reverse_reverse])
theorem sameI_map (r : Int → Int) {x y : PInst} (h : sameI x y = true) : sameI (mapI r x) (mapI r y) = true := by
 obtain ⟨h1, h2, h4⟩ := sameI_iff.1 h
 refine sameI_iff.2 ⟨h1, h2, ?_⟩
 rcases h4 with h4 | ⟨h5, h6, h7⟩
 ·exact .inl (by show x.args.map r = y.args.map r; rw [h4])
 ·exact .inr ⟨h5, by show (x.args.map r).length = 2; rw [qx]; exact h6, by show x.args.map r = (y.args.map r).reverse; rw [h7, List.map_reverse]⟩
def AtI (f : PFunc) (i k : Nat) (x : PInst) : Prop := ∃ b, f.blocks[i]? = some b ∧ b.insts[k]? = some x
def NumI (f : PFunc) (i k : Nat) (x : PInst) : Prop := AtI f i k x ∧ cntB x.op = true
def AheadI (f : PFunc) (i' k' i k : Nat) : Prop := AheadP f ((i' : Int), (k' : Int)) i k
theorem AtI.one {f : PFunc} {i k : Nat} {x y : PInst} (h : AtI f i k x) (g : AtI f i k y) : x = y := by
 obtain ⟨b, h1, h2⟩ := h
 obtain ⟨c, g1, g2⟩ := g
 rw [h1] at g1
 cases Option.some.inj g1
 rw [h2] at g2
 exact Option.some.inj g2
structure Roots (f : PFunc) (r : Int → Int) : Prop where
 id : ∀ v, (∀ i k x, NumI f i k x → x.dst ≠ v) → r v = v
 rt : ∀ i k y, NumI f i k y → r y.dst = y.dst ∨ ∃ i' k' x, NumI f i' k' x ∧ AheadI f i' k' i k ∧ r x.dst = x.dst ∧ r y.dst = x.dst ∧ sameI (mapI r x) (mapI r y) = true
 no : ∀ i k y i' k' x, NumI f i k y → NumI f i' k' x → AheadI f i' k' i k → r x.dst = x.dst → r y.dst = y.dst → sameI (mapI r x) (mapI r y) = false
structure NumH (f : PFunc) (rk : Nat → Nat → Nat) : Prop where
 less : ∀ i k y i' k' x, NumI f i k y → NumI f i' k' x → AheadI f i' k' i k → rk i' k' < rk i k
 arg : ∀ i k y a i' k' x, NumI f i k y → a ∈ y.args → NumI f i' k' x → x.dst = a → AheadI f i' k' i k
 total : ∀ i k y i1 k1 x1 i2 k2 x2, NumI f i k y → NumI f i1 k1 x1 → NumI f i2 k2 x2 → AheadI f i1 k1 i k → AheadI f i2 k2 i k → AheadI f i1 k1 i2 k2 ∨ AheadI f i2 k2 i1 k1 ∨ (i1 = i2 ∧ k1 = k2)
 trans : ∀ i k y i1 k1 x1 i2 k2 x2, NumI f i k y → NumI f i1 k1 x1 → NumI f i2 k2 x2 → AheadI f i1 k1 i2 k2 → AheadI f i2 k2 i k → AheadI f i1 k1 i k
 made : ∀ i k y i1 k1 x1, NumI f i k y → NumI f i1 k1 x1 → x1.dst = y.dst → i1 = i ∧ k1 = k
theorem anc_total {N : Int → Int} {b a : Int} (h : Anc N b a) : ∀ c, Anc N b c → Anc N a c ∨ Anc N c a := by
 induction h with
 | refl => exact fun c hc => .inl hc
 | up h1 h2 h3 ih =>
  intro c hc
  rcases hc.cases' with e | ⟨_, _, g⟩
  ·rw [e]; exact .inr (.up h1 h2 h3)
  ·exact ih c g
theorem dom_total {E : Int → List Int} {n : Nat} (hG : Grph E n) {a b c : Int} (h : Dom E a b) (k : Dom E c b) : Dom E c a ∨ Dom E a c := by
 have hb : b ∈ orderT E n := (order_mem hG.toEOk b).2 h.1
 have ha : a ∈ orderT E n := (order_mem hG.toEOk a).2 h.rch
 have hc : c ∈ orderT E n := (order_mem hG.toEOk c).2 k.rch
 rcases anc_total ((hG.dom_iff hb).1 h) c ((hG.dom_iff hb).1 k) with g | g
 ·exact .inl ((hG.dom_iff ha).2 g)
 ·exact .inr ((hG.dom_iff hc).2 g)
theorem numH_of {f : PFunc} {M : Nat} (hE : EndsOk f) (hA : AllRP f) (ho : OnceP f) (hB : BehP f) (hd : ∀ i k x, NumI f i k x → 0 ≤ x.dst ∧ x.dst < f.vars.length) (hM : ∀ b ∈ f.blocks, b.insts.length ≤ M) :
  NumH f (fun i k => (gi (levG (EndsOf f) f.blocks.length) (i : Int)).toNat * (M + 1) + k) := by
 have hG := hE.grph
 have hlt : ∀ i k x, AtI f i k x → i < f.blocks.length ∧ k ≤ M := fun i k x ⟨b, h1, h2⟩ => by
  have := hM b (w1 h1)
  have := (List.getElem?_eq_some_iff.1 h2).1
  exact ⟨(List.getElem?_eq_some_iff.1 h1).1, by omega⟩
 have hord : ∀ i k x, AtI f i k x → (i : Int) ∈ orderT (EndsOf f) f.blocks.length := fun i k x h => (order_mem hG.toEOk _).2 (hA i (hlt i k x h).1)
 refine ⟨fun i k y i' k' x hy hx ha => ?_, fun i k y a i' k' x hy ha hx e => ?_, fun i k y i1 k1 x1 i2 k2 x2 hy h1 h2 a1 a2 => ?_, fun i k y i1 k1 x1 i2 k2 x2 hy h1 h2 a1 a2 => ?_, fun i k y i1 k1 x1 hy h1 e => ?_⟩
 ·rcases ha with ha | ⟨ha, hb⟩ | ⟨_, ha, hb⟩
  ·dsimp only at ha; omega
  ·dsimp only at ha hb
   have : i' = i := by omega
   subst this
   omega
  ·dsimp only at ha hb
   have hi := hord _ _ _ hy.1
   have hl := hG.lev_anc hi ((hG.dom_iff hi).1 hb)
   have h0 := hG.lev_nn hl.1
   have h3 : gi (levG (EndsOf f) f.blocks.length) (i' : Int) < gi (levG (EndsOf f) f.blocks.length) (i : Int) := by
    rcases Int.lt_or_le (gi (levG (EndsOf f) f.blocks.length) (i' : Int)) (gi (levG (EndsOf f) f.blocks.length) (i : Int)) with h | h
    ·exact h
    ·exact absurd (hl.2.2 h) ha
   have hk := (hlt _ _ _ hx.1).2
   have h4 : (gi (levG (EndsOf f) f.blocks.length) (i' : Int)).toNat + 1 ≤ (gi (levG (EndsOf f) f.blocks.length) (i : Int)).toNat := by omega
   have h5 := Nat.mul_le_mul_right (M + 1) h4
   rw [Nat.add_mul] at h5
   omega
 ·obtain ⟨b, hb1, hb2⟩ := hy.1
  obtain ⟨hi, eb⟩ := List.getElem?_eq_some_iff.1 hb1
  obtain ⟨hk, ey⟩ := List.getElem?_eq_some_iff.1 hb2
  have h1 := (hB i hi).2.1 k (by rw [eb]; exact hk) a (by simp only [eb, ey]; exact ha)
  have hdx := hd _ _ _ hx
  obtain ⟨c, hc1, hc2⟩ := hx.1
  have hone : (makings f a).length ≤ 1 := by
   have := (ho x.dst.toNat (by omega)).1
   rwa [show ((x.dst.toNat : Nat) : Int) = a by omega] at this
  have hm : makerT f a = ((i' : Int), (k' : Int)) := maker_eq hone (mem_makings.2 ⟨i', c, hc1, mem_mkBlk.2 (.inr ⟨k', x, hc2, e, rfl⟩)⟩)
  rw [hm] at h1
  exact h1
 ·rcases a1 with a1 | ⟨a1, b1⟩ | ⟨_, a1, b1⟩
  ·dsimp only at a1; omega
  ·dsimp only at a1 b1
   have e1 : i1 = i := by omega
   subst e1
   rcases a2 with a2 | ⟨a2, b2⟩ | ⟨_, a2, b2⟩
   ·dsimp only at a2; omega
   ·dsimp only at a2 b2
    have e2 : i2 = i1 := by omega
    subst e2
    rcases Nat.lt_trichotomy k1 k2 with h | h | h
    ·exact .inl (.inr (.inl ⟨rfl, by dsimp only; omega⟩))
    ·exact .inr (.inr ⟨rfl, h⟩)
    ·exact .inr (.inl (.inr (.inl ⟨rfl, by dsimp only; omega⟩)))
   ·exact .inr (.inl (.inr (.inr ⟨by dsimp only; omega, a2, b2⟩)))
  ·dsimp only at a1 b1
   rcases a2 with a2 | ⟨a2, b2⟩ | ⟨_, a2, b2⟩
   ·dsimp only at a2; omega
   ·dsimp only at a2 b2
    have e2 : i2 = i := by omega
    subst e2
    exact .inl (.inr (.inr ⟨by dsimp only; omega, a1, b1⟩))
   ·dsimp only at a2 b2
    by_cases e : i1 = i2
    ·subst e
     rcases Nat.lt_trichotomy k1 k2 with h | h | h
     ·exact .inl (.inr (.inl ⟨rfl, by dsimp only; omega⟩))
     ·exact .inr (.inr ⟨rfl, h⟩)
     ·exact .inr (.inl (.inr (.inl ⟨rfl, by dsimp only; omega⟩)))
    ·rcases dom_total hG b1 b2 with h | h
     ·exact .inr (.inl (.inr (.inr ⟨by dsimp only; omega, by dsimp only; omega, h⟩)))
     ·exact .inl (.inr (.inr ⟨by dsimp only; omega, by dsimp only; omega, h⟩))
 ·rcases a1 with a1 | ⟨a1, b1⟩ | ⟨_, a1, b1⟩
  ·dsimp only at a1; omega
  ·dsimp only at a1 b1
   have e1 : i1 = i2 := by omega
   subst e1
   rcases a2 with a2 | ⟨a2, b2⟩ | ⟨_, a2, b2⟩
   ·dsimp only at a2; omega
   ·exact .inr (.inl ⟨a2, by dsimp only at b2 ⊢; omega⟩)
   ·exact .inr (.inr ⟨by dsimp only; omega, a2, b2⟩)
  ·dsimp only at a1 b1
   rcases a2 with a2 | ⟨a2, b2⟩ | ⟨_, a2, b2⟩
   ·dsimp only at a2; omega
   ·dsimp only at a2 b2
    have e2 : i2 = i := by omega
    subst e2
    exact .inr (.inr ⟨by dsimp only; omega, a1, b1⟩)
   ·dsimp only at a2 b2
    refine .inr (.inr ⟨by dsimp only; omega, fun e=>?_, b1.trans b2⟩)
    dsimp only at e
    have e : i1 = i := by omega
    subst e
    have hi := hord _ _ _ hy.1
    have hi2 := hord _ _ _ h2.1
    have l1 := hG.lev_anc hi2 ((hG.dom_iff hi2).1 b1)
    have l2 := hG.lev_anc hi ((hG.dom_iff hi).1 b2)
    exact a1 (l1.2.2 l2.2.1)
 ·have hdy := hd _ _ _ hy
  have hone : (makings f y.dst).length ≤ 1 := by
   have := (ho y.dst.toNat (by omega)).1
   rwa [show ((y.dst.toNat : Nat) : Int) = y.dst by omega] at this
  obtain ⟨b, hb1, hb2⟩ := hy.1
  obtain ⟨c, hc1, hc2⟩ := h1.1
  have m1 : makerT f y.dst = ((i : Int), (k : Int)) := maker_eq hone (mem_makings.2 ⟨i, b, hb1, mem_mkBlk.2 (.inr ⟨k, y, hb2, rfl, rfl⟩)⟩)
  have m2 : makerT f y.dst = ((i1 : Int), (k1 : Int)) := maker_eq hone (mem_makings.2 ⟨i1, c, hc1, mem_mkBlk.2 (.inr ⟨k1, x1, hc2, e, rfl⟩)⟩)
  rw [m1] at m2
  simp only [Prod.mk.injEq] at m2
  omega
def keepI (r : Int → Int) (x : PInst) : Bool := !cntB x.op || decide (r x.dst = x.dst)
def numPh (r : Int → Int) (p : PPhi) : PPhi := ⟨p.dst, p.args.map r, p.from_⟩
def numTm (r : Int → Int) (t : PTerm) : PTerm := ⟨t.kind, if t.kind = 0 then t.var else r t.var, t.to0, t.to1⟩
def numB (r : Int → Int) (b : PBlock) : PBlock := ⟨b.name, b.phis.map (numPh r), (b.insts.filter (keepI r)).map (mapI r), numTm r b.term⟩
def numF (f : PFunc) (r : Int → Int) : PFunc := ⟨f.vars, f.params, f.blocks.map (numB r)⟩
def putT (y x v : Int) : Int := if v = y then x else v
def putTm (y x : Int) (t : PTerm) : PTerm := ⟨t.kind, if t.kind ≠ 0 ∧ t.var = y then x else t.var, t.to0, t.to1⟩
def putB (y x : Int) (b : PBlock) : PBlock := ⟨b.name, (b.phis.filter fun p => decide (p.dst ≠ y)).map (numPh (putT y x)), (b.insts.filter fun z => decide (z.dst ≠ y)).map (mapI (putT y x)), putTm y x b.term⟩
def putF (f : PFunc) (y x : Int) : PFunc := ⟨f.vars, f.params, f.blocks.map (putB y x)⟩
theorem put_num {f : PFunc} {r : Int → Int} {y x : Int} (hx : r x = x) (hy : r y = y) (hne : x ≠ y) (hph : ∀ b ∈ f.blocks, ∀ p ∈ b.phis, p.dst ≠ y) (hin : ∀ b ∈ f.blocks, ∀ z ∈ b.insts, z.dst = y → cntB z.op = true) :
  putF (numF f r) y x = numF f fun v => putT y x (r v) := by
 unfold putF numF
 simp only [List.map_map]
 congr 1
 refine List.map_congr_left fun b hb => ?_
 show putB y x (numB r b) = numB _ b
 unfold putB numB
 have e1 : (b.phis.map (numPh r)).filter (fun p => decide (p.dst ≠ y)) = b.phis.map (numPh r) := List.filter_eq_self.2 fun p hp => by
  obtain ⟨q, hq, rfl⟩ := List.mem_map.1 hp
  exact w4 (hph b hb q hq)
 have e2 : ((b.insts.filter (keepI r)).map (mapI r)).filter (fun z => decide (z.dst ≠ y)) = (b.insts.filter (keepI fun v => putT y x (r v))).map (mapI r) := by
  rw [List.filter_map, List.filter_filter]
  congr 1
  refine List.filter_congr fun z hz => ?_
  show (decide (z.dst ≠ y) && keepI r z) = keepI _ z
  unfold keepI putT
  by_cases hc : cntB z.op = true
  ·rw [hc]
   simp only [Bool.not_true, Bool.false_or]
   rw [← Bool.decide_and]
   refine decide_eq_decide.2 ⟨fun ⟨h1, h2⟩ => by rw [h2, if_neg h1], fun h=>?_⟩
   by_cases e : r z.dst = y
   ·rw [if_pos e] at h
    rw [← h, hx] at e
    exact absurd e hne
   ·rw [if_neg e] at h
    exact ⟨fun e2 => e (by rw [e2]; exact hy), h⟩
  ·have hz2 : z.dst ≠ y := fun e => hc (hin b hb z hz e)
   rw [w4 hz2, show cntB z.op = false by simpa using hc]; rfl
 rw [e1, e2]
 simp only [List.map_map]
 congr 1
 ·refine List.map_congr_left fun p _ => ?_
  show numPh _ (numPh r p) = _
  unfold numPh; simp only [List.map_map]; rfl
 ·refine List.map_congr_left fun z _ => ?_
  show mapI _ (mapI r z) = _
  unfold mapI; simp only [List.map_map]; rfl
 ·unfold putTm numTm putT
  by_cases h : b.term.kind = 0
  ·simp [h]
  ·simp [h]
structure Half (f : PFunc) (r : Int → Int) : Prop where
 id : ∀ v, (∀ i k x, NumI f i k x → x.dst ≠ v) → r v = v
 rt : ∀ i k y, NumI f i k y → r y.dst = y.dst ∨ ∃ i' k' x, NumI f i' k' x ∧ AheadI f i' k' i k ∧ r x.dst = x.dst ∧ r y.dst = x.dst ∧ sameI (mapI r x) (mapI r y) = true
theorem Half.first (f : PFunc) : Half f _root_.id := ⟨fun _ _ => rfl, fun _ _ _ _ => .inl rfl⟩
theorem mapI_put (r : Int → Int) (y x : Int) (z : PInst) : mapI (fun v => putT y x (r v)) z = mapI (putT y x) (mapI r z) := by unfold mapI; simp only [List.map_map]; rfl
theorem Half.step {f : PFunc} {rk : Nat → Nat → Nat} (hH : NumH f rk) {r : Int → Int} (h : Half f r) {i k : Nat} {y : PInst} {i' k' : Nat} {x : PInst} (hy : NumI f i k y) (hx : NumI f i' k' x) (ha : AheadI f i' k' i k) (rx : r x.dst = x.dst) (ry : r y.dst = y.dst) (hs : sameI (mapI r x) (mapI r y) = true) :
  Half f fun v => putT y.dst x.dst (r v) := by
 have hne : x.dst ≠ y.dst := fun e => by
  obtain ⟨rfl, rfl⟩ := hH.made _ _ _ _ _ _ hy hx e
  have := hH.less _ _ _ _ _ _ hy hx ha
  omega
 have px : putT y.dst x.dst (r x.dst) = x.dst := by rw [rx]; unfold putT; rw [if_neg hne]
 refine ⟨fun v hv => ?_, fun i2 k2 z hz => ?_⟩
 ·show putT y.dst x.dst (r v) = v
  rw [h.id v hv]; unfold putT; rw [if_neg (fun e => hv _ _ _ hy e.symm)]
 ·rcases h.rt i2 k2 z hz with h0 | ⟨i3, k3, u, hu, au, ru, ez, su⟩
  ·by_cases e : z.dst = y.dst
   ·right
    obtain ⟨rfl, rfl⟩ := hH.made _ _ _ _ _ _ hy hz e
    have : z = y := hz.1.one hy.1
    subst this
    refine ⟨i', k', x, hx, ha, px, ?_, ?_⟩
    ·show putT z.dst x.dst (r z.dst) = x.dst
     rw [ry]; unfold putT; rw [if_pos rfl]
    ·rw [mapI_put r z.dst x.dst x, mapI_put r z.dst x.dst z]; exact sameI_map _ hs
   ·left
    show putT y.dst x.dst (r z.dst) = z.dst
    rw [h0]; unfold putT; rw [if_neg e]
  ·right
   by_cases e : u.dst = y.dst
   ·obtain ⟨rfl, rfl⟩ := hH.made _ _ _ _ _ _ hy hu e
    have : u = y := hu.1.one hy.1
    subst this
    refine ⟨i', k', x, hx, hH.trans _ _ _ _ _ _ _ _ _ hz hx hu ha au, px, ?_, ?_⟩
    ·show putT u.dst x.dst (r z.dst) = x.dst
     rw [ez]; unfold putT; rw [if_pos rfl]
    ·rw [mapI_put r u.dst x.dst x, mapI_put r u.dst x.dst z]; exact sameI_map _ (sameI_trans hs su)
   ·refine ⟨i3, k3, u, hu, au, ?_, ?_, ?_⟩
    ·show putT y.dst x.dst (r u.dst) = u.dst
     rw [ru]; unfold putT; rw [if_neg e]
    ·show putT y.dst x.dst (r z.dst) = u.dst
     rw [ez]; unfold putT; rw [if_neg e]
    ·rw [mapI_put r y.dst x.dst u, mapI_put r y.dst x.dst z]; exact sameI_map _ su
end Go.Proofs.YtiojekbkamegdaaGreatDoor
namespace Go.Proofs.YtiojekbkamegdaaGreatDoor
def cI (l : List Int) : List AV := l.map (AV.int .i64)
def cB (l : List Bool) : List AV := l.map AV.bool
theorem cI_len (l : List Int) : (cI l).length = l.length := by simp [cI]
theorem cB_len (l : List Bool) : (cB l).length = l.length := by simp [cB]
theorem cI_flat (l : List Int) : (l.map fun x => [AV.int .i64 x]).flatten = cI l := by
 induction l with
 | nil => rfl
 | cons x l ih => simp only [List.map_cons, List.flatten_cons, ih]; rfl
theorem cB_flat (l : List Bool) : (l.map fun x => [AV.bool x]).flatten = cB l := by
 induction l with
 | nil => rfl
 | cons x l ih => simp only [List.map_cons, List.flatten_cons, ih]; rfl
theorem cI_cell (l : List Int) : (cI l).all AV.cell = true := by
 unfold cI; rw [List.all_map]; exact List.all_eq_true.2 fun _ _ => rfl
theorem cB_cell (l : List Bool) : (cB l).all AV.cell = true := by
 unfold cB; rw [List.all_map]; exact List.all_eq_true.2 fun _ _ => rfl
theorem cI_app (l m : List Int) : cI l ++ cI m = cI (l ++ m) := by simp [cI]
theorem cI_set (l : List Int) (j : Nat) (v : Int) : (cI l).set j (.int .i64 v) = cI (l.set j v) := by unfold cI; rw [List.map_set]
theorem cB_set (l : List Bool) (j : Nat) (v : Bool) : (cB l).set j (.bool v) = cB (l.set j v) := by unfold cB; rw [List.map_set]
theorem cI_drop {l : List Int} {j : Nat} {v : Int} (h : l[j]? = some v) : (cI l).drop j = .int .i64 v :: (cI l).drop (j + 1) := by
 obtain ⟨hj, e⟩ := List.getElem?_eq_some_iff.1 h
 rw [List.drop_eq_getElem_cons (by rw [cI_len]; exact hj)]
 unfold cI
 rw [List.getElem_map, e]
theorem cB_drop {l : List Bool} {j : Nat} {v : Bool} (h : l[j]? = some v) : (cB l).drop j = .bool v :: (cB l).drop (j + 1) := by
 obtain ⟨hj, e⟩ := List.getElem?_eq_some_iff.1 h
 rw [List.drop_eq_getElem_cons (by rw [cB_len]; exact hj)]
 unfold cB
 rw [List.getElem_map, e]
theorem cI_rep (n : Nat) (v : Int) : List.replicate n (AV.int .i64 v) = cI (List.replicate n v) := by simp [cI]
theorem cB_rep (n : Nat) (v : Bool) : List.replicate n (AV.bool v) = cB (List.replicate n v) := by simp [cB]
theorem cI_rep_of (I : G) (l : List Int) : RepL I (cI l) (l.map (Value.int .i64)) := by
 unfold cI
 induction l with
 | nil => rfl
 | cons x l ih => exact ⟨_, _, rfl, rfl, ih⟩
theorem cI_un {I : G} : ∀ {l : List Int} {vs : List Value}, RepL I (cI l) vs → vs = l.map (Value.int .i64)
 | [], _, h => h
 | x :: l, _, ⟨v, us, e, h1, h2⟩ => by
  have h1 : v = .int .i64 x := h1
  rw [e, h1, cI_un h2]; rfl
section
variable {E : World} {P : Program} {ops : Array Oper} {K : AEnv → OL → Prop} {env : AEnv} {O O' O'' : OL} {rest : List Oper} {n : Nat}
variable {d ty : Nat} {pos : String} {af : Array Edge} {x y z : Operand} {t u e : TypeId}
theorem Gv.idxI {i n j : Nat} {a : Int} {T : TypeId} {cs : List AV} (ht : P.underlying t = some (.slice e)) (hs : ∀ w, (sizeOf e).run P w = .ok 1 w) (hx : aev env x = .own i n) (hy : aev env y = .int .i64 a) (hi : a = (j : Int)) (hO : Has O i (.grow 1 T cs)) (hn : cs.length = n) (hj : j < n) :
  Gv P env O (Oper.mk (some d) (.indexAddr t x y) ty pos af none) (.po i j) :=
 Gv.idxOL ht hs hx hy hi hO (fun e => by rw [e] at hn; simp at hn; omega) hj (Nat.mul_one j)
theorem Gv.loadI {i j : Nat} {T : TypeId} {l : List Int} {v : Int} (ha : ∀ w, (isAgg t).run P w = .ok false w) (hx : aev env x = .po i j) (hO : Has O i (.grow 1 T (cI l))) (hv : l[j]? = some v) :
  Gv P env O (Oper.mk (some d) (.load t x) ty pos af none) (.int .i64 v) := Gv.load1G ha hx hO (cI_drop hv)
theorem Gv.loadB {i j : Nat} {T : TypeId} {l : List Bool} {v : Bool} (ha : ∀ w, (isAgg t).run P w = .ok false w) (hx : aev env x = .po i j) (hO : Has O i (.grow 1 T (cB l))) (hv : l[j]? = some v) :
  Gv P env O (Oper.mk (some d) (.load t x) ty pos af none) (.bool v) := Gv.load1G ha hx hO (cB_drop hv)
theorem Put.cast {i k : Nat} {T : TypeId} {o : AObj} {cs ds : List AV} (h : Put O i o (.grow k T cs) O') (e : cs = ds) : Put O i o (.grow k T ds) O' := e ▸ h
theorem AOps.storeI {i j : Nat} {T : TypeId} {l : List Int} {v : Int} (hs : ∀ w, (sizeOf t).run P w = .ok 1 w) (hx : aev env x = .po i j) (hy : aev env y = .int .i64 v) (hO : Put O i (.grow 1 T (cI l)) (.grow 1 T (cI (l.set j v))) O') (hb : j < l.length)
  (kk : AOps P E ops K rest env O') : AOps P E ops K (Oper.mk none (.store t x y) ty pos af none :: rest) env O :=
 AOps.storeG1 (cs := cI l) hs hx hy rfl rfl rfl (hO.cast (cI_set l j v).symm) (by rw [cI_len]; exact hb) kk
theorem AOps.storeB {i j : Nat} {T : TypeId} {l : List Bool} {v : Bool} (hs : ∀ w, (sizeOf t).run P w = .ok 1 w) (hx : aev env x = .po i j) (hy : aev env y = .bool v) (hO : Put O i (.grow 1 T (cB l)) (.grow 1 T (cB (l.set j v))) O') (hb : j < l.length)
  (kk : AOps P E ops K rest env O') : AOps P E ops K (Oper.mk none (.store t x y) ty pos af none :: rest) env O :=
 AOps.storeG1 (cs := cB l) hs hx hy rfl rfl rfl (hO.cast (cB_set l j v).symm) (by rw [cB_len]; exact hb) kk
theorem AOps.makeI {i : TypeInfo} {zv : Value} {m : Nat} {k1 k2 : IntKind} {l l' : Int} (ht : P.underlying t = some (.slice e)) (hi : P.info? e = some i) (hz : i.zero = some zv) (hzc : zv.cells = #[.int .i64 0]) (hk : i.size = 1) (hx : aev env x = .int k1 l) (hy : aev env y = .int k2 l')
  (hl : l = (m : Int)) (hl' : l' = (m : Int)) (hb : (i.bytes : Int) * (m : Int) ≤ 281474976710656) (hm : m ≤ 281474976710656) (kk : ∀ j, AOps P E ops K rest (aupd env d (.own j m)) ((j, .grow 1 e (cI (List.replicate m 0))) :: O)) :
  AOps P E ops K (Oper.mk (some d) (.makeSlice t x y) ty pos af none :: rest) env O :=
 AOps.make1 ht hi hz hzc hk hx hy hl hl' hb hm rfl fun j => by rw [show lit (.int .i64 0) = AV.int .i64 0 from rfl, cI_rep]; exact kk j
theorem AOps.makeB {i : TypeInfo} {zv : Value} {m : Nat} {k1 k2 : IntKind} {l l' : Int} (ht : P.underlying t = some (.slice e)) (hi : P.info? e = some i) (hz : i.zero = some zv) (hzc : zv.cells = #[.bool false]) (hk : i.size = 1) (hx : aev env x = .int k1 l) (hy : aev env y = .int k2 l')
  (hl : l = (m : Int)) (hl' : l' = (m : Int)) (hb : (i.bytes : Int) * (m : Int) ≤ 281474976710656) (hm : m ≤ 281474976710656) (kk : ∀ j, AOps P E ops K rest (aupd env d (.own j m)) ((j, .grow 1 e (cB (List.replicate m false))) :: O)) :
  AOps P E ops K (Oper.mk (some d) (.makeSlice t x y) ty pos af none :: rest) env O :=
 AOps.make1 ht hi hz hzc hk hx hy hl hl' hb hm rfl fun j => by rw [show lit (.bool false) = AV.bool false from rfl, cB_rep]; exact kk j
theorem GStep.knowI {t i m : Nat} {T : TypeId} {l : List Int} (hv : env t = .own i m) (hO : Pick O i (.grow 1 T (cI l)) O') (hm : l.length = m) : GStep E env O (aupd env t (.fro 1 (l.map fun x => [.int .i64 x]))) O' :=
 GStep.know hv (by rw [cI_flat]; exact hO) (fun r hr => by obtain ⟨_, _, rfl⟩ := List.mem_map.1 hr; rfl) (by decide) (by rw [qx]; exact hm)
theorem GStep.knowB {t i m : Nat} {T : TypeId} {l : List Bool} (hv : env t = .own i m) (hO : Pick O i (.grow 1 T (cB l)) O') (hm : l.length = m) : GStep E env O (aupd env t (.fro 1 (l.map fun x => [.bool x]))) O' :=
 GStep.know hv (by rw [cB_flat]; exact hO) (fun r hr => by obtain ⟨_, _, rfl⟩ := List.mem_map.1 hr; rfl) (by decide) (by rw [qx]; exact hm)
end
structure Enc (α : Type) where
 k : Nat
 val : α → List Value
 pos : 0 < k
 len : ∀ x, (val x).length = k
 one : ∀ x, ∀ u ∈ val x, u.oneCell' = true
variable {α : Type}
def Enc.vs (c : Enc α) (l : List α) : List Value := l.flatMap c.val
def Enc.row (c : Enc α) (x : α) : List AV := (c.val x).map lit
def Enc.av (c : Enc α) (l : List α) : List AV := l.flatMap c.row
theorem Enc.vs_len (c : Enc α) (l : List α) : (c.vs l).length = l.length * c.k := by
 unfold Enc.vs
 induction l with
 | nil => simp
 | cons x l ih => rw [List.flatMap_cons, qw, ih, c.len, List.length_cons, Nat.add_mul]; omega
theorem Enc.av_eq (c : Enc α) (l : List α) : c.av l = (c.vs l).map lit := by
 unfold Enc.av Enc.vs
 induction l with
 | nil => rfl
 | cons x l ih => rw [List.flatMap_cons, List.flatMap_cons, w2, ih]; rfl
theorem Enc.av_len (c : Enc α) (l : List α) : (c.av l).length = l.length * c.k := by rw [c.av_eq, qx, c.vs_len]
theorem Enc.av_app (c : Enc α) (l m : List α) : c.av l ++ c.av m = c.av (l ++ m) := by unfold Enc.av; rw [List.flatMap_append]
theorem Enc.av_push (c : Enc α) (l : List α) (x : α) : c.av l ++ c.row x = c.av (l ++ [x]) := by rw [← c.av_app]; unfold Enc.av; simp
theorem Enc.vs_one (c : Enc α) (l : List α) : ∀ u ∈ c.vs l, u.oneCell' = true := by
 intro u hu
 unfold Enc.vs at hu
 obtain ⟨x, _, hx⟩ := List.mem_flatMap.1 hu
 exact c.one x u hx
theorem Enc.av_un (c : Enc α) {I : G} {l : List α} {vs : List Value} (h : RepL I (c.av l) vs) : vs = c.vs l := by rw [c.av_eq] at h; exact lit_uns h
def eI : Enc Int := ⟨1, fun x => [.int .i64 x], by decide, fun _ => rfl, fun x u hu => by simp at hu; subst hu; rfl⟩
def eP : Enc (Int × Int) := ⟨2, fun p => [.int .i64 p.1, .int .i64 p.2], by decide, fun _ => rfl, fun x u hu => by simp at hu; rcases hu with rfl | rfl <;> rfl⟩
theorem eI_av (l : List Int) : eI.av l = cI l := by
 unfold Enc.av cI
 induction l with
 | nil => rfl
 | cons x l ih => rw [List.flatMap_cons, ih]; rfl
inductive NestR (c : Enc α) (e : TypeId) : List (List α) → List Value → List (Nat × Obj) → Prop
 | nil : NestR c e [] [] []
 | cons {r rs a n cap hs A B} : OwnS c.k e a n cap (c.vs r) A → NestR c e rs hs B → NestR c e (r :: rs) (.slice a n cap :: hs) (A ++ B)
theorem NestR.len {c : Enc α} {e : TypeId} {rows : List (List α)} {hs : List Value} {L : List (Nat × Obj)} (h : NestR c e rows hs L) : hs.length = rows.length := by
 induction h with
 | nil => rfl
 | cons _ _ ih => simp [ih]
def NHole (c : Enc α) (e : TypeId) (rows : List (List α)) (j : Nat) (hs : List Value) (B : List (Nat × Obj)) : Prop :=
 ∀ r' a' n' c' A', OwnS c.k e a' n' c' (c.vs r') A' → ∃ L', NestR c e (rows.set j r') (hs.set j (.slice a' n' c')) L' ∧ L'.Perm (A' ++ B)
theorem NestR.get {c : Enc α} {e : TypeId} {rows : List (List α)} {hs : List Value} {L : List (Nat × Obj)} (h : NestR c e rows hs L) : ∀ {j : Nat} {r : List α}, rows[j]? = some r →
  ∃ a n cap A B, hs[j]? = some (.slice a n cap) ∧ OwnS c.k e a n cap (c.vs r) A ∧ L.Perm (A ++ B) ∧ NHole c e rows j hs B := by
 induction h with
 | nil => intro j r hj; simp at hj
 | @cons r0 rs a n cap hs A B h1 h2 ih =>
  intro j r hj
  cases j with
  | zero =>
   simp at hj; subst hj
   exact ⟨a, n, cap, A, B, rfl, h1, .refl _, fun r' a' n' c' A' h => ⟨A' ++ B, .cons h h2, .refl _⟩⟩
  | succ j =>
   obtain ⟨a1, n1, c1, A1, B1, g1, g2, g3, g4⟩ := ih (j := j) (r := r) (by simpa using hj)
   refine ⟨a1, n1, c1, A1, A ++ B1, by simpa using g1, g2, ?_, fun r' a' n' c' A' h => ?_⟩
   ·refine (g3.append_left A).trans ?_
    rw [← qs, ← qs]
    exact List.perm_append_comm.append_right B1
   ·obtain ⟨L', k1, k2⟩ := g4 r' a' n' c' A' h
    refine ⟨A ++ L', by simpa using NestR.cons h1 k1, ?_⟩
    refine (k2.append_left A).trans ?_
    rw [← qs, ← qs]
    exact List.perm_append_comm.append_right B1
theorem NestR.rep (c : Enc α) (e : TypeId) : ∀ m : Nat, NestR c e (List.replicate m []) (List.replicate m (.slice none 0 0)) []
 | 0 => .nil
 | m + 1 => by
  have := NestR.cons (c := c) (r := []) (OwnS.nil c.k e) (NestR.rep c e m)
  simpa [List.replicate_succ] using this
def nestO (c : Enc α) (T e : TypeId) (b : Nat) (rows : List (List α)) : AObj := .heap fun L => ∃ hs B, L = (b, .cells hs.toArray T (0, 0)) :: B ∧ NestR c e rows hs B
def nestH (c : Enc α) (T e : TypeId) (b : Nat) (rows : List (List α)) (j n i : Nat) : AObj := .heapG (fun I L => ∃ hs B hd, L = (b, .cells hs.toArray T (0, 0)) :: B ∧ I.h i = some hd ∧ hs[j]? = some (.slice (adr hd.1) n hd.2) ∧ hs.length = rows.length ∧ NHole c e rows j hs B)
 (fun I J L h hp => by obtain ⟨hs, B, hd, h1, h2, h3⟩ := hp; exact ⟨hs, B, hd, h1, h.h _ _ h2, h3⟩)
def nref (b n : Nat) : AV := .raw (.slice (some ⟨b, 0, none⟩) n n)
def nptr (b j : Nat) : AV := .raw (.pointer (some ⟨b, j, none⟩))
theorem OwnS.adr {k : Nat} {e : TypeId} {a : Option Addr} {n c : Nat} {cs : List Value} {A : List (Nat × Obj)} (h : OwnS k e a n c cs A) : ∃ b, a = Go.Proofs.YtiojekbkamegdaaGreatDoor.adr b := by
 rcases h.2.2 with ⟨e, _⟩ | ⟨b, junk, e, _⟩
 ·exact ⟨none, e⟩
 ·exact ⟨some b, e⟩
section
variable {E : World} {P : Program} {ops : Array Oper} {K : AEnv → OL → Prop} {env : AEnv} {O O' O'' : OL} {rest : List Oper} {n : Nat}
variable {d ty : Nat} {pos : String} {af : Array Edge} {x y z : Operand} {t u e T : TypeId}
theorem AOps.makeNest {i : TypeInfo} {zv : Value} {m : Nat} {k1 k2 : IntKind} {l l' : Int} (ht : P.underlying t = some (.slice T)) (hi : P.info? T = some i) (hz : i.zero = some zv) (hzc : zv.cells = #[.slice none 0 0]) (hk : i.size = 1) (hx : aev env x = .int k1 l) (hy : aev env y = .int k2 l')
  (hl : l = (m : Int)) (hl' : l' = (m : Int)) (hb : (i.bytes : Int) * (m : Int) ≤ 281474976710656) (hm : m ≤ 281474976710656) (c : Enc α) (e : TypeId) (kk : ∀ b, AOps P E ops K rest (aupd env d (nref b m)) ((0, nestO c T e b (List.replicate m [])) :: O)) :
  AOps P E ops K (Oper.mk (some d) (.makeSlice t x y) ty pos af none :: rest) env O := fun I F ρ w h1 h2 => by
 obtain ⟨htop, L, hL, hS⟩ := h2
 refine Ops.make1 ht hi hz hzc hk (evI h1 hx) (evI h1 hy) hl hl' hb hm hS fun b w' hS' => ?_
 exact kk b I F _ _ (h1.upd d rfl) ⟨htop, _, ⟨[(b, .cells (List.replicate m (.slice none 0 0)).toArray T (0, 0))], L, rfl, ⟨List.replicate m (.slice none 0 0), [], rfl, NestR.rep c e m⟩, hL⟩, by simpa using hS'⟩
theorem Gv.idxN {b m j : Nat} {a : Int} (ht : P.underlying t = some (.slice T)) (hs : ∀ w, (sizeOf T).run P w = .ok 1 w) (hx : aev env x = nref b m) (hy : aev env y = .int .i64 a) (hi : a = (j : Int)) (hj : j < m) :
  Gv P env O (Oper.mk (some d) (.indexAddr t x y) ty pos af none) (nptr b j) := Gv.ofEv fun I ρ h => by
 have h1 := evRaw h hx
 have h2 := evI h hy
 subst hi
 have hlt : ((j : Int) < (m : Int)) := by omega
 refine ⟨_, Z, fun w=>?_⟩
 simp [execOp, h1, h2, Instr.indexAt, Sem.run_bind, run_underlying ht, hs, hlt, addr_add, asIntOf]
 intro h; omega
theorem Gv.lenN {b m : Nat} (ht : P.underlying t = some (.slice T)) (hx : aev env x = nref b m) : Gv P env O (Oper.mk (some d) (.call { callee := .builtin .len, args := #[x], argTypes := #[t] }) ty pos af none) (.int .i64 m) := Gv.ofEv fun I ρ h => by
 have h1 := evRaw h hx
 exact ⟨_, rfl, fun w => by simp [execOp, resolve, h1, invoke, builtin, Builtin.len_, run_underlying ht, goInt]⟩
theorem AOps.nestTake {c : Enc α} {b j m : Nat} {rows : List (List α)} {r : List α} {f : Nat → OL} (ha : ∀ w, (isAgg t).run P w = .ok false w) (hx : aev env x = nptr b j) (hr : rows[j]? = some r)
  (hO : ∀ i, Put O m (nestO c T e b rows) (nestH c T e b rows j r.length i) (f i)) (kk : ∀ i, AOps P E ops K rest (aupd env d (.own i r.length)) ((i, .grow c.k e (c.av r)) :: f i)) :
  AOps P E ops K (Oper.mk (some d) (.load t x) ty pos af none :: rest) env O := fun I F ρ w h1 h2 => by
 obtain ⟨i, hi⟩ := h2.name
 obtain ⟨htop, L, hL, hS⟩ := h2
 have hx := evRaw h1 hx
 obtain ⟨A, B, hp, ⟨hs, B0, rfl, hN⟩, hback⟩ := (hO i).rep hL
 obtain ⟨a, n, cap, A1, B1, g1, g2, g3, g4⟩ := hN.get hr
 obtain ⟨b1, rfl⟩ := g2.adr
 have hn : n = r.length := by have := g2.1; rw [c.vs_len] at this; exact (Nat.eq_of_mul_eq_mul_right c.pos this).symm
 subst hn
 obtain ⟨J, e1, hle, e2, htop'⟩ := hi (b1, cap)
 have hS2 : SL I.k ((b, .cells hs.toArray T (0, 0)) :: (B0 ++ (B ++ F))) E w := hS.perm (by
  have := hp.append_right F
  simpa using this.symm)
 obtain ⟨L', h5, h6⟩ := hback hle (A' := (b, .cells hs.toArray T (0, 0)) :: B1) ⟨hs, B1, (b1, cap), rfl, e2, g1, hN.len, g4⟩
 refine Ops.load1 (I := I.k) (O := (b, .cells hs.toArray T (0, 0)) :: (B0 ++ (B ++ F))) ha hS2 hx (.inr ⟨_, _, _, .head _, by rw [List.getElem?_toArray]; exact g1⟩) ?_
 refine yz (fun _ _ => postK.up hle) _ _ _ (kk i J F _ _ ((h1.mono hle).upd d ⟨b1, cap, e2, Z⟩) ⟨htop', A1 ++ L', ⟨A1, L', Z, ⟨b1, cap, _, c.vs r, e2, by rw [c.av_eq]; exact lit_reps J _, c.vs_one r, g2⟩, h5⟩, ?_⟩)
 rw [e1]
 refine hS2.perm<|List.Perm.trans ?_ (List.Perm.cons _ ((g3.append_right (B ++ F)).symm))
 have h7 : (A1 ++ L' ++ F).Perm (A1 ++ ((b, Obj.cells hs.toArray T (0, 0)) :: (B1 ++ B)) ++ F) := (h6.append_left A1).append_right F
 refine h7.trans ?_
 simp only [qs, List.cons_append]
 exact List.perm_middle
theorem AOps.nestPut {c : Enc α} {b j m i i0 n0 n1 k : Nat} {rows : List (List α)} {r : List α} {cs : List AV} (hs1 : ∀ w, (sizeOf t).run P w = .ok 1 w) (hx : aev env x = nptr b j) (hy : aev env y = .own i n1) (hj : j < rows.length)
  (hP0 : Pick O i (.grow k e cs) O') (hO : Put O' m (nestH c T e b rows j n0 i0) (nestO c T e b (rows.set j r)) O'') (hk : k = c.k) (hcs : cs = c.av r) (hn1 : r.length = n1) (kk : AOps P E ops K rest env O'') :
  AOps P E ops K (Oper.mk none (.store t x y) ty pos af none :: rest) env O := fun I F ρ w h1 h2 => by
 obtain ⟨htop, L, hL, hS⟩ := h2
 have hP : Pick O i (.grow c.k e (c.av r)) O' := by subst hk hcs; exact hP0
 have hx := evRaw h1 hx
 have h3 := h1.ev y
 rw [hy] at h3
 obtain ⟨b1, c1, e1, ey⟩ := h3
 obtain ⟨A, B, hp, ⟨b1', c1', n', vs, e2, hvs, hvc, hown⟩, hB⟩ := hP.rep hL
 simp only at e2
 rw [e1] at e2
 simp only [Option.some.injEq, Prod.mk.injEq] at e2
 obtain ⟨rfl, rfl⟩ := e2
 have hv := c.av_un hvs
 subst hv
 have hnn : n' = n1 := by have := hown.1; rw [c.vs_len, hn1] at this; exact (Nat.eq_of_mul_eq_mul_right c.pos this).symm
 subst hnn
 obtain ⟨A2, B2, hp2, ⟨hs, B0, hd, rfl, _, hsj, hsl, hole⟩, hback⟩ := hO.rep hB
 obtain ⟨L', k1, k2⟩ := hole r _ _ _ A hown
 have hS2 : SL I.k ([(b, .cells hs.toArray T (0, 0))] ++ (A ++ (B0 ++ (B2 ++ F)))) E w := hS.perm (by
  refine List.Perm.trans ?_ ((hp.append_right F).symm)
  refine List.Perm.trans ?_ (((hp2.append_left A).append_right F).symm)
  simp only [qs, List.cons_append, List.nil_append]
  exact (List.perm_middle).symm)
 refine Ops.store1 (cs := hs) (off := j) hs1 hx ey Z (by rw [hsl]; exact hj) hS2 fun w' hS' => ?_
 obtain ⟨L2, h7, h8⟩ := hback (qb I) (A' := (b, .cells (hs.set j (.slice (adr b1) n' c1)).toArray T (0, 0)) :: L') ⟨_, L', rfl, k1⟩
 refine kk I F _ _ h1 ⟨htop, L2, h7, hS'.perm ?_⟩
 refine (h8.append_right F).trans ?_
 simp only [List.cons_append, List.nil_append, qs]
 refine List.Perm.cons _ ?_
 have := k2.append_right (B2 ++ F)
 simpa [qs] using this
theorem GStep.nestBack {c : Enc α} {b j m i : Nat} {rows : List (List α)} {r : List α} (hP : Pick O i (.grow c.k e (c.av r)) O') (hO : Put O' m (nestH c T e b rows j r.length i) (nestO c T e b (rows.set j r)) O'') : GStep E env O env O'' := fun I F ρ w h1 h2 => by
 obtain ⟨htop, L, hL, hS⟩ := h2
 obtain ⟨A, B, hp, ⟨b1, c1, n', vs, e2, hvs, hvc, hown⟩, hB⟩ := hP.rep hL
 have hv := c.av_un hvs
 subst hv
 have hnn : n' = r.length := by have := hown.1; rw [c.vs_len] at this; exact (Nat.eq_of_mul_eq_mul_right c.pos this).symm
 subst hnn
 obtain ⟨A2, B2, hp2, ⟨hs, B0, hd, rfl, e3, hsj, hsl, hole⟩, hback⟩ := hO.rep hB
 simp only at e2
 rw [e2] at e3
 simp only [Option.some.injEq] at e3
 subst e3
 obtain ⟨L', k1, k2⟩ := hole r _ _ _ A hown
 have hsame : hs.set j (.slice (adr b1) r.length c1) = hs := by
  obtain ⟨h9, h10⟩ := List.getElem?_eq_some_iff.1 hsj
  refine List.ext_getElem? fun k=>?_
  by_cases ek : k = j
  ·subst ek; rw [List.getElem?_set_self h9, hsj]
  ·rw [List.getElem?_set_ne (fun e => ek e.symm)]
 rw [hsame] at k1
 obtain ⟨L2, h7, h8⟩ := hback (qb I) (A' := (b, .cells hs.toArray T (0, 0)) :: L') ⟨_, L', rfl, k1⟩
 refine ⟨I, .refl _, h1, htop, L2, h7, hS.perm ?_⟩
 refine (h8.append_right F).trans<|List.Perm.trans ?_ ((hp.append_right F).symm)
 refine List.Perm.trans ?_ (((hp2.append_left A).append_right F).symm)
 simp only [qs, List.cons_append, List.nil_append]
 refine List.Perm.trans ?_ (List.perm_middle).symm
 refine List.Perm.cons _ ?_
 have := k2.append_right (B2 ++ F)
 simpa [qs] using this
theorem SL.freezeAllN : ∀ {A : List (Nat × Obj)} {I : Ghost} {F : List (Nat × Obj)} {E w : World}, SL I (A ++ F) E w → ∃ J, I.le J ∧ SL J F E w ∧ ∀ x ∈ A, J x.1 = some x.2
 | [], I, F, E, w, h => ⟨I, .refl _, h, fun _ h => by cases h⟩
 | (b, o) :: A, I, F, E, w, h => by
  obtain ⟨h1, h2⟩ := SL.freeze (show SL I ((b, o) :: (A ++ F)) E w from h)
  obtain ⟨J, h3, h4, h5⟩ := SL.freezeAllN h2
  refine ⟨J, h1.trans h3, h4, fun x hx => ?_⟩
  rcases List.mem_cons.1 hx with rfl | hx
  ·exact h3 _ _ (Ghost.put_same _ _ _)
  ·exact h5 x hx
theorem OwnS.fro {c : Enc α} {I : G} {e : TypeId} {a : Option Addr} {n cap : Nat} {r : List α} {A : List (Nat × Obj)} (h : OwnS c.k e a n cap (c.vs r) A) (hI : ∀ x ∈ A, I.k x.1 = some x.2) : RepV I (.fro c.k (r.map c.row)) (.slice a n cap) := by
 obtain ⟨h1, h2, h3⟩ := h
 have hn : n = r.length := by rw [c.vs_len] at h1; exact (Nat.eq_of_mul_eq_mul_right c.pos h1).symm
 subst hn
 rcases h3 with ⟨rfl, rfl, _⟩ | ⟨b, junk, rfl, rfl, hj⟩
 ·have h0 : r = [] := List.eq_nil_of_length_eq_zero (by omega)
  subst h0
  exact ⟨none, 0, 0, rfl, rfl, Nat.le_refl _, fun _ => rfl, trivial⟩
 ·have hb := hI _ (.head _)
  simp only at hb
  have hflat : (r.map c.row).flatten = (c.vs r).map lit := by rw [← c.av_eq]; unfold Enc.av; rw [List.flatMap]
  refine ⟨_, _, _, Z, by simp, h2, fun e => (by cases e), RepR.of_flat hb (r.map c.row) (c.vs r) 0 (fun x hx => by obtain ⟨y, _, rfl⟩ := List.mem_map.1 hx; unfold Enc.row; rw [qx, c.len]) (by rw [hflat]; exact lit_reps I _) fun i u hu => ?_⟩
  rw [Nat.zero_mul, Nat.zero_add, List.getElem?_toArray, List.getElem?_append_left (List.getElem?_eq_some_iff.1 hu).1]
  exact hu
theorem NestR.fro {c : Enc α} {I : G} {e : TypeId} {rows : List (List α)} {hs : List Value} {B : List (Nat × Obj)} (h : NestR c e rows hs B) (hI : ∀ x ∈ B, I.k x.1 = some x.2) : RepL I (rows.map fun r => .fro c.k (r.map c.row)) hs := by
 induction h with
 | nil => rfl
 | cons h1 _ ih => exact ⟨_, _, rfl, h1.fro fun x hx => hI x (List.mem_append_left _ hx), ih fun x hx => hI x (List.mem_append_right _ hx)⟩
def froN (c : Enc α) (rows : List (List α)) : AV := .fro 1 (rows.map fun r => [.fro c.k (r.map c.row)])
theorem nest_know {c : Enc α} {I : G} {F : List (Nat × Obj)} {E w : World} {b m : Nat} {rows : List (List α)} (hO : Pick O m (nestO c T e b rows) O') (h : SLA I O F E w) : ∃ J B, I.le J ∧ RepOs I O' B ∧ (∃ top, ∀ i, top ≤ i → J.h i = none) ∧ SL J.k (B ++ F) E w ∧ RepV J (froN c rows) (.slice (some ⟨b, 0, none⟩) rows.length rows.length) := by
 obtain ⟨htop, L, hL, hS⟩ := h
 obtain ⟨A, B, hp, ⟨hs, B0, rfl, hN⟩, hB⟩ := hO.rep hL
 have hS2 : SL I.k (((b, .cells hs.toArray T (0, 0)) :: B0) ++ (B ++ F)) E w := hS.perm (by rw [← qs]; exact (hp.append_right F).symm)
 obtain ⟨J, h1, h2, h3⟩ := SL.freezeAllN hS2
 have hle : I.le ⟨J, I.h⟩ := ⟨h1, fun _ _ h => h⟩
 refine ⟨⟨J, I.h⟩, B, hle, hB, htop, h2, ?_⟩
 have hb := h3 _ (.head _)
 simp only at hb
 have hrep := hN.fro (I := ⟨J, I.h⟩) fun x hx => h3 x (.tail _ hx)
 refine ⟨_, _, _, Z, by simp, Nat.le_refl _, fun e => (by cases e), RepR.intro fun j row hj => ?_⟩
 rw [qy] at hj
 obtain ⟨r, hr, rfl⟩ := Option.map_eq_some_iff.1 hj
 obtain ⟨v, hv1, hv2⟩ := hrep.get (j := j) (x := .fro c.k (r.map c.row)) (by rw [qy, hr]; rfl)
 refine ⟨b, 0, [v], Z, Z, RepL.one hv2, fun i u hu => ?_⟩
 cases i with
 | zero =>
  simp at hu; subst hu
  exact ⟨_, _, _, hb, by rw [List.getElem?_toArray, show 0 + (0 + j) * 1 + 0 = j by omega]; exact hv1⟩
 | succ i => simp at hu
theorem GStep.nestKnow {c : Enc α} {s b m n : Nat} {rows : List (List α)} (hv : env s = nref b n) (hO : Pick O m (nestO c T e b rows) O') (hn : rows.length = n) : GStep E env O (aupd env s (froN c rows)) O' := fun I F ρ w h1 h2 => by
 obtain ⟨J, B, hle, hB, htop, hS, hrep⟩ := nest_know hO h2
 refine ⟨J, hle, fun q=>?_, htop, B, hB.mono hle, hS⟩
 unfold aupd
 cases hb : Nat.beq q s with
 | false => exact qi hle _ _ (h1 q)
 | true =>
  have : q = s := Nat.eq_of_beq_eq_true hb
  subst this
  have h4 := h1 q
  rw [hv] at h4
  have h4 : ρ q = .slice (some ⟨b, 0, none⟩) n n := h4
  rw [h4, ← hn]; exact hrep
theorem GStep.nestKnowC {c : Enc α} {off b m n i : Nat} {T' : TypeId} {cs : List AV} {rows : List (List α)} (hO : Pick O m (nestO c T e b rows) O') (hP : Put O' i (.cells T' cs) (.cells T' (cs.set off (froN c rows))) O'') (hc : cs[off]? = some (nref b n)) (hn : rows.length = n) : GStep E env O env O'' := fun I F ρ w h1 h2 => by
 obtain ⟨J, B, hle, hB, htop, hS, hrep⟩ := nest_know hO h2
 obtain ⟨L', h5, h6⟩ := Put.same (F := F) (E := E) (w := w) hle (.inr trivial) hP hc (fun v hv => by
  have hv : v = .slice (some ⟨b, 0, none⟩) n n := hv
  rw [hv, ← hn]; exact hrep) hB
 exact ⟨J, hle, h1.mono hle, htop, L', h5, hS.perm (h6.symm.append_right F)⟩
end
end Go.Proofs.YtiojekbkamegdaaGreatDoor
namespace Go.Proofs.YtiojekbkamegdaaGreatDoor
section
variable {E : World} {P : Program} {ops : Array Oper} {K : AEnv → OL → Prop} {env : AEnv} {O O' O'' : OL} {rest : List Oper} {n : Nat}
variable {d ty : Nat} {pos : String} {af : Array Edge} {x y z : Operand} {t u e : TypeId}
theorem AOps.cutTo {i k m j : Nat} {a : Int} {T : TypeId} {cs : List AV} (ht : P.underlying t = some (.slice e)) (hs : ∀ w, (sizeOf e).run P w = .ok k w) (hx : aev env x = .own i m) (hy : aev env y = .int .i64 a) (hi : a = (j : Int)) (hO : Put O i (.grow k T cs) (.grow k T (cs.take (j * k))) O')
  (hk : 0 < k) (hj : j * k ≤ cs.length)
  (kk : AOps P E ops K rest (aupd env d (.own i j)) O') : AOps P E ops K (Oper.mk (some d) (.slice t x none (some y) none) ty pos af none :: rest) env O := fun I F ρ w h1 h2 => by
 obtain ⟨htop, L, hL, hS⟩ := h2
 have h3 := h1.ev x
 rw [hx] at h3
 obtain ⟨b, c, e1, e2⟩ := h3
 have h4 := evI h1 hy
 subst hi
 obtain ⟨A, B, hp, ⟨b', c', n', vs, e3, hvs, hvc, h5, h6, h7⟩, hback⟩ := hO.rep hL
 simp only at e3
 rw [e1] at e3
 simp only [Option.some.injEq, Prod.mk.injEq] at e3
 obtain ⟨rfl, rfl⟩ := e3
 have hlen : vs.length = cs.length := hvs.length
 have hjn : j ≤ n' := by
  have : j * k ≤ n' * k := by omega
  exact Nat.le_of_mul_le_mul_right this hk
 have hjc : j ≤ c := by omega
 have hval : (execOp (Go.Proofs.YtiojekbkamegdaaGreatDoor.ev ρ) (Oper.mk (some d) (.slice t x none (some y) none) ty pos af none)).run P w = .ok (.value (.slice (adr b) j c)) w := by
  have : (if c = 0 then adr b else (adr b).map (·.add (0 * k))) = adr b := by
   split
   ·rfl
   ·cases b <;> simp [adr, Addr.add]
  simp [execOp, Instr.sliceAt, Instr.slice, Instr.sliceBounds, Instr.sliceBound, asIntOf, Sem.run_bind, run_underlying ht, hs, e2, h4, hjc]
  simpa using this
 obtain ⟨L', h8, h9⟩ := hback (qb I) (A' := A) ⟨b, c, j, vs.take (j * k), e1, hvs.take _, fun u hu => hvc u (List.mem_of_mem_take hu), by rw [w3]; omega, by omega, by
  rcases h7 with h7 | ⟨b2, junk, e4, e5, e6⟩
  ·exact .inl ⟨h7.1, h7.2.1, h7.2.2⟩
  ·exact .inr ⟨b2, vs.drop (j * k) ++ junk, e4, by rw [← qs, List.take_append_drop]; exact e5, by rw [← qs, List.take_append_drop]; exact e6⟩⟩
 exact Ops.val hval (kk I F _ w (h1.upd d ⟨b, c, e1, rfl⟩) ⟨htop, L', h8, hS.perm ((h9.trans hp.symm).append_right F)⟩)
theorem AOps.cutLast {i k m j : Nat} {a : Int} {T : TypeId} {A row : List AV} (ht : P.underlying t = some (.slice e)) (hs : ∀ w, (sizeOf e).run P w = .ok k w) (hx : aev env x = .own i m) (hy : aev env y = .int .i64 a) (hi : a = (j : Int)) (hO : Put O i (.grow k T (A ++ row)) (.grow k T A) O')
  (hk : 0 < k) (hA : A.length = j * k)
  (kk : AOps P E ops K rest (aupd env d (.own i j)) O') : AOps P E ops K (Oper.mk (some d) (.slice t x none (some y) none) ty pos af none :: rest) env O :=
 AOps.cutTo ht hs hx hy hi (hO.cast (by rw [← hA, List.take_left])) hk (by rw [qw]; omega) kk
end
end Go.Proofs.YtiojekbkamegdaaGreatDoor
namespace Go.Proofs.YtiojekbkamegdaaGreatDoor
open Go.Sort (Holds putRow putCells onCells)
theorem putCells_eq {zs ys : List Int} {junk : List Value} (hl : ys.length = zs.length) : putCells (Value.int .i64) 0 ys.toArray (zs.map (Value.int .i64) ++ junk).toArray = (ys.map (Value.int .i64) ++ junk).toArray := by
 unfold putCells
 apply Array.ext_getElem?
 intro k
 simp only [Array.getElem?_mapIdx, List.getElem?_toArray, qt, true_and, Nat.zero_add, Nat.sub_zero, List.size_toArray]
 by_cases hk : k < ys.length
 ·rw [List.getElem?_append_left (by rw [qx]; omega), List.getElem?_append_left (by rw [qx]; omega), qy, qy, qq hk, qq (by omega : k < zs.length)]
  simp [hk]
 ·rw [List.getElem?_append_right (by rw [qx]; omega), List.getElem?_append_right (by rw [qx]; omega), qx, qx, hl]
  rw [hl] at hk
  simp only [hk, if_false]
  cases junk[k - zs.length]? <;> rfl
theorem SL.turned {I : Ghost} {O : List (Nat × Obj)} {E w : World} {b n : Nat} {zs ys : List Int} {junk : List Value} {T : TypeId} {os : Array Obj} (hl : ys.length = zs.length) (h : SL I ((b, .cells (zs.map (Value.int .i64) ++ junk).toArray T (0, 0)) :: O) E w) :
  SL I ((b, .cells (ys.map (Value.int .i64) ++ junk).toArray T (0, 0)) :: O) E (Go.Sort.grow (putRow (Value.int .i64) (Go.Sort.ahead w n) b 0 ys.toArray) os) := by
 have hb := h.own _ (.head _)
 simp only at hb
 have hlt := lt_of_some hb
 have h1 : SL I ((b, .cells (ys.map (Value.int .i64) ++ junk).toArray T (0, 0)) :: O) E (putRow (Value.int .i64) (Go.Sort.ahead w n) b 0 ys.toArray) := by
  refine h.turn Z Z Z ?_ fun k hk => ?_
  ·show (w.heap.modify b (onCells (putCells (Value.int .i64) 0 ys.toArray)))[b]? = _
   rw [Array.getElem?_modify, if_pos rfl, hb]
   simp only [Option.map_some, onCells, putCells_eq hl]
  ·show (w.heap.modify b (onCells (putCells (Value.int .i64) 0 ys.toArray)))[k]? = _
   rw [Array.getElem?_modify, if_neg (fun e => hk e.symm)]
 exact h1.more rfl rfl rfl fun k hk => Go.Sort.heap_grow_old _ _ hk
theorem ACall.turned {E : World} {P : Program} {f : FuncId} {fn : Func} {c : Code} {g : List Int → List Int} {B : Nat} (hf : P.funcs[f]? = some fn) (hb : fn.body = some c) (hn : fn.name ≠ "runtime.NumGoroutine") (hg : ∀ l, (g l).length = l.length)
  (hC : ∀ (blk cap : Nat) (zs : List Int) (w : World), Holds (Value.int .i64) w blk 0 zs.toArray → blk < w.heap.size → zs.length < B →
   Calls P f #[.slice (some ⟨blk, 0, none⟩) zs.length cap] w fun e w' => e = .returned (.tuple #[]) ∧ ∃ n os, w' = Go.Sort.grow (putRow (Value.int .i64) (Go.Sort.ahead w n) blk 0 (g zs).toArray) os)
  (hN : ∀ (cap : Nat) (w : World), Calls P f #[.slice none 0 cap] w fun e w' => e = .returned (.tuple #[]) ∧ w' = w)
  {l : List Int} {i n : Nat} {T : TypeId} (hl : l.length = n) (hB : n < B) : ACall P E f [.own i n] [(i, .grow 1 T (cI l))] fun r O => r = .tup [] ∧ O = [(i, .grow 1 T (cI (g l)))] := fun I F w vs h1 h2 => by
 obtain ⟨v, us, rfl, ⟨b, c, e1, rfl⟩, h3⟩ := h1
 have h3 : us = [] := h3
 subst h3
 obtain ⟨ht, L, ⟨A, B', e2, ⟨b', c', n', ws, e3, h4, h5, h6⟩, h7⟩, hS⟩ := h2
 have h7 : B' = [] := h7
 subst h7
 rw [List.append_nil] at e2
 subst e2
 simp only at e3
 rw [e1] at e3
 simp only [Option.some.injEq, Prod.mk.injEq] at e3
 obtain ⟨rfl, rfl⟩ := e3
 have h4 := cI_un h4
 subst h4
 refine Fn.ofCalls hf hb hn ?_
 obtain ⟨g1, g2, g3⟩ := h6
 rw [qx, Nat.mul_one] at g1
 have hnn : n' = n := by omega
 subst hnn
 rcases g3 with ⟨ea, rfl, rfl⟩ | ⟨b2, junk, ea, rfl, hj⟩
 ·have h0 : n' = 0 := by omega
  subst h0
  have hl0 : l = [] := List.eq_nil_of_length_eq_zero hl
  subst hl0
  have hg0 : g [] = [] := List.eq_nil_of_length_eq_zero (hg [])
  rw [ea]
  refine (hN 0 w).mono fun e w' ⟨he, hw⟩ => ⟨_, he, I, .tup [], _, .refl _, ⟨[], Z, Z⟩, ?_, Z, Z⟩
  subst hw
  rw [hg0]
  exact ⟨ht, [], ⟨[], [], rfl, ⟨b, 0, 0, [], e1, rfl, by simp, by rw [ea]; exact OwnS.nil 1 T⟩, rfl⟩, hS⟩
 ·rw [ea]
  have hS2 : SL I.k ((b2, .cells (l.map (Value.int .i64) ++ junk).toArray T (0, 0)) :: F) E w := hS
  have hH : Holds (Value.int .i64) w b2 0 l.toArray := fun j hjl => by
   have hj2 : j < l.length := by simpa using hjl
   have hbk := hS2.own _ (.head _)
   simp only at hbk
   refine ⟨?_, ?_⟩
   ·rw [hS2.cell_own, Nat.zero_add, List.getElem?_toArray, List.getElem?_append_left (by rw [qx]; exact hj2), qy, qq hj2]
    simp [hj2]
   ·simp [World.frozen?, hbk]
  have := hC b2 c l w hH (lt_of_some (hS2.own _ (.head _))) (by omega)
  rw [hl] at this
  refine this.mono fun e w' ⟨he, k, os, hw⟩ => ⟨_, he, I, .tup [], _, .refl _, ⟨[], Z, Z⟩, ?_, Z, Z⟩
  subst hw
  refine ⟨ht, [(b2, .cells ((g l).map (Value.int .i64) ++ junk).toArray T (0, 0))], ⟨_, [], by simp, ⟨b, c, n', (g l).map (Value.int .i64), e1, cI_rep_of I (g l), fun u hu => by obtain ⟨x, _, rfl⟩ := List.mem_map.1 hu; rfl, by rw [qx, hg, hl, Nat.mul_one], g2, .inr ⟨b2, junk, ea, rfl, by rw [qw, qx, hg] ; rw [qw, qx] at hj; exact hj⟩⟩, rfl⟩, ?_⟩
  exact SL.turned (hg l) hS2
end Go.Proofs.YtiojekbkamegdaaGreatDoor
namespace Go.Proofs.YtiojekbkamegdaaGreatDoor
variable {α : Type}
theorem NestR.inv {c : Enc α} {e : TypeId} {r : List α} {rs : List (List α)} {hs : List Value} {L : List (Nat × Obj)} (h : NestR c e (r :: rs) hs L) :
  ∃ a n cap hs' A B, hs = .slice a n cap :: hs' ∧ L = A ++ B ∧ OwnS c.k e a n cap (c.vs r) A ∧ NestR c e rs hs' B := by
 cases h with
 | cons h1 h2 => exact ⟨_, _, _, _, _, _, rfl, rfl, h1, h2⟩
def nestT (c : Enc α) (T e : TypeId) (b : Nat) (rows : List (List α)) (k : Nat) : AObj := .heap fun L => ∃ (hs : List Value) (B : List (Nat × Obj)), L = (b, .cells hs.toArray T (0, 0)) :: B ∧ hs.length = rows.length ∧ NestR c e (rows.drop k) (hs.drop k) B
section
variable {E : World} {P : Program} {ops : Array Oper} {K : AEnv → OL → Prop} {env : AEnv} {O O' O'' : OL} {rest : List Oper} {n : Nat}
variable {d ty : Nat} {pos : String} {af : Array Edge} {x y z : Operand} {t u e T : TypeId}
theorem GStep.nestTail {c : Enc α} {b m : Nat} {rows : List (List α)} (hO : Put O m (nestO c T e b rows) (nestT c T e b rows 0) O') : GStep E env O env O' := fun I F ρ w h1 h2 => by
 obtain ⟨htop, L, hL, hS⟩ := h2
 obtain ⟨A, B, hp, ⟨hs, B0, rfl, hN⟩, hback⟩ := hO.rep hL
 obtain ⟨L', h5, h6⟩ := hback (qb I) (A' := (b, .cells hs.toArray T (0, 0)) :: B0) ⟨hs, B0, rfl, hN.len, hN⟩
 exact ⟨I, .refl _, h1, htop, L', h5, hS.perm ((h6.trans hp.symm).append_right F)⟩
theorem AOps.nestShift {c : Enc α} {b k m : Nat} {rows : List (List α)} {r : List α} (ha : ∀ w, (isAgg t).run P w = .ok false w) (hx : aev env x = nptr b k) (hr : rows[k]? = some r)
  (hO : Put O m (nestT c T e b rows k) (nestT c T e b rows (k + 1)) O') (kk : ∀ i, AOps P E ops K rest (aupd env d (.own i r.length)) ((i, .grow c.k e (c.av r)) :: O')) :
  AOps P E ops K (Oper.mk (some d) (.load t x) ty pos af none :: rest) env O := fun I F ρ w h1 h2 => by
 obtain ⟨i, hi⟩ := h2.name
 obtain ⟨htop, L, hL, hS⟩ := h2
 have hx := evRaw h1 hx
 obtain ⟨A, B, hp, ⟨hs, B0, rfl, hl, hN⟩, hback⟩ := hO.rep hL
 obtain ⟨hlt, hrk⟩ := List.getElem?_eq_some_iff.1 hr
 rw [List.drop_eq_getElem_cons hlt, hrk] at hN
 obtain ⟨a, n, cap, hs', A1, B1, g0, rfl, g2, g3⟩ := hN.inv
 have hlt2 : k < hs.length := by omega
 have g0' := g0
 rw [List.drop_eq_getElem_cons hlt2] at g0'
 simp only [List.cons.injEq] at g0'
 obtain ⟨g1, rfl⟩ := g0'
 have g1 : hs[k]? = some (.slice a n cap) := by rw [qq hlt2, g1]
 obtain ⟨b1, rfl⟩ := g2.adr
 have hn : n = r.length := by have := g2.1; rw [c.vs_len] at this; exact (Nat.eq_of_mul_eq_mul_right c.pos this).symm
 subst hn
 obtain ⟨J, e1, hle, e2, htop'⟩ := hi (b1, cap)
 have hS2 : SL I.k ((b, .cells hs.toArray T (0, 0)) :: (A1 ++ B1 ++ (B ++ F))) E w := hS.perm (by
  have := hp.append_right F
  simpa using this.symm)
 obtain ⟨L', h5, h6⟩ := hback hle (A' := (b, .cells hs.toArray T (0, 0)) :: B1) ⟨hs, B1, rfl, hl, g3⟩
 refine Ops.load1 (I := I.k) (O := (b, .cells hs.toArray T (0, 0)) :: (A1 ++ B1 ++ (B ++ F))) ha hS2 hx (.inr ⟨_, _, _, .head _, by rw [List.getElem?_toArray]; exact g1⟩) ?_
 refine yz (fun _ _ => postK.up hle) _ _ _ (kk i J F _ _ ((h1.mono hle).upd d ⟨b1, cap, e2, Z⟩) ⟨htop', A1 ++ L', ⟨A1, L', Z, ⟨b1, cap, _, c.vs r, e2, by rw [c.av_eq]; exact lit_reps J _, c.vs_one r, g2⟩, h5⟩, ?_⟩)
 rw [e1]
 refine hS2.perm ?_
 have h7 : (A1 ++ L' ++ F).Perm (A1 ++ ((b, Obj.cells hs.toArray T (0, 0)) :: (B1 ++ B)) ++ F) := (h6.append_left A1).append_right F
 refine h7.trans ?_
 simp only [qs, List.cons_append]
 exact List.perm_middle
end
end Go.Proofs.YtiojekbkamegdaaGreatDoor
namespace Go.Proofs.YtiojekbkamegdaaGreatDoor
variable {α : Type}
def mg (k : Int) : List (Int × List α) → List α
 | [] => []
 | (k', r) :: es => if k = k' then r else mg k es
def ms (k : Int) (r : List α) : List (Int × List α) → List (Int × List α)
 | [] => [(k, r)]
 | (k', r') :: es => if k = k' then (k, r) :: es else (k', r') :: ms k r es
def kv (k : Int) : Value := .int .i64 k
theorem kv_key (k : Int) : MapKept.IsKey (.int .i64) (kv k) := rfl
theorem kv_now (k k' : Int) : Instr.sameNow (.int .i64) (kv k) (kv k') = some (decide (k = k')) := by
 simp [Instr.sameNow, kv]; by_cases h : k = k' <;> simp [h]
def ents (arr : Array MapEntry) : List (Value × Value) := arr.toList.map fun e => (e.key, e.val)
inductive MapR (c : Enc α) (e : TypeId) : List (Int × List α) → List (Value × Value) → List (Nat × Obj) → Prop
 | nil : MapR c e [] [] []
 | cons {k r es a n cap hs A B} : OwnS c.k e a n cap (c.vs r) A → MapR c e es hs B → MapR c e ((k, r) :: es) ((kv k, .slice a n cap) :: hs) (A ++ B)
theorem MapR.get {c : Enc α} {e : TypeId} {k : Int} : ∀ {l : List MapEntry} {es : List (Int × List α)} {L : List (Nat × Obj)} (i : Nat), MapR c e es (l.map fun e => (e.key, e.val)) L →
  (Instr.findNow (.int .i64) (kv k) l i = some none ∧ mg k es = [] ∧ ∀ r' a' n' c' A', OwnS c.k e a' n' c' (c.vs r') A' → ∃ L', MapR c e (ms k r' es) (l.map (fun e => (e.key, e.val)) ++ [(kv k, .slice a' n' c')]) L' ∧ L'.Perm (A' ++ L)) ∨
  (∃ j e0 a n cap A B, Instr.findNow (.int .i64) (kv k) l i = some (some (i + j, .slice a n cap)) ∧ l[j]? = some e0 ∧ e0.key = kv k ∧ OwnS c.k e a n cap (c.vs (mg k es)) A ∧ L.Perm (A ++ B) ∧
   ∀ r' a' n' c' A', OwnS c.k e a' n' c' (c.vs r') A' → ∃ L', MapR c e (ms k r' es) ((l.map fun e => (e.key, e.val)).set j (kv k, .slice a' n' c')) L' ∧ L'.Perm (A' ++ B))
 | [], es, L, i, h => by
  cases h
  exact .inl ⟨rfl, rfl, fun r' a' n' c' A' h => ⟨_, by simpa [ms] using MapR.cons (k := k) h .nil, by simp⟩⟩
 | x :: l, es, L, i, h => by
  generalize hl : ((x :: l).map fun e => (e.key, e.val)) = hs0 at h
  cases h with
  | nil => simp at hl
  | @cons k1 r es a n cap hs A B h1 h2 =>
   simp only [List.map_cons, List.cons.injEq, Prod.mk.injEq] at hl
   obtain ⟨⟨hk, hv⟩, rfl⟩ := hl
   by_cases e1 : k = k1
   ·subst e1
    right
    refine ⟨0, x, a, n, cap, A, B, ?_, Z, hk, by simpa [mg] using h1, .refl _, fun r' a' n' c' A' h => ⟨A' ++ B, ?_, .refl _⟩⟩
    ·unfold Instr.findNow; rw [hk, kv_now, w4 rfl]; simp [hv]
    ·simp only [ms, if_pos, List.map_cons, List.set_cons_zero]
     exact .cons h h2
   ·have hf : Instr.findNow (.int .i64) (kv k) (x :: l) i = Instr.findNow (.int .i64) (kv k) l (i + 1) := by
     rw [Instr.findNow, hk, kv_now, w5 e1]
    have hg : mg k ((k1, r) :: es) = mg k es := by simp [mg, e1]
    have hms : ∀ r', ms k r' ((k1, r) :: es) = (k1, r) :: ms k r' es := fun r' => by simp [ms, e1]
    rw [hf, hg]
    rcases MapR.get (k := k) (i + 1) h2 with ⟨g1, g2, g3⟩ | ⟨j, e0, a1, n1, c1, A1, B1, g1, g2, g3, g4, g5, g6⟩
    ·left
     refine ⟨g1, g2, fun r' a' n' c' A' h => ?_⟩
     obtain ⟨L', q1, q2⟩ := g3 r' a' n' c' A' h
     refine ⟨A ++ L', ?_, ?_⟩
     ·rw [hms, List.cons_append]; exact .cons h1 q1
     ·refine (q2.append_left A).trans ?_
      rw [← qs, ← qs]
      exact List.perm_append_comm.append_right B
    ·right
     refine ⟨j + 1, e0, a1, n1, c1, A1, A ++ B1, by rw [g1]; congr 3; omega, by simpa using g2, g3, g4, ?_, fun r' a' n' c' A' h => ?_⟩
     ·refine (g5.append_left A).trans ?_
      rw [← qs, ← qs]
      exact List.perm_append_comm.append_right B1
     ·obtain ⟨L', q1, q2⟩ := g6 r' a' n' c' A' h
      refine ⟨A ++ L', ?_, ?_⟩
      ·rw [hms, List.set_cons_succ]; exact .cons h1 q1
      ·refine (q2.append_left A).trans ?_
       rw [← qs, ← qs]
       exact List.perm_append_comm.append_right B1
section
variable {E : World} {P : Program} {ops : Array Oper} {K : AEnv → OL → Prop} {env : AEnv} {O O' O'' : OL} {rest : List Oper} {n : Nat}
variable {d ty : Nat} {pos : String} {af : Array Edge} {x y z : Operand} {t u e T kt : TypeId} {b : Nat}
def FroM (c : Enc α) (I : G) : List (Int × List α) → List (Value × Value) → Prop
 | [], hs => hs = []
 | (k, r) :: es, hs => ∃ v hs', hs = (kv k, v) :: hs' ∧ RepV I (.fro c.k (r.map c.row)) v ∧ FroM c I es hs'
theorem FroM.mono {c : Enc α} {I J : G} (h : I.le J) : ∀ {es : List (Int × List α)} {hs : List (Value × Value)}, FroM c I es hs → FroM c J es hs
 | [], _, e => e
 | (_, _) :: _, _, ⟨v, hs', e, h1, h2⟩ => ⟨v, hs', e, qi h _ _ h1, FroM.mono h h2⟩
theorem MapR.fro {c : Enc α} {I : G} {e : TypeId} {es : List (Int × List α)} {hs : List (Value × Value)} {B : List (Nat × Obj)} (h : MapR c e es hs B) (hI : ∀ x ∈ B, I.k x.1 = some x.2) : FroM c I es hs := by
 induction h with
 | nil => rfl
 | cons h1 _ ih => exact ⟨_, _, rfl, h1.fro fun x hx => hI x (List.mem_append_left _ hx), ih fun x hx => hI x (List.mem_append_right _ hx)⟩
theorem FroM.get {c : Enc α} {I : G} {k : Int} : ∀ {l : List MapEntry} {es : List (Int × List α)} (i : Nat), FroM c I es (l.map fun e => (e.key, e.val)) →
  (Instr.findNow (.int .i64) (kv k) l i = some none ∧ mg k es = []) ∨ (∃ j v, Instr.findNow (.int .i64) (kv k) l i = some (some (j, v)) ∧ RepV I (.fro c.k ((mg k es).map c.row)) v)
 | [], [], i, _ => .inl ⟨rfl, rfl⟩
 | _ :: _, [], _, h => by cases h
 | [], (_, _) :: _, _, ⟨_, _, e, _⟩ => by cases e
 | x :: l, (k1, r) :: es, i, ⟨v, hs', e, h1, h2⟩ => by
  simp only [List.map_cons, List.cons.injEq, Prod.mk.injEq] at e
  obtain ⟨⟨hk, hv⟩, rfl⟩ := e
  by_cases e1 : k = k1
  ·subst e1
   right
   refine ⟨i, v, ?_, by simpa [mg] using h1⟩
   unfold Instr.findNow; rw [hk, kv_now, w4 rfl]; simp [hv]
  ·have hf : Instr.findNow (.int .i64) (kv k) (x :: l) i = Instr.findNow (.int .i64) (kv k) l (i + 1) := by
    rw [Instr.findNow, hk, kv_now, w5 e1]
   rw [hf, show mg k ((k1, r) :: es) = mg k es by simp [mg, e1]]
   exact FroM.get (i + 1) h2
end
end Go.Proofs.YtiojekbkamegdaaGreatDoor
namespace Go.Proofs.YtiojekbkamegdaaGreatDoor
def ag (k : Int) : List (Int × AV) → Option AV
 | [] => none
 | (k', x) :: es => if k = k' then some x else ag k es
def am (k : Int) (x : AV) : List (Int × AV) → List (Int × AV)
 | [] => [(k, x)]
 | (k', x') :: es => if k = k' then (k, x) :: es else (k', x') :: am k x es
def EntR (I : G) : List (Int × AV) → List (Value × Value) → Prop
 | [], hs => hs = []
 | (k, x) :: es, hs => ∃ v hs', hs = (kv k, v) :: hs' ∧ RepV I x v ∧ EntR I es hs'
theorem EntR.mono {I J : G} (h : I.le J) : ∀ {es : List (Int × AV)} {hs : List (Value × Value)}, EntR I es hs → EntR J es hs
 | [], _, e => e
 | (_, _) :: _, _, ⟨v, hs', e, h1, h2⟩ => ⟨v, hs', e, qi h _ _ h1, EntR.mono h h2⟩
theorem EntR.get {I : G} {k : Int} : ∀ {l : List MapEntry} {es : List (Int × AV)} (i : Nat), EntR I es (l.map fun e => (e.key, e.val)) →
  (Instr.findNow (.int .i64) (kv k) l i = some none ∧ ag k es = none ∧ ∀ y u, RepV I y u → EntR I (am k y es) ((l.map fun e => (e.key, e.val)) ++ [(kv k, u)])) ∨
  (∃ j e0 v x, Instr.findNow (.int .i64) (kv k) l i = some (some (i + j, v)) ∧ l[j]? = some e0 ∧ e0.key = kv k ∧ ag k es = some x ∧ RepV I x v ∧ ∀ y u, RepV I y u → EntR I (am k y es) ((l.map fun e => (e.key, e.val)).set j (kv k, u)))
 | [], [], i, _ => .inl ⟨rfl, rfl, fun y u h => ⟨u, [], rfl, h, rfl⟩⟩
 | _ :: _, [], _, h => by cases h
 | [], (_, _) :: _, _, ⟨_, _, e, _⟩ => by cases e
 | x :: l, (k1, r) :: es, i, ⟨v, hs', e, h1, h2⟩ => by
  simp only [List.map_cons, List.cons.injEq, Prod.mk.injEq] at e
  obtain ⟨⟨hk, hv⟩, rfl⟩ := e
  by_cases e1 : k = k1
  ·subst e1
   right
   refine ⟨0, x, v, r, ?_, Z, hk, by simp [ag], h1, fun y u h => ?_⟩
   ·unfold Instr.findNow; rw [hk, kv_now, w4 rfl]; simp [hv]
   ·simp only [am, if_pos, List.map_cons, List.set_cons_zero]
    exact ⟨u, _, rfl, h, h2⟩
  ·have hf : Instr.findNow (.int .i64) (kv k) (x :: l) i = Instr.findNow (.int .i64) (kv k) l (i + 1) := by
    rw [Instr.findNow, hk, kv_now, w5 e1]
   have hg : ag k ((k1, r) :: es) = ag k es := by simp [ag, e1]
   have hms : ∀ y, am k y ((k1, r) :: es) = (k1, r) :: am k y es := fun y => by simp [am, e1]
   rw [hf, hg]
   rcases EntR.get (k := k) (i + 1) h2 with ⟨g1, g2, g3⟩ | ⟨j, e0, v1, x1, g1, g2, g3, g4, g5, g6⟩
   ·left
    refine ⟨g1, g2, fun y u h => ?_⟩
    rw [hms]
    exact ⟨v, _, by rw [List.map_cons, hk, hv]; rfl, h1, g3 y u h⟩
   ·right
    refine ⟨j + 1, e0, v1, x1, by rw [g1]; congr 3; omega, by simpa using g2, g3, g4, g5, fun y u h => ?_⟩
    rw [hms]
    exact ⟨v, _, by rw [List.map_cons, hk, hv, List.set_cons_succ], h1, g6 y u h⟩
section
variable {E : World} {P : Program} {ops : Array Oper} {K : AEnv → OL → Prop} {env : AEnv} {O O' O'' : OL} {rest : List Oper} {n : Nat}
variable {d ty : Nat} {pos : String} {af : Array Edge} {x y z : Operand} {t u e T kt : TypeId} {b : Nat}
end
end Go.Proofs.YtiojekbkamegdaaGreatDoor
namespace Go.Proofs.YtiojekbkamegdaaGreatDoor
abbrev K4 := Int × Int × Int × Int
def k4 (k : K4) : List AV := [.int .i64 k.1, .int .i64 k.2.1, .int .i64 k.2.2.1, .int .i64 k.2.2.2]
def v4 (k : K4) : Value := .agg #[.int .i64 k.1, .int .i64 k.2.1, .int .i64 k.2.2.1, .int .i64 k.2.2.2]
theorem k4_v4 {I : G} {k : K4} {v : Value} (h : RepV I (.agg (k4 k)) v) : v = v4 k := by
 obtain ⟨vs, rfl, a, _, rfl, h1, b, _, rfl, h2, c, _, rfl, h3, d, _, rfl, h4, h5⟩ := h
 have h1 : a = .int .i64 k.1 := h1
 have h2 : b = .int .i64 k.2.1 := h2
 have h3 : c = .int .i64 k.2.2.1 := h3
 have h4 : d = .int .i64 k.2.2.2 := h4
 have h5 : _ = [] := h5
 subst h1 h2 h3 h4 h5; rfl
structure KeyOk (P : Program) (kt : TypeId) : Prop where
 und : ∃ fs, P.underlying kt = some (.struct fs)
 chk : ∀ e k w, (Instr.checkKey e 10000 kt (v4 k)).run P w = .ok () w
 eq : ∀ k k' w, (Op.equal kt (v4 k) (v4 k')).run P w = .ok (decide (k = k')) w
def kf (k : K4) : List (K4 × Int) → Nat → Option (Nat × Int)
 | [], _ => none
 | (k', v) :: es, i => if k = k' then some (i, v) else kf k es (i + 1)
def kget (es : List (K4 × Int)) (k : K4) : Option Int := (kf k es 0).map (·.2)
def kset (es : List (K4 × Int)) (k : K4) (v : Int) : List (K4 × Int) := match kf k es 0 with
 | some (j, _) => es.set j (k, v)
 | none => es ++ [(k, v)]
def kdel (es : List (K4 × Int)) (k : K4) : List (K4 × Int) := match kf k es 0 with
 | some (j, _) => es.eraseIdx j
 | none => es
theorem kf_up (k : K4) : ∀ (es : List (K4 × Int)) (i : Nat), kf k es i = (kf k es 0).map fun q => (q.1 + i, q.2)
 | [], _ => rfl
 | (k', v) :: es, i => by
  unfold kf
  split
  ·simp
  ·rw [kf_up k es (i + 1), kf_up k es (0 + 1), Option.map_map]
   congr 1
   funext q
   simp only [Function.comp, Prod.mk.injEq, and_true]; omega
theorem kf_none {k : K4} : ∀ {es : List (K4 × Int)} {i : Nat}, kf k es i = none ↔ k ∉ es.map (·.1)
 | [], _ => by simp [kf]
 | (k', v) :: es, i => by
  unfold kf
  split
  ·rename_i h; simp [h]
  ·rename_i h; rw [kf_none (es := es)]; simp [h]
theorem kf_some {k : K4} : ∀ {es : List (K4 × Int)} {j : Nat} {v : Int}, kf k es 0 = some (j, v) → es[j]? = some (k, v) ∧ k ∉ (es.take j).map (·.1)
 | [], _, _, h => by simp [kf] at h
 | (k', u) :: es, j, v, h => by
  unfold kf at h
  split at h
  ·rename_i e
   simp only [Option.some.injEq, Prod.mk.injEq] at h
   obtain ⟨rfl, rfl⟩ := h
   subst e
   exact ⟨rfl, by simp⟩
  ·rename_i e
   rw [kf_up] at h
   cases hq : kf k es 0 with
   | none => rw [hq] at h; cases h
   | some q =>
    rw [hq] at h
    simp only [Option.map_some, Option.some.injEq, Prod.mk.injEq] at h
    obtain ⟨rfl, rfl⟩ := h
    obtain ⟨h1, h2⟩ := kf_some (es := es) (j := q.1) (v := q.2) hq
    refine ⟨by simpa using h1, ?_⟩
    rw [show q.1 + (0 + 1) = q.1 + 1 by omega]
    simp [e]
    simpa using h2
theorem kget_cons (k' : K4) (v : Int) (es : List (K4 × Int)) (k : K4) : kget ((k', v) :: es) k = if k = k' then some v else kget es k := by
 unfold kget
 rw [kf]
 split
 ·rfl
 ·rw [kf_up, Option.map_map]; rfl
theorem kget_append : ∀ (es fs : List (K4 × Int)) (k : K4), kget (es ++ fs) k = (kget es k).or (kget fs k)
 | [], fs, k => by simp [kget, kf]
 | (k', v) :: es, fs, k => by
  rw [List.cons_append, kget_cons, kget_cons, kget_append es fs k]
  split <;> simp
theorem kget_none {es : List (K4 × Int)} {k : K4} : kget es k = none ↔ k ∉ es.map (·.1) := by
 unfold kget; rw [Option.map_eq_none_iff]; exact kf_none
theorem kset_new {es : List (K4 × Int)} {k : K4} (h : kget es k = none) (v : Int) : kset es k v = es ++ [(k, v)] := by
 have : kf k es 0 = none := kf_none.2 (kget_none.1 h)
 unfold kset; rw [this]
theorem kget_push {es : List (K4 × Int)} {k : K4} (h : kget es k = none) (v : Int) (k' : K4) : kget (kset es k v) k' = if k' = k then some v else kget es k' := by
 rw [kset_new h, kget_append, kget_cons]
 split
 ·rename_i e; rw [e, h]; rfl
 ·show (kget es k').or (kget [] k') = _
  cases kget es k' <;> rfl
theorem kdel_get : ∀ {es : List (K4 × Int)}, (es.map (·.1)).Nodup → ∀ k k' : K4, kget (kdel es k) k' = if k' = k then none else kget es k'
 | es, hn, k, k' => by
  unfold kdel
  cases hq : kf k es 0 with
  | none =>
   have : kget es k = none := by unfold kget; rw [hq]; rfl
   show kget es k' = _
   split
   ·rename_i e; rw [e]; exact this
   ·rfl
  | some q =>
   obtain ⟨j, v⟩ := q
   obtain ⟨h1, h2⟩ := kf_some hq
   show kget (es.eraseIdx j) k' = _
   obtain ⟨hj, hjk⟩ := List.getElem?_eq_some_iff.1 h1
   have e1 : es = es.take j ++ (k, v) :: es.drop (j + 1) := by
    rw [← hjk, ← List.drop_eq_getElem_cons hj, List.take_append_drop]
   rw [List.eraseIdx_eq_take_drop_succ, kget_append]
   conv => rhs; rw [e1, kget_append, kget_cons]
   split
   ·rename_i e
    rw [e]
    have n1 : kget (es.take j) k = none := kget_none.2 h2
    have n2 : kget (es.drop (j + 1)) k = none := by
     refine kget_none.2 fun hm=>?_
     rw [e1, w2, List.nodup_append] at hn
     have := hn.2.1
     rw [List.map_cons, List.nodup_cons] at this
     exact this.1 hm
    rw [n1, n2]; rfl
   ·rfl
theorem kset_nodup {es : List (K4 × Int)} {k : K4} (h : kget es k = none) (v : Int) (hn : (es.map (·.1)).Nodup) : ((kset es k v).map (·.1)).Nodup := by
 rw [kset_new h, w2, List.nodup_append]
 refine ⟨hn, by simp, fun a ha b hb e => ?_⟩
 simp at hb
 subst e hb
 exact kget_none.1 h ha
theorem er_map {α β : Type} (f : α → β) : ∀ (l : List α) (j : Nat), (l.eraseIdx j).map f = (l.map f).eraseIdx j
 | [], _ => rfl
 | _ :: _, 0 => rfl
 | a :: l, j + 1 => by simp only [List.eraseIdx_cons_succ, List.map_cons, er_map f l j]
theorem kdel_nodup {es : List (K4 × Int)} (k : K4) (hn : (es.map (·.1)).Nodup) : ((kdel es k).map (·.1)).Nodup := by
 unfold kdel
 split
 ·rw [er_map]; exact hn.sublist (List.eraseIdx_sublist _ _)
 ·exact hn
def entK (e : K4 × Int) : Value × Value := (v4 e.1, .int .i64 e.2)
def mapK (b : Nat) (es : List (K4 × Int)) : AObj := .heap fun L => ∃ arr clock, L = [(b, .map arr clock)] ∧ ents arr = es.map entK
section
variable {P : Program} {kt : TypeId} {w : World}
theorem run_asking (h : KeyOk P kt) (k : K4) : ∀ (l : List MapEntry) (es : List (K4 × Int)) (i : Nat), l.map (fun e => (e.key, e.val)) = es.map entK →
  (Instr.findAsking kt (v4 k) l i).run P w = .ok ((kf k es i).map fun q => (q.1, .int .i64 q.2)) w
 | [], [], _, _ => rfl
 | [], _ :: _, _, e => by cases e
 | _ :: _, [], _, e => by cases e
 | x :: l, (k', v) :: es, i, e => by
  simp only [List.map_cons, List.cons.injEq, entK, Prod.mk.injEq] at e
  obtain ⟨⟨e1, e2⟩, e3⟩ := e
  unfold Instr.findAsking
  rw [Sem.run_bind, e1, h.eq k k' w]
  simp only [Result.andThen]
  unfold kf
  by_cases hk : k = k'
  ·rw [w4 hk, if_pos hk, e2]; rfl
  ·rw [w5 hk, if_neg hk]; exact run_asking h k l es (i + 1) e3
theorem run_find4 (h : KeyOk P kt) (k : K4) (l : List MapEntry) (es : List (K4 × Int)) (e : l.map (fun e => (e.key, e.val)) = es.map entK) :
  (Instr.findKey kt (v4 k) l).run P w = .ok ((kf k es 0).map fun q => (q.1, .int .i64 q.2)) w := by
 obtain ⟨fs, hu⟩ := h.und
 unfold Instr.findKey
 rw [Sem.run_bind, run_underlying hu]
 simp only [Result.andThen]
 cases l with
 | nil =>
  cases es with
  | nil => rfl
  | cons _ _ => cases e
 | cons x l =>
  cases es with
  | nil => cases e
  | cons y es =>
   have hx : x.key = v4 y.1 := by simp only [List.map_cons, List.cons.injEq, entK, Prod.mk.injEq] at e; exact e.1.1
   have : Instr.findNow (.struct fs) (v4 k) (x :: l) 0 = none := by unfold Instr.findNow; rw [hx]; rfl
   rw [this]
   exact run_asking h k (x :: l) (y :: es) 0 e
theorem keeps4 (k : K4) : (Instr.keyThatStays (v4 k) (v4 k)).run P w = .ok (v4 k) w := by
 have : Instr.sameBits 10000 (v4 k) (v4 k) = true := by unfold v4 Instr.sameBits; simp [Instr.sameBits]
 unfold Instr.keyThatStays
 rw [if_pos this]; rfl
end
section
variable {E : World} {P : Program} {ops : Array Oper} {K : AEnv → OL → Prop} {env : AEnv} {O O' O'' : OL} {rest : List Oper} {n : Nat}
variable {d ty : Nat} {pos : String} {af : Array Edge} {x y z : Operand} {t u e T kt : TypeId} {b : Nat}
theorem AOps.makeMapK (k : ∀ b, AOps P E ops K rest (aupd env d (mref b)) ((0, mapK b []) :: O)) : AOps P E ops K (Oper.mk (some d) (.makeMap t none) ty pos af none :: rest) env O := fun I F ρ w h1 ⟨ht, L, hL, hS⟩ => by
 refine Ops.step Z ?_
 unfold OpW
 have : (execOp (Go.Proofs.YtiojekbkamegdaaGreatDoor.ev ρ) (Oper.mk (some d) (.makeMap t none) ty pos af none)).run P w = .ok (.value (.map (some w.heap.size))) (w.alloc (.map #[] 0)) := by
  simp only [execOp, Option.map_none]
  rw [Sem.run_bind, run_makeMap_plain]; rfl
 rw [this]
 exact k w.heap.size I F _ _ (h1.upd d rfl) ⟨ht, (w.heap.size, .map #[] 0) :: L, ⟨[_], L, rfl, ⟨#[], 0, rfl, rfl⟩, hL⟩, hS.alloc _⟩
theorem Gv.lookupK {k : K4} {m : Nat} {es : List (K4 × Int)} (hk : KeyOk P kt) (ht : P.underlying t = some (.map kt u)) (hz : ∀ w, (zeroValue u).run P w = .ok (.int .i64 0) w) (hx : aev env x = mref b) (hy : aev env y = .agg (k4 k))
  (hO : Has O m (mapK b es)) : Gv P env O (Oper.mk (some d) (.lookup t x y true) ty pos af none) (.tup [.int .i64 ((kget es k).getD 0), .bool (kget es k).isSome]) := fun I L E ρ h1 hL => by
 obtain ⟨O', hO⟩ := hO
 obtain ⟨A, B, hp, ⟨arr, clock, rfl, hM⟩, _⟩ := hO.rep hL
 have hin0 : (b, Obj.map arr clock) ∈ L := hp.mem_iff.2 (by simp)
 have hx := evRaw h1 hx
 have hy2 := h1.ev y
 rw [hy] at hy2
 have hy := k4_v4 hy2
 refine ⟨.tuple #[.int .i64 ((kget es k).getD 0), .bool (kget es k).isSome], ⟨[_, _], Z, _, _, Z, Z, _, _, Z, Z, Z⟩, fun w J L' hl hS hin => ?_⟩
 have hb : w.heap[b]? = some (Obj.map arr clock) := by
  have := hS.own _ (hin _ hin0); simpa using this
 have hc := hk.chk arr.isEmpty k w
 have hf := run_find4 (w := w) hk k arr.toList es hM
 have hfin : (kget es k) = (kf k es 0).map (·.2) := rfl
 cases hq : kf k es 0 with
 | none =>
  rw [hq] at hf hfin
  rw [hfin]
  simp [execOp, Instr.lookup, run_underlying ht, hx, hy, MapKept.run_getObj_map hb, hc, hf, hz, Result.andThen]
 | some q =>
  rw [hq] at hf hfin
  rw [hfin]
  simp [execOp, Instr.lookup, run_underlying ht, hx, hy, MapKept.run_getObj_map hb, hc, hf, Result.andThen]
theorem ents_modify {arr : Array MapEntry} {es : List (K4 × Int)} {j : Nat} {k : K4} {v : Int} (h : ents arr = es.map entK) (hj : j < es.length) : ents (arr.modify j fun e => { e with key := v4 k, val := .int .i64 v }) = (es.set j (k, v)).map entK := by
 unfold ents at h ⊢
 have hl : arr.toList.length = es.length := by have := congrArg List.length h; simpa using this
 refine List.ext_getElem? fun q=>?_
 rw [qy, qy, Array.getElem?_toList, Array.getElem?_modify]
 by_cases hq : j = q
 ·subst hq
  rw [if_pos rfl, List.getElem?_set_self hj]
  obtain ⟨e, he⟩ : ∃ e, arr[j]? = some e := ⟨_, Array.getElem?_eq_getElem (by rw [← Array.length_toList]; omega)⟩
  rw [he]; rfl
 ·rw [if_neg hq, List.getElem?_set_ne hq]
  have := congrArg (fun l => l[q]?) h
  simpa [qy] using this
theorem AOps.mapSetK {k : K4} {m : Nat} {v : Int} {es : List (K4 × Int)} (hk : KeyOk P kt) (ht : P.underlying t = some (.map kt u)) (hx : aev env x = mref b) (hy : aev env y = .agg (k4 k)) (hz : aev env z = .int .i64 v) (hO : Put O m (mapK b es) (mapK b (kset es k v)) O')
  (kk : AOps P E ops K rest env O') : AOps P E ops K (Oper.mk none (.mapUpdate t x y z) ty pos af none :: rest) env O := fun I F ρ w h1 ⟨htop, L, hL, hS⟩ => by
 have hx := evRaw h1 hx
 have hy2 := h1.ev y
 rw [hy] at hy2
 have hy2 := k4_v4 hy2
 have hz := evI h1 hz
 obtain ⟨A, B, hp, ⟨arr, clock, rfl, he⟩, hback⟩ := hO.rep hL
 have hS2 : SL I.k ((b, .map arr clock) :: (B ++ F)) E w := hS.perm ((hp.append_right F).symm)
 have hb := hS2.own _ (.head _)
 simp only at hb
 have hc := hk.chk false k w
 have hf := run_find4 (w := w) hk k arr.toList es he
 have fin : ∀ (arr' : Array MapEntry) (clock' : Nat), ents arr' = (kset es k v).map entK →
   (execOp (Go.Proofs.YtiojekbkamegdaaGreatDoor.ev ρ) (Oper.mk none (.mapUpdate t x y z) ty pos af none)).run P w = .ok .skip { w with heap := w.heap.setIfInBounds b (.map arr' clock') } → Ops P ops (postK I F E K) (Oper.mk none (.mapUpdate t x y z) ty pos af none :: rest) ρ w := fun arr' clock' he' hrun => by
  refine Ops.step Z ?_
  unfold OpW
  rw [hrun]
  obtain ⟨L', h7, h8⟩ := hback (qb I) (A' := [(b, .map arr' clock')]) ⟨arr', clock', rfl, he'⟩
  have hh := MapKept.heap_set (o' := .map arr' clock') hb
  have hS3 : SL I.k ((b, .map arr' clock') :: (B ++ F)) E { w with heap := w.heap.setIfInBounds b (.map arr' clock') } := hS2.turn rfl rfl rfl hh.1 hh.2
  exact kk I F ρ _ h1 ⟨htop, L', h7, hS3.perm (h8.append_right F)⟩
 cases hq : kf k es 0 with
 | none =>
  rw [hq] at hf
  refine fin (arr.push { key := v4 k, val := .int .i64 v, born := clock }) (clock + 1) ?_ ?_
  ·unfold kset ents at *
   rw [hq]
   simp only [Array.toList_push, w2, he]; rfl
  ·simp [execOp, hx, hy2, hz, Instr.mapUpdate, run_underlying ht, MapKept.run_getObj_map hb, hc, hf, MapKept.run_setObj_map _ hb, Result.andThen]
 | some q =>
  obtain ⟨j, u0⟩ := q
  rw [hq] at hf
  obtain ⟨g1, _⟩ := kf_some hq
  have hj := (List.getElem?_eq_some_iff.1 g1).1
  have hl : arr.toList.length = es.length := by have := congrArg List.length he; unfold ents at this; simpa using this
  obtain ⟨e0, he0⟩ : ∃ e, arr[j]? = some e := ⟨_, Array.getElem?_eq_getElem (by rw [← Array.length_toList]; omega)⟩
  have hek : e0.key = v4 k := by
   have := congrArg (fun l => l[j]?) he
   unfold ents at this
   simp only [qy, Array.getElem?_toList, he0, g1, Option.map_some, Option.some.injEq, entK, Prod.mk.injEq] at this
   exact this.1
  refine fin (arr.modify j fun e => { e with key := v4 k, val := .int .i64 v }) clock ?_ ?_
  ·unfold kset; rw [hq]; exact ents_modify he hj
  ·simp [execOp, hx, hy2, hz, Instr.mapUpdate, run_underlying ht, MapKept.run_getObj_map hb, hc, hf, MapKept.run_setObj_map _ hb, Result.andThen, he0, hek, keeps4]
theorem AOps.mapDelK {k : K4} {m : Nat} {es : List (K4 × Int)} (hk : KeyOk P kt) (ht : P.underlying t = some (.map kt u)) (hx : aev env x = mref b) (hy : aev env y = .agg (k4 k)) (hO : Put O m (mapK b es) (mapK b (kdel es k)) O')
  (kk : AOps P E ops K rest env O') : AOps P E ops K (Oper.mk none (.call { callee := .builtin .delete, args := #[x, y], argTypes := #[t, kt] }) ty pos af none :: rest) env O := fun I F ρ w h1 ⟨htop, L, hL, hS⟩ => by
 have hx := evRaw h1 hx
 have hy2 := h1.ev y
 rw [hy] at hy2
 have hy2 := k4_v4 hy2
 obtain ⟨A, B, hp, ⟨arr, clock, rfl, he⟩, hback⟩ := hO.rep hL
 have hS2 : SL I.k ((b, .map arr clock) :: (B ++ F)) E w := hS.perm ((hp.append_right F).symm)
 have hb := hS2.own _ (.head _)
 simp only at hb
 have hc := hk.chk arr.isEmpty k w
 have hf := run_find4 (w := w) hk k arr.toList es he
 have fin : ∀ (arr' : Array MapEntry), ents arr' = (kdel es k).map entK →
   (execOp (Go.Proofs.YtiojekbkamegdaaGreatDoor.ev ρ) (Oper.mk none (.call { callee := .builtin .delete, args := #[x, y], argTypes := #[t, kt] }) ty pos af none)).run P w = .ok (.value (.tuple #[])) { w with heap := w.heap.setIfInBounds b (.map arr' clock) } → Ops P ops (postK I F E K) (Oper.mk none (.call { callee := .builtin .delete, args := #[x, y], argTypes := #[t, kt] }) ty pos af none :: rest) ρ w := fun arr' he' hrun => by
  refine Ops.step Z ?_
  unfold OpW
  rw [hrun]
  obtain ⟨L', h7, h8⟩ := hback (qb I) (A' := [(b, .map arr' clock)]) ⟨arr', clock, rfl, he'⟩
  have hh := MapKept.heap_set (o' := .map arr' clock) hb
  have hS3 : SL I.k ((b, .map arr' clock) :: (B ++ F)) E { w with heap := w.heap.setIfInBounds b (.map arr' clock) } := hS2.turn rfl rfl rfl hh.1 hh.2
  exact kk I F ρ _ h1 ⟨htop, L', h7, hS3.perm (h8.append_right F)⟩
 cases hq : kf k es 0 with
 | none =>
  rw [hq] at hf
  refine fin arr (by unfold kdel; rw [hq]; exact he) ?_
  simp [execOp, resolve, invoke, builtin, Builtin.delete_, hx, hy2, run_underlying ht, MapKept.run_getObj_map hb, hc, hf, MapKept.run_setObj_map _ hb, Result.andThen]
 | some q =>
  obtain ⟨j, u0⟩ := q
  rw [hq] at hf
  refine fin (arr.eraseIdxIfInBounds j) ?_ ?_
  ·unfold kdel ents at *
   rw [hq]
   have hl : arr.toList.length = es.length := by have := congrArg List.length he; simpa using this
   obtain ⟨g1, _⟩ := kf_some hq
   have hj := (List.getElem?_eq_some_iff.1 g1).1
   show _ = (es.eraseIdx j).map entK
   rw [er_map, ← he, ← er_map]
   congr 1
   rw [Array.eraseIdxIfInBounds, dif_pos (by rw [← Array.length_toList]; omega)]
   simp
  ·simp [execOp, resolve, invoke, builtin, Builtin.delete_, hx, hy2, run_underlying ht, MapKept.run_getObj_map hb, hc, hf, MapKept.run_setObj_map _ hb, Result.andThen]
end
end Go.Proofs.YtiojekbkamegdaaGreatDoor
namespace Go.Proofs.YtiojekbkamegdaaGreatDoor
def a1X (x : PInst) : Int := if 0 < x.args.length then (x.args[0]?).getD 0 else -1
def a2X (x : PInst) : Int := if 1 < x.args.length then (x.args[1]?).getD 0 else -1
def keyX (x : PInst) : K4 := if trnB x.op = true ∧ a2X x < a1X x then (x.op, x.num, a2X x, a1X x) else (x.op, x.num, a1X x, a2X x)
theorem key_same {x y : PInst} (hx : x.args.length ≤ 2) (hl : x.op = y.op → x.args.length = y.args.length) (ht : trnB x.op = true → x.args.length = 2) (hc : cntB x.op = true) : keyX x = keyX y ↔ sameI x y = true := by
 rw [sameI_iff]
 obtain ⟨op, d, xa, n⟩ := x
 obtain ⟨op2, d2, ya, n2⟩ := y
 dsimp only at hx hl ht hc ⊢
 have hop : keyX ⟨op, d, xa, n⟩ = keyX ⟨op2, d2, ya, n2⟩ → op = op2 ∧ n = n2 := fun h => by
  unfold keyX at h
  dsimp only at h
  split at h <;> split at h <;> (simp only [Prod.mk.injEq] at h; exact ⟨h.1, h.2.1⟩)
 constructor
 ·intro h
  obtain ⟨e1, e2⟩ := hop h
  have hl := hl e1
  subst e1 e2
  refine ⟨hc, ⟨Z, Z⟩, ?_⟩
  match xa, ya, hl, hx, ht with
  | [], [], _, _, _ => exact .inl rfl
  | [a], [b], _, _, ht =>
   have ht : trnB op = false := by cases e : trnB op; rfl; have := ht e; cases this
   unfold keyX a1X a2X at h
   simp [ht] at h
   exact .inl (by rw [h])
  | [a, b], [c, e], _, _, _ =>
   unfold keyX a1X a2X at h
   simp only [List.length_cons, List.length_nil, Nat.zero_add, Nat.lt_add_one, if_true, List.getElem?_cons_zero, Option.getD_some, List.getElem?_cons_succ, Nat.reduceAdd, Nat.zero_lt_succ] at h
   split at h <;> rename_i h1 <;> split at h <;> rename_i h2 <;> simp only [Prod.mk.injEq, true_and] at h
   ·exact .inl (by rw [h.1, h.2])
   ·exact .inr ⟨h1.1, rfl, by simp [h.1, h.2]⟩
   ·exact .inr ⟨h2.1, rfl, by simp [h.1, h.2]⟩
   ·exact .inl (by rw [h.1, h.2])
  | _ :: _ :: _ :: _, _, _, hx, _ => simp at hx
  | [], _ :: _, hl, _, _ => simp at hl
  | [_], [], hl, _, _ => simp at hl
  | [_], _ :: _ :: _, hl, _, _ => simp at hl
  | [_, _], [], hl, _, _ => simp at hl
  | [_, _], [_], hl, _, _ => simp at hl
  | [_, _], _ :: _ :: _ :: _, hl, _, _ => simp at hl
 ·rintro ⟨_, ⟨rfl, rfl⟩, h⟩
  rcases h with rfl | ⟨h1, h2, h3⟩
  ·rfl
  ·match ya, h2, h3 with
   | [c, e], _, h3 =>
    have h3 : xa = [e, c] := h3
    subst h3
    unfold keyX a1X a2X
    simp only [List.length_cons, List.length_nil, Nat.zero_add, Nat.lt_add_one, if_true, List.getElem?_cons_zero, Option.getD_some, List.getElem?_cons_succ, Nat.reduceAdd, Nat.zero_lt_succ, h1, true_and]
    split <;> split <;> simp only [Prod.mk.injEq, true_and] <;> omega
   | [], h2, h3 => rw [h3] at h2; simp at h2
   | [_], h2, h3 => rw [h3] at h2; simp at h2
   | _ :: _ :: _ :: _, h2, h3 => rw [h3] at h2; simp at h2
def rootL (f : PFunc) (r : Int → Int) (D : Plc → Bool) : List Int := (List.range f.vars.length).map fun (v : Nat) => if D (makerT f v) = true then r v else v
theorem rootL_len (f : PFunc) (r : Int → Int) (D : Plc → Bool) : (rootL f r D).length = f.vars.length := by unfold rootL; simp
theorem rootL_get {f : PFunc} {r : Int → Int} {D : Plc → Bool} {v : Nat} (h : v < f.vars.length) : (rootL f r D)[v]? = some (if D (makerT f v) = true then r v else v) := by
 unfold rootL; rw [qy, List.getElem?_range h]; rfl
structure MkOk (f : PFunc) : Prop where
 made : ∀ i k x, NumI f i k x → makerT f x.dst = ((i : Int), (k : Int))
 dst : ∀ i k x, NumI f i k x → 0 ≤ x.dst ∧ x.dst < f.vars.length
def addD (D : Plc → Bool) (m : Plc) : Plc → Bool := fun p => D p || decide (p = m)
theorem root_set {f : PFunc} (hM : MkOk f) {r : Int → Int} (hid : ∀ v, (∀ i k x, NumI f i k x → x.dst ≠ v) → r v = v) {D : Plc → Bool} {i k : Nat} {x : PInst} (hx : NumI f i k x) : (rootL f r D).set x.dst.toNat (r x.dst) = rootL f r (addD D ((i : Int), (k : Int))) := by
 obtain ⟨d0, d1⟩ := hM.dst i k x hx
 refine List.ext_getElem? fun v=>?_
 by_cases hv : v < f.vars.length
 ·by_cases e : x.dst.toNat = v
  ·rw [← e, List.getElem?_set_self (by rw [rootL_len]; omega), rootL_get (by omega), w8 d0, hM.made i k x hx]
   unfold addD; simp
  ·rw [List.getElem?_set_ne e, rootL_get hv, rootL_get hv]
   by_cases hn : ∃ j q y, NumI f j q y ∧ y.dst = (v : Int)
   ·obtain ⟨j, q, y, hy, e2⟩ := hn
    have hne : ((j : Int), (q : Int)) ≠ ((i : Int), (k : Int)) := fun h => by
     simp only [Prod.mk.injEq] at h
     obtain ⟨rfl, rfl⟩ : j = i ∧ q = k := by omega
     have := hy.1.one hx.1
     subst this
     omega
    rw [← e2, hM.made j q y hy]
    unfold addD
    rw [w5 hne, Bool.or_false]
   ·have : r (v : Int) = v := hid v fun j q y hy e2 => hn ⟨j, q, y, hy, e2⟩
    rw [this]; simp
 ·rw [List.getElem?_eq_none (by rw [List.length_set, rootL_len]; omega), List.getElem?_eq_none (by rw [rootL_len]; omega)]
structure TAt (f : PFunc) (r : Int → Int) (i k : Nat) (T : List (K4 × Int)) : Prop where
 nodup : (T.map (·.1)).Nodup
 get : ∀ key d, kget T key = some d ↔ ∃ j q x, NumI f j q x ∧ AheadI f j q i k ∧ keyX (mapI r x) = key ∧ x.dst = d ∧ r d = d
structure KeyI (f : PFunc) (r : Int → Int) : Prop where
 same : ∀ i k x j q y, NumI f i k x → NumI f j q y → (keyX (mapI r x) = keyX (mapI r y) ↔ sameI (mapI r x) (mapI r y) = true)
theorem keyI_of {f : PFunc} (hI : ∀ b ∈ f.blocks, ∀ x ∈ b.insts, cntB x.op = true → x.args.length ≤ 2 ∧ (trnB x.op = true → x.args.length = 2)) (hl : ∀ b ∈ f.blocks, ∀ x ∈ b.insts, ∀ c ∈ f.blocks, ∀ y ∈ c.insts, x.op = y.op → x.args.length = y.args.length) (r : Int → Int) : KeyI f r :=
 ⟨fun i k x j q y ⟨⟨b, h1, h2⟩, hc⟩ ⟨⟨c, g1, g2⟩, _⟩ => by
  have hb := w1 h1
  have hx := w1 h2
  obtain ⟨e1, e2⟩ := hI b hb x hx hc
  exact key_same (x := mapI r x) (y := mapI r y) (by show (x.args.map r).length ≤ 2; rw [qx]; exact e1) (fun e => by show (x.args.map r).length = (y.args.map r).length; rw [qx, qx]; exact hl b hb x hx c (w1 g1) y (w1 g2) e) (fun e => by show (x.args.map r).length = 2; rw [qx]; exact e2 e) hc⟩
theorem ahead_succ {f : PFunc} {j q i k : Nat} : AheadI f j q i (k + 1) ↔ AheadI f j q i k ∨ (j = i ∧ q = k) := by
 unfold AheadI AheadP
 constructor
 ·rintro (h | ⟨h1, h2⟩ | h)
  ·exact .inl (.inl h)
  ·have : j = i := by omega
   by_cases e : q = k
   ·exact .inr ⟨this, e⟩
   ·exact .inl (.inr (.inl ⟨h1, by push_cast at h2; omega⟩))
  ·exact .inl (.inr (.inr h))
 ·rintro ((h | ⟨h1, h2⟩ | h) | ⟨rfl, rfl⟩)
  ·exact .inl h
  ·exact .inr (.inl ⟨h1, by push_cast; omega⟩)
  ·exact .inr (.inr h)
  ·exact .inr (.inl ⟨rfl, by push_cast; omega⟩)
section
variable {f : PFunc} {r : Int → Int} {rk : Nat → Nat → Nat} (hH : NumH f rk) (hr : Roots f r) (hK : KeyI f r)
include hH hr hK
theorem told_old {i k : Nat} {T : List (K4 × Int)} (h : TAt f r i k T) {y : PInst} (hy : NumI f i k y) {v : Int} (hv : kget T (keyX (mapI r y)) = some v) : r y.dst = v ∧ r y.dst ≠ y.dst := by
 obtain ⟨j, q, x, hx, ha, hk, hd, hrd⟩ := (h.get _ _).1 hv
 have hs := (hK.same _ _ _ _ _ _ hx hy).1 hk
 have hne : r y.dst ≠ y.dst := fun e => by
  have := hr.no _ _ _ _ _ _ hy hx ha (by rw [hd]; exact hrd) e
  rw [hs] at this; cases this
 refine ⟨?_, hne⟩
 rcases hr.rt _ _ _ hy with h0 | ⟨j2, q2, x2, hx2, ha2, hr2, e2, s2⟩
 ·exact absurd h0 hne
 ·rw [e2, ← hd]
  have s3 := sameI_trans s2 (sameI_symm hs)
  rcases hH.total _ _ _ _ _ _ _ _ _ hy hx2 hx ha2 ha with h1 | h1 | ⟨h1, h2⟩
  ·have := hr.no _ _ _ _ _ _ hx hx2 h1 hr2 (by rw [hd]; exact hrd)
   rw [s3] at this; cases this
  ·have := hr.no _ _ _ _ _ _ hx2 hx h1 (by rw [hd]; exact hrd) hr2
   rw [sameI_symm s3] at this; cases this
  ·subst h1 h2
   rw [hx2.1.one hx.1]
omit hH in
theorem told_new {i k : Nat} {T : List (K4 × Int)} (h : TAt f r i k T) {y : PInst} (hy : NumI f i k y) (hv : kget T (keyX (mapI r y)) = none) : r y.dst = y.dst := by
 rcases hr.rt _ _ _ hy with h0 | ⟨j2, q2, x2, hx2, ha2, hr2, e2, s2⟩
 ·exact h0
 ·exfalso
  have := (h.get (keyX (mapI r y)) x2.dst).2 ⟨j2, q2, x2, hx2, ha2, (hK.same _ _ _ _ _ _ hx2 hy).2 s2, rfl, hr2⟩
  rw [hv] at this; cases this
omit hH hr hK in
theorem told_skip {i k : Nat} {T : List (K4 × Int)} (h : TAt f r i k T) (hs : ∀ y, NumI f i k y → r y.dst ≠ y.dst) : TAt f r i (k + 1) T := by
 refine ⟨h.nodup, fun key d => ?_⟩
 rw [h.get]
 constructor
 ·rintro ⟨j, q, x, hx, ha, e1, e2, e3⟩
  exact ⟨j, q, x, hx, ahead_succ.2 (.inl ha), e1, e2, e3⟩
 ·rintro ⟨j, q, x, hx, ha, e1, e2, e3⟩
  rcases ahead_succ.1 ha with ha | ⟨rfl, rfl⟩
  ·exact ⟨j, q, x, hx, ha, e1, e2, e3⟩
  ·exact absurd (by rw [e2]; exact e3) (hs x hx)
omit hH hr hK in
theorem told_put {i k : Nat} {T : List (K4 × Int)} (h : TAt f r i k T) {y : PInst} (hy : NumI f i k y) (hv : kget T (keyX (mapI r y)) = none) (hry : r y.dst = y.dst) : TAt f r i (k + 1) (kset T (keyX (mapI r y)) y.dst) := by
 refine ⟨kset_nodup hv _ h.nodup, fun key d => ?_⟩
 rw [kget_push hv]
 constructor
 ·intro hg
  split at hg
  ·rename_i e
   cases hg
   exact ⟨i, k, y, hy, ahead_succ.2 (.inr ⟨rfl, rfl⟩), e.symm, rfl, hry⟩
  ·obtain ⟨j, q, x, hx, ha, e1, e2, e3⟩ := (h.get _ _).1 hg
   exact ⟨j, q, x, hx, ahead_succ.2 (.inl ha), e1, e2, e3⟩
 ·rintro ⟨j, q, x, hx, ha, e1, e2, e3⟩
  rcases ahead_succ.1 ha with ha | ⟨rfl, rfl⟩
  ·have hg := (h.get key d).2 ⟨j, q, x, hx, ha, e1, e2, e3⟩
   split
   ·rename_i e; rw [e, hv] at hg; cases hg
   ·exact hg
  ·have := hx.1.one hy.1
   subst this
   rw [if_pos e1.symm, e2]
def mineL (r : Int → Int) (xs : List PInst) : List K4 := (xs.filter fun x => cntB x.op && decide (r x.dst = x.dst)).map fun x => keyX (mapI r x)
omit hH hr hK in
theorem mem_mine {xs : List PInst} {key : K4} : key ∈ mineL r xs ↔ ∃ x ∈ xs, cntB x.op = true ∧ r x.dst = x.dst ∧ keyX (mapI r x) = key := by
 unfold mineL
 simp only [List.mem_map, List.mem_filter, w6, w9]
 constructor
 ·rintro ⟨x, ⟨h1, h2, h3⟩, h4⟩; exact ⟨x, h1, h2, h3, h4⟩
 ·rintro ⟨x, h1, h2, h3, h4⟩; exact ⟨x, ⟨h1, h2, h3⟩, h4⟩
def dels (T : List (K4 × Int)) (ks : List K4) : List (K4 × Int) := ks.foldl kdel T
omit hH hr hK in
theorem dels_get : ∀ (ks : List K4) (T : List (K4 × Int)), (T.map (·.1)).Nodup → ((dels T ks).map (·.1)).Nodup ∧ ∀ key, kget (dels T ks) key = if key ∈ ks then none else kget T key
 | [], T, h => ⟨h, fun key => by simp [dels]⟩
 | k :: ks, T, h => by
  obtain ⟨h1, h2⟩ := dels_get ks (kdel T k) (kdel_nodup k h)
  refine ⟨h1, fun key=>?_⟩
  show kget (dels (kdel T k) ks) key = _
  rw [h2, kdel_get h]
  by_cases e1 : key ∈ ks
  ·simp [e1]
  ·by_cases e2 : key = k <;> simp [e1, e2]
omit hH in
theorem told_back {i : Nat} {b : PBlock} (hb : f.blocks[i]? = some b) {T : List (K4 × Int)} (h : TAt f r i b.insts.length T) : TAt f r i 0 (dels T (mineL r b.insts)) := by
 obtain ⟨h1, h2⟩ := dels_get (mineL r b.insts) T h.nodup
 refine ⟨h1, fun key d => ?_⟩
 rw [h2]
 constructor
 ·intro hg
  split at hg
  ·cases hg
  ·rename_i hm
   obtain ⟨j, q, x, hx, ha, e1, e2, e3⟩ := (h.get _ _).1 hg
   refine ⟨j, q, x, hx, ?_, e1, e2, e3⟩
   rcases ha with ha | ⟨ha, _⟩ | ha
   ·exact .inl ha
   ·exfalso
    have hji : j = i := by omega
    subst hji
    obtain ⟨c, hc1, hc2⟩ := hx.1
    rw [hb] at hc1
    cases hc1
    exact hm (mem_mine.2 ⟨x, w1 hc2, hx.2, by rw [e2]; exact e3, e1⟩)
   ·exact .inr (.inr ha)
 ·rintro ⟨j, q, x, hx, ha, e1, e2, e3⟩
  have ha2 : AheadI f j q i b.insts.length := by
   rcases ha with ha | ⟨_, ha⟩ | ha
   ·exact .inl ha
   ·exfalso; have : (q : Int) < 0 := ha; omega
   ·exact .inr (.inr ha)
  rw [if_neg, (h.get key d).2 ⟨j, q, x, hx, ha2, e1, e2, e3⟩]
  intro hm
  obtain ⟨y, hy, hyc, hyr, hyk⟩ := mem_mine.1 hm
  obtain ⟨k, hk, hky⟩ := List.getElem_of_mem hy
  have hyN : NumI f i k y := ⟨⟨b, hb, by rw [qq hk, hky]⟩, hyc⟩
  have ha3 : AheadI f j q i k := by
   rcases ha with ha | ⟨_, ha⟩ | ha
   ·exact .inl ha
   ·exfalso; have : (q : Int) < 0 := ha; omega
   ·exact .inr (.inr ha)
  have := hr.no _ _ _ _ _ _ hyN hx ha3 (by rw [e2]; exact e3) hyr
  rw [(hK.same _ _ _ _ _ _ hx hyN).1 (e1.trans hyk.symm)] at this; cases this
omit hH hr hK in
theorem told_down {i c : Nat} {b : PBlock} (hb : f.blocks[i]? = some b) (hic : c ≠ i) (hd : ∀ j : Nat, j ≠ c → (Dom (EndsOf f) j c ↔ j = i ∨ Dom (EndsOf f) j i)) {T : List (K4 × Int)} (h : TAt f r i b.insts.length T) (hnc : ¬ Dom (EndsOf f) (c : Int) (i : Int)) : TAt f r c 0 T := by
 refine ⟨h.nodup, fun key d => ?_⟩
 rw [h.get]
 constructor
 ·rintro ⟨j, q, x, hx, ha, e1, e2, e3⟩
  refine ⟨j, q, x, hx, ?_, e1, e2, e3⟩
  rcases ha with ha | ⟨ha, _⟩ | ⟨a0, a1, a2⟩
  ·exact .inl ha
  ·have hji : j = i := by omega
   subst hji
   exact .inr (.inr ⟨by show 0 ≤ (j : Int); omega, by show (j : Int) ≠ c; omega, (hd j (fun e => hic e.symm)).2 (.inl rfl)⟩)
  ·by_cases hjc : j = c
   ·exact absurd (by rw [← hjc]; exact a2) hnc
   ·exact .inr (.inr ⟨a0, by show (j : Int) ≠ c; omega, (hd j hjc).2 (.inr a2)⟩)
 ·rintro ⟨j, q, x, hx, ha, e1, e2, e3⟩
  refine ⟨j, q, x, hx, ?_, e1, e2, e3⟩
  rcases ha with ha | ⟨_, ha⟩ | ⟨a0, a1, a2⟩
  ·exact .inl ha
  ·exfalso; have : (q : Int) < 0 := ha; omega
  ·have hjc : j ≠ c := fun e => a1 (by rw [e])
   rcases (hd j hjc).1 a2 with rfl | hdom
   ·obtain ⟨c2, hc1, hc2⟩ := hx.1
    rw [hb] at hc1
    cases hc1
    have := (List.getElem?_eq_some_iff.1 hc2).1
    exact .inr (.inl ⟨rfl, by show (q : Int) < _; omega⟩)
   ·by_cases hji : j = i
    ·subst hji
     obtain ⟨c2, hc1, hc2⟩ := hx.1
     rw [hb] at hc1
     cases hc1
     have := (List.getElem?_eq_some_iff.1 hc2).1
     exact .inr (.inl ⟨rfl, by show (q : Int) < _; omega⟩)
    ·exact .inr (.inr ⟨a0, by show (j : Int) ≠ i; omega, hdom⟩)
end
end Go.Proofs.YtiojekbkamegdaaGreatDoor
namespace Go.Proofs.YtiojekbkamegdaaGreatDoor
open Go.Proofs
def lC (l : List Rng) : List AV := eP.av l
theorem lC_len (l : List Rng) : (lC l).length = l.length * 2 := eP.av_len l
theorem lC_cons (r : Rng) (l : List Rng) : lC (r :: l) = .int .i64 r.1 :: .int .i64 r.2 :: lC l := rfl
theorem lC_drop : ∀ (l : List Rng) (j : Nat), (lC l).drop (j * 2) = lC (l.drop j)
 | l, 0 => by simp
 | [], j + 1 => by simp [lC, Enc.av]
 | r :: l, j + 1 => by
  rw [show (j + 1) * 2 = j * 2 + 1 + 1 by omega, lC_cons, List.drop_succ_cons, List.drop_succ_cons, lC_drop l j, List.drop_succ_cons]
theorem lC_get {l : List Rng} {j : Nat} {r : Rng} (h : l[j]? = some r) : (lC l).drop (j * 2) = .int .i64 r.1 :: .int .i64 r.2 :: lC (l.drop (j + 1)) := by
 obtain ⟨hj, e⟩ := List.getElem?_eq_some_iff.1 h
 rw [lC_drop, List.drop_eq_getElem_cons hj, e, lC_cons]
theorem lC_ne {l : List Rng} {j : Nat} (h : j < l.length) : lC l ≠ [] := fun e => by have := lC_len l; rw [e] at this; simp at this; omega
section
variable {E : World} {P : Program} {ops : Array Oper} {K : AEnv → OL → Prop} {env : AEnv} {O O' O'' : OL} {rest : List Oper} {n : Nat}
variable {d ty : Nat} {pos : String} {af : Array Edge} {x y z : Operand} {t u e T : TypeId}
theorem Gv.idxR {i n j : Nat} {a : Int} {T : TypeId} {l : List Rng} (ht : P.underlying t = some (.slice e)) (hs : ∀ w, (sizeOf e).run P w = .ok 2 w) (hx : aev env x = .own i n) (hy : aev env y = .int .i64 a) (hi : a = (j : Int)) (hO : Has O i (.grow 2 T (lC l))) (hn : l.length = n) (hj : j < n) :
  Gv P env O (Oper.mk (some d) (.indexAddr t x y) ty pos af none) (.po i (j * 2)) := Gv.idxO ht hs hx hy hi hO (lC_ne (j := j) (by omega)) hj
theorem Gv.loadR {i j : Nat} {T : TypeId} {l : List Rng} {r : Rng} (ha : ∀ w, (isAgg t).run P w = .ok true w) (hs : ∀ w, (sizeOf t).run P w = .ok 2 w) (hx : aev env x = .po i (j * 2)) (hO : Has O i (.grow 2 T (lC l))) (hv : l[j]? = some r) :
  Gv P env O (Oper.mk (some d) (.load t x) ty pos af none) (.agg (encZ r)) := by
 have hj := (List.getElem?_eq_some_iff.1 hv).1
 exact Gv.loadAG ha hs hx hO (lC_ne hj) (by rw [lC_len]; omega) (by rw [lC_get hv]; rfl)
end
structure RdL (P : Program) (te ee : TypeId) (Lv : AV) (ptr : Nat → AV) (i : Nat) (HL : AObj) (l : List Rng) : Prop where
 idx : ∀ {env : AEnv} {O : OL} {d ty : Nat} {pos : String} {af : Array Edge} {x y : Operand} {a : Int} {j : Nat}, aev env x = Lv → aev env y = .int .i64 a → a = (j : Int) → j < l.length → Has O i HL → Gv P env O (Oper.mk (some d) (.indexAddr te x y) ty pos af none) (ptr j)
 load : ∀ {env : AEnv} {O : OL} {d ty : Nat} {pos : String} {af : Array Edge} {x : Operand} {j : Nat} {r : Rng}, aev env x = ptr j → l[j]? = some r → Has O i HL → Gv P env O (Oper.mk (some d) (.load ee x) ty pos af none) (.agg (encZ r))
def ptrF (l : List Rng) (j : Nat) : AV := .pf (encZ ((l[j]?).getD noR))
def ptrO (i : Nat) (j : Nat) : AV := .po i (j * 2)
theorem RdL.fro {P : Program} {te ee : TypeId} (ht : P.underlying te = some (.slice ee)) (hs : ∀ w, (sizeOf ee).run P w = .ok 2 w) (ha : ∀ w, (isAgg ee).run P w = .ok true w) (i : Nat) (HL : AObj) (l : List Rng) : RdL P te ee (.fro 2 (l.map encZ)) (ptrF l) i HL l where
 idx hx hy hi hj _ := q7 ht hs hx hy hi (by rw [qq hj]; rfl)
 load hx hv _ := yl ha hs (cs := encZ _) (by rw [hx]; unfold ptrF; rw [hv]; rfl) rfl
theorem RdL.own {P : Program} {te ee : TypeId} (ht : P.underlying te = some (.slice ee)) (hs : ∀ w, (sizeOf ee).run P w = .ok 2 w) (ha : ∀ w, (isAgg ee).run P w = .ok true w) (i : Nat) (T : TypeId) (l : List Rng) (n : Nat) (hn : l.length = n) : RdL P te ee (.own i n) (ptrO i) i (.grow 2 T (lC l)) l where
 idx hx hy hi hj hO := Gv.idxR ht hs hx hy hi hO hn (by omega)
 load hx hv hO := Gv.loadR ha hs hx hO hv
end Go.Proofs.YtiojekbkamegdaaGreatDoor
namespace Go.Proofs.YtiojekbkamegdaaGreatDoor
open Go.Proofs
end Go.Proofs.YtiojekbkamegdaaGreatDoor
namespace Go.Proofs.YtiojekbkamegdaaGreatDoor
open Go.Proofs
set_option linter.defProp false
def y9 := @AOps.makeNest
def yg := @Gv.idxI
def yr := @Gv.loadI
def yt := @AOps.storeI
def q8 := @AOps.storeB
def qa := @AOps.nestTake
def qj := @Gv.idxN
def ql := @AOps.nestPut
def qm := @AOps.makeI
end Go.Proofs.YtiojekbkamegdaaGreatDoor
