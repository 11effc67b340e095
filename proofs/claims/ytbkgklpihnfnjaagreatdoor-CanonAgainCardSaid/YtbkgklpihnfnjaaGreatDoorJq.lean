/- Two lists made one. No conditions but bounds. -/
import Derived.Test.YtbkgklpihnfnjaaGreatDoorJp
import Derived.Test.YtbkgklpihnfnjaaGreatDoorJd
set_option linter.unusedVariables false
set_option linter.unusedSimpArgs false
set_option linter.unusedSectionVars false
namespace Go.Proofs.YtbkgklpihnfnjaaGreatDoor
open Go.Proofs.Tryz
open Go.Proofs Go.Lib Go.Shelf Go.RowKit
set_option maxRecDepth 20000
variable {E : World}
def cellU : AV := .ext fun _ _ => True
theorem cellU_rep {I : G} {x : AV} {v : Value} (h : RepV I x v) (hc : x.cell = true) : RepV I cellU v := ⟨AV.cell_rep h hc, fun _ _ => trivial⟩
def optG {α : Type} (g : α → AV) : Option α → AV
 | none => .agg [cellU, cellU, cellU]
 | some x => g x
def OptG {α : Type} (g : α → AV) (o : Option α) : AV → OL → Prop := fun x _ => ∃ a b c, x = .tup [.agg [a, b, c], .bool o.isSome] ∧ (a.cell = true ∧ b.cell = true ∧ c.cell = true) ∧ ∀ i, o = some i → .agg [a, b, c] = g i
theorem optG_ret {α : Type} {g : α → AV} {o : Option α} {a b c : AV} {t : Bool} {O : OL} (hb : t = o.isSome) (hy : ∀ i, o = some i → .agg [a, b, c] = g i) (h1 : a.cell = true := by rfl) (h2 : b.cell = true := by rfl) (h3 : c.cell = true := by rfl) : OptG g o (.tup [.agg [a, b, c], .bool t]) O := ⟨a, b, c, by rw [hb], ⟨h1, h2, h3⟩, hy⟩
theorem optG_none {α : Type} {g : α → AV} {o : Option α} {a b c : AV} {O : OL} (h : o = none) (h1 : a.cell = true := by rfl) (h2 : b.cell = true := by rfl) (h3 : c.cell = true := by rfl) : OptG g o (.tup [.agg [a, b, c], .bool false]) O := optG_ret (by rw [h]; rfl) (fun i e => by rw [h] at e; cases e) h1 h2 h3
theorem AFun.optG {α : Type} {g : α → AV} {f : FuncId} {xs : List AV} {o : Option α} (h : ACall prog E f xs [] (OptG g o)) : AFun prog E f xs (.tup [Go.Proofs.YtbkgklpihnfnjaaGreatDoor.optG g o, .bool o.isSome]) :=
 ACall.know h fun I F w v x O' ⟨a, b, c, hx, hc, hy⟩ hr hs => ⟨I, .tup [Go.Proofs.YtbkgklpihnfnjaaGreatDoor.optG g o, .bool o.isSome], O', .refl _, by
  subst hx
  obtain ⟨vs, e, v1, us, e2, h1, h2⟩ := hr
  refine ⟨vs, e, v1, us, e2, ?_, h2⟩
  cases o with
  | none =>
   obtain ⟨ws, e3, w1, u1, e4, g1, w2, u2, e5, g2, w3, u3, e6, g3, g4⟩ := h1
   exact ⟨ws, e3, w1, u1, e4, cellU_rep g1 hc.1, w2, u2, e5, cellU_rep g2 hc.2.1, w3, u3, e6, cellU_rep g3 hc.2.2, g4⟩
  | some i => rw [hy i rfl] at h1; exact h1, hs, rfl⟩
def funcS : ByteArray := ⟨#[102, 117, 110, 99]⟩
abbrev PLine := Int × List ByteArray
def runLines : PProg → List PLine → Option PProg
 | S, [] => some S
 | S, l :: ls => (lineP S l.2).bind fun S' => runLines S' ls
def endP (S : PProg) : Option PProg := S.cur.bind fun b => if b.1.ended = true then some S else none
def start (ws : List ByteArray) : PProg := ⟨varsOf (ws.drop 1), [], [], none⟩
def tgt (l0 : PLine) (rest : List PLine) : Option PProg := if varsOk (l0.2.drop 1) = true then runLines (start l0.2) rest else none
def readP : List PLine → Option PProg
 | [] => none
 | l0 :: rest => if atW l0.2 0 = funcS then (tgt l0 rest).bind endP else none
def blocksOf (S : PProg) : List (PHead × List PItem) := S.done ++ S.cur.toList
def encP (S : PProg) : AV := .agg [.fro 2 (S.params.map encVar), .fro 2 (S.vars.map encVar), .fro 6 ((blocksOf S).map encPB)]
structure PBQ (S : PProg) (n : Nat) : Prop where
 inv : S.cur = none → S.done = []
 done : S.done.length ≤ n
 cur : ∀ b, S.cur = some b → b.2.length ≤ n
theorem PBQ.more {S : PProg} {n : Nat} (h : PBQ S n) : PBQ S (n + 1) := ⟨h.1, Nat.le_succ_of_le h.2, fun b hb => Nat.le_succ_of_le (h.3 b hb)⟩
theorem lineB_len {h : PHead} {it : List PItem} {w : List ByteArray} {r : PHead × List PItem} (hr : lineB h it w = some r) : r.2.length ≤ it.length + 1 := by
 unfold lineB at hr
 split at hr
 ·cases hr
 ·split at hr
  ·cases hr; exact Nat.le_succ _
  ·split at hr
   ·cases hr
   ·split at hr
    ·cases hr
    ·cases hr; simp
theorem PBQ.step {S S' : PProg} {n : Nat} {w : List ByteArray} (hb : PBQ S n) (hl : lineP S w = some S') : PBQ S' (n + 1) := by
 unfold lineP at hl
 have h3 := hb.3
 cases hc : S.cur with
 | none =>
  rw [hc] at hl
  have hd := hb.1 hc
  simp only [lineP0] at hl
  split at hl
  ·cases hl; exact ⟨by simp, by simp [hd], by simp⟩
  ·split at hl
   ·cases hl; exact ⟨fun _ => hd, by simp [hd], by simp [hc]⟩
   ·cases hl
 | some b =>
  rw [hc] at hl
  have hb3 := h3 b hc
  have hb2 := hb.2
  simp only [lineP1] at hl
  split at hl
  ·split at hl
   ·cases hl; exact ⟨by simp, by simp; omega, by simp⟩
   ·cases hl
  ·cases hr : lineB b.1 b.2 w with
   | none => rw [hr] at hl; cases hl
   | some r =>
    rw [hr] at hl; cases hl
    have := lineB_len hr
    exact ⟨by simp, by simp; omega, by simp; omega⟩
theorem lineP_vars {S S' : PProg} {w : List ByteArray} (hl : lineP S w = some S') : S'.vars.length ≤ S.vars.length + w.length ∧ S'.params = S.params := by
 unfold lineP at hl
 cases hc : S.cur with
 | none =>
  rw [hc] at hl
  simp only [lineP0] at hl
  split at hl
  ·cases hl; exact ⟨Nat.le_add_right _ _, rfl⟩
  ·split at hl
   ·cases hl
    refine ⟨?_, Z⟩
    have : (varsOf (w.drop 1)).length ≤ w.length := by unfold varsOf; split <;> simp
    simp only [qj]; omega
   ·cases hl
 | some b =>
  rw [hc] at hl
  simp only [lineP1] at hl
  split at hl
  ·split at hl
   ·cases hl; exact ⟨Nat.le_add_right _ _, rfl⟩
   ·cases hl
  ·cases hr : lineB b.1 b.2 w with
   | none => rw [hr] at hl; cases hl
   | some r => rw [hr] at hl; cases hl; exact ⟨Nat.le_add_right _ _, rfl⟩
def words (ls : List PLine) : Nat := (ls.map fun l => l.2.length).sum
theorem words_drop {ls : List PLine} {k : Nat} (h : k < ls.length) : words (ls.drop k) = ls[k].2.length + words (ls.drop (k + 1)) := by
 unfold words; rw [List.drop_eq_getElem_cons h, List.map_cons, List.sum_cons]
theorem run_step {S S' : PProg} {ls : List PLine} {k : Nat} (h : k < ls.length) (hl : lineP S ls[k].2 = some S') : runLines S (ls.drop k) = runLines S' (ls.drop (k + 1)) := by
 rw [List.drop_eq_getElem_cons h, runLines, hl]; rfl
theorem run_fail {S : PProg} {ls : List PLine} {k : Nat} (h : k < ls.length) (hl : lineP S ls[k].2 = none) : runLines S (ls.drop k) = none := by
 rw [List.drop_eq_getElem_cons h, runLines, hl]; rfl
structure RInv (l0 : PLine) (rest : List PLine) (k : Nat) (ok : Bool) (S : PProg) : Prop where
 hk : k ≤ rest.length
 pb : PBQ S k
 vars : S.vars.length + words (rest.drop k) ≤ 1000000000
 yes : ok = true → runLines S (rest.drop k) = tgt l0 rest
 no : ok = false → tgt l0 rest = none
def NEL (ls : List PLine) : Prop := ∀ l ∈ ls, 0 < l.2.length ∧ l.2.length ≤ 100000 ∧ ∀ x ∈ l.2, x.size ≤ 100000
theorem readR (ls : List PLine) (hl : ls.length ≤ 100000) (hw : words ls ≤ 1000000000) (hs : NEL ls) (hL : Letters E) (hT : Pows E) (hV : Vars0 E) :
  ACall prog E 24 [.fro 2 (ls.map encLine)] [] (OptG encP (readP ls)) := by
 refine zk func24 Z (by decide) Z<|zSr<|zq (cs := [.raw (.slice none 0 0), .raw (.slice none 0 0), .raw (.slice none 0 0)]) zeroValue67 Z Z<|fun i2 => zVzAb Z<|z6<|zSr<|zq (cs := [.raw (.slice none 0 0), .raw (.slice none 0 0), .raw (.slice none 0 0)]) zeroValue67 Z Z<|fun i4 => z6<|zb<|zSr<|zVzMf Z<|zVGvlenM Yt Z<|zVGveqlI Z Z<|zVzMb Z ?_
 rcases ls with _ | ⟨l0, rest⟩
 ·refine z7 Z Z Z<|z7 Z Z Z<|z7 Z Z Z<|z7 Z Z Z<|z7 Z Z Z<|z7 Z Z Z<|z7 Z Z Z<|zVzPt Z Z Z<|z6<|yh Z Z<|zSr<|z8 (yg X6 Y5 Z ⟨_, .head⟩ Z)<|zm Y5 Z Z Z Z Z Z .t1 Z<|zVzAb Z<|z6<|ze<|afin.c1t (y := .bool _) Z Z ⟨_, .t1⟩ X6 Y5 Z ?_
  exact optG_none rfl
 ·obtain ⟨hn1, hn2, hn3⟩ := hs l0 (.head _)
  have hsr : NEL rest := fun l h => hs l (.tail _ h)
  have hlr : rest.length ≤ 100000 := by simp at hl; omega
  have hwr : l0.2.length + words rest ≤ 1000000000 := by unfold words at hw ⊢; simpa using hw
  refine za Z Z (by simp; omega)<|zVzMf Z<|za Z Z (by simp; omega)<|z8 (zIM 0 Yt sizeOf108 Z Z Z Z)<|za Z Z (by simp; omega)<|zVzFF underlying108 Z Zm Z Z<|za Z Z (by simp; omega)<|zVzLf Xb Z<|za Z Z (by simp; omega)<|z8 (zIM 0 jh jx Z Z Z (atW_get hn1))<|za Z Z (by simp; omega)<|z8 (ya (c := .str _) Z5 Z)<|za Z Z (by simp; omega)<|z8 (Gv.neqT Z Z)<|z8 (zPf Z (by simp; omega) Z)<|z6<|zz Z (fun cf=>?_) (fun cf=>?_)
  ·have hf : ¬ atW l0.2 0 = funcS := by unfold funcS; simpa using cf
   refine zSr<|z8 (yg X6 Y5 Z ⟨_, .head⟩ Z)<|zm Y5 Z Z Z Z Z Z .t1 Z<|zVzAb Z<|z6<|ze<|afin.c1t (y := .bool _) Z Z ⟨_, .t1⟩ X6 Y5 Z ?_
   exact optG_none (by show (if atW l0.2 0 = funcS then _ else _) = _; rw [if_neg hf])
  ·have hf : atW l0.2 0 = funcS := by unfold funcS; simpa using cf
   have hread : readP (l0 :: rest) = (tgt l0 rest).bind endP := by show (if atW l0.2 0 = funcS then _ else _) = _; rw [if_pos hf]
   refine zf<|zSr<|zVzMf Z<|z8 (zIM 0 Yt sizeOf108 Z Z Z Z)<|zVzFF underlying108 Z Zm Z Z<|zVzLf Xb Z<|z8 (Gv.cutLoM (j := 1) jh jx Z Z Z (by omega))<|zd (zvars_spec (l0.2.drop 1) (by simp; omega) (fun x hx => hn3 x (List.mem_of_mem_drop hx)) hL hV) Z<|z8 (zMu Z)<|z8 (yk (v := .fro _ _) Z Z)<|z8 (zXb Z Z)<|z8 (zAf Z)<|zVzAb Z<|z6<|zSr<|zVzMf Z<|z8 (zc Zc Z Z9 (by decide) Z Z)<|y5 (l := [_]) (new := [_, _, _]) Z9 Z Z Z Z Z Z .head Z Z<|z6<|zb<|zSr<|zVzMf Z<|z8 (Gv.cutLoM (j := 1) Yt sizeOf108 Z Z Z (by simp))<|zVGvlenM Yt Z<|zVzMi Z<|z6<|zg<|adoptC_wp (off := 1) (k := 2) (T := 38) (fun _ => .head) Z<|fun jv => adoptC_wp (off := 2) (k := 6) (T := 114) (fun _ => .t1) Z<|fun jl => fresh_wp (k := 1) (T := 161)<|fun ji => zt (zn (zp .head))<|zt (zn (zp .t1))<|zt (zn (zp .t2))<|zt (zn (zp .t3))<|zt (zn (zp .t4))<|y3 (γ := Nat × Bool × PProg × (Nat × Nat × Nat)) [2, 4, 35, 36] (fun g => [(37, .int .i64 g.1), (6, .bool g.2.1)]) (fun g => (i2, .cells 67 [.raw (.slice none 0 0), .raw (.slice none 0 0), .raw (.slice none 0 0)]) :: progO i4 g.2.2.2 g.2.2.1) (fun g => RInv l0 rest g.1 g.2.1 g.2.2.1) (fun g => rest.length - g.1) (0, varsOk (l0.2.drop 1), start l0.2, (jv, jl, ji)) zR2 zLe (⟨qg _, ⟨fun _ => Z, Nat.le_refl _, by intro b h; cases h⟩, by show 0 + _ ≤ _; simp; omega, fun h => by unfold tgt; rw [if_pos h]; rfl, fun h => by have h : varsOk (l0.2.drop 1) = false := h; unfold tgt; rw [if_neg (by rw [h]; simp)]⟩) ?_
   rintro ⟨k, ok, S, jv, jl, ji⟩ hI
   try dsimp only at *
   refine zSr<|zVGvlss Z Z<|z6<|zb<|zr Z (fun ck=>?_) (fun ck=>?_)
   ·have hk2 : k < rest.length := by simp at ck; omega
    obtain ⟨hm1, hm2, hm3⟩ := hsr rest[k] (qh hk2)
    have hwd := words_drop hk2
    have hI3 := hI.vars
    have hsp := pline_spec (E := E) (p := i4) (q := (jv, jl, ji)) S hI.pb.inv rest[k].2 (by have := hI.pb.done; omega) (fun b hb => by have := hI.pb.cur b hb; omega) (by omega) hm1 hm2 hm3 hL hT hV
    refine zf<|zb<|zg<|zSr<|z8 (zIM k Yt sizeOf108 Z Z Z (qd hk2))<|zVGvloadWF isAgg108 sizeOf108 Z Z<|zq (cs := [.int .i64 0, .raw (.slice none 0 0)]) zeroValue108 Z Z<|fun i8 => zm sizeOf108 Z Z Z Z Z Z .head Z<|z6<|zRg<|zVzMb Z<|zVzMb Z<|zo (s := 42) Z (fun co=>?_) (fun co=>?_)
    ·refine za Z Z co<|z8 (zc underlying108 Z Zm (by decide) Z Z)<|za Z Z co<|z8 (zj (c := .fro _ _) Xb Z ⟨_, .head⟩ Z)<|za Z Z co ?_
     rcases hp : lineP S rest[k].2 with _ | S'
     ·rw [hp] at hsp
      refine ye Z (zu (.r (.r (.l (.l (.l (.l (.rest _)))))))) (hsp) ?_
      rintro r45 O45 ⟨⟨jv2, jl2, ji2⟩, rfl, rfl⟩
      refine y1 (zn (zp .t5))<|y1 (GStep.drop .t5)<|zVzPt Z co Z<|zVzAb Z<|z6<|zRg<|zVzAd Z Z<|zVzMi Z<|z6 ?_
      exact ⟨(k + 1, false, S, (jv2, jl2, ji2)), zR4, zR2, zLe, ⟨hk2, hI.pb.more, by dsimp only; omega, fun h => (by cases h), fun _ => by rw [← hI.yes co]; exact run_fail hk2 hp⟩, by dsimp only; omega⟩
     ·rw [hp] at hsp
      have hpv := lineP_vars hp
      refine ye Z (zu (.r (.r (.l (.l (.l (.l (.rest _)))))))) (hsp) ?_
      rintro r45 O45 ⟨⟨jv2, jl2, ji2⟩, rfl, rfl⟩
      refine y1 (zn (zp .t5))<|y1 (GStep.drop .t5)<|zVzPt Z co Z<|zVzAb Z<|z6<|zRg<|zVzAd Z Z<|zVzMi Z<|z6 ?_
      exact ⟨(k + 1, true, S', (jv2, jl2, ji2)), zR4, zR2, zLe, ⟨hk2, hI.pb.step hp, by dsimp only; omega, fun _ => by rw [← hI.yes co]; exact (run_step hk2 hp).symm, fun h => (by cases h)⟩, by dsimp only; omega⟩
    ·refine z7 Z Z co<|z7 Z Z co<|z7 Z Z co<|zVzPf Z co Z<|zVzAb Z<|z6<|zRg<|zVzAd Z Z<|zVzMi Z<|z6 ?_
     exact ⟨(k + 1, false, S, (jv, jl, ji)), zR4, zR2, ⟨_, (.drop (.refl _)), rfl⟩, ⟨hk2, hI.pb.more, by dsimp only; omega, fun h => (by cases h), fun _ => hI.no co⟩, by dsimp only; omega⟩
   ·obtain rfl : k = rest.length := by have := hI.hk; simp at ck; omega
    have hyes := hI.yes
    have hno := hI.no
    have hinv := hI.pb.inv
    rw [List.drop_length] at hyes
    obtain ⟨params, vars, done, cur⟩ := S
    rcases ok
    ·have hr : readP (l0 :: rest) = none := by rw [hread, hno rfl]; rfl
     refine y2<|zSr<|z8 (zc Zc Z Yc (by decide) Z Z)<|z8 (zj (c := .own _ _) X3 Z ⟨_, .t1⟩ Z)<|z8 (q7 Zr Z)<|zVzAi Z<|z6<|zb<|zw (fun j => Nat.beq j 15) (by kernel_rfl) Z (zu (.l (.r (.rest _))))<|zTk 0 Z (yg X6 Y5 Z ⟨_, .head⟩ Z)<|yd (i := 1) Z (by kernel_rfl) (by kernel_rfl) (by kernel_rfl) (by kernel_rfl) (zMb Z)<|yd (i := 2) Z (by kernel_rfl) (by kernel_rfl) (by kernel_rfl) (by kernel_rfl) (zMb Z)<|yt (i := 3) Z Z Z Z (by kernel_rfl) (by kernel_rfl) (by kernel_rfl) (by kernel_rfl)<|yt (i := 4) Z Z Z Z (by kernel_rfl) (by kernel_rfl) (by kernel_rfl) (by kernel_rfl)<|yd (i := 5) Z (by kernel_rfl) (by kernel_rfl) (by kernel_rfl) (by kernel_rfl) (zPf Z Z Z)<|zTk 6 Z (zMb Z)<|yt (i := 7) Z Z Z Z (by kernel_rfl) (by kernel_rfl) (by kernel_rfl) (by kernel_rfl)<|yt (i := 8) Z Z Z Z (by kernel_rfl) (by kernel_rfl) (by kernel_rfl) (by kernel_rfl)<|yt (i := 9) Z Z Z Z (by kernel_rfl) (by kernel_rfl) (by kernel_rfl) (by kernel_rfl)<|yt (i := 10) Z Z Z Z (by kernel_rfl) (by kernel_rfl) (by kernel_rfl) (by kernel_rfl)<|yt (i := 11) Z Z Z Z (by kernel_rfl) (by kernel_rfl) (by kernel_rfl) (by kernel_rfl)<|yt (i := 12) Z Z Z Z (by kernel_rfl) (by kernel_rfl) (by kernel_rfl) (by kernel_rfl)<|yt (i := 13) Z Z Z Z (by kernel_rfl) (by kernel_rfl) (by kernel_rfl) (by kernel_rfl)<|yd (i := 14) Z (by kernel_rfl) (by kernel_rfl) (by kernel_rfl) (by kernel_rfl) (zPf Z Z Z)<|yb<|y7 (i := 15) Z (by kernel_rfl) (by kernel_rfl)<|zm Y5 Z Z Z Z Z Z .t1 Z<|z6<|y7 (i := 16) Z (by kernel_rfl) (by kernel_rfl)<|zVzAb Z<|z6<|yf (by kernel_rfl)<|ze<|afin.c1t (y := .bool _) Z Z ⟨_, .t1⟩ X6 Y5 Z ?_
     exact optG_none hr
    ·have hr0 : readP (l0 :: rest) = endP ⟨params, vars, done, cur⟩ := by rw [hread, ← hyes rfl]; rfl
     rcases cur with _ | ⟨h, it⟩
     ·obtain rfl : done = [] := hinv rfl
      refine y2<|zSr<|z8 (zc Zc Z Yc (by decide) Z Z)<|z8 (zj (c := .own _ _) X3 Z ⟨_, .t1⟩ Z)<|z8 (q7 Zr Z)<|zVzAi Z<|z6<|zb<|zw (fun j => Nat.beq j 15) (by kernel_rfl) Z (zu (.l (.r (.rest _))))<|zTk 0 Z (yg X6 Y5 Z ⟨_, .head⟩ Z)<|yd (i := 1) Z (by kernel_rfl) (by kernel_rfl) (by kernel_rfl) (by kernel_rfl) (zMb Z)<|yd (i := 2) Z (by kernel_rfl) (by kernel_rfl) (by kernel_rfl) (by kernel_rfl) (zMb Z)<|yz (i := 3) Z Z Z Z (by kernel_rfl) (by kernel_rfl) (by kernel_rfl) (by kernel_rfl) (zMi Z)<|yz (i := 4) Z Z Z Z (by kernel_rfl) (by kernel_rfl) (by kernel_rfl) (by kernel_rfl) (yr Z Z)<|yd (i := 5) Z (by kernel_rfl) (by kernel_rfl) (by kernel_rfl) (by kernel_rfl) (zPt Z Z Z)<|zTk 6 Z (zMb Z)<|yt (i := 7) Z Z Z Z (by kernel_rfl) (by kernel_rfl) (by kernel_rfl) (by kernel_rfl)<|yt (i := 8) Z Z Z Z (by kernel_rfl) (by kernel_rfl) (by kernel_rfl) (by kernel_rfl)<|yt (i := 9) Z Z Z Z (by kernel_rfl) (by kernel_rfl) (by kernel_rfl) (by kernel_rfl)<|yt (i := 10) Z Z Z Z (by kernel_rfl) (by kernel_rfl) (by kernel_rfl) (by kernel_rfl)<|yt (i := 11) Z Z Z Z (by kernel_rfl) (by kernel_rfl) (by kernel_rfl) (by kernel_rfl)<|yt (i := 12) Z Z Z Z (by kernel_rfl) (by kernel_rfl) (by kernel_rfl) (by kernel_rfl)<|yt (i := 13) Z Z Z Z (by kernel_rfl) (by kernel_rfl) (by kernel_rfl) (by kernel_rfl)<|yd (i := 14) Z (by kernel_rfl) (by kernel_rfl) (by kernel_rfl) (by kernel_rfl) (zPf Z Z Z)<|yb<|y7 (i := 15) Z (by kernel_rfl) (by kernel_rfl)<|zm Y5 Z Z Z Z Z Z .t1 Z<|z6<|y7 (i := 16) Z (by kernel_rfl) (by kernel_rfl)<|zVzAb Z<|z6<|yf (by kernel_rfl)<|ze<|afin.c1t (y := .bool _) Z Z ⟨_, .t1⟩ X6 Y5 Z ?_
      exact optG_none hr0
     ·have hr : readP (l0 :: rest) = (if h.ended = true then some ⟨params, vars, done, some (h, it)⟩ else none) := by rw [hr0]; rfl
      refine zt (GStep.knowL (off := 1) (rows := it.map encItem) .t4 .t3 Z (by intro r hr; obtain ⟨x, _, rfl⟩ := List.mem_map.1 hr; exact encItem_len x) (by decide) (by simp))<|zt (GStep.eq (show _ = ([(i2, .cells 67 [.raw (.slice none 0 0), .raw (.slice none 0 0), .raw (.slice none 0 0)]), (i4, .cells 67 [.fro 2 (params.map encVar), .own jv vars.length, .own jl (done.length + 1)]), (jv, .grow 2 38 (vars.map encVar).flatten), (jl, .grow 6 114 ((done ++ [(h, it)]).map encPB).flatten)] : OL) from (by rw [qo, List.flatten_append]; rfl)))<|zt (ym (off := 2) (rows := (done ++ [(h, it)]).map encPB) .t3 .t1 Z (by intro r hr; obtain ⟨x, _, rfl⟩ := List.mem_map.1 hr; rfl) (by decide) (by simp))<|zt (ym (off := 1) (rows := vars.map encVar) .t2 .t1 Z (by intro r hr; obtain ⟨x, _, rfl⟩ := List.mem_map.1 hr; rfl) (by decide) (by simp)) ?_
      have hdl : (done ++ [(h, it)]).length ≤ 100001 := by have : done.length ≤ _ := hI.pb.done; simp; omega
      refine zt (yj (t := 4) Z .t1)<|y2<|zSr<|zVzFF Zc Z Yc Z Z<|zVzLf X3 Z<|zVGvlenM Zr Z<|zVzAi Z<|z6<|zb<|zw (fun j => Nat.beq j 15) (by kernel_rfl) Z (zu (.rest _))<|zTk 0 Z (yq X6 Y5 Z Z)<|yd (i := 1) Z (by kernel_rfl) (by kernel_rfl) (by kernel_rfl) (by kernel_rfl) (zMb Z)<|yd (i := 2) Z (by kernel_rfl) (by kernel_rfl) (by kernel_rfl) (by kernel_rfl) (zMb Z)<|yz (i := 3) Z Z Z Z (by kernel_rfl) (by kernel_rfl) (by kernel_rfl) (by kernel_rfl) (zMi Z)<|yz (i := 4) Z Z Z Z (by kernel_rfl) (by kernel_rfl) (by kernel_rfl) (by kernel_rfl) (yr Z Z)<|yd (i := 5) Z (by kernel_rfl) (by kernel_rfl) (by kernel_rfl) (by kernel_rfl) (zPt Z Z Z)<|zTk 6 Z (zMb Z)<|yz (i := 7) Z Z Z (by simp) (by kernel_rfl) (by kernel_rfl) (by kernel_rfl) (by kernel_rfl) (zFF Zc Z Yc Z Z)<|yz (i := 8) Z Z Z (by simp) (by kernel_rfl) (by kernel_rfl) (by kernel_rfl) (by kernel_rfl) (zLf X3 Z)<|yz (i := 9) Z Z Z (by simp) (by kernel_rfl) (by kernel_rfl) (by kernel_rfl) (by kernel_rfl) (zMi Z)<|yz (i := 10) Z Z Z (by simp) (by kernel_rfl) (by kernel_rfl) (by kernel_rfl) (by kernel_rfl) (Gv.sub Z Z (by unfold I64; omega))<|yz (i := 11) Z Z Z (by simp) (by kernel_rfl) (by kernel_rfl) (by kernel_rfl) (by kernel_rfl) (zIM done.length Zr Yh Z Z (by simp) (by simp : (done ++ [(h, it)])[done.length]? = some (h, it)))<|yz (i := 12) Z Z Z (by simp) (by kernel_rfl) (by kernel_rfl) (by kernel_rfl) (by kernel_rfl) (zFF Z6 Z Zj Z Z)<|yz (i := 13) Z Z Z (by simp) (by kernel_rfl) (by kernel_rfl) (by kernel_rfl) (by kernel_rfl) (ya (c := .bool _) Yo Z)<|yd (i := 14) Z (by kernel_rfl) (by kernel_rfl) (by kernel_rfl) (by kernel_rfl) (zPt Z (by simp) Z)<|yb<|y7 (i := 15) Z (by kernel_rfl) (by kernel_rfl)<|zm Y5 Z Z Z Z Z Z .head Z<|z6<|y7 (i := 16) Z (by kernel_rfl) (by kernel_rfl)<|zVzAb Z<|z6<|yf (by kernel_rfl)<|ze<|afin.c1t (y := .bool _) Z Z ⟨_, .head⟩ X6 Y5 Z ?_
      exact optG_ret (by rw [hr]; cases h.ended <;> rfl) (fun i hi => by rw [hr] at hi; rw [← opt_eq hi]; rfl)
theorem read_spec (ls : List PLine) (hl : ls.length ≤ 100000) (hw : words ls ≤ 1000000000) (hs : NEL ls) (hL : Letters E) (hT : Pows E) (hV : Vars0 E) :
  AFun prog E 24 [.fro 2 (ls.map encLine)] (.tup [optG encP (readP ls), .bool (readP ls).isSome]) := AFun.optG (readR ls hl hw hs hL hT hV)
end Go.Proofs.YtbkgklpihnfnjaaGreatDoor
namespace Go.Proofs.YtbkgklpihnfnjaaGreatDoor
open Go.Proofs.Tryz
open Go.Proofs Go.Lib Go.Shelf Go.RowKit
set_option maxRecDepth 20000
variable {E : World}
def itemsN (bs : List (PHead × List PItem)) : Nat := (bs.map fun b => b.2.length).sum
def fitsP (S : PProg) : Bool := decide ((S.params.length : Int) ≤ 8) && (decide ((S.params.length : Int) + S.vars.length ≤ 512) && (decide (((blocksOf S).length : Int) ≤ 64) && decide ((itemsN (blocksOf S) : Int) ≤ 1024)))
theorem itemsN_take {bs : List (PHead × List PItem)} {k : Nat} (h : k < bs.length) : itemsN (bs.take (k + 1)) = itemsN (bs.take k) + bs[k].2.length := by
 unfold itemsN; rw [qe h, qo, List.sum_append]; simp only [List.map_cons, List.map_nil, List.sum_cons, List.sum_nil, Nat.add_zero]
theorem itemsN_le {bs : List (PHead × List PItem)} (k : Nat) : itemsN (bs.take k) ≤ itemsN bs := by
 unfold itemsN
 conv => rhs; rw [← List.take_append_drop k bs]
 rw [qo, List.sum_append]; omega
theorem fits_spec (S : PProg) (h1 : S.params.length ≤ 10000000) (h2 : S.vars.length ≤ 10000000000) (h3 : (blocksOf S).length ≤ 10000000) (h4 : itemsN (blocksOf S) ≤ 1000000000000) :
  AFun prog E 25 [encP S] (.bool (fitsP S)) := by
 refine zk func25 Z (by decide) Z<|zSr<|y6 (cs := _) Z Z Z<|zVzAb Z<|z6<|zSr<|zVzAi Z<|z6<|zb<|zSr<|zVzFF Zc Z Yc Z Z<|zVzLf X3 Z<|zVGvlenM Zr Z<|zVzMi Z<|z6<|zg<|y3 (γ := Nat) [1, 7, 8] (fun g => [(9, .int .i64 g), (3, .int .i64 (itemsN ((blocksOf S).take g)))]) (fun g => []) (fun g => g ≤ (blocksOf S).length) (fun g => (blocksOf S).length - g) 0 zR2 zLe (qg _) ?_
 rintro k hk
 refine zSr<|zVGvlss Z Z<|z6<|zb<|zr Z (fun ck=>?_) (fun ck=>?_)
 ·have hk2 : k < (blocksOf S).length := by omega
  have hit := itemsN_take hk2
  have hle := itemsN_le (bs := blocksOf S) k
  have hle2 := itemsN_le (bs := blocksOf S) (k + 1)
  refine zf<|zb<|zg<|zSr<|z8 (yi Zr Yh Z Z Z (qd (by omega)))<|zVGvloadWF isAgg114 Yh Z Z<|zq (cs := [.str ⟨#[]⟩, .raw (.slice none 0 0), .int .i64 0, .str ⟨#[]⟩, .raw (.slice none 0 0), .bool false]) zeroValue114 Z Z<|fun i5 => zm Yh Z Z Z Z Z Z .head Z<|z6<|zRg<|zVzMi Z<|z8 (zc Z6 Z Yd (by decide) Z Z)<|z8 (zj (c := .fro _ _) Xi Z ⟨_, .head⟩ Z)<|zVGvlenM Zz Z<|z8 (Gv.add Z Z (by first | (unfold I64; omega) | (unfold I64; show _ ∧ ((itemsN ((blocksOf S).take k) : Nat) : Int) + (((blocksOf S)[k].2.map encItem).length : Int) ≤ _; rw [qk]; omega)))<|zVzAi Z<|z6<|zRg<|z8 (Gv.add Z Z (by first | (unfold I64; omega) | (unfold I64; show _ ∧ ((itemsN ((blocksOf S).take k) : Nat) : Int) + (((blocksOf S)[k].2.map encItem).length : Int) ≤ _; rw [qk]; omega)))<|zVzMi Z<|z6 ?_
  exact ⟨k + 1, zR3, ⟨rfl, by rw [hit]; exact congrArg (AV.int .i64) (by omega), trivial⟩, ⟨_, (.drop (.refl _)), rfl⟩, hk2, by omega⟩
 ·obtain rfl : k = (blocksOf S).length := by omega
  rw [qi]
  refine y2<|zSr<|zVzFF Zc Z Z9 Z Z<|zVzLf Zn Z<|zVGvlenM js Z<|z8 (Gv.leq Z Z)<|zVzMb Z<|zo (s := 23) Z (fun c1=>?_) (fun c1=>?_)
  ·refine za Z Z c1<|zVzFF Zc Z Z9 Z Z<|za Z Z c1<|zVzLf Zn Z<|za Z Z c1<|zVGvlenM js Z<|za Z Z c1<|zVzFF Zc Z Z9 Z Z<|za Z Z c1<|zVzLf Zn Z<|za Z Z c1<|zVGvlenM js Z<|za Z Z c1<|z8 (Gv.add Z Z (by first | (unfold I64; omega) | (unfold I64; show _ ∧ ((itemsN ((blocksOf S).take k) : Nat) : Int) + (((blocksOf S)[k].2.map encItem).length : Int) ≤ _; rw [qk]; omega)))<|za Z Z c1<|z8 (Gv.leq Z Z)<|zVzPt Z c1 Z<|zVzMb Z<|zo (s := 33) Z (fun c2=>?_) (fun c2=>?_)
   ·refine za Z Z c2<|zVzFF Zc Z Yc Z Z<|za Z Z c2<|zVzLf X3 Z<|za Z Z c2<|zVGvlenM Zr Z<|za Z Z c2<|z8 (Gv.leq Z Z)<|zVzPt Z c2 Z<|zVzMb Z<|zo (s := 39) Z (fun c3=>?_) (fun c3=>?_)
    ·refine za Z Z c3<|zVzMi Z<|za Z Z c3<|z8 (Gv.leq Z Z)<|zVzPt Z c3 Z<|zVzAb Z<|z6<|ze<|zi (x := .bool _) Z ?_
     exact congrArg AV.bool (by unfold fitsP; simp_all <;> omega)
    ·refine z7 Z Z c3<|z7 Z Z c3<|zVzPf Z c3 Z<|zVzAb Z<|z6<|ze<|zi (x := .bool _) Z ?_
     exact congrArg AV.bool (by unfold fitsP; simp_all <;> omega)
   ·refine z7 Z Z c2<|z7 Z Z c2<|z7 Z Z c2<|z7 Z Z c2<|zVzPf Z c2 Z<|zVzMb Z<|z7 Z Z Z<|z7 Z Z Z<|zVzPf Z Z Z<|zVzAb Z<|z6<|ze<|zi (x := .bool _) Z ?_
    exact congrArg AV.bool (by unfold fitsP; simp_all <;> omega)
  ·refine z7 Z Z c1<|z7 Z Z c1<|z7 Z Z c1<|z7 Z Z c1<|z7 Z Z c1<|z7 Z Z c1<|z7 Z Z c1<|z7 Z Z c1<|zVzPf Z c1 Z<|zVzMb Z<|z7 Z Z Z<|z7 Z Z Z<|z7 Z Z Z<|z7 Z Z Z<|zVzPf Z Z Z<|zVzMb Z<|z7 Z Z Z<|z7 Z Z Z<|zVzPf Z Z Z<|zVzAb Z<|z6<|ze<|zi (x := .bool _) Z ?_
   exact congrArg AV.bool (by unfold fitsP; simp_all <;> omega)
def getI (m : List (ByteArray × Int)) (s : ByteArray) : Int := (mget s m).getD 0
def hasM (m : List (ByteArray × Int)) (s : ByteArray) : Bool := (mget s m).isSome
theorem tab_eq {t : Nat} {x y : AV} {l l' : Bool} {m : AObj} (h : l = l') : ([(t, .cells 118 [x, y, .bool l]), (0, m)] : OL) = [(t, .cells 118 [x, y, .bool l']), (0, m)] := by rw [h]
theorem of_tab_spec {t b : Nat} {x y : AV} {es : List (ByteArray × Int)} (lost : Bool) (s : ByteArray) :
  ACall prog E 102 [.po t 0, mref b, .str s] [(t, .cells 118 [x, y, .bool lost]), (0, mapO b es)]
   (fun z O' => z = .int .i64 (getI es s) ∧ O' = [(t, .cells 118 [x, y, .bool (lost || !hasM es s)]), (0, mapO b es)]) := by
 refine zk func102 Z (by decide) Z<|zSr<|zVzAi Z<|z6<|zSr<|z8 (y9 (v := mref _) Z)<|z8 (y9 (v := .str _) Z)<|z8 (Gv.lookupS Yg Z3 Zs Z Z ⟨_, .t1⟩)<|z8 (zMu Z)<|z8 (zXi Z Z)<|z8 (zXb Z Z)<|zVzAi Z<|zVzAb Z<|z6<|zSr<|zVzMp Z<|zVzMp Z<|zVGvnilCheckO Z<|z8 (zc Zp Z Zj (by decide) Z Z)<|z8 (zj (c := .bool _) Yo Z ⟨_, .head⟩ Z)<|zVzMb Z<|zo (s := 20) Z (fun c4=>?_) (fun c4=>?_)
 ·refine z7 Z Z c4<|z7 Z Z c4<|zVzPt Z c4 Z<|zVGvnilCheckO Z<|z8 (zc Zp Z Zj (by decide) Z Z)<|y5 (l := [_]) (new := [_, _, _]) Zj Z Z Z Z Z Z .head Z Z<|z6<|zSr<|zVzMi Z<|zVzAi Z<|z6<|ze<|zi (x := .int _ _) Z ?_
  exact ⟨rfl, tab_eq (by simp_all [hasM])⟩
 ·refine za Z Z c4<|zVzMb Z<|za Z Z c4<|zVGvnot Z<|zVzPf Z c4 Z<|zVGvnilCheckO Z<|z8 (zc Zp Z Zj (by decide) Z Z)<|y5 (l := [_]) (new := [_, _, _]) Zj Z Z Z Z Z Z .head Z Z<|z6<|zSr<|zVzMi Z<|zVzAi Z<|z6<|ze<|zi (x := .int _ _) Z ?_
  exact ⟨rfl, tab_eq (by simp_all [hasM])⟩
theorem put_tab_spec {t b : Nat} {x y : AV} {es : List (ByteArray × Int)} (lost : Bool) (s : ByteArray) :
  ACall prog E 61 [.po t 0, mref b, .str s] [(t, .cells 118 [x, y, .bool lost]), (0, mapO b es)]
   (fun z O' => z = .tup [] ∧ O' = [(t, .cells 118 [x, y, .bool (lost || hasM es s)]), (0, mapO b (mset s es.length es))]) := by
 refine zk func61 Z (by decide) Z<|zSr<|z8 (y9 (v := mref _) Z)<|z8 (y9 (v := .str _) Z)<|z8 (Gv.lookupS Yg Z3 Zs Z Z ⟨_, .t1⟩)<|z8 (zMu Z)<|z8 (zXi Z Z)<|z8 (zXb Z Z)<|zVzAi Z<|zVzAb Z<|z6<|zSr<|zVzMp Z<|zVzMp Z<|zVGvnilCheckO Z<|z8 (zc Zp Z Zj (by decide) Z Z)<|z8 (zj (c := .bool _) Yo Z ⟨_, .head⟩ Z)<|zVzMb Z<|zo (s := 19) Z (fun c5=>?_) (fun c5=>?_)
 ·refine z7 Z Z c5<|zVzPt Z c5 Z<|zVGvnilCheckO Z<|z8 (zc Zp Z Zj (by decide) Z Z)<|y5 (l := [_]) (new := [_, _, _]) Zj Z Z Z Z Z Z .head Z Z<|z6<|zRg<|z8 (y9 (v := mref _) Z)<|z8 (y9 (v := .str _) Z)<|z8 (y9 (v := mref _) Z)<|z8 (Gv.lenMap Yg Z ⟨_, .t1⟩)<|AOps.mapSet Yg Z3 Z Z Z .t1<|z6<|afin.t0 ?_
  exact ⟨rfl, tab_eq (by simp_all [hasM])⟩
 ·refine za Z Z c5<|zVzMb Z<|zVzPf Z c5 Z<|zVGvnilCheckO Z<|z8 (zc Zp Z Zj (by decide) Z Z)<|y5 (l := [_]) (new := [_, _, _]) Zj Z Z Z Z Z Z .head Z Z<|z6<|zRg<|z8 (y9 (v := mref _) Z)<|z8 (y9 (v := .str _) Z)<|z8 (y9 (v := mref _) Z)<|z8 (Gv.lenMap Yg Z ⟨_, .t1⟩)<|AOps.mapSet Yg Z3 Z Z Z .t1<|z6<|afin.t0 ?_
  exact ⟨rfl, tab_eq (by simp_all [hasM])⟩
def dstI (m : List (ByteArray × Int)) (s : ByteArray) : Int := if s = ⟨#[]⟩ then -1 else getI m s
def dstL (m : List (ByteArray × Int)) (s : ByteArray) : Bool := !decide (s = ⟨#[]⟩) && !hasM m s
theorem dst_tab_spec {t b : Nat} {y : AV} {es : List (ByteArray × Int)} (lost : Bool) (s : ByteArray) :
  ACall prog E 100 [.po t 0, .str s] [(t, .cells 118 [mref b, y, .bool lost]), (0, mapO b es)]
   (fun z O' => z = .int .i64 (dstI es s) ∧ O' = [(t, .cells 118 [mref b, y, .bool (lost || dstL es s)]), (0, mapO b es)]) := by
 refine zk func100 Z (by decide) Z<|zSr<|zVzAi Z<|z6<|zb<|zSr<|z8 (y9 (v := .str _) Z)<|z8 (q8 Z Z)<|z6<|zr Z (fun c=>?_) (fun c=>?_)
 ·refine zSr<|zVzAi Z<|z6<|ze<|zi (x := .int _ _) Z ?_
  exact ⟨by unfold dstI; rw [if_pos c], tab_eq (by unfold dstL; rw [qq c]; simp)⟩
 ·refine zf<|zSr<|zVzMp Z<|zVzMp Z<|zVGvnilCheckO Z<|z8 (zc Zp Z X8 (by decide) Z Z)<|z8 (zj (c := mref _) X0 Z ⟨_, .head⟩ Z)<|z8 (y9 (v := .str _) Z)<|ye Z (zu (.rest _)) (of_tab_spec lost s) ?_
  rintro r13 O13 ⟨rfl, rfl⟩
  refine zVzAi Z<|z6<|ze<|zi (x := .int _ _) Z ?_
  exact ⟨by unfold dstI; rw [if_neg c], tab_eq (by unfold dstL; rw [qr c]; simp)⟩
theorem all_eq {i t k : Nat} {x y : AV} {m : AObj} {lost : Bool} {es : List (ByteArray × Int)} {l : List ByteArray} {s : ByteArray} (h : l.take (k + 1) = l.take k ++ [s]) :
  ([(i, .grow 1 3 ((((l.take k).map (getI es)).map encI).flatten ++ [[AV.int .i64 (getI es s)]].flatten)), (t, .cells 118 [x, y, .bool ((lost || (l.take k).any fun s => !hasM es s) || !hasM es s)]), (0, m)] : OL) =
  [(i, .grow 1 3 (((l.take (k + 1)).map (getI es)).map encI).flatten), (t, .cells 118 [x, y, .bool (lost || (l.take (k + 1)).any fun s => !hasM es s)]), (0, m)] := by
 rw [h]; simp [encI, Bool.or_assoc]
theorem all_tab_spec {t b : Nat} {x y : AV} {es : List (ByteArray × Int)} (lost : Bool) (l : List ByteArray) (hl : l.length ≤ 1000000) :
  ACall prog E 101 [.po t 0, mref b, .fro 1 (l.map encS)] [(t, .cells 118 [x, y, .bool lost]), (0, mapO b es)]
   (fun z O' => z = .fro 1 ((l.map (getI es)).map encI) ∧ O' = [(t, .cells 118 [x, y, .bool (lost || l.any fun s => !hasM es s)]), (0, mapO b es)]) := by
 refine zk func101 Z (by decide) Z<|zSr<|zVzAr Z<|z6<|zSr<|zVzAr Z<|z6<|zb<|zSr<|zVzMf Z<|zVGvlenM jh Z<|zVzMi Z<|z6<|zg<|adopt_wp (t := 7) (k := 1) (T := 3) Z<|fun i7 => y3 (γ := Nat × Nat) [0, 1, 10, 11] (fun g => [(12, .int .i64 g.1), (7, .own g.2 g.1)]) (fun g => [(g.2, .grow 1 3 (((l.take g.1).map (getI es)).map encI).flatten), (t, .cells 118 [x, y, .bool (lost || (l.take g.1).any fun s => !hasM es s)]), (0, mapO b es)]) (fun g => g.1 ≤ l.length) (fun g => l.length - g.1) (0, i7) zR2 ⟨_, (.refl _), by simp⟩ (qg _) ?_
 rintro ⟨k, io⟩ hk
 try dsimp only at *
 refine zSr<|zVGvlss Z Z<|z6<|zb<|zr Z (fun ck=>?_) (fun ck=>?_)
 ·have hk2 : k < l.length := by omega
  have hta : l.take (k + 1) = l.take k ++ [l[k]] := qe hk2
  refine zf<|zb<|zg<|zSr<|z8 (yi jh jx Z Z Z (qd (by omega)))<|z8 (ya (c := .str _) Z5 Z)<|z8 (y8 (v := .str _) Z)<|z6<|zRg<|zVzMo Z<|zVzMp Z<|z8 (y9 (v := mref _) Z)<|z8 (y9 (v := .str _) Z)<|ye Z (zu (.r (.l (.l (.rest _))))) (of_tab_spec _ l[k]) ?_
  rintro r20 O20 ⟨rfl, rfl⟩
  refine y1 (zn (zp .t2))<|zl (rows := [[_]]) ps23_1 Z Z Z Z Z<|zy (k := 1) j9 Yx Z Z Z Z Z (fun _ => .head) (by rw [List.map_map, grow_len (k := 1) (fun _ => rfl), qp, Nat.min_eq_left hk]) (by decide) Z (by show (_ + _) * 8 ≤ _; simp <;> omega) (by simp <;> omega)<|fun i22 => zVzAo Z<|z6<|zRg<|zVzAd Z Z<|zVzMi Z<|z6 ?_
  exact ⟨(k + 1, i22), zR4, zR2, ⟨_, (.refl _), all_eq hta⟩, hk2, by dsimp only; omega⟩
 ·obtain rfl : k = l.length := by omega
  rw [qi]
  refine y2<|zSr<|zVzMo Z<|zVzAo Z<|z6<|ze ?_
  repeat (first | refine aseqQ_ret ?_ | refine ablockQ_ret ?_)
  refine GStep.fin (yw (t := 6) (rows := (l.map (getI es)).map encI) Z .head (by first | (intro r hr; obtain ⟨x, _, rfl⟩ := List.mem_map.1 hr; rfl) | simp [encI, encVar, encPhi, encInst, encBlk]) (by decide) (by simp))<|zi (x := .fro _ _) Z ?_
  exact ⟨rfl, rfl⟩
end Go.Proofs.YtbkgklpihnfnjaaGreatDoor
namespace Go.Proofs.YtbkgklpihnfnjaaGreatDoor
open Go.Proofs.Tryz
open Go.Proofs Go.Lib Go.Shelf Go.RowKit
set_option maxRecDepth 20000
variable {E : World}
abbrev NMap := List (ByteArray × Int)
def phiOf (vm bm : NMap) : PItem → Option PPhi
 | .phi d f a => some ⟨dstI vm d, a.map (getI vm), f.map (getI bm)⟩
 | .inst _ _ _ _ => none
def instOfQ (vm : NMap) : PItem → Option PInst
 | .phi _ _ _ => none
 | .inst op d a n => some ⟨op, dstI vm d, a.map (getI vm), n⟩
def lostI (vm bm : NMap) : PItem → Bool
 | .phi d f a => (dstL vm d || a.any fun s => !hasM vm s) || f.any fun s => !hasM bm s
 | .inst _ d a _ => dstL vm d || a.any fun s => !hasM vm s
def termOf (vm bm : NMap) (h : PHead) : PTerm := ⟨h.kind, if h.v = ⟨#[]⟩ then 0 else getI vm h.v, ((h.tos.map (getI bm))[0]?).getD 0, ((h.tos.map (getI bm))[1]?).getD 0⟩
def blockOf (vm bm : NMap) (b : PHead × List PItem) : PBlock := ⟨b.1.name, b.2.filterMap (phiOf vm bm), b.2.filterMap (instOfQ vm), termOf vm bm b.1⟩
def lostBlk (vm bm : NMap) (b : PHead × List PItem) : Bool := ((b.2.any (lostI vm bm)) || (!decide (b.1.v = ⟨#[]⟩) && !hasM vm b.1.v)) || b.1.tos.any fun s => !hasM bm s
theorem makes1_spec (d : ByteArray) (x y : AV) : AFun prog E 245 [.agg [.str d, x, y]] (.str d) := by
 refine zk func245 Z (by decide) Z<|zSr<|y6 (cs := _) Z Z Z<|z8 (y8 (v := .str _) Z)<|z6<|zSr<|zVzFF Zo Z jx Z Z<|z8 (ya (c := .str _) Z5 Z)<|z8 (y8 (v := .str _) Z)<|z6<|ze<|zi (x := .str _) Z ?_
 rfl
theorem makes2_spec (op : Int) (d : ByteArray) (x : AV) (n : Int) : AFun prog E 246 [.agg [.int .i64 op, .str d, x, .int .i64 n]] (.str d) := by
 refine zk func246 Z (by decide) Z<|zSr<|y6 (cs := _) Z Z Z<|z8 (y8 (v := .str _) Z)<|z6<|zSr<|zVzFF Y2 Z jx Z Z<|z8 (ya (c := .str _) Z5 Z)<|z8 (y8 (v := .str _) Z)<|z6<|ze<|zi (x := .str _) Z ?_
 rfl
def tabO (t bv bb : Nat) (vm bm : NMap) (lost : Bool) : OL := [(t, .cells 118 [mref bv, mref bb, .bool lost]), (0, mapO bv vm), (0, mapO bb bm)]
theorem to_cells {c0 c1 c2 c3 c4 : AV} (xs : List Int) (h : xs.length ≤ 2) : ([c0, c1, c2, c3, c4, .int .i64 0, .int .i64 0] : List AV).take 5 ++ xs.map (AV.int .i64) ++ ([c0, c1, c2, c3, c4, .int .i64 0, .int .i64 0] : List AV).drop (5 + xs.length) = [c0, c1, c2, c3, c4, .int .i64 (xs[0]?.getD 0), .int .i64 (xs[1]?.getD 0)] := by
 match xs, h with
 | [], _ => rfl
 | [a], _ => rfl
 | [a, b], _ => rfl
structure ItemsOk (l : List PItem) : Prop where
 len : l.length ≤ 1000000
 args : ∀ x ∈ l, match x with | .phi _ f a => f.length ≤ 1000000 ∧ a.length ≤ 1000000 | .inst _ _ a _ => a.length ≤ 1000000
structure BInv (vm bm : NMap) (items : List PItem) (lost0 : Bool) (k : Nat) (lost : Bool) (phis : List PPhi) (insts : List PInst) : Prop where
 hk : k ≤ items.length
 phis : phis = (items.take k).filterMap (phiOf vm bm)
 insts : insts = (items.take k).filterMap (instOfQ vm)
 lost : lost = (lost0 || (items.take k).any (lostI vm bm))
theorem BInv.le {vm bm : NMap} {items : List PItem} {lost0 : Bool} {k : Nat} {lost : Bool} {phis : List PPhi} {insts : List PInst} (h : BInv vm bm items lost0 k lost phis insts) : phis.length ≤ k ∧ insts.length ≤ k := by
 have h1 := h.hk
 rw [h.phis, h.insts]
 have a := List.length_filterMap_le (phiOf vm bm) (items.take k)
 have b := List.length_filterMap_le (instOfQ vm) (items.take k)
 rw [qp] at a b
 omega
theorem BInv.phi {vm bm : NMap} {items : List PItem} {lost0 : Bool} {k : Nat} {lost : Bool} {phis : List PPhi} {insts : List PInst} {d : ByteArray} {f a : List ByteArray} (h : BInv vm bm items lost0 k lost phis insts) (hx : items[k]? = some (.phi d f a)) :
  BInv vm bm items lost0 (k + 1) (((lost || dstL vm d) || a.any fun s => !hasM vm s) || f.any fun s => !hasM bm s) (phis ++ [⟨dstI vm d, a.map (getI vm), f.map (getI bm)⟩]) insts := by
 obtain ⟨hk, e⟩ := List.getElem?_eq_some_iff.1 hx
 obtain ⟨h1, rfl, rfl, rfl⟩ := h
 have ht : items.take (k + 1) = items.take k ++ [.phi d f a] := by rw [qe hk, e]
 refine ⟨hk, ?_, ?_, ?_⟩ <;> rw [ht]
 ·rw [List.filterMap_append]; rfl
 ·rw [List.filterMap_append]; simp [instOfQ]
 ·rw [List.any_append]; simp [lostI, Bool.or_assoc]
theorem BInv.inst {vm bm : NMap} {items : List PItem} {lost0 : Bool} {k : Nat} {lost : Bool} {phis : List PPhi} {insts : List PInst} {op n : Int} {d : ByteArray} {a : List ByteArray} (h : BInv vm bm items lost0 k lost phis insts) (hx : items[k]? = some (.inst op d a n)) :
  BInv vm bm items lost0 (k + 1) ((lost || dstL vm d) || a.any fun s => !hasM vm s) phis (insts ++ [⟨op, dstI vm d, a.map (getI vm), n⟩]) := by
 obtain ⟨hk, e⟩ := List.getElem?_eq_some_iff.1 hx
 obtain ⟨h1, rfl, rfl, rfl⟩ := h
 have ht : items.take (k + 1) = items.take k ++ [.inst op d a n] := by rw [qe hk, e]
 refine ⟨hk, ?_, ?_, ?_⟩ <;> rw [ht]
 ·rw [List.filterMap_append]; simp [phiOf]
 ·rw [List.filterMap_append]; rfl
 ·rw [List.any_append]; simp [lostI, Bool.or_assoc]
theorem blkV {vm bm : NMap} {h : PHead} {items : List PItem} {v : Int} (hv : v = if h.v = ⟨#[]⟩ then 0 else getI vm h.v) :
  AV.agg [.str h.name, .fro 3 ((items.filterMap (phiOf vm bm)).map encPhi), .fro 4 ((items.filterMap (instOfQ vm)).map encInst), .int .i64 h.kind, .int .i64 v, .int .i64 (((h.tos.map (getI bm))[0]?).getD 0), .int .i64 (((h.tos.map (getI bm))[1]?).getD 0)] = .agg (encBlk (blockOf vm bm (h, items))) := by
 subst hv; rfl
theorem tabO_eq {t bv bb : Nat} {vm bm : NMap} {l l' : Bool} (h : l = l') : tabO t bv bb vm bm l = tabO t bv bb vm bm l' := by rw [h]
set_option maxHeartbeats 1000000 in
theorem blk_tabR {t bv bb : Nat} {vm bm : NMap} (lost : Bool) (h : PHead) (items : List PItem) (hi : ItemsOk items) (ht : h.tos.length ≤ 2) :
  ACall prog E 62 [.po t 0, .agg (encPB (h, items))] (tabO t bv bb vm bm lost)
   (fun z O' => ∃ _g : Unit, z = .agg (encBlk (blockOf vm bm (h, items))) ∧ Left O' (tabO t bv bb vm bm (lost || lostBlk vm bm (h, items))) ∧ True) := by
 refine zk func62 Z (by decide) Z<|zSr<|y6 (cs := _) Z Z Z<|zq (cs := [.str ⟨#[]⟩, .raw (.slice none 0 0), .raw (.slice none 0 0), .int .i64 0, .int .i64 0, .int .i64 0, .int .i64 0]) Zb Z Z<|fun i4 => z6<|zSr<|zVzFF Z6 Z jx Z Z<|z8 (ya (c := .str _) Z5 Z)<|z8 (y4 (cps := [(0, [_])]) (rs := [_, .raw (.slice none 0 0), .raw (.slice none 0 0), .int .i64 0, .int .i64 0, .int .i64 0, .int .i64 0]) pl49 Z Z Z)<|zq (cs := [.str ⟨#[]⟩, .raw (.slice none 0 0), .raw (.slice none 0 0), .int .i64 0, .int .i64 0, .int .i64 0, .int .i64 0]) Zb Z Z<|fun i5 => zm jt Z Z Z Z Z Z .head Z<|z6<|zb<|zSr<|zVzFF Z6 Z Yd Z Z<|zVzLf Xi Z<|zVGvlenM Zz Z<|zVzMi Z<|z6<|zg<|adoptC_wp (off := 1) (k := 3) (T := 60) (fun _ => .head) Z<|fun jp => adoptC_wp (off := 2) (k := 4) (T := 41) (fun _ => .t1) Z<|fun jq => y3 (γ := Nat × Bool × List PPhi × List PInst × Nat × Nat) [0, 3, 4, 5, 16, 17] (fun g => [(18, .int .i64 g.1)]) (fun g => (g.2.2.2.2.2, .grow 4 41 (g.2.2.2.1.map encInst).flatten) :: (g.2.2.2.2.1, .grow 3 60 (g.2.2.1.map encPhi).flatten) :: (i5, .cells 49 [.str h.name, .own g.2.2.2.2.1 g.2.2.1.length, .own g.2.2.2.2.2 g.2.2.2.1.length, .int .i64 0, .int .i64 0, .int .i64 0, .int .i64 0]) :: (i4, .cells 49 [.str ⟨#[]⟩, .raw (.slice none 0 0), .raw (.slice none 0 0), .int .i64 0, .int .i64 0, .int .i64 0, .int .i64 0]) :: tabO t bv bb vm bm g.2.1) (fun g => BInv vm bm items lost g.1 g.2.1 g.2.2.1 g.2.2.2.1) (fun g => items.length - g.1) (0, lost, [], [], jp, jq) zR1 zLe (⟨qg _, Z, Z, by simp⟩) ?_
 rintro ⟨k, lo, phis, insts, jp, jq⟩ hI
 try dsimp only at *
 refine zSr<|zVGvlss Z Z<|z6<|zb<|zr Z (fun ck=>?_) (fun ck=>?_)
 ·have hk2 : k < items.length := by simp at ck; omega
  have hil := hi.len
  have hpl := hI.le
  have hia := hi.args _ (qh hk2)
  have hget : items[k]? = some items[k] := qd hk2
  rcases hx : items[k] with ⟨d, f, a⟩ | ⟨op, d, a, n⟩
  ·rw [hx] at hia hget
   refine zf<|zb<|zg<|zSr<|z8 (zIM k Zz sizeOf161 Z Z Z hget)<|z8 (ya (c := .ifc _ _) isAgg161 Z)<|z8 (y8 (v := .ifc _ _) Z)<|z6<|zSr<|zVzMp Z<|z8 (y9 (v := .ifc _ _) Z)<|AOps.callM (makes1_spec _ _ _) Z (fun _ _ => by kernel_rfl) Z<|ye Z (zu (.r (.r (.r (.r (.l (.l (.r (.rest _))))))))) (dst_tab_spec _ d) ?_
   rintro r25 O25 ⟨rfl, rfl⟩
   refine zVzAi Z<|z6<|zb<|zSr<|z8 (y9 (v := .ifc _ _) Z)<|z8 (Gv.assertT Zo Z Z)<|z8 (zMu Z)<|z8 (yk (v := .agg _) Z Z)<|z8 (zXb Z Z)<|zq (cs := [.str ⟨#[]⟩, .raw (.slice none 0 0), .raw (.slice none 0 0)]) Yu Z Z<|fun i9 => zm sizeOf164 Z Z Z Z Z Z .head Z<|zVzAb Z<|z6<|zSr<|zVzMb Z<|z6<|yh Z Z<|zb<|zw (fun j => Nat.beq j 23) (by kernel_rfl) Z (zu (.r (.l (.l (.l (.l (.r (.rest _))))))))<|zTk 0 Z (zc ja Z Za (by decide) Z Z)<|zTk 1 Z (zj (c := .own _ _) Zu Z ⟨_, .t1⟩ Z)<|zTk 2 Z (zMi Z)<|zTk 3 Z (zMp Z)<|zTk 4 Z (zMp Z)<|zTk 5 Z (yl Z)<|zTk 6 Z (zc Zp Z X8 (by decide) Z Z)<|zTk 8 Z (zc Zo Z Zm (by decide) Z Z)<|zTk 9 Z (zj (c := .fro _ _) Xb Z ⟨_, .head⟩ Z)<|zTk 11 Z (zMp Z)<|zTk 12 Z (zMp Z)<|zTk 13 Z (yl Z)<|zTk 14 Z (zc Zp Z X8 (by decide) Z Z)<|zTk 16 Z (zc Zo Z Zm (by decide) Z Z)<|zTk 17 Z (zj (c := .fro _ _) Xb Z ⟨_, .head⟩ Z)<|yy (i := 7) (j := 15) Z Z (by kernel_rfl) ?_ ?_
   ·refine z8 (zj (c := mref _) X0 Z ⟨_, .head⟩ Z)<|z6<|yy (i := 10) (j := 15) Z Z (by kernel_rfl) ?_ ?_
    ·refine ye Z (zu (.l (.l (.r (.r (.r (.r (.rest _)))))))) (all_tab_spec _ a hia.2) ?_
     rintro r42 O42 ⟨rfl, rfl⟩
     refine z6<|zOn 15 Z<|z8 (zj (c := mref _) X0 Z ⟨_, .head⟩ Z)<|z6<|zOn 18 Z<|ye Z (zu (.l (.r (.r (.r (.r (.l (.rest _)))))))) (all_tab_spec _ f hia.1) ?_
     rintro r50 O50 ⟨rfl, rfl⟩
     refine z6<|zTk 19 Z (y4 (cps := [(0, [_]), (1, [_]), (2, [_])]) (rs := [_, _, _]) pl60 Z Z Z)<|zOn 20 Z<|zl (rows := [[_, _, _]]) ps47_1 Z Z Z Z Z<|z6<|zOn 21 Z<|zy (k := 3) jw type60 Z Z Z Z Z (fun _ => .t4) (by rw [grow_len (k := 3) (fun _ => rfl)]) (by decide) Z (by show (phis.length + 1) * 56 ≤ _; omega) (by show phis.length + 1 ≤ _; omega)<|fun i53 => z6<|zTk 22 Z (zc ja Z Za (by decide) Z Z)<|yb<|y7 (i := 23) Z (by kernel_rfl) (by kernel_rfl)<|y5 (l := [_]) (new := [_, _, _, _, _, _, _]) Za Z Z Z Z Z Z .t1 Z Z<|y1 (zn (zp .t3))<|y1 (zn (zp .t4))<|y1 (zn (zp .t4))<|y1 (zn (zp .t7))<|y1 (zn (zp .t5))<|y1 (zn (zp .t7))<|y1 (zn (zp .t7))<|z6<|yf (by kernel_rfl)<|y2<|zRg<|zVzAd Z Z<|zVzMi Z<|z6 ?_
     exact ⟨(k + 1, (((lo || dstL vm d) || a.any fun s => !hasM vm s) || f.any fun s => !hasM bm s), phis ++ [⟨dstI vm d, a.map (getI vm), f.map (getI bm)⟩], insts, i53, jq), zR6, zR1, ⟨_, (.keep (.keep (.keep (.keep (.keep (.keep (.keep (.drop (.refl _))))))))), by dsimp only; rw [← grow_push (enc := encPhi) (rfl : phis ++ [⟨dstI vm d, a.map (getI vm), f.map (getI bm)⟩] = _), qj]; rfl⟩, hI.phi hget, by dsimp only; omega⟩
    ·refine z8 (zj (c := mref _) X0 Z ⟨_, .head⟩ Z)<|z6<|zOn 10 Z<|ye Z (zu (.l (.l (.r (.r (.r (.r (.rest _)))))))) (all_tab_spec _ a hia.2) ?_
     rintro r42 O42 ⟨rfl, rfl⟩
     refine z6<|zOn 18 Z<|ye Z (zu (.l (.r (.r (.r (.r (.l (.rest _)))))))) (all_tab_spec _ f hia.1) ?_
     rintro r50 O50 ⟨rfl, rfl⟩
     refine z6<|zTk 19 Z (y4 (cps := [(0, [_]), (1, [_]), (2, [_])]) (rs := [_, _, _]) pl60 Z Z Z)<|zOn 20 Z<|zl (rows := [[_, _, _]]) ps47_1 Z Z Z Z Z<|z6<|zOn 21 Z<|zy (k := 3) jw type60 Z Z Z Z Z (fun _ => .t4) (by rw [grow_len (k := 3) (fun _ => rfl)]) (by decide) Z (by show (phis.length + 1) * 56 ≤ _; omega) (by show phis.length + 1 ≤ _; omega)<|fun i53 => z6<|zTk 22 Z (zc ja Z Za (by decide) Z Z)<|yb<|y7 (i := 23) Z (by kernel_rfl) (by kernel_rfl)<|y5 (l := [_]) (new := [_, _, _, _, _, _, _]) Za Z Z Z Z Z Z .t1 Z Z<|y1 (zn (zp .t3))<|y1 (zn (zp .t4))<|y1 (zn (zp .t4))<|y1 (zn (zp .t7))<|y1 (zn (zp .t5))<|y1 (zn (zp .t7))<|y1 (zn (zp .t7))<|z6<|yf (by kernel_rfl)<|y2<|zRg<|zVzAd Z Z<|zVzMi Z<|z6 ?_
     exact ⟨(k + 1, (((lo || dstL vm d) || a.any fun s => !hasM vm s) || f.any fun s => !hasM bm s), phis ++ [⟨dstI vm d, a.map (getI vm), f.map (getI bm)⟩], insts, i53, jq), zR6, zR1, ⟨_, (.keep (.keep (.keep (.keep (.keep (.keep (.keep (.drop (.refl _))))))))), by dsimp only; rw [← grow_push (enc := encPhi) (rfl : phis ++ [⟨dstI vm d, a.map (getI vm), f.map (getI bm)⟩] = _), qj]; rfl⟩, hI.phi hget, by dsimp only; omega⟩
   ·refine z8 (zj (c := mref _) X0 Z ⟨_, .head⟩ Z)<|z6<|zOn 7 Z<|z8 (zj (c := mref _) X0 Z ⟨_, .head⟩ Z)<|z6<|zOn 10 Z<|ye Z (zu (.l (.l (.r (.r (.r (.r (.rest _)))))))) (all_tab_spec _ a hia.2) ?_
    rintro r42 O42 ⟨rfl, rfl⟩
    refine z6<|zOn 18 Z<|ye Z (zu (.l (.r (.r (.r (.r (.l (.rest _)))))))) (all_tab_spec _ f hia.1) ?_
    rintro r50 O50 ⟨rfl, rfl⟩
    refine z6<|zTk 19 Z (y4 (cps := [(0, [_]), (1, [_]), (2, [_])]) (rs := [_, _, _]) pl60 Z Z Z)<|zOn 20 Z<|zl (rows := [[_, _, _]]) ps47_1 Z Z Z Z Z<|z6<|zOn 21 Z<|zy (k := 3) jw type60 Z Z Z Z Z (fun _ => .t4) (by rw [grow_len (k := 3) (fun _ => rfl)]) (by decide) Z (by show (phis.length + 1) * 56 ≤ _; omega) (by show phis.length + 1 ≤ _; omega)<|fun i53 => z6<|zTk 22 Z (zc ja Z Za (by decide) Z Z)<|yb<|y7 (i := 23) Z (by kernel_rfl) (by kernel_rfl)<|y5 (l := [_]) (new := [_, _, _, _, _, _, _]) Za Z Z Z Z Z Z .t1 Z Z<|y1 (zn (zp .t3))<|y1 (zn (zp .t4))<|y1 (zn (zp .t4))<|y1 (zn (zp .t7))<|y1 (zn (zp .t5))<|y1 (zn (zp .t7))<|y1 (zn (zp .t7))<|z6<|yf (by kernel_rfl)<|y2<|zRg<|zVzAd Z Z<|zVzMi Z<|z6 ?_
    exact ⟨(k + 1, (((lo || dstL vm d) || a.any fun s => !hasM vm s) || f.any fun s => !hasM bm s), phis ++ [⟨dstI vm d, a.map (getI vm), f.map (getI bm)⟩], insts, i53, jq), zR6, zR1, ⟨_, (.keep (.keep (.keep (.keep (.keep (.keep (.keep (.drop (.refl _))))))))), by dsimp only; rw [← grow_push (enc := encPhi) (rfl : phis ++ [⟨dstI vm d, a.map (getI vm), f.map (getI bm)⟩] = _), qj]; rfl⟩, hI.phi hget, by dsimp only; omega⟩
  ·rw [hx] at hia hget
   refine zf<|zb<|zg<|zSr<|z8 (zIM k Zz sizeOf161 Z Z Z hget)<|z8 (ya (c := .ifc _ _) isAgg161 Z)<|z8 (y8 (v := .ifc _ _) Z)<|z6<|zSr<|zVzMp Z<|z8 (y9 (v := .ifc _ _) Z)<|AOps.callM (makes2_spec _ _ _ _) Z (fun _ _ => by kernel_rfl) Z<|ye Z (zu (.r (.r (.r (.r (.l (.l (.r (.rest _))))))))) (dst_tab_spec _ d) ?_
   rintro r25 O25 ⟨rfl, rfl⟩
   refine zVzAi Z<|z6<|zb<|zSr<|z8 (y9 (v := .ifc _ _) Z)<|z8 (Gv.assertF (zx := .agg [.str ⟨#[]⟩, .raw (.slice none 0 0), .raw (.slice none 0 0)]) Zo Z Z (Nat.ne_of_beq_eq_false Z) Yu (fun I => ⟨_, Z, lit_reps I [.string ⟨#[]⟩, (.slice none 0 0), (.slice none 0 0)]⟩))<|z8 (zMu Z)<|z8 (yk (v := .agg _) Z Z)<|z8 (zXb Z Z)<|zq (cs := [.str ⟨#[]⟩, .raw (.slice none 0 0), .raw (.slice none 0 0)]) Yu Z Z<|fun i9 => zm sizeOf164 Z Z Z Z Z Z .head Z<|zVzAb Z<|z6<|zSr<|zVzMb Z<|z6<|yc Z Z<|zf<|zSr<|z8 (y9 (v := .ifc _ _) Z)<|z8 (Gv.assert1 Y2 Z Z)<|zq (cs := [.int .i64 0, .str ⟨#[]⟩, .raw (.slice none 0 0), .int .i64 0]) zeroValue168 Z Z<|fun i11 => zm sizeOf168 Z Z Z Z Z Z .head Z<|z6<|zw (fun j => Nat.beq j 19) (by kernel_rfl) Z (zu (.r (.l (.l (.l (.l (.l (.r (.rest _)))))))))<|zTk 0 Z (zc ja Z Zi (by decide) Z Z)<|zTk 1 Z (zj (c := .own _ _) Y1 Z ⟨_, .t1⟩ Z)<|zTk 2 Z (zc Y2 Z Zx (by decide) Z Z)<|zTk 3 Z (zj (c := .int _ _) Y8 Z ⟨_, .head⟩ Z)<|zTk 4 Z (zMi Z)<|zTk 5 Z (zMp Z)<|zTk 6 Z (zMp Z)<|zTk 7 Z (yl Z)<|zTk 8 Z (zc Zp Z X8 (by decide) Z Z)<|zTk 10 Z (zc Y2 Z Zm (by decide) Z Z)<|zTk 11 Z (zj (c := .fro _ _) Xb Z ⟨_, .head⟩ Z)<|zTk 13 Z (zc Y2 Z Yl (by decide) Z Z)<|zTk 14 Z (zj (c := .int _ _) X7 Z ⟨_, .head⟩ Z)<|zOn 9 Z ?_
   refine z8 (zj (c := mref _) X0 Z ⟨_, .t1⟩ Z)<|z6<|zOn 12 Z<|ye Z (zu (.r (.l (.l (.r (.r (.r (.r (.rest _))))))))) (all_tab_spec _ a hia) ?_
   rintro r69 O69 ⟨rfl, rfl⟩
   refine z6<|zTk 15 Z (y4 (cps := [(0, [_]), (1, [_]), (2, [_]), (3, [_])]) (rs := [_, _, _, _]) pl41 Z Z Z)<|zOn 16 Z<|zl (rows := [[_, _, _, _]]) ps42_1 Z Z Z Z Z<|z6<|zOn 17 Z<|zy (k := 4) Z1 type41 Z Z Z Z Z (fun _ => .t3) (by rw [grow_len (k := 4) (fun _ => rfl)]) (by decide) Z (by show (insts.length + 1) * 48 ≤ _; omega) (by show insts.length + 1 ≤ _; omega)<|fun i74 => z6<|zTk 18 Z (zc ja Z Zi (by decide) Z Z)<|yb<|y7 (i := 19) Z (by kernel_rfl) (by kernel_rfl)<|y5 (l := [_]) (new := [_, _, _, _, _, _, _]) Zi Z Z Z Z Z Z .t1 Z Z<|y1 (zn (zp .t8))<|y1 (zn (zp .t4))<|y1 (zn (zp .t4))<|y1 (zn (zp .t8))<|y1 (zn (zp .t5))<|y1 (zn (zp .t8))<|y1 (zn (zp .t8))<|z6<|yf (by kernel_rfl)<|zRg<|zVzAd Z Z<|zVzMi Z<|z6 ?_
   exact ⟨(k + 1, ((lo || dstL vm d) || a.any fun s => !hasM vm s), phis, insts ++ [⟨op, dstI vm d, a.map (getI vm), n⟩], jp, i74), zR6, zR1, ⟨_, (.keep (.keep (.keep (.keep (.keep (.keep (.keep (.drop (.drop (.refl _)))))))))), by dsimp only; rw [← grow_push (enc := encInst) (rfl : insts ++ [⟨op, dstI vm d, a.map (getI vm), n⟩] = _), qj]; rfl⟩, hI.inst hget, by dsimp only; omega⟩
 ·obtain rfl : k = items.length := by have := hI.hk; simp at ck; omega
  refine zt (ym (off := 1) (rows := phis.map encPhi) .t1 .t1 Z (by intro r hr; obtain ⟨x, _, rfl⟩ := List.mem_map.1 hr; rfl) (by decide) (by simp))<|zt (ym (off := 2) (rows := insts.map encInst) .head .head Z (by intro r hr; obtain ⟨x, _, rfl⟩ := List.mem_map.1 hr; rfl) (by decide) (by simp)) ?_
  have hph : phis = items.filterMap (phiOf vm bm) := by have := hI.phis; rwa [qi] at this
  have hin : insts = items.filterMap (instOfQ vm) := by have := hI.insts; rwa [qi] at this
  have hlo : lo = (lost || items.any (lostI vm bm)) := by have := hI.lost; rwa [qi] at this
  refine y2<|zSr<|zVzFF Z6 Z Zl Z Z<|zVzLi Y0 Z<|z8 (zc ja Z Z4 (by decide) Z Z)<|z8 (zc je Z Zl (by decide) Z Z)<|y5 (l := [_]) (new := [_, _, _, _, _, _, _]) Zl Z Z Z Z Z Z .head Z Z<|z6<|zb<|zSr<|zVzFF Z6 Z jx Z Z<|z8 (ya (c := .str _) Z5 Z)<|z8 (Gv.neqT Z Z)<|z6<|zz Z (fun cv=>?_) (fun cv=>?_)
  ·have hv : ¬ h.v = ⟨#[]⟩ := by simpa using cv
   refine zw (fun j => Nat.beq j 10) (by kernel_rfl) Z (zu (.rest _))<|zTk 0 Z (zMp Z)<|zTk 1 Z (zMp Z)<|zTk 2 Z (yl Z)<|zTk 3 Z (zc Zp Z X8 (by decide) Z Z)<|zTk 5 Z (zFF Z6 Z jx Z Z)<|zTk 6 Z (ya (c := .str _) Z5 Z)<|zOn 4 Z<|z8 (zj (c := mref _) X0 Z ⟨_, .t2⟩ Z)<|z6<|zOn 7 Z<|ye Z (zu (.r (.r (.l (.l (.r (.rest _))))))) (of_tab_spec _ h.v) ?_
   rintro r91 O91 ⟨rfl, rfl⟩
   refine z6<|yd (i := 8) Z (by kernel_rfl) (by kernel_rfl) (by kernel_rfl) (by kernel_rfl) (zc ja Z Z4 (by decide) Z Z)<|zTk 9 Z (zc je Z jd (by decide) Z Z)<|yb<|y7 (i := 10) Z (by kernel_rfl) (by kernel_rfl)<|y5 (l := [_]) (new := [_, _, _, _, _, _, _]) jd Z Z Z Z Z Z .t2 Z Z<|z6<|yf (by kernel_rfl)<|zb<|zw (fun j => false) (by kernel_rfl) Z (zu (.rest _))<|zTk 0 Z (zc ja Z Z4 (by decide) Z Z)<|zTk 1 Z (zc je Z Z8 (by decide) Z Z)<|zTk 2 Z (Gv.cutArr jy jd (by decide) Z)<|zTk 3 Z (zMp Z)<|zTk 4 Z (zMp Z)<|zTk 5 Z (yl Z)<|zTk 6 Z (zc Zp Z X8 (by decide) Z Z)<|zTk 8 Z (zFF Z6 Z Zm Z Z)<|zTk 9 Z (zLf Xb Z)<|zOn 7 Z<|z8 (zj (c := mref _) X0 Z ⟨_, .head⟩ Z)<|z6<|zOn 10 Z<|ye Z (zu (.l (.r (.r (.r (.l (.rest _))))))) (all_tab_spec _ h.tos (by omega)) ?_
   rintro r104 O104 ⟨rfl, rfl⟩
   refine z6<|zOn 11 Z<|AOps.copyA (new := _) j9 jd Z Z (by rw [qk]; exact ht) .t3 (by rw [qk]; show 5 + h.tos.length ≤ 7; omega) (to_cells _ (by rw [qk]; exact ht))<|z6<|zDn<|zSr<|z8 (yg Zq jt Z ⟨_, .t3⟩ Z)<|zm jt Z Z Z Z Z Z .t4 Z<|z6<|zt (zn (zp .t1))<|zt (zn (zp .t2))<|zt (zn (zp .t2))<|zt (zn (zp .t3))<|zt (zn (zp .t4))<|ze<|afin.c1 Z ⟨_, .head⟩ Zq jt Z ?_
   exact ⟨(), by rw [hph, hin]; exact blkV (by rw [if_neg hv]), ⟨_, .drop (.drop (.refl _)), tabO_eq (by rw [hlo]; unfold lostBlk; rw [qr hv]; simp [Bool.or_assoc])⟩, trivial⟩
  ·have hv : h.v = ⟨#[]⟩ := by simpa using cv
   refine zf<|zb<|zw (fun j => false) (by kernel_rfl) Z (zu (.rest _))<|zTk 0 Z (zc ja Z Z4 (by decide) Z Z)<|zTk 1 Z (zc je Z Z8 (by decide) Z Z)<|zTk 2 Z (Gv.cutArr jy jd (by decide) Z)<|zTk 3 Z (zMp Z)<|zTk 4 Z (zMp Z)<|zTk 5 Z (yl Z)<|zTk 6 Z (zc Zp Z X8 (by decide) Z Z)<|zTk 8 Z (zFF Z6 Z Zm Z Z)<|zTk 9 Z (zLf Xb Z)<|zOn 7 Z<|z8 (zj (c := mref _) X0 Z ⟨_, .t2⟩ Z)<|z6<|zOn 10 Z<|ye Z (zu (.r (.r (.l (.r (.l (.rest _))))))) (all_tab_spec _ h.tos (by omega)) ?_
   rintro r104 O104 ⟨rfl, rfl⟩
   refine z6<|zOn 11 Z<|AOps.copyA (new := _) j9 jd Z Z (by rw [qk]; exact ht) .t2 (by rw [qk]; show 5 + h.tos.length ≤ 7; omega) (to_cells _ (by rw [qk]; exact ht))<|z6<|zDn<|zSr<|z8 (yg Zq jt Z ⟨_, .t2⟩ Z)<|zm jt Z Z Z Z Z Z .t3 Z<|z6<|zt (zn (zp .t1))<|zt (zn (zp .t4))<|zt (zn (zp .t2))<|zt (zn (zp .t3))<|zt (zn (zp .t4))<|ze<|afin.c1 Z ⟨_, .head⟩ Zq jt Z ?_
   exact ⟨(), by rw [hph, hin]; exact blkV (by rw [if_pos hv]), ⟨_, .drop (.drop (.refl _)), tabO_eq (by rw [hlo]; unfold lostBlk; rw [qq hv]; simp [Bool.or_assoc])⟩, trivial⟩
theorem blk_tab_spec {t bv bb : Nat} {vm bm : NMap} (lost : Bool) (h : PHead) (items : List PItem) (hi : ItemsOk items) (ht : h.tos.length ≤ 2) :
  ACall prog E 62 [.po t 0, .agg (encPB (h, items))] (tabO t bv bb vm bm lost)
   (fun z O' => z = .agg (encBlk (blockOf vm bm (h, items))) ∧ O' = tabO t bv bb vm bm (lost || lostBlk vm bm (h, items))) :=
 (ACall.exact (x := fun _ : Unit => .agg (encBlk (blockOf vm bm (h, items)))) (M := fun _ => tabO t bv bb vm bm (lost || lostBlk vm bm (h, items))) (p := fun _ => True) (blk_tabR lost h items hi ht)).mono fun _ _ ⟨_, h1, h2, _⟩ => ⟨h1, h2⟩
end Go.Proofs.YtbkgklpihnfnjaaGreatDoor
namespace Go.Proofs.YtbkgklpihnfnjaaGreatDoor
open Go.Proofs.Tryz
open Go.Proofs Go.Lib Go.Shelf Go.RowKit
set_option maxRecDepth 20000
variable {E : World}
theorem growV_spec (n : Nat) (hn : n ≤ 1000000000) : ACall prog E 99 [.raw (.slice none 0 0), .int .i64 n] []
  (fun x O' => ∃ i : Nat, x = .own i 0 ∧ O' = [(i, .grow 2 38 [])]) := by
 refine zk func99 Z (by decide) Z<|zSr<|zVzAr Z<|z6<|zb<|zSr<|zVzMi Z<|zVGvlss Z Z<|z6<|yc Z (by simp)<|zf<|zb<|zSr<|zVzMi Z<|z8 (y9 (v := .raw _) Z)<|z8 (Gv.capN js Z)<|z8 (y9 (v := .raw _) Z)<|z8 (Gv.lenR js Z)<|z8 (Gv.sub Z Z (by unfold I64; omega))<|z8 (Gv.sub Z Z (by unfold I64; omega))<|zVzAi Z<|z6<|zSr<|zVzMi Z<|z8 (yr Z Z)<|z6<|zr Z (fun c0=>?_) (fun c0=>?_)
 ·refine zRg<|z8 (y9 (v := .raw _) Z)<|z8 (y9 (v := .raw _) Z)<|z8 (Gv.capN js Z)<|z8 (Gv.cutN js Zd Z Z)<|zVzMi Z<|AOps.appendZ (n := n) (k := 2) js Zg type38 Z Z Z (by decide) Z Z (by omega) (by decide) (by show n * 24 ≤ _; omega) (by omega) ?_
  intro i22 cs22
  refine z8 (y9 (v := .raw _) Z)<|z8 (Gv.lenR js Z)<|AOps.cut0 js Zd Z Z .head<|zVzAo Z<|z6<|zSr<|zVzMo Z<|zVzAo Z<|z6<|ze<|zi (x := .own _ _) Z ?_
  exact ⟨i22, rfl, rfl⟩
 ·refine zf<|zSr<|z8 (y9 (v := .raw _) Z)<|zVzAr Z<|z6<|adopt_wp (t := 4) (k := 2) (T := 38) Z<|fun i4 => ze<|zi (x := .own _ _) Z ?_
  exact ⟨i4, rfl, rfl⟩
def encVL (l : List PVar) : List AV := [.fro 2 (l.map encVar)]
def lenVL (xs : List (List PVar)) : Nat := (xs.map List.length).sum
theorem lenVL_take {xs : List (List PVar)} {k : Nat} (h : k < xs.length) : lenVL (xs.take (k + 1)) = lenVL (xs.take k) + xs[k].length := by
 unfold lenVL; rw [qe h, qo, List.sum_append]; simp only [List.map_cons, List.map_nil, List.sum_cons, List.sum_nil, Nat.add_zero]
theorem lenVL_le {xs : List (List PVar)} (k : Nat) : lenVL (xs.take k) ≤ lenVL xs := by
 unfold lenVL
 conv => rhs; rw [← List.take_append_drop k xs]
 rw [qo, List.sum_append]; omega
theorem flat_lenVL (xs : List (List PVar)) : xs.flatten.length = lenVL xs := by unfold lenVL; rw [List.length_flatten]
theorem flat_take {xs : List (List PVar)} {k : Nat} (h : k < xs.length) : ((xs.take (k + 1)).flatten.map encVar).flatten = ((xs.take k).flatten.map encVar).flatten ++ (xs[k].map encVar).flatten := by
 rw [qe h, List.flatten_append, qo, List.flatten_append]; simp
theorem concatV_spec (xs : List (List PVar)) (hl : xs.length ≤ 100000) (hn : lenVL xs ≤ 1000000000) : AFun prog E 60 [.fro 1 (xs.map encVL)] (.fro 2 (xs.flatten.map encVar)) := by
 refine zk func60 Z (by decide) Z<|zSr<|zVzAr Z<|z6<|zSr<|zVzAi Z<|z6<|zb<|zSr<|zVzMf Z<|zVGvlenM underlying158 Z<|zVzMi Z<|z6<|zg<|y3 (γ := Nat) [0, 9, 10] (fun g => [(11, .int .i64 g), (3, .int .i64 (lenVL (xs.take g)))]) (fun g => []) (fun g => g ≤ xs.length) (fun g => xs.length - g) 0 zR2 zLe (qg _) ?_
 rintro k hk
 refine zSr<|zVGvlss Z Z<|z6<|zb<|zr Z (fun ck=>?_) (fun ck=>?_)
 ·have hk2 : k < xs.length := by omega
  have hit := lenVL_take hk2
  have hle := lenVL_le (xs := xs) k
  have hle2 := lenVL_le (xs := xs) (k + 1)
  refine zf<|zb<|zg<|zSr<|z8 (yi underlying158 Z9 Z Z Z (qd (by omega)))<|zVzLf Zn Z<|z8 (zAf Z)<|z6<|zSr<|zVzMi Z<|zVzMf Z<|zVGvlenM js Z<|z8 (Gv.add Z Z (by first | (unfold I64; omega) | (unfold I64; show _ ∧ ((lenVL (xs.take k) : Nat) : Int) + ((xs[k].map encVar).length : Int) ≤ _; rw [qk]; omega)))<|zVzAi Z<|z6<|zSr<|zVzMi Z<|zVGvlss Z Z<|z6<|yc Z (by simp; omega)<|zf<|zRg<|z8 (Gv.add Z Z (by first | (unfold I64; omega) | (unfold I64; show _ ∧ ((lenVL (xs.take k) : Nat) : Int) + ((xs[k].map encVar).length : Int) ≤ _; rw [qk]; omega)))<|zVzMi Z<|z6 ?_
  exact ⟨k + 1, zR3, ⟨rfl, by rw [hit]; exact congrArg (AV.int .i64) (by omega), trivial⟩, zLe, hk2, by omega⟩
 ·obtain rfl : k = xs.length := by omega
  rw [qi]
  refine y2<|zSr<|zVzMi Z<|ye Z (zu (.rest _)) (growV_spec (lenVL xs) hn) ?_
  rintro r24 O24 ⟨j0, rfl, rfl⟩
  refine zVzAo Z<|z6<|zb<|zSr<|zVzMf Z<|zVGvlenM underlying158 Z<|zVzMi Z<|z6<|zg<|y3 (γ := Nat × Nat) [25, 26] (fun g => [(27, .int .i64 g.1), (6, .own g.2 (xs.take g.1).flatten.length)]) (fun g => [(g.2, .grow 2 38 ((xs.take g.1).flatten.map encVar).flatten)]) (fun g => g.1 ≤ xs.length) (fun g => xs.length - g.1) (0, j0) zR2 zLe (qg _) ?_
  rintro ⟨k, io⟩ hk
  try dsimp only at *
  refine zSr<|zVGvlss Z Z<|z6<|zb<|zr Z (fun ck=>?_) (fun ck=>?_)
  ·have hk2 : k < xs.length := by omega
   have hit := lenVL_take hk2
   have hle := lenVL_le (xs := xs) (k + 1)
   refine zf<|zb<|zg<|zSr<|z8 (yi underlying158 Z9 Z Z Z (qd (by omega)))<|zVzLf Zn Z<|z8 (zAf Z)<|z6<|zRg<|zVzMo Z<|zVzMf Z<|zy (k := 2) js type38 Z Z Z Z Z (fun _ => .head) (by rw [grow_len (k := 2) (fun _ => rfl)]) (by decide) (allVar _) (by show ((xs.take k).flatten.length + (xs[k].map encVar).length) * 24 ≤ _; rw [flat_lenVL, qk]; omega) (by show (xs.take k).flatten.length + (xs[k].map encVar).length ≤ _; rw [flat_lenVL, qk]; omega)<|fun i33 => zVzAo Z<|z6<|zRg<|z8 (Gv.add Z Z (by first | (unfold I64; omega) | (unfold I64; show _ ∧ ((lenVL (xs.take k) : Nat) : Int) + ((xs[k].map encVar).length : Int) ≤ _; rw [qk]; omega)))<|zVzMi Z<|z6 ?_
   exact ⟨(k + 1, i33), zR2, ⟨rfl, congrArg (AV.own _) (by rw [flat_lenVL, flat_lenVL, hit]; simp), trivial⟩, ⟨_, (.refl _), by dsimp only; rw [flat_take hk2]⟩, hk2, by dsimp only; omega⟩
  ·obtain rfl : k = xs.length := by omega
   rw [qi]
   generalize xs.flatten = ys
   refine y2<|zSr<|zVzMo Z<|zVzAo Z<|z6<|ze ?_
   repeat (first | refine aseqQ_ret ?_ | refine ablockQ_ret ?_)
   refine GStep.fin (yw (t := 2) (rows := ys.map encVar) Z .head (by first | (intro r hr; obtain ⟨x, _, rfl⟩ := List.mem_map.1 hr; rfl) | simp [encI, encVar, encPhi, encInst, encBlk]) (by decide) (by simp))<|zi (x := .fro _ _) Z ?_
   rfl
end Go.Proofs.YtbkgklpihnfnjaaGreatDoor
