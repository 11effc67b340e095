/- The document's machine: is there a place, does a check pass. Of programs as they are run. -/
import Derived.Test.YtiojekbkamegdaaGreatDoorZh
import Derived.Test.YtiojekbkamegdaaGreatDoorZo
import Derived.Test.YtiojekbkamegdaaGreatDoorZn
import Derived.Test.YtiojekbkamegdaaGreatDoorZd
import Derived.Test.YtiojekbkamegdaaGreatDoorZe
set_option linter.unusedVariables false
set_option linter.unusedSimpArgs false
set_option linter.unusedSectionVars false
namespace Go.Proofs.YtiojekbkamegdaaGreatDoor
open Go.Proofs.Tryz
structure GS where
 ints : List Int
 bools : List Bool
 arrs : List Int
 arrays : List (List Int)
 blk : Int
 pc : Nat
 en : Int
 val : Int
 tr : Int
 trace : List Int
 st : Nat
 ck : Nat → Nat
 ended : Bool
structure PArg where
 int : Int
 b : Bool
 arr : Int
structure PIn where
 args : List PArg
 arrays : List (List Int)
def vi (l : List Int) (v : Int) : Int := (l[v.toNat]?).getD 0
def ar0 (x : PInst) : Int := (x.args[0]?).getD 0
def ar1 (x : PInst) : Int := (x.args[1]?).getD 0
def ar2 (x : PInst) : Int := (x.args[2]?).getD 0
def rowG (s : GS) (a : Int) : List Int := (s.arrays[a.toNat]?).getD []
def placeG (s : GS) (a i : Int) : Bool := decide (0 ≤ a ∧ a < s.arrays.length ∧ 0 ≤ i ∧ i < (rowG s a).length)
def bIf (l : List Int) (ints : List Int) : Int := if 1 < l.length then vi ints ((l[1]?).getD 0) else 0
def passG (s : GS) (op : Int) (l : List Int) : Bool :=
 if op = 18 then placeG s (vi s.arrs ((l[0]?).getD 0)) (bIf l s.ints)
 else if op = 19 then decide (0 ≤ vi s.arrs ((l[0]?).getD 0))
 else if op = 20 then decide (vi s.ints ((l[0]?).getD 0) ≠ 0)
 else if op = 21 then decide (fit3 0 (vi s.ints ((l[0]?).getD 0)) (bIf l s.ints))
 else if op = 22 then decide (fit3 1 (vi s.ints ((l[0]?).getD 0)) (bIf l s.ints))
 else if op = 23 then decide (fit3 2 (vi s.ints ((l[0]?).getD 0)) (bIf l s.ints))
 else decide (0 ≤ vi s.ints ((l[0]?).getD 0) ∧ vi s.ints ((l[0]?).getD 0) ≤ 64)
def bumpG (s : GS) (t : Nat) : GS := { s with ck := fun i => if i = t then s.ck i + 1 else s.ck i }
def stopG (s : GS) (e : Int) : GS := { s with en := e, ended := true }
def trapG (s : GS) (t : Int) : GS := { s with en := 1, tr := t, ended := true }
def stI (s : GS) (d v : Int) : GS := { s with ints := s.ints.set d.toNat v }
def stB (s : GS) (d : Int) (v : Bool) : GS := { s with bools := s.bools.set d.toNat v }
def stA (s : GS) (d v : Int) : GS := { s with arrs := s.arrs.set d.toNat v }
def quoG (a b : Int) : Int := IntKind.i64.wrap (a.tdiv b)
def remG (a b : Int) : Int := if b = -1 then 0 else IntKind.i64.wrap (a - IntKind.i64.wrap (IntKind.i64.wrap (a.tdiv b) * b))
def aG (s : GS) (x : PInst) : Int := vi s.ints (ar0 x)
def bG (s : GS) (x : PInst) : Int := vi s.ints (ar1 x)
def pG (s : GS) (x : PInst) : Bool := gb s.bools (ar0 x)
def qG (s : GS) (x : PInst) : Bool := gb s.bools (ar1 x)
def rG (s : GS) (x : PInst) : Int := vi s.arrs (ar0 x)
def doG (s : GS) (x : PInst) : GS :=
 if x.op = 0 then stI s x.dst x.num
 else if x.op = 1 ∨ x.op = 25 ∨ x.op = 26 then stA (stB (stI s x.dst (aG s x)) x.dst (pG s x)) x.dst (rG s x)
 else if x.op = 2 then stI s x.dst (IntKind.i64.wrap (op3 0 (aG s x) (bG s x)))
 else if x.op = 3 then stI s x.dst (IntKind.i64.wrap (op3 1 (aG s x) (bG s x)))
 else if x.op = 4 then stI s x.dst (IntKind.i64.wrap (op3 2 (aG s x) (bG s x)))
 else if x.op = 5 then (if bG s x = 0 then stopG s 2 else stI s x.dst (quoG (aG s x) (bG s x)))
 else if x.op = 6 then (if bG s x = 0 then stopG s 2 else stI s x.dst (remG (aG s x) (bG s x)))
 else if x.op = 7 then stB s x.dst (decide (aG s x = bG s x))
 else if x.op = 8 then stB s x.dst (decide (aG s x < bG s x))
 else if x.op = 9 then stB s x.dst (decide (aG s x ≤ bG s x))
 else if x.op = 10 then stB s x.dst (!pG s x)
 else if x.op = 11 then stB s x.dst (pG s x && qG s x)
 else if x.op = 12 then (if rG s x < 0 then stopG s 2 else stI s x.dst ((rowG s (rG s x)).length))
 else if x.op = 13 then (if placeG s (rG s x) (bG s x) = true then stI s x.dst (vi (rowG s (rG s x)) (bG s x)) else stopG s 2)
 else if x.op = 14 then (if placeG s (rG s x) (bG s x) = true then { s with arrays := s.arrays.set (rG s x).toNat ((rowG s (rG s x)).set (bG s x).toNat (vi s.ints (ar2 x))) } else stopG s 2)
 else if x.op = 15 then (if aG s x < 0 ∨ 64 < aG s x then stopG s 2 else if 32 ≤ s.arrays.length then stopG s 3 else stA { s with arrays := s.arrays ++ [List.replicate (aG s x).toNat 0] } x.dst s.arrays.length)
 else if x.op = 16 then stA s x.dst (-1)
 else (if 4096 ≤ s.trace.length then stopG s 3 else { s with trace := s.trace ++ [aG s x] })
def instG (s : GS) (x : PInst) : GS :=
 if 18 ≤ x.op ∧ x.op ≤ 24 then (if passG s x.op x.args = true then bumpG s (x.op - 17).toNat else trapG (bumpG s (x.op - 17).toNat) (x.op - 17))
 else doG s x
def blkG (f : PFunc) (b : Int) : PBlock := (f.blocks[b.toNat]?).getD ⟨⟨#[]⟩, [], [], ⟨2, 0, 0, 0⟩⟩
def phiAt (p : PPhi) (b : Int) : Int := ((p.from_.zip p.args).find? fun q => decide (q.1 = b)).elim (-1) (·.2)
def assign (s t : GS) (p : PPhi) : GS := stA (stB (stI t p.dst (vi s.ints (phiAt p s.blk))) p.dst (gb s.bools (phiAt p s.blk))) p.dst (vi s.arrs (phiAt p s.blk))
def goG (s : GS) (to : Int) : GS := { s with blk := to, pc := 0 }
def enterG (f : PFunc) (s : GS) (to : Int) : GS :=
 if (blkG f to).phis.all (fun p => decide (0 ≤ phiAt p s.blk)) = true then goG ((blkG f to).phis.foldl (assign s) s) to else stopG (goG s to) 2
def nextG (f : PFunc) (s : GS) : Int := if (blkG f s.blk).term.kind = 0 ∨ gb s.bools (blkG f s.blk).term.var = true then (blkG f s.blk).term.to0 else (blkG f s.blk).term.to1
def stepG (f : PFunc) (s : GS) : GS :=
 match (blkG f s.blk).insts[s.pc]? with
 | some x => instG { s with pc := s.pc + 1, st := s.st + 1 } x
 | none => if (blkG f s.blk).term.kind = 2 then stopG { s with st := s.st + 1, val := vi s.ints (blkG f s.blk).term.var } 0 else enterG f { s with st := s.st + 1 } (nextG f s)
def runG (f : PFunc) : Nat → GS → GS
 | 0, s => s
 | k + 1, s => if s.ended = true then s else runG f k (stepG f s)
def tyL (f : PFunc) (i : Nat) : Int := ((f.vars[i]?).map (·.ty)).getD 0
def begI (f : PFunc) (i : Nat) (a : PArg) : Int := if tyL f i = 0 then a.int else 0
def begB (f : PFunc) (i : Nat) (a : PArg) : Bool := if tyL f i = 0 then false else if tyL f i = 1 then a.b else false
def begA (f : PFunc) (i : Nat) (a : PArg) : Int := if tyL f i = 0 then -1 else if tyL f i = 1 then -1 else a.arr
def fillW {α β : Type} (g : Nat → α → β) (d : β) (n : Nat) (l : List α) : List β := l.zipIdx.map (fun q => g q.2 q.1) ++ List.replicate (n - l.length) d
def begG (f : PFunc) (i : PIn) : GS := ⟨fillW (begI f) 0 f.vars.length i.args, fillW (begB f) false f.vars.length i.args, fillW (begA f) (-1) f.vars.length i.args, i.arrays, 0, 0, 3, 0, 0, [], 0, fun _ => 0, false⟩
structure GInv (f : PFunc) (s : GS) : Prop where
 li : s.ints.length = f.vars.length
 lb : s.bools.length = f.vars.length
 la : s.arrs.length = f.vars.length
 i64 : ∀ x ∈ s.ints, is64 x
 arr : ∀ x ∈ s.arrs, -1 ≤ x ∧ x < s.arrays.length
 ls : s.arrays.length ≤ 40
 lr : ∀ r ∈ s.arrays, r.length ≤ 100
 r64 : ∀ r ∈ s.arrays, ∀ x ∈ r, is64 x
 lt : s.trace.length ≤ 4096
 b0 : 0 ≤ s.blk
 b1 : s.blk < f.blocks.length
 pc : s.pc ≤ (blkG f s.blk).insts.length
theorem vi_get {l : List Int} {v : Int} (h1 : v < l.length) (h0 : 0 ≤ v) : l[v.toNat]? = some (vi l v) := by
 unfold vi; rw [qq (by omega)]; rfl
theorem vi_mem {l : List Int} {v : Int} (h1 : v < l.length) (h0 : 0 ≤ v) : vi l v ∈ l := qy (vi_get h1 h0)
theorem vi_64 {l : List Int} {v : Int} (h : ∀ x ∈ l, is64 x) : is64 (vi l v) := by
 unfold vi
 cases e : l[v.toNat]? with
 | none => exact ⟨by decide, by decide⟩
 | some x => exact h x (qy e)
theorem row_get {s : GS} {a : Int} (h0 : 0 ≤ a) (h1 : a < s.arrays.length) : s.arrays[a.toNat]? = some (rowG s a) := by
 unfold rowG; rw [qq (by omega)]; rfl
theorem row_mem {s : GS} {a : Int} (h0 : 0 ≤ a) (h1 : a < s.arrays.length) : rowG s a ∈ s.arrays := qy (row_get h0 h1)
theorem mem_set_or {α : Type} {l : List α} {n : Nat} {a x : α} (h : x ∈ l.set n a) : x ∈ l ∨ x = a := List.mem_or_eq_of_mem_set h
theorem GInv.stI {f : PFunc} {s : GS} (h : GInv f s) {d v : Int} (hv : is64 v) : GInv f (stI s d v) :=
 ⟨by simp [Go.Proofs.YtiojekbkamegdaaGreatDoor.stI, h.li], h.lb, h.la, fun x hx => (mem_set_or hx).elim (h.i64 x) (fun e => e ▸ hv), h.arr, h.ls, h.lr, h.r64, h.lt, h.b0, h.b1, h.pc⟩
theorem GInv.stB {f : PFunc} {s : GS} (h : GInv f s) {d : Int} {v : Bool} : GInv f (stB s d v) :=
 ⟨h.li, by simp [Go.Proofs.YtiojekbkamegdaaGreatDoor.stB, h.lb], h.la, h.i64, h.arr, h.ls, h.lr, h.r64, h.lt, h.b0, h.b1, h.pc⟩
theorem GInv.stA {f : PFunc} {s : GS} (h : GInv f s) {d v : Int} (hv : -1 ≤ v ∧ v < s.arrays.length) : GInv f (stA s d v) :=
 ⟨h.li, h.lb, by simp [Go.Proofs.YtiojekbkamegdaaGreatDoor.stA, h.la], h.i64, fun x hx => (mem_set_or hx).elim (h.arr x) (fun e => e ▸ hv), h.ls, h.lr, h.r64, h.lt, h.b0, h.b1, h.pc⟩
theorem GInv.stop {f : PFunc} {s : GS} (h : GInv f s) (e : Int) : GInv f (stopG s e) := ⟨h.li, h.lb, h.la, h.i64, h.arr, h.ls, h.lr, h.r64, h.lt, h.b0, h.b1, h.pc⟩
theorem GInv.trap {f : PFunc} {s : GS} (h : GInv f s) (t : Int) : GInv f (trapG s t) := ⟨h.li, h.lb, h.la, h.i64, h.arr, h.ls, h.lr, h.r64, h.lt, h.b0, h.b1, h.pc⟩
theorem GInv.bump {f : PFunc} {s : GS} (h : GInv f s) (t : Nat) : GInv f (bumpG s t) := ⟨h.li, h.lb, h.la, h.i64, h.arr, h.ls, h.lr, h.r64, h.lt, h.b0, h.b1, h.pc⟩
theorem arr_at {f : PFunc} {s : GS} (h : GInv f s) {v : Int} (h1 : v < f.vars.length) (h0 : 0 ≤ v) : -1 ≤ vi s.arrs v ∧ vi s.arrs v < s.arrays.length :=
 h.arr _ (vi_mem (by rw [h.la]; exact h1) h0)
theorem arr_any {f : PFunc} {s : GS} (h : GInv f s) {v : Int} (hn : v < f.vars.length ∧ 0 ≤ v) : -1 ≤ vi s.arrs v ∧ vi s.arrs v < s.arrays.length := arr_at h hn.1 hn.2
theorem place_iff {s : GS} {a i : Int} : placeG s a i = true ↔ 0 ≤ a ∧ a < s.arrays.length ∧ 0 ≤ i ∧ i < (rowG s a).length := by unfold placeG; rw [decide_eq_true_eq]
theorem wrap_64 (x : Int) : is64 (IntKind.i64.wrap x) := by
 rw [wrap_s]; unfold is64; omega
theorem rem_64 (a b : Int) : is64 (remG a b) := by
 unfold remG; split
 ·exact ⟨by decide, by decide⟩
 ·exact wrap_64 _
theorem has_lt {f : PFunc} {v : Int} (h : hasV f v = true) : v < f.vars.length ∧ 0 ≤ v := by
 unfold hasV at h; simp at h; exact ⟨h.2, h.1⟩
theorem InstF.a0 {f : PFunc} {x : PInst} (h : InstF f x) (hl : 0 < x.args.length) : ar0 x < f.vars.length ∧ 0 ≤ ar0 x := by
 unfold ar0; rw [qq hl]; exact has_lt (h.args _ (qu hl))
theorem InstF.a1 {f : PFunc} {x : PInst} (h : InstF f x) (hl : 1 < x.args.length) : ar1 x < f.vars.length ∧ 0 ≤ ar1 x := by
 unfold ar1; rw [qq hl]; exact has_lt (h.args _ (qu hl))
theorem InstF.a2 {f : PFunc} {x : PInst} (h : InstF f x) (hl : 2 < x.args.length) : ar2 x < f.vars.length ∧ 0 ≤ ar2 x := by
 unfold ar2; rw [qq hl]; exact has_lt (h.args _ (qu hl))
theorem takesN : ∀ j : Nat, j < 27 → (takesL (j : Int)).length = ([0, 1, 2, 2, 2, 2, 2, 2, 2, 2, 1, 2, 1, 2, 3, 1, 0, 1, 2, 1, 1, 2, 2, 2, 1, 2, 2][j]?).getD 0 := by decide
theorem InstF.argc {f : PFunc} {x : PInst} (h : InstF f x) : x.args.length = ([0, 1, 2, 2, 2, 2, 2, 2, 2, 2, 1, 2, 1, 2, 3, 1, 0, 1, 2, 1, 1, 2, 2, 2, 1, 2, 2][x.op.toNat]?).getD 0 := by
 have h1 := h.op
 obtain ⟨j, e⟩ : ∃ j : Nat, x.op = (j : Int) := ⟨x.op.toNat, by omega⟩
 rw [h.len, e, takesN j (by omega), Int.toNat_natCast]
theorem makesN : ∀ j : Nat, j < 27 → makesB (j : Int) = ([true, true, true, true, true, true, true, true, true, true, true, true, true, true, false, true, true, false, false, false, false, false, false, false, false, true, true][j]?).getD false := by decide
theorem InstF.made {f : PFunc} {x : PInst} (h : InstF f x) (hm : ([true, true, true, true, true, true, true, true, true, true, true, true, true, true, false, true, true, false, false, false, false, false, false, false, false, true, true][x.op.toNat]?).getD false = true) : x.dst < f.vars.length ∧ 0 ≤ x.dst := by
 have h1 := h.op
 obtain ⟨j, e⟩ : ∃ j : Nat, x.op = (j : Int) := ⟨x.op.toNat, by omega⟩
 rw [e, Int.toNat_natCast, ← makesN j (by omega), ← e] at hm
 rcases h.dst with g | g
 ·rw [g.1] at hm; cases hm
 ·exact has_lt g.2.2
theorem GInv.doG {f : PFunc} {s : GS} (h : GInv f s) {x : PInst} (hx : InstF f x) (h64 : is64 x.num) : GInv f (doG s x) := by
 have hc := hx.argc
 have st : ∀ e, GInv f (stopG s e) := h.stop
 have wr : ∀ d v, GInv f (Go.Proofs.YtiojekbkamegdaaGreatDoor.stI s d (IntKind.i64.wrap v)) := fun _ _ => h.stI (wrap_64 _)
 have bo : ∀ d v, GInv f (Go.Proofs.YtiojekbkamegdaaGreatDoor.stB s d v) := fun _ _ => h.stB
 unfold Go.Proofs.YtiojekbkamegdaaGreatDoor.doG
 by_cases e : x.op = 0
 ·rw [if_pos e]; exact h.stI h64
 rw [if_neg e]; clear e
 by_cases e : x.op = 1 ∨ x.op = 25 ∨ x.op = 26
 ·rw [if_pos e]
  refine GInv.stA (s := Go.Proofs.YtiojekbkamegdaaGreatDoor.stB (Go.Proofs.YtiojekbkamegdaaGreatDoor.stI s x.dst (aG s x)) x.dst (pG s x)) (h.stI (vi_64 h.i64)).stB ?_
  exact arr_any h (hx.a0 (by rcases e with e | e | e <;> (rw [e] at hc; rw [hc]; decide)))
 rw [if_neg e]; clear e
 by_cases e : x.op = 2
 ·rw [if_pos e]; exact wr _ _
 rw [if_neg e]; clear e
 by_cases e : x.op = 3
 ·rw [if_pos e]; exact wr _ _
 rw [if_neg e]; clear e
 by_cases e : x.op = 4
 ·rw [if_pos e]; exact wr _ _
 rw [if_neg e]; clear e
 by_cases e : x.op = 5
 ·rw [if_pos e]
  split
  ·exact st 2
  ·exact wr _ _
 rw [if_neg e]; clear e
 by_cases e : x.op = 6
 ·rw [if_pos e]
  split
  ·exact st 2
  ·exact h.stI (rem_64 _ _)
 rw [if_neg e]; clear e
 by_cases e : x.op = 7
 ·rw [if_pos e]; exact bo _ _
 rw [if_neg e]; clear e
 by_cases e : x.op = 8
 ·rw [if_pos e]; exact bo _ _
 rw [if_neg e]; clear e
 by_cases e : x.op = 9
 ·rw [if_pos e]; exact bo _ _
 rw [if_neg e]; clear e
 by_cases e : x.op = 10
 ·rw [if_pos e]; exact bo _ _
 rw [if_neg e]; clear e
 by_cases e : x.op = 11
 ·rw [if_pos e]; exact bo _ _
 rw [if_neg e]; clear e
 by_cases e : x.op = 12
 ·rw [if_pos e]
  split
  ·exact st 2
  ·rename_i hr
   have hl := h.lr _ (row_mem (by omega) (arr_any h (hx.a0 (by rw [e] at hc; rw [hc]; decide))).2 : rowG s (rG s x) ∈ s.arrays)
   exact h.stI ⟨by omega, by omega⟩
 rw [if_neg e]; clear e
 by_cases e : x.op = 13
 ·rw [if_pos e]
  split
  ·rename_i hp
   obtain ⟨h1, h2, _⟩ := place_iff.1 hp
   exact h.stI (vi_64 (h.r64 _ (row_mem h1 h2)))
  ·exact st 2
 rw [if_neg e]; clear e
 by_cases e : x.op = 14
 ·rw [if_pos e]
  split
  ·rename_i hp
   obtain ⟨h1, h2, _⟩ := place_iff.1 hp
   refine ⟨h.li, h.lb, h.la, h.i64, fun y hy => by simpa using h.arr y hy, by simpa using h.ls, fun r hr => ?_, fun r hr => ?_, h.lt, h.b0, h.b1, h.pc⟩
   ·rcases mem_set_or hr with hr | hr
    ·exact h.lr r hr
    ·rw [hr, List.length_set]; exact h.lr _ (row_mem h1 h2)
   ·rcases mem_set_or hr with hr | hr
    ·exact h.r64 r hr
    ·intro y hy
     rw [hr] at hy
     rcases mem_set_or hy with hy | hy
     ·exact h.r64 _ (row_mem h1 h2) y hy
     ·rw [hy]; exact vi_64 h.i64
  ·exact st 2
 rw [if_neg e]; clear e
 by_cases e : x.op = 15
 ·rw [if_pos e]
  split
  ·exact st 2
  ·rename_i ha
   split
   ·exact st 3
   ·rename_i hs
    refine GInv.stA (s := { s with arrays := s.arrays ++ [List.replicate (aG s x).toNat 0] }) ⟨h.li, h.lb, h.la, h.i64, fun y hy => ?_, ?_, fun r hr => ?_, fun r hr => ?_, h.lt, h.b0, h.b1, h.pc⟩ ?_
    ·have := h.arr y hy
     simp only [qw, List.length_singleton]; omega
    ·simp only [qw, List.length_singleton]; omega
    ·rcases List.mem_append.1 hr with hr | hr
     ·exact h.lr r hr
     ·rw [List.mem_singleton.1 hr, List.length_replicate]; omega
    ·rcases List.mem_append.1 hr with hr | hr
     ·exact h.r64 r hr
     ·intro y hy
      rw [List.mem_singleton.1 hr] at hy
      rw [(List.mem_replicate.1 hy).2]; exact ⟨by decide, by decide⟩
    ·simp only [qw, List.length_singleton]; omega
 rw [if_neg e]; clear e
 by_cases e : x.op = 16
 ·rw [if_pos e]; exact h.stA ⟨by omega, by omega⟩
 rw [if_neg e]; clear e
 split
 ·exact st 3
 ·rename_i ht
  exact ⟨h.li, h.lb, h.la, h.i64, h.arr, h.ls, h.lr, h.r64, by simp only [qw, List.length_singleton]; omega, h.b0, h.b1, h.pc⟩
theorem GInv.inst {f : PFunc} {s : GS} (h : GInv f s) {x : PInst} (hx : InstF f x) (h64 : is64 x.num) : GInv f (instG s x) := by
 unfold instG
 split
 ·split
  ·exact h.bump _
  ·exact (h.bump _).trap _
 ·exact h.doG hx h64
structure RunP (f : PFunc) : Prop where
 pos : 0 < f.blocks.length
 phis : ∀ b ∈ f.blocks, ∀ p ∈ b.phis, PhiP f p
 insts : ∀ b ∈ f.blocks, ∀ x ∈ b.insts, InstF f x ∧ is64 x.num
 term : ∀ b ∈ f.blocks, termOK f b.term = true
theorem blk_get {f : PFunc} {b : Int} (h0 : 0 ≤ b) (h1 : b < f.blocks.length) : f.blocks[b.toNat]? = some (blkG f b) := by
 unfold blkG; rw [qq (by omega)]; rfl
theorem blk_mem {f : PFunc} {b : Int} (h0 : 0 ≤ b) (h1 : b < f.blocks.length) : blkG f b ∈ f.blocks := qy (blk_get h0 h1)
theorem phiAt_mem {p : PPhi} {b : Int} (h : 0 ≤ phiAt p b) : phiAt p b ∈ p.args := by
 unfold phiAt at h ⊢
 cases e : (p.from_.zip p.args).find? fun q => decide (q.1 = b) with
 | none => rw [e] at h; simp at h
 | some q => exact (List.of_mem_zip (List.mem_of_find?_eq_some e)).2
theorem GInv.assign {f : PFunc} {s t : GS} (h : GInv f s) (ht : GInv f t) (ha : t.arrays = s.arrays) {p : PPhi} (hp : PhiP f p) (h0 : 0 ≤ phiAt p s.blk) : GInv f (assign s t p) ∧ (assign s t p).arrays = s.arrays := by
 have hv := has_lt (List.all_eq_true.1 hp.2.2.2.1 _ (phiAt_mem h0))
 refine ⟨GInv.stA (s := Go.Proofs.YtiojekbkamegdaaGreatDoor.stB (Go.Proofs.YtiojekbkamegdaaGreatDoor.stI t p.dst _) p.dst _) (ht.stI (vi_64 h.i64)).stB ?_, ha⟩
 show _ ∧ _ < (t.arrays.length : Int)
 rw [ha]; exact arr_any h hv
theorem GInv.assigns {f : PFunc} {s : GS} (h : GInv f s) : ∀ (l : List PPhi) (t : GS), GInv f t → t.arrays = s.arrays → (∀ p ∈ l, PhiP f p ∧ 0 ≤ phiAt p s.blk) → GInv f (l.foldl (Go.Proofs.YtiojekbkamegdaaGreatDoor.assign s) t)
 | [], t, ht, _, _ => ht
 | p :: l, t, ht, ha, hl => by
  obtain ⟨h1, h2⟩ := h.assign ht ha (hl p (.head _)).1 (hl p (.head _)).2
  exact h.assigns l _ h1 h2 fun q hq => hl q (.tail _ hq)
theorem GInv.goG {f : PFunc} {s : GS} (h : GInv f s) {to : Int} (h0 : 0 ≤ to) (h1 : to < f.blocks.length) : GInv f (goG s to) := ⟨h.li, h.lb, h.la, h.i64, h.arr, h.ls, h.lr, h.r64, h.lt, h0, h1, qt _⟩
theorem GInv.enter {f : PFunc} {s : GS} (hR : RunP f) (h : GInv f s) {to : Int} (h0 : 0 ≤ to) (h1 : to < f.blocks.length) : GInv f (enterG f s to) := by
 unfold enterG
 split
 ·rename_i ha
  exact (h.assigns _ s h rfl fun p hp => ⟨hR.phis _ (blk_mem h0 h1) p hp, of_decide_eq_true (List.all_eq_true.1 ha p hp)⟩).goG h0 h1
 ·exact (h.goG h0 h1).stop 2
theorem term_to {f : PFunc} {t : PTerm} (h : termOK f t = true) (hk : ¬ t.kind = 2) : (0 ≤ t.to0 ∧ t.to0 < f.blocks.length) ∧ (¬ t.kind = 0 → t.kind = 1 ∧ (0 ≤ t.to1 ∧ t.to1 < f.blocks.length)) := by
 unfold termOK at h
 split at h
 ·rename_i e
  simp only [Bool.and_eq_true, hasB, decide_eq_true_eq] at h
  exact ⟨h.1.1, fun g => absurd e g⟩
 ·split at h
  ·rename_i e
   simp only [Bool.and_eq_true, hasB, decide_eq_true_eq] at h
   exact ⟨h.1.2, fun _ => ⟨e, h.2⟩⟩
  ·simp [hk] at h
theorem next_to {f : PFunc} (hR : RunP f) {s : GS} (h : GInv f s) (hk : ¬ (blkG f s.blk).term.kind = 2) : 0 ≤ nextG f s ∧ nextG f s < f.blocks.length := by
 have ht := term_to (hR.term _ (blk_mem h.b0 h.b1)) hk
 unfold nextG
 split
 ·exact ht.1
 ·rename_i e
  exact (ht.2 fun g => e (.inl g)).2
theorem GInv.up {f : PFunc} {s : GS} (h : GInv f s) (n : Nat) (v : Int) : GInv f { s with st := n, val := v } := ⟨h.li, h.lb, h.la, h.i64, h.arr, h.ls, h.lr, h.r64, h.lt, h.b0, h.b1, h.pc⟩
theorem GInv.step {f : PFunc} (hR : RunP f) {s : GS} (h : GInv f s) : GInv f (stepG f s) := by
 unfold stepG
 split
 ·rename_i x hx
  obtain ⟨hi, h64⟩ := hR.insts _ (blk_mem h.b0 h.b1) x (qy hx)
  obtain ⟨hp, _⟩ := List.getElem?_eq_some_iff.1 hx
  exact GInv.inst (s := { s with pc := s.pc + 1, st := s.st + 1 }) ⟨h.li, h.lb, h.la, h.i64, h.arr, h.ls, h.lr, h.r64, h.lt, h.b0, h.b1, hp⟩ hi h64
 ·split
  ·exact (h.up _ _).stop 0
  ·rename_i hk
   obtain ⟨h0, h1⟩ := next_to hR h hk
   exact GInv.enter hR (s := { s with st := s.st + 1 }) (h.up _ s.val) h0 h1
end Go.Proofs.YtiojekbkamegdaaGreatDoor
namespace Go.Proofs.YtiojekbkamegdaaGreatDoor
open Go.Proofs.Tryz
open Go.Proofs
variable {E : World}
set_option maxRecDepth 20000
end Go.Proofs.YtiojekbkamegdaaGreatDoor
namespace Go.Proofs.YtiojekbkamegdaaGreatDoor
open Go.Proofs.Tryz
open Go.Proofs
variable {E : World}
set_option maxRecDepth 20000
theorem rFits2 {k : Nat} (hk : k ≤ 2) {x y : Int} (hx : is64 x) (hy : is64 y) : AFun prog E 175 [.int .i64 k, .int .i64 x, .int .i64 y] (.bool (decide (fit3 k x y))) := by
 have hx1 := hx; have hy1 := hy
 unfold is64 at hx1 hy1
 refine zo func175 rfl (by decide) rfl<|zSr<|z2 (zAb rfl)<|z6<|zd<|zSr<|z2 (zMi rfl)<|z6<|zi<|zSr<|z2 (y7 rfl rfl)<|z2 (zAb rfl)<|z6<|zr rfl (fun c0=>?_) (fun c0=>?_)
 ·have hk0 : k = 0 := by omega
  subst hk0
  refine zSr<|z2 (zMi rfl)<|z2 (q4 rfl rfl)<|z2 (zMb rfl)<|zt (s := 16) rfl (fun c1=>?_) (fun c1=>?_)
  ·refine z8 rfl rfl c1<|z2 (zMi rfl)<|z8 rfl rfl c1<|z2 (zMi rfl)<|z8 rfl rfl c1<|z2 (Gv.sub rfl rfl (by unfold I64; simp at *; omega))<|z8 rfl rfl c1<|z2 (q4 rfl rfl)<|z2 (zPt rfl c1 rfl)<|z2 (yl rfl)<|z2 (zMb rfl)<|zt (s := 23) rfl (fun c2=>?_) (fun c2=>?_)
   ·refine z8 rfl rfl c2<|z2 (zMi rfl)<|z8 rfl rfl c2<|z2 (yb rfl rfl)<|z8 rfl rfl c2<|z2 (zMb rfl)<|zt (s := 26) rfl (fun c3=>?_) (fun c3=>?_)
    ·refine z8 rfl rfl c3<|z2 (zMi rfl)<|z8 rfl rfl c3<|z2 (zMi rfl)<|z8 rfl rfl c3<|z2 (Gv.sub rfl rfl (by unfold I64; simp at *; omega))<|z8 rfl rfl c3<|z2 (yb rfl rfl)<|z8 rfl rfl c2<|z2 (zPt rfl c3 rfl)<|z8 rfl rfl c2<|z2 (yl rfl)<|z2 (zPt rfl c2 rfl)<|z2 (zAb rfl)<|z6<|zg<|zk (x := .bool _) rfl ?_
     exact jb (by rw [Bool.eq_iff_iff]; unfold fit3 op3 is64; simp at * <;> omega)
    ·refine z7 rfl rfl c3<|z7 rfl rfl c3<|z7 rfl rfl c3<|z7 rfl rfl c3<|z8 rfl rfl c2<|z2 (zPf rfl c3 rfl)<|z8 rfl rfl c2<|z2 (yl rfl)<|z2 (zPt rfl c2 rfl)<|z2 (zAb rfl)<|z6<|zg<|zk (x := .bool _) rfl ?_
     exact jb (by rw [Bool.eq_iff_iff]; unfold fit3 op3 is64; simp at * <;> omega)
   ·refine z7 rfl rfl c2<|z7 rfl rfl c2<|z7 rfl rfl c2<|zj rfl rfl<|zj rfl rfl<|zj rfl rfl<|zj rfl rfl<|z7 rfl rfl c2<|z7 rfl rfl c2<|z2 (zPf rfl c2 rfl)<|z2 (zAb rfl)<|z6<|zg<|zk (x := .bool _) rfl ?_
    exact jb (by rw [Bool.eq_iff_iff]; unfold fit3 op3 is64; simp at * <;> omega)
  ·refine z7 rfl rfl c1<|z7 rfl rfl c1<|z7 rfl rfl c1<|z7 rfl rfl c1<|z2 (zPf rfl c1 rfl)<|z2 (yl rfl)<|z2 (zMb rfl)<|z8 rfl rfl rfl<|z2 (zMi rfl)<|z8 rfl rfl rfl<|z2 (yb rfl rfl)<|z8 rfl rfl rfl<|z2 (zMb rfl)<|zt (s := 26) rfl (fun c4=>?_) (fun c4=>?_)
   ·refine z8 rfl rfl c4<|z2 (zMi rfl)<|z8 rfl rfl c4<|z2 (zMi rfl)<|z8 rfl rfl c4<|z2 (Gv.sub rfl rfl (by unfold I64; simp at *; omega))<|z8 rfl rfl c4<|z2 (yb rfl rfl)<|z8 rfl rfl rfl<|z2 (zPt rfl c4 rfl)<|z8 rfl rfl rfl<|z2 (yl rfl)<|z2 (zPt rfl rfl rfl)<|z2 (zAb rfl)<|z6<|zg<|zk (x := .bool _) rfl ?_
    exact jb (by rw [Bool.eq_iff_iff]; unfold fit3 op3 is64; simp at * <;> omega)
   ·refine z7 rfl rfl c4<|z7 rfl rfl c4<|z7 rfl rfl c4<|z7 rfl rfl c4<|z8 rfl rfl rfl<|z2 (zPf rfl c4 rfl)<|z8 rfl rfl rfl<|z2 (yl rfl)<|z2 (zPt rfl rfl rfl)<|z2 (zAb rfl)<|z6<|zg<|zk (x := .bool _) rfl ?_
    exact jb (by rw [Bool.eq_iff_iff]; unfold fit3 op3 is64; simp at * <;> omega)
 ·refine zSr<|z2 (y7 rfl rfl)<|z2 (zAb rfl)<|z6<|zr rfl (fun c1=>?_) (fun c1=>?_)
  ·have hk1 : k = 1 := by omega
   subst hk1
   refine zSr<|z2 (zMi rfl)<|z2 (yb rfl rfl)<|z2 (zMb rfl)<|zt (s := 38) rfl (fun c5=>?_) (fun c5=>?_)
   ·refine z8 rfl rfl c5<|z2 (zMi rfl)<|z8 rfl rfl c5<|z2 (zMi rfl)<|z8 rfl rfl c5<|z2 (Gv.add rfl rfl (by unfold I64; simp at *; omega))<|z8 rfl rfl c5<|z2 (q4 rfl rfl)<|z2 (zPt rfl c5 rfl)<|z2 (yl rfl)<|z2 (zMb rfl)<|zt (s := 45) rfl (fun c6=>?_) (fun c6=>?_)
    ·refine z8 rfl rfl c6<|z2 (zMi rfl)<|z8 rfl rfl c6<|z2 (q4 rfl rfl)<|z8 rfl rfl c6<|z2 (zMb rfl)<|zt (s := 48) rfl (fun c7=>?_) (fun c7=>?_)
     ·refine z8 rfl rfl c7<|z2 (zMi rfl)<|z8 rfl rfl c7<|z2 (zMi rfl)<|z8 rfl rfl c7<|z2 (Gv.add rfl rfl (by unfold I64; simp at *; omega))<|z8 rfl rfl c7<|z2 (yb rfl rfl)<|z8 rfl rfl c6<|z2 (zPt rfl c7 rfl)<|z8 rfl rfl c6<|z2 (yl rfl)<|z2 (zPt rfl c6 rfl)<|z2 (zAb rfl)<|z6<|zg<|zk (x := .bool _) rfl ?_
      exact jb (by rw [Bool.eq_iff_iff]; unfold fit3 op3 is64; simp at * <;> omega)
     ·refine z7 rfl rfl c7<|z7 rfl rfl c7<|z7 rfl rfl c7<|z7 rfl rfl c7<|z8 rfl rfl c6<|z2 (zPf rfl c7 rfl)<|z8 rfl rfl c6<|z2 (yl rfl)<|z2 (zPt rfl c6 rfl)<|z2 (zAb rfl)<|z6<|zg<|zk (x := .bool _) rfl ?_
      exact jb (by rw [Bool.eq_iff_iff]; unfold fit3 op3 is64; simp at * <;> omega)
    ·refine z7 rfl rfl c6<|z7 rfl rfl c6<|z7 rfl rfl c6<|zj rfl rfl<|zj rfl rfl<|zj rfl rfl<|zj rfl rfl<|z7 rfl rfl c6<|z7 rfl rfl c6<|z2 (zPf rfl c6 rfl)<|z2 (zAb rfl)<|z6<|zg<|zk (x := .bool _) rfl ?_
     exact jb (by rw [Bool.eq_iff_iff]; unfold fit3 op3 is64; simp at * <;> omega)
   ·refine z7 rfl rfl c5<|z7 rfl rfl c5<|z7 rfl rfl c5<|z7 rfl rfl c5<|z2 (zPf rfl c5 rfl)<|z2 (yl rfl)<|z2 (zMb rfl)<|z8 rfl rfl rfl<|z2 (zMi rfl)<|z8 rfl rfl rfl<|z2 (q4 rfl rfl)<|z8 rfl rfl rfl<|z2 (zMb rfl)<|zt (s := 48) rfl (fun c8=>?_) (fun c8=>?_)
    ·refine z8 rfl rfl c8<|z2 (zMi rfl)<|z8 rfl rfl c8<|z2 (zMi rfl)<|z8 rfl rfl c8<|z2 (Gv.add rfl rfl (by unfold I64; simp at *; omega))<|z8 rfl rfl c8<|z2 (yb rfl rfl)<|z8 rfl rfl rfl<|z2 (zPt rfl c8 rfl)<|z8 rfl rfl rfl<|z2 (yl rfl)<|z2 (zPt rfl rfl rfl)<|z2 (zAb rfl)<|z6<|zg<|zk (x := .bool _) rfl ?_
     exact jb (by rw [Bool.eq_iff_iff]; unfold fit3 op3 is64; simp at * <;> omega)
    ·refine z7 rfl rfl c8<|z7 rfl rfl c8<|z7 rfl rfl c8<|z7 rfl rfl c8<|z8 rfl rfl rfl<|z2 (zPf rfl c8 rfl)<|z8 rfl rfl rfl<|z2 (yl rfl)<|z2 (zPt rfl rfl rfl)<|z2 (zAb rfl)<|z6<|zg<|zk (x := .bool _) rfl ?_
     exact jb (by rw [Bool.eq_iff_iff]; unfold fit3 op3 is64; simp at * <;> omega)
  ·have hk2 : k = 2 := by omega
   subst hk2
   refine zh<|zd<|zd<|yp (γ := Bool) [1, 2] (fun u => [(61, .bool u)]) (fun u => []) (fun u => u = decide (x = 0 ∨ y = 0)) ?_ (fun _ _ h => h) ?_
   ·refine zRg<|z2 (zMi rfl)<|z2 (y7 rfl rfl)<|z2 (zMb rfl)<|zt (s := 58) rfl (fun c9=>?_) (fun c9=>?_)
    ·refine z7 rfl rfl c9<|z7 rfl rfl c9<|z2 (zPt rfl c9 rfl)<|z6 ?_
     exact ⟨_, zR2, zR1, zLe, by simp_all⟩
    ·refine z8 rfl rfl c9<|z2 (zMi rfl)<|z8 rfl rfl c9<|z2 (y7 rfl rfl)<|z2 (zPf rfl c9 rfl)<|z6 ?_
     exact ⟨_, zR2, zR1, zLe, by simp_all⟩
   ·rintro u hu
    subst hu
    refine zr rfl (fun cz=>?_) (fun cz=>?_)
    ·refine zSr<|z2 (zAb rfl)<|z6<|zg<|zk (x := .bool _) rfl ?_
     exact jb (by rw [w3]; unfold fit3; rw [show op3 2 x y = x * y from rfl]; rcases cz with h | h <;> rw [h] <;> simp [is64])
    ·have hx0 : x ≠ 0 := fun e => cz (.inl e)
     have hy0 : y ≠ 0 := fun e => cz (.inr e)
     refine zh<|zSr<|z2 (zMi rfl)<|z2 (yb rfl rfl)<|z2 (zMi rfl)<|z2 (yb rfl rfl)<|z2 (Gv.eqlB underlying4 rfl rfl)<|z2 (zAb rfl)<|z6<|zSr<|z2 (zMi rfl)<|z2 (qo underlying2 underlying265 rfl)<|z2 (zMi rfl)<|z2 (qo underlying2 underlying265 rfl)<|z2 (zAi rfl)<|z2 (zAi rfl)<|z6<|zd<|zSr<|z2 (zMi rfl)<|z2 (yb rfl rfl)<|z6<|yp (γ := Int) [2, 7, 9] (fun u => [(8, .int .u64 u)]) (fun u => []) (fun u => u = (x.natAbs : Int)) ?_ (fun _ _ h => h) ?_
     ·refine zr rfl (fun c=>?_) (fun c=>?_)
      ·refine zRg<|z2 (zMi rfl)<|z2 (Gv.neg rfl)<|z2 (zAi rfl)<|z6 ?_
       exact ⟨_, zR3, zR1, zLe, by have := abs_wrap hx; rwa [if_pos c] at this⟩
      ·refine zh ?_
       exact ⟨_, zR3, zR1, zLe, by have := abs_wrap hx; rwa [if_neg c] at this⟩
     ·rintro u hu
      subst hu
      refine zd<|zSr<|z2 (zMi rfl)<|z2 (yb rfl rfl)<|z6<|yp (γ := Int) [7, 8] (fun u => [(9, .int .u64 u)]) (fun u => []) (fun u => u = (y.natAbs : Int)) ?_ (fun _ _ h => h) ?_
      ·refine zr rfl (fun c=>?_) (fun c=>?_)
       ·refine zRg<|z2 (zMi rfl)<|z2 (Gv.neg rfl)<|z2 (zAi rfl)<|z6 ?_
        exact ⟨_, zR2, zR1, zLe, by have := abs_wrap hy; rwa [if_pos c] at this⟩
       ·refine zh ?_
        exact ⟨_, zR2, zR1, zLe, by have := abs_wrap hy; rwa [if_neg c] at this⟩
      ·rintro u hu
       subst hu
       refine zSr<|z2 (zAi rfl)<|z6<|zd<|zSr<|z2 (zMb rfl)<|z2 (yl rfl)<|z6<|yp (γ := Int) [8, 9] (fun u => [(10, .int .u64 u)]) (fun u => []) (fun u => u = (if (decide (x < 0) == decide (y < 0)) = true then 9223372036854775807 else 9223372036854775808)) ?_ (fun _ _ h => h) ?_
       ·refine zz rfl (fun c=>?_) (fun c=>?_)
        ·refine zRg<|z2 (zAi rfl)<|z6 ?_
         exact ⟨_, zR2, zR1, zLe, by rw [if_neg (by simpa using c)]⟩
        ·refine zh ?_
         exact ⟨_, zR2, zR1, zLe, by rw [if_pos (by simpa using c)]⟩
       ·rintro u hu
        subst hu
        refine zSr<|z2 (zMi rfl)<|z2 (zMi rfl)<|z2 (zMi rfl)<|z2 (Gv.quo rfl rfl (by omega))<|z2 (Gv.leq rfl rfl)<|z2 (zAb rfl)<|z6<|zg<|zk (x := .bool _) rfl ?_
        exact jb (fitU hx hx0 hy0)
theorem rWrap {k : Nat} (hk : k ≤ 2) {x y : Int} : AFun prog E 161 [.int .i64 k, .int .i64 x, .int .i64 y] (.int .i64 (IntKind.i64.wrap (op3 k x y))) := by
 refine zo func161 rfl (by decide) rfl<|zSr<|z2 (zAi rfl)<|z6<|zd<|zSr<|z2 (zMi rfl)<|z6<|zi<|zSr<|z2 (y7 rfl rfl)<|z2 (zAb rfl)<|z6<|zr rfl (fun c0=>?_) (fun c0=>?_)
 ·have hk0 : k = 0 := by omega
  subst hk0
  refine zSr<|z2 (zMi rfl)<|z2 (qo underlying2 underlying265 rfl)<|z2 (zMi rfl)<|z2 (qo underlying2 underlying265 rfl)<|z2 (Gv.addW rfl rfl)<|z2 (qo underlying265 underlying2 rfl)<|z2 (zAi rfl)<|z6<|zg<|zk (x := .int _ _) rfl ?_
  exact congrArg (AV.int .i64) (wrapU_add x y)
 ·refine zSr<|z2 (y7 rfl rfl)<|z2 (zAb rfl)<|z6<|zr rfl (fun c1=>?_) (fun c1=>?_)
  ·have hk1 : k = 1 := by omega
   subst hk1
   refine zSr<|z2 (zMi rfl)<|z2 (qo underlying2 underlying265 rfl)<|z2 (zMi rfl)<|z2 (qo underlying2 underlying265 rfl)<|z2 (Gv.subW rfl rfl)<|z2 (qo underlying265 underlying2 rfl)<|z2 (zAi rfl)<|z6<|zg<|zk (x := .int _ _) rfl ?_
   exact congrArg (AV.int .i64) (wrapU_sub x y)
  ·have hk2 : k = 2 := by omega
   subst hk2
   refine zh<|zSr<|z2 (zMi rfl)<|z2 (qo underlying2 underlying265 rfl)<|z2 (zMi rfl)<|z2 (qo underlying2 underlying265 rfl)<|z2 (Gv.mulW rfl rfl)<|z2 (qo underlying265 underlying2 rfl)<|z2 (zAi rfl)<|z6<|zg<|zk (x := .int _ _) rfl ?_
   exact congrArg (AV.int .i64) (wrapU_mul x y)
theorem rDiv2 {x y : Int} (hy : y ≠ 0) : AFun prog E 162 [.int .i64 x, .int .i64 y] (.tup [.int .i64 (IntKind.i64.wrap (x.tdiv y)), .int .i64 (if y = -1 then 0 else IntKind.i64.wrap (x - IntKind.i64.wrap (IntKind.i64.wrap (x.tdiv y) * y)))]) := by
 refine zo func162 rfl (by decide) rfl<|zSr<|z2 (zAi rfl)<|z2 (zAi rfl)<|z6<|zd<|zSr<|z2 (zMi rfl)<|z2 (y7 rfl rfl)<|z6<|zr rfl (fun c=>?_) (fun c=>?_)
 ·refine zSr<|z2 (zMi rfl)<|z2 (qo underlying2 underlying265 rfl)<|z2 (Gv.neg rfl)<|z2 (qo underlying265 underlying2 rfl)<|z2 (zAi rfl)<|z2 (zAi rfl)<|z6<|zg<|afin.t2 (x := .int _ _) (y := .int _ _) rfl rfl ?_
  rw [if_pos c, c, wrapU_neg]; try rfl
 ·refine zh<|zd<|zu (fun j => false) (by kernel_rfl) rfl (zm (.rest _))<|zTk 0 rfl (zMi rfl)<|zTk 1 rfl (zMi rfl)<|zTk 2 rfl (Gv.quo rfl rfl (by omega))<|zTk 3 rfl (zMi rfl)<|zTk 4 rfl (zMi rfl)<|zTk 5 rfl (zMi rfl)<|zTk 6 rfl (Gv.quo rfl rfl (by omega))<|zTk 7 rfl (zMi rfl)<|zTk 8 rfl (Gv.mulW rfl rfl)<|zTk 9 rfl (Gv.subW rfl rfl)<|zTk 10 rfl (zAi rfl)<|zTk 11 rfl (zAi rfl)<|zDn<|zg<|afin.t2 (x := .int _ _) (y := .int _ _) rfl rfl ?_
  rw [if_neg c]; try rfl
end Go.Proofs.YtiojekbkamegdaaGreatDoor
namespace Go.Proofs.YtiojekbkamegdaaGreatDoor
open Go.Proofs.Tryz
def AAnyR (P : Program) (E : World) (l : List Oper) (Q : AEnv → OL → Prop) (fuel : Nat) (listed : Array Bool) (env : AEnv) (R Om : OL) : Prop :=
 ∀ I F ρ w Lr, RepE I env ρ → RepOs I R Lr → SLA I Om (Lr ++ F) E w → AnyV P l.toArray (stays I.k Lr E) (stays I.k Lr E) (fun _ => false) (postK I F E Q) fuel listed ρ w
section
variable {E : World} {P : Program} {n : Nat} {l : List Oper} {Q : AEnv → OL → Prop} {fuel : Nat} {listed : Array Bool} {env : AEnv} {O R Om : OL}
variable {d ty : Nat} {op : Op} {pos : String} {af : Array Edge}
theorem AWP.regionDrawR {Q : Exit → AEnv → OL → Prop} {id : Nat} (hm : P.follows .mixedOrders = true) (hd : dstsOk n l = true) (hO : O.Perm (Om ++ R)) (h : AAnyR P E l (Q .normal) l.length (Array.replicate l.length false) env R Om) : AWP P E n (.region id l.toArray true) Q env O := fun I F ρ w h1 h2 => by
 obtain ⟨Lr, hLr, h3⟩ := h2.split hO
 refine WP.regionDraw (stays I.k Lr E) (stays I.k Lr E) (fun _ => false) hm hd fun w' hw => ?_
 subst hw
 refine h I F ρ _ Lr h1 hLr ?_
 obtain ⟨ht, L, hL, hS⟩ := h3
 exact ⟨ht, L, hL, hS.drew⟩
theorem AAnyR.takeK {i : Nat} {x : AV} (hi : l[i]? = some (Oper.mk (some d) op ty pos af none)) (hs : Region.noSelect l.toArray = true) (hf : Region.free .any l.toArray listed i = true)
  (hr : (Region.ready .any l.toArray listed).contains i = true) (hg : Gv P env R (Oper.mk (some d) op ty pos af none) x)
  (h : AAnyR P E l Q fuel (listed.setIfInBounds i true) (aupd env d x) R Om) : AAnyR P E l Q (fuel + 1) listed env R Om := fun I F ρ w Lr h1 hLr h2 => by
 obtain ⟨v, hv, hrun⟩ := hg I Lr E ρ h1 hLr
 exact AnyV.takeK hi hs hf hr rfl h2.here (.inr h2.here) (fun w ⟨J, L', a, b, c⟩ => hrun w J L' a b c) (h I F _ w Lr (h1.upd d hv) hLr h2)
theorem AAnyR.one {i : Nat} {o : Oper} (hi : l[i]? = some o) (hr : Region.ready .any l.toArray listed = [i])
  (h : AOps P E l.toArray (fun env' Om' => AAnyR P E l Q fuel (listed.setIfInBounds i true) env' R Om') [o] env Om) : AAnyR P E l Q (fuel + 1) listed env R Om := fun I F ρ w Lr h1 hLr h2 =>
 AnyV.one hi hr (yz (fun ρ' w' ⟨J, env', Om', a, b, c, d⟩ => by
  have hst : stays I.k Lr E w' := by
   obtain ⟨J', L', h3, h4, h5⟩ := c.here
   exact ⟨J', L', a.k.trans h3, h4, h5⟩
  refine ⟨⟨hst, .inr hst⟩, AnyV.mono ?_ ?_ (fun _ _ => postK.up a) _ _ _ _ (d J F ρ' w' Lr b (hLr.mono a) c)⟩
  ·rintro w ⟨J', L', h3, h4⟩; exact ⟨J', L', a.k.trans h3, h4⟩
  ·rintro w ⟨J', L', h3, h4⟩; exact ⟨J', L', a.k.trans h3, h4⟩) _ _ _ (h I (Lr ++ F) ρ w h1 h2))
theorem AAnyR.done (hr : Region.ready .any l.toArray listed = []) (h : Q env (R ++ Om)) : AAnyR P E l Q fuel listed env R Om := fun I F ρ w Lr h1 hLr h2 =>
 AnyV.done hr ⟨I, env, R ++ Om, .refl _, h1, SLA.together hLr h2, h⟩
end
end Go.Proofs.YtiojekbkamegdaaGreatDoor
namespace Go.Proofs.YtiojekbkamegdaaGreatDoor
open Go.Proofs.Tryz
open Go.Proofs Go.Lib Go.Shelf Go.RowKit
variable {E : World}
set_option maxRecDepth 20000
def ownsA (ids : List Nat) (rs : List (List Int)) : List AV := List.zipWith (fun i r => AV.own i r.length) ids rs
def rowA (i : Nat) (r : List Int) : Nat × AObj := (i, .grow 1 2 (cI r))
def bagA (ids : List Nat) (rs : List (List Int)) : OL := List.zipWith rowA ids rs
theorem owns_len {ids : List Nat} {rs : List (List Int)} (h : ids.length = rs.length) : (ownsA ids rs).length = rs.length := by unfold ownsA; simp [h]
theorem owns_drop : ∀ {ids : List Nat} {rs : List (List Int)} {j i : Nat} {r : List Int}, ids[j]? = some i → rs[j]? = some r → (ownsA ids rs).drop j = .own i r.length :: (ownsA ids rs).drop (j + 1)
 | [], _, _, _, _, h, _ => by simp at h
 | _ :: _, [], _, _, _, _, h => by simp at h
 | i :: ids, r :: rs, 0, _, _, h1, h2 => by
  simp at h1 h2
  subst h1 h2; rfl
 | _ :: ids, _ :: rs, j + 1, i, r, h1, h2 => owns_drop (ids := ids) (rs := rs) (by simpa using h1) (by simpa using h2)
theorem get_id {ids : List Nat} {rs : List (List Int)} (h : ids.length = rs.length) {j : Nat} (hj : j < rs.length) : ∃ i, ids[j]? = some i := ⟨_, qq (by omega)⟩
theorem get0 {l : List Int} {k : Nat} (h : k < l.length) : l[k]? = some ((l[k]?).getD 0) := by
 rw [qq h]; rfl
abbrev wCe (f : PFunc) (ja jb jc jo jt : Nat) (s : GS) : List AV := encF f ++ [.own ja f.vars.length, .own jb f.vars.length, .own jc f.vars.length, .own jo s.arrays.length, .int .i64 s.blk, .int .i64 s.pc, .int .i64 s.en, .int .i64 s.val, .int .i64 s.tr, .own jt s.trace.length, .int .i64 s.st, .int .i64 (s.ck 0), .int .i64 (s.ck 1), .int .i64 (s.ck 2), .int .i64 (s.ck 3), .int .i64 (s.ck 4), .int .i64 (s.ck 5), .int .i64 (s.ck 6), .int .i64 (s.ck 7), .bool s.ended]
abbrev wR (ja jb jc jo jt : Nat) (ids : List Nat) (s : GS) : OL := [(ja, .grow 1 2 (cI s.ints)), (jb, .grow 1 4 (cB s.bools)), (jc, .grow 1 3 (cI s.arrs)), (jo, .grow 1 42 (ownsA ids s.arrays)), (jt, .grow 1 2 (cI s.trace)), (0, bag (bagA ids s.arrays))]
abbrev wO (f : PFunc) (iw ja jb jc jo jt : Nat) (ids : List Nat) (s : GS) : OL := (iw, .cells 100 (wCe f ja jb jc jo jt s)) :: wR ja jb jc jo jt ids s
theorem wend_spec (f : PFunc) (iw ja jb jc jo jt : Nat) (ids : List Nat) (s : GS) (e : Int) : ACall prog E 105 [.po iw 0, .int .i64 e] (wO f iw ja jb jc jo jt ids s) (fun y O => y = .tup [] ∧ O = wO f iw ja jb jc jo jt ids (stopG s e)) := by
 refine zo func105 rfl (by decide) rfl<|zRg<|z2 (zMp rfl)<|z2 (zMp rfl)<|z2 (zMi rfl)<|z2 (zn rfl)<|z2 (ze underlying100 rfl sizeOf45 (by decide) rfl rfl)<|z2 (ze underlying45 rfl sizeOf40 (by decide) rfl rfl)<|yn (l := [_]) (new := [_, _, _, _, _, _, _, _, _, _, _, _, _, _, _, _, _, _, _, _, _, _, _]) sizeOf40 rfl rfl rfl rfl rfl rfl .head rfl rfl<|z2 (zn rfl)<|z2 (ze underlying100 rfl sizeOf4 (by decide) rfl rfl)<|yn (l := [_]) (new := [_, _, _, _, _, _, _, _, _, _, _, _, _, _, _, _, _, _, _, _, _, _, _]) sizeOf4 rfl rfl rfl rfl rfl rfl .head rfl rfl<|z6<|yv ?_
 exact ⟨rfl, rfl⟩
theorem wplace_spec (f : PFunc) (iw ja jb jc jo jt : Nat) (ids : List Nat) (s : GS) (a i : Int) (hids : ids.length = s.arrays.length) : ACall prog E 163 [.po iw 0, .int .i64 a, .int .i64 i] (wO f iw ja jb jc jo jt ids s) (fun y O => y = .bool (placeG s a i) ∧ O = wO f iw ja jb jc jo jt ids s) := by
 refine zo func163 rfl (by decide) rfl<|zSr<|z2 (zAb rfl)<|z6<|zSr<|z2 (zMi rfl)<|z2 (q6 rfl rfl)<|z2 (zMb rfl)<|zt (s := 9) rfl (fun c1=>?_) (fun c1=>?_)
 ·have h1 : 0 ≤ a := by simpa using c1
  refine z8 rfl rfl c1<|z2 (zMi rfl)<|z8 rfl rfl c1<|z2 (zMp rfl)<|z8 rfl rfl c1<|z2 (zn rfl)<|z8 rfl rfl c1<|z2 (ze underlying100 rfl sizeOf35 (by decide) rfl rfl)<|z8 rfl rfl c1<|z2 (zl (c := .own _ _) isAgg35 rfl ⟨_, .head⟩ rfl)<|z8 rfl rfl c1<|z2 (Gv.lenO underlying35 rfl)<|z8 rfl rfl c1<|z2 (yb rfl rfl)<|z2 (zPt rfl c1 rfl)<|z2 (zMb rfl)<|zt (s := 18) rfl (fun c2=>?_) (fun c2=>?_)
  ·have h2 : a < s.arrays.length := by simpa using c2
   refine z8 rfl rfl c2<|z2 (zMi rfl)<|z8 rfl rfl c2<|z2 (q6 rfl rfl)<|z2 (zPt rfl c2 rfl)<|z2 (zMb rfl)<|zt (s := 22) rfl (fun c3=>?_) (fun c3=>?_)
   ·have h3 : 0 ≤ i := by simpa using c3
    obtain ⟨q, hq⟩ := get_id hids (j := a.toNat) (by omega)
    refine z8 rfl rfl c3<|z2 (zMi rfl)<|z8 rfl rfl c3<|z2 (zMp rfl)<|z8 rfl rfl c3<|z2 (zn rfl)<|z8 rfl rfl c3<|z2 (ze underlying100 rfl sizeOf35 (by decide) rfl rfl)<|z8 rfl rfl c3<|z2 (zl (c := .own _ _) isAgg35 rfl ⟨_, .head⟩ rfl)<|z8 rfl rfl c3<|z2 (zMi rfl)<|z8 rfl rfl c3<|z2 (yf (j := a.toNat) underlying35 sizeOf42 rfl rfl (by omega) ⟨_, .t4⟩ (owns_len hids) (by omega))<|z8 rfl rfl c3<|z2 (Gv.load1G (c := _) isAgg42 rfl ⟨_, .t4⟩ (owns_drop hq (row_get h1 h2)))<|z8 rfl rfl c3<|z2 (Gv.lenO underlying42 rfl)<|z8 rfl rfl c3<|z2 (yb rfl rfl)<|z2 (zPt rfl c3 rfl)<|z2 (zAb rfl)<|z6<|zg<|zk (x := .bool _) rfl ?_
    exact ⟨congrArg AV.bool (by unfold placeG; simp [h1, h2, h3]), rfl⟩
   ·have h3 : ¬ 0 ≤ i := by simpa using c3
    refine z7 rfl rfl c3<|z7 rfl rfl c3<|z7 rfl rfl c3<|z7 rfl rfl c3<|z7 rfl rfl c3<|z7 rfl rfl c3<|z7 rfl rfl c3<|z7 rfl rfl c3<|z7 rfl rfl c3<|z7 rfl rfl c3<|z2 (zPf rfl c3 rfl)<|z2 (zAb rfl)<|z6<|zg<|zk (x := .bool _) rfl ?_
    exact ⟨congrArg AV.bool (by unfold placeG; simp [h1, h2, h3]), rfl⟩
  ·have h2 : ¬ a < s.arrays.length := by simpa using c2
   refine z7 rfl rfl c2<|z7 rfl rfl c2<|z2 (zPf rfl c2 rfl)<|z2 (zMb rfl)<|z7 rfl rfl rfl<|z7 rfl rfl rfl<|z7 rfl rfl rfl<|z7 rfl rfl rfl<|z7 rfl rfl rfl<|z7 rfl rfl rfl<|z7 rfl rfl rfl<|z7 rfl rfl rfl<|z7 rfl rfl rfl<|z7 rfl rfl rfl<|z2 (zPf rfl rfl rfl)<|z2 (zAb rfl)<|z6<|zg<|zk (x := .bool _) rfl ?_
   exact ⟨congrArg AV.bool (by unfold placeG; simp [h1, h2]), rfl⟩
 ·have h1 : ¬ 0 ≤ a := by simpa using c1
  refine z7 rfl rfl c1<|z7 rfl rfl c1<|z7 rfl rfl c1<|z7 rfl rfl c1<|z7 rfl rfl c1<|z7 rfl rfl c1<|z7 rfl rfl c1<|z2 (zPf rfl c1 rfl)<|z2 (zMb rfl)<|z7 rfl rfl rfl<|z7 rfl rfl rfl<|z2 (zPf rfl rfl rfl)<|z2 (zMb rfl)<|z7 rfl rfl rfl<|z7 rfl rfl rfl<|z7 rfl rfl rfl<|z7 rfl rfl rfl<|z7 rfl rfl rfl<|z7 rfl rfl rfl<|z7 rfl rfl rfl<|z7 rfl rfl rfl<|z7 rfl rfl rfl<|z7 rfl rfl rfl<|z2 (zPf rfl rfl rfl)<|z2 (zAb rfl)<|z6<|zg<|zk (x := .bool _) rfl ?_
  exact ⟨congrArg AV.bool (by unfold placeG; simp [h1]), rfl⟩
theorem words_one : ∀ j : Nat, j < 27 → ∀ k : Nat, k < 27 → decide ((kRow (j : Int)).1 = (kRow (k : Int)).1) = decide (j = k) := by decide
theorem word_op {op : Int} (h : 0 ≤ op ∧ op ≤ 26) (k : Nat) (hk : k < 27) {b : ByteArray} (hb : (kRow (k : Int)).1 = b) : ((kRow op).1 = b) ↔ op = (k : Int) := by
 subst hb
 obtain ⟨j, rfl⟩ : ∃ j : Nat, op = (j : Int) := ⟨op.toNat, by omega⟩
 have := words_one j (by omega) k hk
 rw [decide_eq_decide] at this
 rw [this]; omega
def arg_ok (f : PFunc) (op : Int) (l : List Int) : Prop := 18 ≤ op ∧ op ≤ 24 ∧ 0 < l.length ∧ ∀ v ∈ l, v < f.vars.length ∧ 0 ≤ v
theorem arg_get {f : PFunc} {op : Int} {l : List Int} (h : arg_ok f op l) {k : Nat} (hk : k < l.length) : (l[k]?).getD 0 < f.vars.length ∧ 0 ≤ (l[k]?).getD 0 := by
 rw [qq hk]; exact h.2.2.2 _ (qu hk)
theorem wpasses_spec (f : PFunc) (iw ja jb jc jo jt : Nat) (ids : List Nat) (s : GS) (op : Int) (l : List Int) (hids : ids.length = s.arrays.length) (hg : GInv f s) (ho : arg_ok f op l) : ACall prog E 160 [.po iw 0, .str (kRow op).1, .fro 1 (l.map encI)] (wO f iw ja jb jc jo jt ids s) (fun y O => y = .bool (passG s op l) ∧ O = wO f iw ja jb jc jo jt ids s) := by
 have hop : 0 ≤ op ∧ op ≤ 26 := by have := ho.1; have := ho.2.1; omega
 obtain ⟨q0, r0⟩ := arg_get ho ho.2.2.1
 obtain ⟨v0, hv0⟩ : ∃ v, (l[0]?).getD 0 = v := ⟨_, rfl⟩
 rw [hv0] at q0 r0
 have hl1 := hg.li
 have hl3 := hg.la
 have ha64 : is64 (vi s.ints v0) := vi_64 hg.i64
 refine zo func160 rfl (by decide) rfl<|zSr<|z2 (zAb rfl)<|z6<|zd<|zu (fun j => false) (by kernel_rfl) rfl (zm (.r (.r (.rest _))))<|zTk 0 rfl (zMp rfl)<|zTk 1 rfl (zn rfl)<|zTk 2 rfl (ze underlying100 rfl sizeOf42 (by decide) rfl rfl)<|zTk 3 rfl (zl (c := .own _ _) isAgg42 rfl ⟨_, .head⟩ rfl)<|zTk 4 rfl (zMf rfl)<|zTk 5 rfl (zIM 0 underlying23 sizeOf3 rfl rfl rfl ((get0 ho.2.2.1).trans (by rw [hv0]))) ?_
 refine zTk 6 rfl (zLi isAgg3 rfl)<|zTk 7 rfl (yf (j := v0.toNat) underlying42 sizeOf2 rfl rfl (by omega) ⟨_, .t1⟩ ((cI_len _).trans hl1) (by omega))<|zTk 8 rfl (yt (j := v0.toNat) isAgg2 rfl ⟨_, .t1⟩ (vi_get (by omega) r0))<|zTk 9 rfl (zAi rfl)<|zDn<|zSr<|z2 (zAi rfl)<|z6<|zd<|zSr<|z2 (zMf rfl)<|z2 (y2 underlying23 rfl)<|z2 (q4 rfl rfl)<|z6<|yp (γ := Int) [0, 1, 2, 7] (fun u => [(8, .int .i64 u)]) (fun u => wO f iw ja jb jc jo jt ids s) (fun u => u = bIf l s.ints) ?_ (fun _ _ h => h) ?_
 ·refine zr rfl (fun c=>?_) (fun c=>?_)
  ·have c : 1 < l.length := by omega
   obtain ⟨q1, r1⟩ := arg_get ho c
   obtain ⟨v1, hv1⟩ : ∃ v, (l[1]?).getD 0 = v := ⟨_, rfl⟩
   rw [hv1] at q1 r1
   refine zu (fun j => false) (by kernel_rfl) rfl (zm (.r (.r (.rest _))))<|zTk 0 rfl (zMp rfl)<|zTk 1 rfl (zn rfl)<|zTk 2 rfl (ze underlying100 rfl sizeOf42 (by decide) rfl rfl)<|zTk 3 rfl (zl (c := .own _ _) isAgg42 rfl ⟨_, .head⟩ rfl)<|zTk 4 rfl (zMf rfl)<|zTk 5 rfl (zIM 1 underlying23 sizeOf3 rfl rfl rfl ((get0 c).trans (by rw [hv1]))) ?_
   refine zTk 6 rfl (zLi isAgg3 rfl)<|zTk 7 rfl (yf (j := v1.toNat) underlying42 sizeOf2 rfl rfl (by omega) ⟨_, .t1⟩ ((cI_len _).trans hl1) (by omega))<|zTk 8 rfl (yt (j := v1.toNat) isAgg2 rfl ⟨_, .t1⟩ (vi_get (by omega) r1))<|zTk 9 rfl (zAi rfl)<|zDn ?_
   exact ⟨_, zR4, zR1, zLe, by unfold bIf; rw [if_pos c, hv1]⟩
  ·have c : ¬ 1 < l.length := by omega
   refine zh ?_
   exact ⟨_, zR4, zR1, zLe, by unfold bIf; rw [if_neg c]⟩
 ·rintro u hu
  have hb64 : is64 u := by
   rw [hu]; unfold bIf; split
   ·exact vi_64 hg.i64
   ·exact ⟨by decide, by decide⟩
  refine zd<|zSr<|z2 (yq (v := .str _) rfl)<|z6<|zi<|zSr<|z2 (yy rfl rfl)<|z2 (zAb rfl)<|z6<|zr rfl (fun c18=>?_) (fun c18=>?_)
  ·have e : op = 18 := (word_op hop 18 (by decide) rfl).1 c18
   refine zd<|zu (fun j => false) (by kernel_rfl) rfl (zm (.rest _))<|zTk 0 rfl (zMp rfl)<|zTk 1 rfl (zMp rfl)<|zTk 2 rfl (zn rfl)<|zTk 3 rfl (ze underlying100 rfl sizeOf23 (by decide) rfl rfl)<|zTk 5 rfl (zMf rfl)<|zTk 6 rfl (zIM 0 underlying23 sizeOf3 rfl rfl rfl ((get0 ho.2.2.1).trans (by rw [hv0]))) ?_
   refine zTk 7 rfl (zLi isAgg3 rfl)<|zTk 10 rfl (zMi rfl)<|zOn 4 rfl<|z2 (zl (c := .own _ _) isAgg23 rfl ⟨_, .head⟩ rfl)<|z6<|zOn 8 rfl<|z2 (yf (j := v0.toNat) underlying23 sizeOf3 rfl rfl (by omega) ⟨_, .t3⟩ ((cI_len _).trans hl3) (by omega))<|z6<|zOn 9 rfl<|z2 (yt (j := v0.toNat) isAgg3 rfl ⟨_, .t3⟩ (vi_get (by omega) r0))<|z6<|zOn 11 rfl<|y1 rfl (zm (.l (.l (.l (.l (.l (.l (.l (.rest _))))))))) (wplace_spec f iw ja jb jc jo jt ids s (vi s.arrs v0) u hids) ?_
   rintro r44 O44 ⟨rfl, rfl⟩
   refine z6<|zTk 12 rfl (zAb rfl)<|zDn<|zg<|zk (x := .bool _) rfl ?_
   exact ⟨by unfold passG; rw [if_pos e, hv0, hu], rfl⟩
  ·have n18 : ¬ op = 18 := fun e => c18 ((word_op hop 18 (by decide) rfl).2 e)
   refine zSr<|z2 (yy rfl rfl)<|z2 (zAb rfl)<|z6<|zr rfl (fun c19=>?_) (fun c19=>?_)
   ·have e : op = 19 := (word_op hop 19 (by decide) rfl).1 c19
    refine zd<|zu (fun j => false) (by kernel_rfl) rfl (zm (.r (.l (.l (.r (.rest _))))))<|zTk 0 rfl (zMp rfl)<|zTk 1 rfl (zn rfl)<|zTk 2 rfl (ze underlying100 rfl sizeOf23 (by decide) rfl rfl)<|zTk 3 rfl (zl (c := .own _ _) isAgg23 rfl ⟨_, .head⟩ rfl)<|zTk 4 rfl (zMf rfl)<|zTk 5 rfl (zIM 0 underlying23 sizeOf3 rfl rfl rfl ((get0 ho.2.2.1).trans (by rw [hv0]))) ?_
    refine zTk 6 rfl (zLi isAgg3 rfl)<|zTk 7 rfl (yf (j := v0.toNat) underlying23 sizeOf3 rfl rfl (by omega) ⟨_, .t1⟩ ((cI_len _).trans hl3) (by omega))<|zTk 8 rfl (yt (j := v0.toNat) isAgg3 rfl ⟨_, .t1⟩ (vi_get (by omega) r0))<|zTk 9 rfl (q6 rfl rfl)<|zTk 10 rfl (zAb rfl)<|zDn<|yc (za (zb .t3))<|yc (za (zb .t3))<|yc (za (zb .t2))<|zg<|zk (x := .bool _) rfl ?_
    exact ⟨by unfold passG; rw [if_neg n18, if_pos e, hv0], rfl⟩
   ·have n19 : ¬ op = 19 := fun e => c19 ((word_op hop 19 (by decide) rfl).2 e)
    refine zSr<|z2 (yy rfl rfl)<|z2 (zAb rfl)<|z6<|zr rfl (fun c20=>?_) (fun c20=>?_)
    ·have e : op = 20 := (word_op hop 20 (by decide) rfl).1 c20
     refine zSr<|z2 (zMi rfl)<|z2 (yj rfl rfl)<|z2 (zAb rfl)<|z6<|zg<|zk (x := .bool _) rfl ?_
     exact ⟨by unfold passG; rw [if_neg n18, if_neg n19, if_pos e, hv0]; simp, rfl⟩
    ·have n20 : ¬ op = 20 := fun e => c20 ((word_op hop 20 (by decide) rfl).2 e)
     refine zSr<|z2 (yy rfl rfl)<|z2 (zAb rfl)<|z6<|zr rfl (fun c21=>?_) (fun c21=>?_)
     ·have e : op = 21 := (word_op hop 21 (by decide) rfl).1 c21
      refine zSr<|z2 (zMi rfl)<|z2 (zMi rfl)<|zf (rFits2 (k := 0) (by decide) ha64 hb64) rfl<|z2 (zAb rfl)<|z6<|zg<|zk (x := .bool _) rfl ?_
      exact ⟨by unfold passG; rw [if_neg n18, if_neg n19, if_neg n20, if_pos e, hv0, hu], rfl⟩
     ·have n21 : ¬ op = 21 := fun e => c21 ((word_op hop 21 (by decide) rfl).2 e)
      refine zSr<|z2 (yy rfl rfl)<|z2 (zAb rfl)<|z6<|zr rfl (fun c22=>?_) (fun c22=>?_)
      ·have e : op = 22 := (word_op hop 22 (by decide) rfl).1 c22
       refine zSr<|z2 (zMi rfl)<|z2 (zMi rfl)<|zf (rFits2 (k := 1) (by decide) ha64 hb64) rfl<|z2 (zAb rfl)<|z6<|zg<|zk (x := .bool _) rfl ?_
       exact ⟨by unfold passG; rw [if_neg n18, if_neg n19, if_neg n20, if_neg n21, if_pos e, hv0, hu], rfl⟩
      ·have n22 : ¬ op = 22 := fun e => c22 ((word_op hop 22 (by decide) rfl).2 e)
       refine zSr<|z2 (yy rfl rfl)<|z2 (zAb rfl)<|z6<|zr rfl (fun c23=>?_) (fun c23=>?_)
       ·have e : op = 23 := (word_op hop 23 (by decide) rfl).1 c23
        refine zSr<|z2 (zMi rfl)<|z2 (zMi rfl)<|zf (rFits2 (k := 2) (by decide) ha64 hb64) rfl<|z2 (zAb rfl)<|z6<|zg<|zk (x := .bool _) rfl ?_
        exact ⟨by unfold passG; rw [if_neg n18, if_neg n19, if_neg n20, if_neg n21, if_neg n22, if_pos e, hv0, hu], rfl⟩
       ·have n23 : ¬ op = 23 := fun e => c23 ((word_op hop 23 (by decide) rfl).2 e)
        refine zh<|zSr<|z2 (zMi rfl)<|z2 (q6 rfl rfl)<|z2 (zMb rfl)<|zt (s := 78) rfl (fun cz=>?_) (fun cz=>?_)
        ·have h0 : 0 ≤ vi s.ints v0 := by simpa using cz
         refine z8 rfl rfl cz<|z2 (zMi rfl)<|z8 rfl rfl cz<|z2 (Gv.leq rfl rfl)<|z2 (zPt rfl cz rfl)<|z2 (zAb rfl)<|z6<|zg<|zk (x := .bool _) rfl ?_
         exact ⟨congrArg AV.bool (by unfold passG; rw [if_neg n18, if_neg n19, if_neg n20, if_neg n21, if_neg n22, if_neg n23, hv0]; simp [h0]), rfl⟩
        ·have h0 : ¬ 0 ≤ vi s.ints v0 := by simpa using cz
         refine z7 rfl rfl cz<|z7 rfl rfl cz<|z2 (zPf rfl cz rfl)<|z2 (zAb rfl)<|z6<|zg<|zk (x := .bool _) rfl ?_
         exact ⟨congrArg AV.bool (by unfold passG; rw [if_neg n18, if_neg n19, if_neg n20, if_neg n21, if_neg n22, if_neg n23, hv0]; simp [h0]), rfl⟩
set_option linter.defProp false
def y6 := @AAnyR.takeK
def qm := @AAnyR.one
end Go.Proofs.YtiojekbkamegdaaGreatDoor
