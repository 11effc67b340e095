/- The variables of a program in the order in which they stand first. Of shaped programs. -/
import Derived.Test.YtpojdepccecpgaaGreatDoorHc
import Derived.Test.YtpojdepccecpgaaGreatDoorHd
import Derived.Test.YtpojdepccecpgaaGreatDoorHi
import Derived.Test.YtpojdepccecpgaaGreatDoorHf
import Derived.Test.YtpojdepccecpgaaGreatDoorHe
set_option linter.unusedVariables false
set_option linter.unusedSimpArgs false
set_option linter.unusedSectionVars false
namespace Go.Proofs.YtpojdepccecpgaaGreatDoor
open Go.Proofs.Tryz
structure FrS (E : Int → List Int) (a shut : Int) (n : Nat) (out : List Bool) : Prop where
 len : out.length = n
 sound : ∀ b : Nat, out[b]? = some true → FromP E a shut b
def okX (a : Int) (out : List Bool) (shut x : Int) : Prop := x ≠ shut ∧ (x = a ∨ gb out x = true)
instance (a : Int) (out : List Bool) (shut x : Int) : Decidable (okX a out shut x) := by unfold okX; infer_instance
def clTo (E : Int → List Int) (a shut : Int) (out : List Bool) (k : Nat) : Prop := ∀ x : Nat, x < k → okX a out shut x → ∀ y : Nat, (y : Int) ∈ E x → (y : Int) ≠ shut → gb out y = true
theorem gb_nat (out : List Bool) (k : Nat) : gb out (k : Int) = (out[k]?).getD false := rfl
theorem gb_some {out : List Bool} {k : Nat} (h : k < out.length) : out[k]? = some (gb out k) := by
 rw [gb_nat, qa h]; rfl
theorem FrS.begin (E : Int → List Int) (a shut : Int) (n : Nat) : FrS E a shut n (List.replicate n false) := ⟨by simp, fun b h => by
 rw [List.getElem?_replicate] at h; split at h <;> simp at h⟩
theorem FrS.set {E : Int → List Int} {a shut : Int} {n : Nat} {out : List Bool} (h : FrS E a shut n out) {x y : Nat} (hx : okX a out shut x) (ha : a ≠ shut ∨ (x : Int) ≠ a) (he : (y : Int) ∈ E x) (hy : (y : Int) ≠ shut) : FrS E a shut n (out.set y true) := by
 refine ⟨by rw [List.length_set]; exact h.len, fun b hb => ?_⟩
 by_cases e : b = y
 ·subst e
  refine FromP.step (x := x) ?_ he hy
  rcases hx.2 with e | hg
  ·left
   refine ⟨e, ?_⟩
   rw [← e]; exact hx.1
  ·right
   by_cases hlt : x < out.length
   ·exact h.sound x (by rw [gb_some hlt, hg])
   ·rw [gb_nat, List.getElem?_eq_none (by omega)] at hg; simp at hg
 ·rw [List.getElem?_set_ne (fun e2 => e e2.symm)] at hb; exact h.sound b hb
theorem FrS.all {E : Int → List Int} {a shut : Int} {n : Nat} {out : List Bool} (hE : Grph E n) (ha : a = a ∧ 0 ≤ a ∧ a < n) (h : FrS E a shut n out) (hc : clTo E a shut out n) (b : Nat) (hb : b < n) : gb out b = true ↔ FromP E a shut b := by
 constructor
 ·intro hg; exact h.sound b (by rw [gb_some (by rw [h.len]; exact hb), hg])
 ·intro hf
  have := FromP.closed (out := fun x : Int => 0 ≤ x ∧ x < n ∧ gb out x = true) (fun x y h1 h2 h3 h4 => by
   have hxr : 0 ≤ x ∧ x < n := by
    rcases h2 with e | h2
    ·rw [e]; exact ha.2
    ·exact ⟨h2.1, h2.2.1⟩
   have hy := hE.rng x hxr.1 hxr.2 y h3
   have e1 : ((x.toNat : Nat) : Int) = x := qp hxr.1
   have e2 : ((y.toNat : Nat) : Int) = y := qp hy.1
   refine ⟨hy.1, hy.2, ?_⟩
   have := hc x.toNat (by omega) ⟨by rw [e1]; exact h1, by
    rw [e1]
    rcases h2 with e | h2
    ·exact .inl e
    ·exact .inr h2.2.2⟩ y.toNat (by rw [e1, e2]; exact h3) (by rw [e2]; exact h4)
   rwa [e2] at this) hf
  exact this.2.2
end Go.Proofs.YtpojdepccecpgaaGreatDoor
namespace Go.Proofs.YtpojdepccecpgaaGreatDoor
open Go.Proofs.Tryz
noncomputable section
end
end Go.Proofs.YtpojdepccecpgaaGreatDoor
namespace Go.Proofs.YtpojdepccecpgaaGreatDoor
open Go.Proofs.Tryz
abbrev Rng := Int × Int
def is64 (x : Int) : Prop := -9223372036854775808 ≤ x ∧ x ≤ 9223372036854775807
instance (x : Int) : Decidable (is64 x) := by unfold is64; infer_instance
def ok64 (r : Rng) : Prop := is64 r.1 ∧ is64 r.2
def noR : Rng := (1, 0)
def rMade (lo hi : Int) : Rng := if hi < lo then noR else (lo, hi)
def imin (a b : Int) : Int := if b < a then b else a
def imax (a b : Int) : Int := if a < b then b else a
def rJoin (a b : Rng) : Rng := if a.2 < a.1 then rMade b.1 b.2 else if b.2 < b.1 then a else (imin a.1 b.1, imax a.2 b.2)
def op3 (k : Nat) (x y : Int) : Int := if k = 0 then x + y else if k = 1 then x - y else x * y
def fit3 (k : Nat) (x y : Int) : Prop := is64 (op3 k x y)
instance (k : Nat) (x y : Int) : Decidable (fit3 k x y) := by unfold fit3; infer_instance
def rOf (n : Int) : Rng := (n, n)
def cornF (k : Nat) (a b : Rng) : Prop := fit3 k a.1 b.1 ∧ fit3 k a.1 b.2 ∧ fit3 k a.2 b.1 ∧ fit3 k a.2 b.2
instance (k : Nat) (a b : Rng) : Decidable (cornF k a b) := by unfold cornF; infer_instance
end Go.Proofs.YtpojdepccecpgaaGreatDoor
namespace Go.Proofs.YtpojdepccecpgaaGreatDoor
open Go.Proofs.Tryz
def rSub (r s : Rng) : Prop := r.2 < r.1 ∨ (s.1 ≤ r.1 ∧ r.2 ≤ s.2)
theorem rSub.refl (r : Rng) : rSub r r := .inr ⟨Int.le_refl _, Int.le_refl _⟩
theorem rSub.trans {r s t : Rng} (h : rSub r s) (k : rSub s t) : rSub r t := by
 rcases h with h | h
 ·exact .inl h
 ·rcases k with k | k
  ·exact .inl (by omega)
  ·exact .inr (by omega)
end Go.Proofs.YtpojdepccecpgaaGreatDoor
namespace Go.Proofs.YtpojdepccecpgaaGreatDoor
open Go.Proofs.Tryz
end Go.Proofs.YtpojdepccecpgaaGreatDoor
namespace Go.Proofs.YtpojdepccecpgaaGreatDoor
open Go.Proofs.Tryz
end Go.Proofs.YtpojdepccecpgaaGreatDoor
namespace Go.Proofs.YtpojdepccecpgaaGreatDoor
open Go.Proofs.Tryz
def ra (rs : List Rng) (i : Nat) : Rng := (rs[i]?).getD (0, 0)
structure Less (a a' : Rng) : Prop where
 ok : ok64 a
 ok' : ok64 a'
 ne : a.1 ≤ a.2
 sub : a'.1 ≤ a.1 ∧ a.2 ≤ a'.2
theorem Less.zero : Less (0, 0) (0, 0) := ⟨⟨by decide, by decide⟩, ⟨by decide, by decide⟩, by decide, by decide, by decide⟩
end Go.Proofs.YtpojdepccecpgaaGreatDoor
namespace Go.Proofs.YtpojdepccecpgaaGreatDoor
open Go.Proofs.Tryz
def lv (l : List Rng) (v : Int) : Rng := (l[v.toNat]?).getD noR
structure Rules (n : Nat) (rule : List Rng → Int → Rng) (vs : List Int) : Prop where
 mono : ∀ l l' v, l.length = n → l'.length = n → (∀ u : Int, 0 ≤ u → rSub (lv l u) (lv l' u)) → (∀ u : Int, 0 ≤ u → ok64 (lv l u)) → (∀ u : Int, 0 ≤ u → ok64 (lv l' u)) → v ∈ vs → rSub (rule l v) (rule l' v)
 ok : ∀ l v, l.length = n → (∀ u : Int, 0 ≤ u → ok64 (lv l u)) → v ∈ vs → ok64 (rule l v)
 rng : ∀ v ∈ vs, 0 ≤ v ∧ v < n
end Go.Proofs.YtpojdepccecpgaaGreatDoor
namespace Go.Proofs.YtpojdepccecpgaaGreatDoor
open Go.Proofs.Tryz
section
variable {n : Nat} {rule : List Rng → Int → Rng} {widn : Nat → Int → Option Rng} {vs : List Int} (hR : Rules n rule vs) (hw : ∀ i v t, widn i v = some t → ok64 t)
include hR hw
end
end Go.Proofs.YtpojdepccecpgaaGreatDoor
namespace Go.Proofs.YtpojdepccecpgaaGreatDoor
open Go.Proofs.Tryz
end Go.Proofs.YtpojdepccecpgaaGreatDoor
namespace Go.Proofs.YtpojdepccecpgaaGreatDoor
open Go.Proofs.Tryz
def chkQ (f : PFunc) (op : Int) (args : List Int) (i : Nat) (block at_ : Int) (q : PInst × Nat) : Bool := decide (q.1.op = op) && decide (q.1.args = args) && aheadB f ((i : Int), (q.2 : Int)) block at_
def chkI (f : PFunc) (op : Int) (args : List Int) (block at_ : Int) (i : Nat) : Bool := ((f.blocks[i]?).map fun b => b.insts.zipIdx.any (chkQ f op args i block at_)).getD false
def chkW (f : PFunc) (op : Int) (args : List Int) (block at_ : Int) : Bool := (List.range f.blocks.length).any (chkI f op args block at_)
def isSum (op : Int) : Bool := decide (op = 2 ∨ op = 3 ∨ op = 4)
def chkX (f : PFunc) (x : PInst) (block at_ : Int) : Bool := isSum x.op && chkW f (x.op + 19) x.args block at_
def instAt (f : PFunc) (m : Plc) : Option PInst := if 0 ≤ m.1 ∧ 0 ≤ m.2 then (f.blocks[m.1.toNat]?).bind fun b => b.insts[m.2.toNat]? else none
def chkV (f : PFunc) (v : Int) : Bool := ((instAt f (makerT f v)).map fun x => chkX f x (makerT f v).1 (makerT f v).2).getD false
theorem mem_mkBlk {v i : Int} {b : PBlock} {m : Plc} : m ∈ mkBlk v i b ↔ (∃ p ∈ b.phis, p.dst = v ∧ m = (i, -1)) ∨ ∃ (k : Nat) (x : PInst), b.insts[k]? = some x ∧ x.dst = v ∧ m = (i, (k : Int)) := by
 unfold mkBlk
 rw [List.mem_append]
 constructor
 ·rintro (h | h)
  ·obtain ⟨p, hp, e⟩ := List.mem_map.1 h
   obtain ⟨h1, h2⟩ := List.mem_filter.1 hp
   exact .inl ⟨p, h1, by simpa using h2, e.symm⟩
  ·obtain ⟨q, hq, e⟩ := List.mem_map.1 h
   obtain ⟨h1, h2⟩ := List.mem_filter.1 hq
   obtain ⟨x, k⟩ := q
   have := List.mem_zipIdx_iff_getElem?.1 h1
   exact .inr ⟨k, x, this, by simpa using h2, e.symm⟩
 ·rintro (⟨p, h1, h2, rfl⟩ | ⟨k, x, h1, h2, rfl⟩)
  ·exact .inl (List.mem_map.2 ⟨p, List.mem_filter.2 ⟨h1, by simpa using h2⟩, rfl⟩)
  ·exact .inr (List.mem_map.2 ⟨(x, k), List.mem_filter.2 ⟨List.mem_zipIdx_iff_getElem?.2 h1, by simpa using h2⟩, rfl⟩)
theorem mem_makings {f : PFunc} {v : Int} {m : Plc} : m ∈ makings f v ↔ ∃ (i : Nat) (b : PBlock), f.blocks[i]? = some b ∧ m ∈ mkBlk v i b := by
 unfold makings
 rw [List.mem_flatMap]
 constructor
 ·rintro ⟨⟨b, i⟩, h1, h2⟩; exact ⟨i, b, List.mem_zipIdx_iff_getElem?.1 h1, h2⟩
 ·rintro ⟨i, b, h1, h2⟩; exact ⟨(b, i), List.mem_zipIdx_iff_getElem?.2 h1, h2⟩
theorem maker_mem {f : PFunc} {v : Int} (h : 0 ≤ (makerT f v).1) : makerT f v ∈ makings f v := by
 unfold makerT at h ⊢
 cases hm : makings f v with
 | nil => rw [hm] at h; simp at h
 | cons x l => simp
theorem maker_eq {f : PFunc} {v : Int} {m : Plc} (hl : (makings f v).length ≤ 1) (h : m ∈ makings f v) : makerT f v = m := by
 unfold makerT
 cases hm : makings f v with
 | nil => rw [hm] at h; cases h
 | cons x l =>
  rw [hm] at h hl
  cases l with
  | nil => simp at h; simp [h]
  | cons y l => simp at hl
theorem maker_cases {f : PFunc} {v : Int} (h : 0 ≤ (makerT f v).1) : ∃ (i : Nat) (b : PBlock), f.blocks[i]? = some b ∧ ((∃ p ∈ b.phis, p.dst = v ∧ makerT f v = ((i : Int), -1)) ∨ ∃ (k : Nat) (x : PInst), b.insts[k]? = some x ∧ x.dst = v ∧ makerT f v = ((i : Int), (k : Int))) := by
 obtain ⟨i, b, h1, h2⟩ := mem_makings.1 (maker_mem h)
 exact ⟨i, b, h1, mem_mkBlk.1 h2⟩
theorem chkV_at {f : PFunc} {v : Int} {i k : Nat} {b : PBlock} {x : PInst} (hb : f.blocks[i]? = some b) (hx : b.insts[k]? = some x) (hm : makerT f v = ((i : Int), (k : Int))) : chkV f v = chkX f x i k := by
 unfold chkV instAt
 rw [hm, if_pos ⟨by dsimp only; omega, by dsimp only; omega⟩]
 show (((f.blocks[i]?).bind fun b => b.insts[k]?).map fun x => chkX f x i k).getD false = _
 rw [hb]; show ((b.insts[k]?).map _).getD false = _
 rw [hx]; rfl
end Go.Proofs.YtpojdepccecpgaaGreatDoor
namespace Go.Proofs.YtpojdepccecpgaaGreatDoor
open Go.Proofs.Tryz
end Go.Proofs.YtpojdepccecpgaaGreatDoor
namespace Go.Proofs.YtpojdepccecpgaaGreatDoor
open Go.Proofs.Tryz
def isChk (q : Int) : Prop := 21 ≤ q ∧ q ≤ 23
instance (q : Int) : Decidable (isChk q) := by unfold isChk; infer_instance
def Done (f : PFunc) (i k : Nat) (v : Int) : Prop := ∃ (i' k' : Nat) (b : PBlock) (z : PInst), f.blocks[i']? = some b ∧ b.insts[k']? = some z ∧ z.dst = v ∧ chkX f z i' k' = true ∧ (i' < i ∨ i' = i ∧ k' < k)
theorem Done.step {f : PFunc} {i k : Nat} {b : PBlock} {z : PInst} (h1 : f.blocks[i]? = some b) (h2 : b.insts[k]? = some z) (v : Int) : Done f i (k + 1) v ↔ Done f i k v ∨ (v = z.dst ∧ chkX f z i k = true) := by
 constructor
 ·rintro ⟨i', k', b', z', g1, g2, g3, g4, g5⟩
  by_cases e : i' = i ∧ k' = k
  ·obtain ⟨rfl, rfl⟩ := e
   rw [h1] at g1; cases g1
   rw [h2] at g2; cases g2
   exact .inr ⟨g3.symm, g4⟩
  ·exact .inl ⟨i', k', b', z', g1, g2, g3, g4, by omega⟩
 ·rintro (⟨i', k', b', z', g1, g2, g3, g4, g5⟩ | ⟨rfl, h⟩)
  ·exact ⟨i', k', b', z', g1, g2, g3, g4, by omega⟩
  ·exact ⟨i, k, b, z, h1, h2, rfl, h, .inr ⟨rfl, by omega⟩⟩
theorem Done.next {f : PFunc} {i : Nat} {b : PBlock} (h1 : f.blocks[i]? = some b) (v : Int) : Done f (i + 1) 0 v ↔ Done f i b.insts.length v := by
 constructor
 ·rintro ⟨i', k', b', z', g1, g2, g3, g4, g5⟩
  refine ⟨i', k', b', z', g1, g2, g3, g4, ?_⟩
  by_cases e : i' = i
  ·subst e
   rw [h1] at g1; cases g1
   exact .inr ⟨rfl, (List.getElem?_eq_some_iff.1 g2).1⟩
  ·exact .inl (by omega)
 ·rintro ⟨i', k', b', z', g1, g2, g3, g4, g5⟩
  exact ⟨i', k', b', z', g1, g2, g3, g4, .inl (by omega)⟩
theorem Done.zero (f : PFunc) (v : Int) : ¬ Done f 0 0 v := by
 rintro ⟨i', k', b', z', g1, g2, g3, g4, g5⟩; omega
theorem Done.all {f : PFunc} (ho : OnceP f) {v : Nat} (hv : v < f.vars.length) : Done f f.blocks.length 0 v ↔ chkV f v = true := by
 constructor
 ·rintro ⟨i', k', b', z', g1, g2, g3, g4, g5⟩
  have hm : ((i' : Int), (k' : Int)) ∈ makings f v := mem_makings.2 ⟨i', b', g1, mem_mkBlk.2 (.inr ⟨k', z', g2, g3, rfl⟩)⟩
  have := maker_eq (ho v hv).1 hm
  rw [chkV_at g1 g2 this]; exact g4
 ·intro h
  by_cases h0 : 0 ≤ (makerT f v).1
  ·obtain ⟨i, b, h1, ⟨p, h2, h3, h4⟩ | ⟨k, x, h2, h3, h4⟩⟩ := maker_cases h0
   ·unfold chkV instAt at h
    rw [h4, if_neg (by dsimp only; omega)] at h
    cases h
   ·rw [chkV_at h1 h2 h4] at h
    exact ⟨i, k, b, x, h1, h2, h3, h, .inl (List.getElem?_eq_some_iff.1 h1).1⟩
  ·unfold chkV instAt at h
   rw [if_neg (fun hh => h0 hh.1)] at h
   cases h
end Go.Proofs.YtpojdepccecpgaaGreatDoor
namespace Go.Proofs.YtpojdepccecpgaaGreatDoor
open Go.Proofs.Tryz
end Go.Proofs.YtpojdepccecpgaaGreatDoor
namespace Go.Proofs.YtpojdepccecpgaaGreatDoor
open Go.Proofs.Tryz
section
variable {n : Nat} {rule : List Rng → Int → Rng} {vs : List Int} {phi : Int → Prop} {rank : Int → Nat}
def SameR (vs : List Int) (phi : Int → Prop) (rank : Int → Nat) (m : Nat) (l l' : List Rng) : Prop := ∀ u : Int, 0 ≤ u → (u ∉ vs ∨ phi u ∨ rank u < m) → lv l u = lv l' u
theorem SameR.le {m k : Nat} {l l' : List Rng} (h : SameR vs phi rank m l l') (hk : k ≤ m) : SameR vs phi rank k l l' := fun u hu hc => h u hu (by
 rcases hc with hc | hc | hc
 ·exact .inl hc
 ·exact .inr (.inl hc)
 ·exact .inr (.inr (by omega)))
end
section
variable {n : Nat} {rule : List Rng → Int → Rng} {vs : List Int} {phi : Int → Prop} {t : Int → Rng}
end
end Go.Proofs.YtpojdepccecpgaaGreatDoor
namespace Go.Proofs.YtpojdepccecpgaaGreatDoor
open Go.Proofs.Tryz
def hAdd (h : Rng × Bool) (n : Int) (fits : Bool) (e : Int) : Rng × Bool := (rJoin h.1 (rOf (if fits then n else e)), h.2 || !fits)
def h4 (h : Rng × Bool) (a b : Rng) (n : Int → Int → Int) (fit : Int → Int → Bool) (e : Int → Int → Int) : Rng × Bool :=
 hAdd (hAdd (hAdd (hAdd h (n a.1 b.1) (fit a.1 b.1) (e a.1 b.1)) (n a.1 b.2) (fit a.1 b.2) (e a.1 b.2)) (n a.2 b.1) (fit a.2 b.1) (e a.2 b.1)) (n a.2 b.2) (fit a.2 b.2) (e a.2 b.2)
instance (k : Nat) (x y : Int) : Decidable (fit3 k x y) := by unfold fit3 is64; infer_instance
instance (k : Nat) (a b : Rng) : Decidable (cornF k a b) := by unfold cornF; infer_instance
end Go.Proofs.YtpojdepccecpgaaGreatDoor
namespace Go.Proofs.YtpojdepccecpgaaGreatDoor
open Go.Proofs.Tryz
open Go.Proofs
def encZ (r : Rng) : List AV := [.int .i64 r.1, .int .i64 r.2]
end Go.Proofs.YtpojdepccecpgaaGreatDoor
namespace Go.Proofs.YtpojdepccecpgaaGreatDoor
open Go.Proofs.Tryz
open Go.Proofs
theorem wrap_s (z : Int) : IntKind.i64.wrap z = (z + 9223372036854775808) % 18446744073709551616 - 9223372036854775808 := by
 unfold IntKind.wrap; simp [IntKind.bits, IntKind.signed]; (try split) <;> omega
end Go.Proofs.YtpojdepccecpgaaGreatDoor
namespace Go.Proofs.YtpojdepccecpgaaGreatDoor
open Go.Proofs.Tryz
structure GS where
 ints : List Int
 bools : List Bool
 arrs : List Int
 arrays : List (List Int)
 blk : Int
 pc : Nat
 en : Int
 val : Int
 tr : Int
 trace : List Int
 st : Nat
 ck : Nat → Nat
 ended : Bool
def vi (l : List Int) (v : Int) : Int := (l[v.toNat]?).getD 0
def ar0 (x : PInst) : Int := (x.args[0]?).getD 0
def ar1 (x : PInst) : Int := (x.args[1]?).getD 0
def ar2 (x : PInst) : Int := (x.args[2]?).getD 0
def rowG (s : GS) (a : Int) : List Int := (s.arrays[a.toNat]?).getD []
def placeG (s : GS) (a i : Int) : Bool := decide (0 ≤ a ∧ a < s.arrays.length ∧ 0 ≤ i ∧ i < (rowG s a).length)
def bIf (l : List Int) (ints : List Int) : Int := if 1 < l.length then vi ints ((l[1]?).getD 0) else 0
def passG (s : GS) (op : Int) (l : List Int) : Bool :=
 if op = 18 then placeG s (vi s.arrs ((l[0]?).getD 0)) (bIf l s.ints)
 else if op = 19 then decide (0 ≤ vi s.arrs ((l[0]?).getD 0))
 else if op = 20 then decide (vi s.ints ((l[0]?).getD 0) ≠ 0)
 else if op = 21 then decide (fit3 0 (vi s.ints ((l[0]?).getD 0)) (bIf l s.ints))
 else if op = 22 then decide (fit3 1 (vi s.ints ((l[0]?).getD 0)) (bIf l s.ints))
 else if op = 23 then decide (fit3 2 (vi s.ints ((l[0]?).getD 0)) (bIf l s.ints))
 else decide (0 ≤ vi s.ints ((l[0]?).getD 0) ∧ vi s.ints ((l[0]?).getD 0) ≤ 64)
def bumpG (s : GS) (t : Nat) : GS := { s with ck := fun i => if i = t then s.ck i + 1 else s.ck i }
def stopG (s : GS) (e : Int) : GS := { s with en := e, ended := true }
def trapG (s : GS) (t : Int) : GS := { s with en := 1, tr := t, ended := true }
def stI (s : GS) (d v : Int) : GS := { s with ints := s.ints.set d.toNat v }
def stB (s : GS) (d : Int) (v : Bool) : GS := { s with bools := s.bools.set d.toNat v }
def stA (s : GS) (d v : Int) : GS := { s with arrs := s.arrs.set d.toNat v }
def quoG (a b : Int) : Int := IntKind.i64.wrap (a.tdiv b)
def remG (a b : Int) : Int := if b = -1 then 0 else IntKind.i64.wrap (a - IntKind.i64.wrap (IntKind.i64.wrap (a.tdiv b) * b))
def aG (s : GS) (x : PInst) : Int := vi s.ints (ar0 x)
def bG (s : GS) (x : PInst) : Int := vi s.ints (ar1 x)
def pG (s : GS) (x : PInst) : Bool := gb s.bools (ar0 x)
def qG (s : GS) (x : PInst) : Bool := gb s.bools (ar1 x)
def rG (s : GS) (x : PInst) : Int := vi s.arrs (ar0 x)
def doG (s : GS) (x : PInst) : GS :=
 if x.op = 0 then stI s x.dst x.num
 else if x.op = 1 ∨ x.op = 25 ∨ x.op = 26 then stA (stB (stI s x.dst (aG s x)) x.dst (pG s x)) x.dst (rG s x)
 else if x.op = 2 then stI s x.dst (IntKind.i64.wrap (op3 0 (aG s x) (bG s x)))
 else if x.op = 3 then stI s x.dst (IntKind.i64.wrap (op3 1 (aG s x) (bG s x)))
 else if x.op = 4 then stI s x.dst (IntKind.i64.wrap (op3 2 (aG s x) (bG s x)))
 else if x.op = 5 then (if bG s x = 0 then stopG s 2 else stI s x.dst (quoG (aG s x) (bG s x)))
 else if x.op = 6 then (if bG s x = 0 then stopG s 2 else stI s x.dst (remG (aG s x) (bG s x)))
 else if x.op = 7 then stB s x.dst (decide (aG s x = bG s x))
 else if x.op = 8 then stB s x.dst (decide (aG s x < bG s x))
 else if x.op = 9 then stB s x.dst (decide (aG s x ≤ bG s x))
 else if x.op = 10 then stB s x.dst (!pG s x)
 else if x.op = 11 then stB s x.dst (pG s x && qG s x)
 else if x.op = 12 then (if rG s x < 0 then stopG s 2 else stI s x.dst ((rowG s (rG s x)).length))
 else if x.op = 13 then (if placeG s (rG s x) (bG s x) = true then stI s x.dst (vi (rowG s (rG s x)) (bG s x)) else stopG s 2)
 else if x.op = 14 then (if placeG s (rG s x) (bG s x) = true then { s with arrays := s.arrays.set (rG s x).toNat ((rowG s (rG s x)).set (bG s x).toNat (vi s.ints (ar2 x))) } else stopG s 2)
 else if x.op = 15 then (if aG s x < 0 ∨ 64 < aG s x then stopG s 2 else if 32 ≤ s.arrays.length then stopG s 3 else stA { s with arrays := s.arrays ++ [List.replicate (aG s x).toNat 0] } x.dst s.arrays.length)
 else if x.op = 16 then stA s x.dst (-1)
 else (if 4096 ≤ s.trace.length then stopG s 3 else { s with trace := s.trace ++ [aG s x] })
def instG (s : GS) (x : PInst) : GS :=
 if 18 ≤ x.op ∧ x.op ≤ 24 then (if passG s x.op x.args = true then bumpG s (x.op - 17).toNat else trapG (bumpG s (x.op - 17).toNat) (x.op - 17))
 else doG s x
def blkG (f : PFunc) (b : Int) : PBlock := (f.blocks[b.toNat]?).getD ⟨⟨#[]⟩, [], [], ⟨2, 0, 0, 0⟩⟩
def phiAt (p : PPhi) (b : Int) : Int := ((p.from_.zip p.args).find? fun q => decide (q.1 = b)).elim (-1) (·.2)
def assign (s t : GS) (p : PPhi) : GS := stA (stB (stI t p.dst (vi s.ints (phiAt p s.blk))) p.dst (gb s.bools (phiAt p s.blk))) p.dst (vi s.arrs (phiAt p s.blk))
def goG (s : GS) (to : Int) : GS := { s with blk := to, pc := 0 }
def enterG (f : PFunc) (s : GS) (to : Int) : GS :=
 if (blkG f to).phis.all (fun p => decide (0 ≤ phiAt p s.blk)) = true then goG ((blkG f to).phis.foldl (assign s) s) to else stopG (goG s to) 2
def nextG (f : PFunc) (s : GS) : Int := if (blkG f s.blk).term.kind = 0 ∨ gb s.bools (blkG f s.blk).term.var = true then (blkG f s.blk).term.to0 else (blkG f s.blk).term.to1
def stepG (f : PFunc) (s : GS) : GS :=
 match (blkG f s.blk).insts[s.pc]? with
 | some x => instG { s with pc := s.pc + 1, st := s.st + 1 } x
 | none => if (blkG f s.blk).term.kind = 2 then stopG { s with st := s.st + 1, val := vi s.ints (blkG f s.blk).term.var } 0 else enterG f { s with st := s.st + 1 } (nextG f s)
structure GInv (f : PFunc) (s : GS) : Prop where
 li : s.ints.length = f.vars.length
 lb : s.bools.length = f.vars.length
 la : s.arrs.length = f.vars.length
 i64 : ∀ x ∈ s.ints, is64 x
 arr : ∀ x ∈ s.arrs, -1 ≤ x ∧ x < s.arrays.length
 ls : s.arrays.length ≤ 40
 lr : ∀ r ∈ s.arrays, r.length ≤ 100
 r64 : ∀ r ∈ s.arrays, ∀ x ∈ r, is64 x
 lt : s.trace.length ≤ 4096
 b0 : 0 ≤ s.blk
 b1 : s.blk < f.blocks.length
 pc : s.pc ≤ (blkG f s.blk).insts.length
theorem vi_get {l : List Int} {v : Int} (h1 : v < l.length) (h0 : 0 ≤ v) : l[v.toNat]? = some (vi l v) := by
 unfold vi; rw [qa (by omega)]; rfl
theorem vi_mem {l : List Int} {v : Int} (h1 : v < l.length) (h0 : 0 ≤ v) : vi l v ∈ l := qj (vi_get h1 h0)
theorem vi_64 {l : List Int} {v : Int} (h : ∀ x ∈ l, is64 x) : is64 (vi l v) := by
 unfold vi
 cases e : l[v.toNat]? with
 | none => exact ⟨by decide, by decide⟩
 | some x => exact h x (qj e)
theorem row_get {s : GS} {a : Int} (h0 : 0 ≤ a) (h1 : a < s.arrays.length) : s.arrays[a.toNat]? = some (rowG s a) := by
 unfold rowG; rw [qa (by omega)]; rfl
theorem row_mem {s : GS} {a : Int} (h0 : 0 ≤ a) (h1 : a < s.arrays.length) : rowG s a ∈ s.arrays := qj (row_get h0 h1)
theorem mem_set_or {α : Type} {l : List α} {n : Nat} {a x : α} (h : x ∈ l.set n a) : x ∈ l ∨ x = a := List.mem_or_eq_of_mem_set h
theorem GInv.stI {f : PFunc} {s : GS} (h : GInv f s) {d v : Int} (hv : is64 v) : GInv f (stI s d v) :=
 ⟨by simp [Go.Proofs.YtpojdepccecpgaaGreatDoor.stI, h.li], h.lb, h.la, fun x hx => (mem_set_or hx).elim (h.i64 x) (fun e => e ▸ hv), h.arr, h.ls, h.lr, h.r64, h.lt, h.b0, h.b1, h.pc⟩
theorem GInv.stB {f : PFunc} {s : GS} (h : GInv f s) {d : Int} {v : Bool} : GInv f (stB s d v) :=
 ⟨h.li, by simp [Go.Proofs.YtpojdepccecpgaaGreatDoor.stB, h.lb], h.la, h.i64, h.arr, h.ls, h.lr, h.r64, h.lt, h.b0, h.b1, h.pc⟩
theorem GInv.stA {f : PFunc} {s : GS} (h : GInv f s) {d v : Int} (hv : -1 ≤ v ∧ v < s.arrays.length) : GInv f (stA s d v) :=
 ⟨h.li, h.lb, by simp [Go.Proofs.YtpojdepccecpgaaGreatDoor.stA, h.la], h.i64, fun x hx => (mem_set_or hx).elim (h.arr x) (fun e => e ▸ hv), h.ls, h.lr, h.r64, h.lt, h.b0, h.b1, h.pc⟩
theorem GInv.stop {f : PFunc} {s : GS} (h : GInv f s) (e : Int) : GInv f (stopG s e) := ⟨h.li, h.lb, h.la, h.i64, h.arr, h.ls, h.lr, h.r64, h.lt, h.b0, h.b1, h.pc⟩
theorem GInv.trap {f : PFunc} {s : GS} (h : GInv f s) (t : Int) : GInv f (trapG s t) := ⟨h.li, h.lb, h.la, h.i64, h.arr, h.ls, h.lr, h.r64, h.lt, h.b0, h.b1, h.pc⟩
theorem GInv.bump {f : PFunc} {s : GS} (h : GInv f s) (t : Nat) : GInv f (bumpG s t) := ⟨h.li, h.lb, h.la, h.i64, h.arr, h.ls, h.lr, h.r64, h.lt, h.b0, h.b1, h.pc⟩
theorem arr_at {f : PFunc} {s : GS} (h : GInv f s) {v : Int} (h1 : v < f.vars.length) (h0 : 0 ≤ v) : -1 ≤ vi s.arrs v ∧ vi s.arrs v < s.arrays.length :=
 h.arr _ (vi_mem (by rw [h.la]; exact h1) h0)
theorem arr_any {f : PFunc} {s : GS} (h : GInv f s) {v : Int} (hn : v < f.vars.length ∧ 0 ≤ v) : -1 ≤ vi s.arrs v ∧ vi s.arrs v < s.arrays.length := arr_at h hn.1 hn.2
theorem place_iff {s : GS} {a i : Int} : placeG s a i = true ↔ 0 ≤ a ∧ a < s.arrays.length ∧ 0 ≤ i ∧ i < (rowG s a).length := by unfold placeG; rw [qq]
theorem wrap_64 (x : Int) : is64 (IntKind.i64.wrap x) := by
 rw [wrap_s]; unfold is64; omega
theorem rem_64 (a b : Int) : is64 (remG a b) := by
 unfold remG; split
 ·exact ⟨by decide, by decide⟩
 ·exact wrap_64 _
theorem has_lt {f : PFunc} {v : Int} (h : hasV f v = true) : v < f.vars.length ∧ 0 ≤ v := by
 unfold hasV at h; simp at h; exact ⟨h.2, h.1⟩
theorem InstF.a0 {f : PFunc} {x : PInst} (h : InstF f x) (hl : 0 < x.args.length) : ar0 x < f.vars.length ∧ 0 ≤ ar0 x := by
 unfold ar0; rw [qa hl]; exact has_lt (h.args _ (qe hl))
theorem InstF.a1 {f : PFunc} {x : PInst} (h : InstF f x) (hl : 1 < x.args.length) : ar1 x < f.vars.length ∧ 0 ≤ ar1 x := by
 unfold ar1; rw [qa hl]; exact has_lt (h.args _ (qe hl))
theorem InstF.a2 {f : PFunc} {x : PInst} (h : InstF f x) (hl : 2 < x.args.length) : ar2 x < f.vars.length ∧ 0 ≤ ar2 x := by
 unfold ar2; rw [qa hl]; exact has_lt (h.args _ (qe hl))
theorem takesN : ∀ j : Nat, j < 27 → (takesL (j : Int)).length = ([0, 1, 2, 2, 2, 2, 2, 2, 2, 2, 1, 2, 1, 2, 3, 1, 0, 1, 2, 1, 1, 2, 2, 2, 1, 2, 2][j]?).getD 0 := by decide
theorem InstF.argc {f : PFunc} {x : PInst} (h : InstF f x) : x.args.length = ([0, 1, 2, 2, 2, 2, 2, 2, 2, 2, 1, 2, 1, 2, 3, 1, 0, 1, 2, 1, 1, 2, 2, 2, 1, 2, 2][x.op.toNat]?).getD 0 := by
 have h1 := h.op
 obtain ⟨j, e⟩ : ∃ j : Nat, x.op = (j : Int) := ⟨x.op.toNat, by omega⟩
 rw [h.len, e, takesN j (by omega), Int.toNat_natCast]
theorem makesN : ∀ j : Nat, j < 27 → makesB (j : Int) = ([true, true, true, true, true, true, true, true, true, true, true, true, true, true, false, true, true, false, false, false, false, false, false, false, false, true, true][j]?).getD false := by decide
theorem InstF.made {f : PFunc} {x : PInst} (h : InstF f x) (hm : ([true, true, true, true, true, true, true, true, true, true, true, true, true, true, false, true, true, false, false, false, false, false, false, false, false, true, true][x.op.toNat]?).getD false = true) : x.dst < f.vars.length ∧ 0 ≤ x.dst := by
 have h1 := h.op
 obtain ⟨j, e⟩ : ∃ j : Nat, x.op = (j : Int) := ⟨x.op.toNat, by omega⟩
 rw [e, Int.toNat_natCast, ← makesN j (by omega), ← e] at hm
 rcases h.dst with g | g
 ·rw [g.1] at hm; cases hm
 ·exact has_lt g.2.2
theorem GInv.doG {f : PFunc} {s : GS} (h : GInv f s) {x : PInst} (hx : InstF f x) (h64 : is64 x.num) : GInv f (doG s x) := by
 have hc := hx.argc
 have st : ∀ e, GInv f (stopG s e) := h.stop
 have wr : ∀ d v, GInv f (Go.Proofs.YtpojdepccecpgaaGreatDoor.stI s d (IntKind.i64.wrap v)) := fun _ _ => h.stI (wrap_64 _)
 have bo : ∀ d v, GInv f (Go.Proofs.YtpojdepccecpgaaGreatDoor.stB s d v) := fun _ _ => h.stB
 unfold Go.Proofs.YtpojdepccecpgaaGreatDoor.doG
 by_cases e : x.op = 0
 ·rw [if_pos e]; exact h.stI h64
 rw [if_neg e]; clear e
 by_cases e : x.op = 1 ∨ x.op = 25 ∨ x.op = 26
 ·rw [if_pos e]
  refine GInv.stA (s := Go.Proofs.YtpojdepccecpgaaGreatDoor.stB (Go.Proofs.YtpojdepccecpgaaGreatDoor.stI s x.dst (aG s x)) x.dst (pG s x)) (h.stI (vi_64 h.i64)).stB ?_
  exact arr_any h (hx.a0 (by rcases e with e | e | e <;> (rw [e] at hc; rw [hc]; decide)))
 rw [if_neg e]; clear e
 by_cases e : x.op = 2
 ·rw [if_pos e]; exact wr _ _
 rw [if_neg e]; clear e
 by_cases e : x.op = 3
 ·rw [if_pos e]; exact wr _ _
 rw [if_neg e]; clear e
 by_cases e : x.op = 4
 ·rw [if_pos e]; exact wr _ _
 rw [if_neg e]; clear e
 by_cases e : x.op = 5
 ·rw [if_pos e]
  split
  ·exact st 2
  ·exact wr _ _
 rw [if_neg e]; clear e
 by_cases e : x.op = 6
 ·rw [if_pos e]
  split
  ·exact st 2
  ·exact h.stI (rem_64 _ _)
 rw [if_neg e]; clear e
 by_cases e : x.op = 7
 ·rw [if_pos e]; exact bo _ _
 rw [if_neg e]; clear e
 by_cases e : x.op = 8
 ·rw [if_pos e]; exact bo _ _
 rw [if_neg e]; clear e
 by_cases e : x.op = 9
 ·rw [if_pos e]; exact bo _ _
 rw [if_neg e]; clear e
 by_cases e : x.op = 10
 ·rw [if_pos e]; exact bo _ _
 rw [if_neg e]; clear e
 by_cases e : x.op = 11
 ·rw [if_pos e]; exact bo _ _
 rw [if_neg e]; clear e
 by_cases e : x.op = 12
 ·rw [if_pos e]
  split
  ·exact st 2
  ·rename_i hr
   have hl := h.lr _ (row_mem (by omega) (arr_any h (hx.a0 (by rw [e] at hc; rw [hc]; decide))).2 : rowG s (rG s x) ∈ s.arrays)
   exact h.stI ⟨by omega, by omega⟩
 rw [if_neg e]; clear e
 by_cases e : x.op = 13
 ·rw [if_pos e]
  split
  ·rename_i hp
   obtain ⟨h1, h2, _⟩ := place_iff.1 hp
   exact h.stI (vi_64 (h.r64 _ (row_mem h1 h2)))
  ·exact st 2
 rw [if_neg e]; clear e
 by_cases e : x.op = 14
 ·rw [if_pos e]
  split
  ·rename_i hp
   obtain ⟨h1, h2, _⟩ := place_iff.1 hp
   refine ⟨h.li, h.lb, h.la, h.i64, fun y hy => by simpa using h.arr y hy, by simpa using h.ls, fun r hr => ?_, fun r hr => ?_, h.lt, h.b0, h.b1, h.pc⟩
   ·rcases mem_set_or hr with hr | hr
    ·exact h.lr r hr
    ·rw [hr, List.length_set]; exact h.lr _ (row_mem h1 h2)
   ·rcases mem_set_or hr with hr | hr
    ·exact h.r64 r hr
    ·intro y hy
     rw [hr] at hy
     rcases mem_set_or hy with hy | hy
     ·exact h.r64 _ (row_mem h1 h2) y hy
     ·rw [hy]; exact vi_64 h.i64
  ·exact st 2
 rw [if_neg e]; clear e
 by_cases e : x.op = 15
 ·rw [if_pos e]
  split
  ·exact st 2
  ·rename_i ha
   split
   ·exact st 3
   ·rename_i hs
    refine GInv.stA (s := { s with arrays := s.arrays ++ [List.replicate (aG s x).toNat 0] }) ⟨h.li, h.lb, h.la, h.i64, fun y hy => ?_, ?_, fun r hr => ?_, fun r hr => ?_, h.lt, h.b0, h.b1, h.pc⟩ ?_
    ·have := h.arr y hy
     simp only [qg, List.length_singleton]; omega
    ·simp only [qg, List.length_singleton]; omega
    ·rcases List.mem_append.1 hr with hr | hr
     ·exact h.lr r hr
     ·rw [List.mem_singleton.1 hr, List.length_replicate]; omega
    ·rcases List.mem_append.1 hr with hr | hr
     ·exact h.r64 r hr
     ·intro y hy
      rw [List.mem_singleton.1 hr] at hy
      rw [(List.mem_replicate.1 hy).2]; exact ⟨by decide, by decide⟩
    ·simp only [qg, List.length_singleton]; omega
 rw [if_neg e]; clear e
 by_cases e : x.op = 16
 ·rw [if_pos e]; exact h.stA ⟨by omega, by omega⟩
 rw [if_neg e]; clear e
 split
 ·exact st 3
 ·rename_i ht
  exact ⟨h.li, h.lb, h.la, h.i64, h.arr, h.ls, h.lr, h.r64, by simp only [qg, List.length_singleton]; omega, h.b0, h.b1, h.pc⟩
theorem GInv.inst {f : PFunc} {s : GS} (h : GInv f s) {x : PInst} (hx : InstF f x) (h64 : is64 x.num) : GInv f (instG s x) := by
 unfold instG
 split
 ·split
  ·exact h.bump _
  ·exact (h.bump _).trap _
 ·exact h.doG hx h64
structure RunP (f : PFunc) : Prop where
 pos : 0 < f.blocks.length
 phis : ∀ b ∈ f.blocks, ∀ p ∈ b.phis, PhiP f p
 insts : ∀ b ∈ f.blocks, ∀ x ∈ b.insts, InstF f x ∧ is64 x.num
 term : ∀ b ∈ f.blocks, termOK f b.term = true
theorem blk_get {f : PFunc} {b : Int} (h0 : 0 ≤ b) (h1 : b < f.blocks.length) : f.blocks[b.toNat]? = some (blkG f b) := by
 unfold blkG; rw [qa (by omega)]; rfl
theorem blk_mem {f : PFunc} {b : Int} (h0 : 0 ≤ b) (h1 : b < f.blocks.length) : blkG f b ∈ f.blocks := qj (blk_get h0 h1)
theorem phiAt_mem {p : PPhi} {b : Int} (h : 0 ≤ phiAt p b) : phiAt p b ∈ p.args := by
 unfold phiAt at h ⊢
 cases e : (p.from_.zip p.args).find? fun q => decide (q.1 = b) with
 | none => rw [e] at h; simp at h
 | some q => exact (List.of_mem_zip (List.mem_of_find?_eq_some e)).2
theorem GInv.assign {f : PFunc} {s t : GS} (h : GInv f s) (ht : GInv f t) (ha : t.arrays = s.arrays) {p : PPhi} (hp : PhiP f p) (h0 : 0 ≤ phiAt p s.blk) : GInv f (assign s t p) ∧ (assign s t p).arrays = s.arrays := by
 have hv := has_lt (List.all_eq_true.1 hp.2.2.2.1 _ (phiAt_mem h0))
 refine ⟨GInv.stA (s := Go.Proofs.YtpojdepccecpgaaGreatDoor.stB (Go.Proofs.YtpojdepccecpgaaGreatDoor.stI t p.dst _) p.dst _) (ht.stI (vi_64 h.i64)).stB ?_, ha⟩
 show _ ∧ _ < (t.arrays.length : Int)
 rw [ha]; exact arr_any h hv
theorem GInv.assigns {f : PFunc} {s : GS} (h : GInv f s) : ∀ (l : List PPhi) (t : GS), GInv f t → t.arrays = s.arrays → (∀ p ∈ l, PhiP f p ∧ 0 ≤ phiAt p s.blk) → GInv f (l.foldl (Go.Proofs.YtpojdepccecpgaaGreatDoor.assign s) t)
 | [], t, ht, _, _ => ht
 | p :: l, t, ht, ha, hl => by
  obtain ⟨h1, h2⟩ := h.assign ht ha (hl p (.head _)).1 (hl p (.head _)).2
  exact h.assigns l _ h1 h2 fun q hq => hl q (.tail _ hq)
theorem GInv.goG {f : PFunc} {s : GS} (h : GInv f s) {to : Int} (h0 : 0 ≤ to) (h1 : to < f.blocks.length) : GInv f (goG s to) := ⟨h.li, h.lb, h.la, h.i64, h.arr, h.ls, h.lr, h.r64, h.lt, h0, h1, qd _⟩
theorem GInv.enter {f : PFunc} {s : GS} (hR : RunP f) (h : GInv f s) {to : Int} (h0 : 0 ≤ to) (h1 : to < f.blocks.length) : GInv f (enterG f s to) := by
 unfold enterG
 split
 ·rename_i ha
  exact (h.assigns _ s h rfl fun p hp => ⟨hR.phis _ (blk_mem h0 h1) p hp, of_decide_eq_true (List.all_eq_true.1 ha p hp)⟩).goG h0 h1
 ·exact (h.goG h0 h1).stop 2
theorem term_to {f : PFunc} {t : PTerm} (h : termOK f t = true) (hk : ¬ t.kind = 2) : (0 ≤ t.to0 ∧ t.to0 < f.blocks.length) ∧ (¬ t.kind = 0 → t.kind = 1 ∧ (0 ≤ t.to1 ∧ t.to1 < f.blocks.length)) := by
 unfold termOK at h
 split at h
 ·rename_i e
  simp only [qo, hasB, qq] at h
  exact ⟨h.1.1, fun g => absurd e g⟩
 ·split at h
  ·rename_i e
   simp only [qo, hasB, qq] at h
   exact ⟨h.1.2, fun _ => ⟨e, h.2⟩⟩
  ·simp [hk] at h
theorem next_to {f : PFunc} (hR : RunP f) {s : GS} (h : GInv f s) (hk : ¬ (blkG f s.blk).term.kind = 2) : 0 ≤ nextG f s ∧ nextG f s < f.blocks.length := by
 have ht := term_to (hR.term _ (blk_mem h.b0 h.b1)) hk
 unfold nextG
 split
 ·exact ht.1
 ·rename_i e
  exact (ht.2 fun g => e (.inl g)).2
theorem GInv.up {f : PFunc} {s : GS} (h : GInv f s) (n : Nat) (v : Int) : GInv f { s with st := n, val := v } := ⟨h.li, h.lb, h.la, h.i64, h.arr, h.ls, h.lr, h.r64, h.lt, h.b0, h.b1, h.pc⟩
theorem GInv.step {f : PFunc} (hR : RunP f) {s : GS} (h : GInv f s) : GInv f (stepG f s) := by
 unfold stepG
 split
 ·rename_i x hx
  obtain ⟨hi, h64⟩ := hR.insts _ (blk_mem h.b0 h.b1) x (qj hx)
  obtain ⟨hp, _⟩ := List.getElem?_eq_some_iff.1 hx
  exact GInv.inst (s := { s with pc := s.pc + 1, st := s.st + 1 }) ⟨h.li, h.lb, h.la, h.i64, h.arr, h.ls, h.lr, h.r64, h.lt, h.b0, h.b1, hp⟩ hi h64
 ·split
  ·exact (h.up _ _).stop 0
  ·rename_i hk
   obtain ⟨h0, h1⟩ := next_to hR h hk
   exact GInv.enter hR (s := { s with st := s.st + 1 }) (h.up _ s.val) h0 h1
end Go.Proofs.YtpojdepccecpgaaGreatDoor
namespace Go.Proofs.YtpojdepccecpgaaGreatDoor
open Go.Proofs.Tryz
open Go.Proofs Go.Lib
theorem blkX_mem {f : PFunc} {x : Int} (h0 : 0 ≤ x) (h1 : x < f.blocks.length) : blkX f x ∈ f.blocks := by
 unfold blkX
 rw [qa (by omega)]
 exact qe _
theorem prs_len {p : PPhi} (h : p.from_.length = p.args.length) : (prs p).length = p.args.length := by unfold prs; rw [List.length_zip, h]; omega
theorem prs_arg {p : PPhi} (h : p.from_.length = p.args.length) {a : Int} (ha : a ∈ p.args) : ∃ x, (x, a) ∈ prs p := by
 obtain ⟨i, hi, rfl⟩ := List.getElem_of_mem ha
 refine ⟨p.from_[i], qj (i := i) ?_⟩
 unfold prs
 rw [List.getElem?_zip_eq_some]
 exact ⟨qa (by omega), qa hi⟩
theorem prs_from {p : PPhi} (h : p.from_.length = p.args.length) {x : Int} (ha : x ∈ p.from_) : ∃ a, (x, a) ∈ prs p := by
 obtain ⟨i, hi, rfl⟩ := List.getElem_of_mem ha
 refine ⟨p.args[i]'(by omega), qj (i := i) ?_⟩
 unfold prs
 rw [List.getElem?_zip_eq_some]
 exact ⟨qa hi, qa (by omega)⟩
theorem insM_dst {ν : Int → Int} {x : PInst} : (insM ν x).dst = if 0 ≤ x.dst then ν x.dst else x.dst := rfl
theorem kinds_map {V : Int → Prop} {ν : Int → Int} {f g : PFunc} (hv : ∀ v, V v → kindV g (ν v) = kindV f v) : ∀ {l : List Int}, (∀ v ∈ l, V v) → (l.map ν).map (kindV g) = l.map (kindV f) := fun {l} hl => by
 rw [List.map_map]
 exact List.map_congr_left fun v h => hv v (hl v h)
section
variable {R V : Int → Prop} {β ν : Int → Int} {f g : PFunc} (h : Like R V β ν f g) (hS : ShapedP f) (hV : ∀ v, V v → hasV g (ν v) = true)
include h hS hV
theorem Like.blkP (hk : ∀ x, R x → ∀ p ∈ (blkX f x).phis, ∃ z ∈ prs p, R z.1) : ∀ c ∈ g.blocks, BlkP g c ∧ ∃ x, R x ∧ c = blkX g (β x) := fun c hc => by
 obtain ⟨y, hy, rfl⟩ := List.getElem_of_mem hc
 obtain ⟨x, hx, e⟩ := h.onto y (by omega) (by omega)
 have ec : g.blocks[y] = blkX g (β x) := by rw [e]; exact (blkX_get (qa hy)).symm
 refine ⟨?_, x, hx, ec⟩
 rw [ec]
 have hr := h.rng x hx
 have hb := h.blk x hx
 obtain ⟨s1, s2, s3⟩ := hS.2.2.2.2.2 _ (blkX_mem hr.1.1 hr.1.2)
 have hB : ∀ {z : Int}, R z → hasB g (β z) = true := fun {z} hz => by
  have := (h.rng z hz).2
  unfold hasB; simp [this.1, this.2]
 refine ⟨fun q hq => ?_, fun z hz => ?_, ?_⟩
 ·obtain ⟨i, hi, rfl⟩ := List.getElem_of_mem hq
  have hi2 : i < (blkX f x).phis.length := by rw [← hb.nphi]; exact hi
  obtain ⟨d1, d2, d3, k, k1, k2, k3, k4⟩ := hb.phi i _ _ (qa hi2) (qa hi)
  obtain ⟨w, hw, hwr⟩ := hk x hx _ (qe hi2)
  have hkl : 0 < k.length := List.length_pos_of_mem ((k1 w).2 ⟨hw, hwr⟩)
  have hl := k4.length_eq
  rw [prs_len d3, qh] at hl
  refine ⟨by rw [d1]; exact hV _ d2, d3.symm, by omega, ?_, ?_⟩
  ·rw [List.all_eq_true]
   intro a ha
   obtain ⟨t, ht⟩ := prs_arg d3 ha
   obtain ⟨z, hz, e⟩ := List.mem_map.1 (k4.mem_iff.1 ht)
   rw [← (Prod.mk.inj e).2]
   exact hV _ (k3 z hz)
  ·rw [List.all_eq_true]
   intro a ha
   obtain ⟨t, ht⟩ := prs_from d3 ha
   obtain ⟨z, hz, e⟩ := List.mem_map.1 (k4.mem_iff.1 ht)
   rw [← (Prod.mk.inj e).1]
   exact hB ((k1 z).1 hz).2
 ·rw [hb.insts] at hz
  obtain ⟨x', hx', rfl⟩ := List.mem_map.1 hz
  obtain ⟨x1, x2, x3, x4⟩ := s2 x' hx'
  have hiv := hb.instv x' hx'
  refine ⟨x1, x2, ?_, ?_⟩
  ·unfold bad2 at x3 ⊢
   rw [show (insM ν x').args.length = x'.args.length from qh .., insM_dst]
   by_cases h0 : 0 ≤ x'.dst
   ·have hd : V x'.dst := hiv _ (by unfold instVars; rw [if_pos h0]; simp)
    have h1 := hV _ hd
    have h2 : 0 ≤ ν x'.dst := (h.vty _ hd).2.1
    rw [if_pos h0, h1, show decide (ν x'.dst = -1) = false from qn (by omega)]
    rw [show decide (x'.dst = -1) = false from qn (by omega)] at x3
    simp only [Bool.or_eq_false_iff] at x3 ⊢
    exact ⟨x3.1, x3.2.1, by simp, x3.2.2.2⟩
   ·rw [if_neg h0]
    by_cases h1 : x'.dst = -1
    ·rw [qm h1] at x3 ⊢; exact x3
    ·rw [qn h1] at x3
     simp only [Bool.or_eq_false_iff] at x3
     have := x3.2.2.1
     rw [show hasV f x'.dst = false by unfold hasV; simp [h0]] at this
     cases this
  ·rw [List.all_eq_true]
   intro a ha
   obtain ⟨v, hv, rfl⟩ := List.mem_map.1 ha
   exact hV _ (hiv v (List.mem_append_left _ hv))
 ·rw [hb.term]
  have hend : ∀ c ∈ endsL (blkX f x).term, R c := by rw [← ends_at hr.1.1 hr.1.2]; exact h.cl x hx
  have htv := hb.termv
  generalize (blkX f x).term = t at s3 hend htv
  unfold termOK at s3 ⊢
  unfold endsL at hend
  unfold termVars at htv
  unfold trmM
  by_cases h0 : t.kind = 0
  ·rw [if_pos h0] at s3 hend ⊢
   dsimp only
   rw [if_pos h0]
   simp only [qo] at s3 ⊢
   exact ⟨⟨hB (hend _ (.head _)), s3.1.2⟩, s3.2⟩
  ·rw [if_neg h0] at s3 hend htv ⊢
   have hv := hV _ (htv _ (.head _))
   by_cases h1 : t.kind = 1
   ·rw [if_pos h1] at s3 hend ⊢
    dsimp only
    rw [if_neg h0, if_pos h1]
    simp only [qo] at s3 ⊢
    have e0 := hB (hend t.to0 (by split <;> simp))
    refine ⟨⟨hv, e0⟩, ?_⟩
    by_cases e : t.to0 = t.to1
    ·rw [← e]; exact e0
    ·exact hB (hend _ (by rw [if_neg e]; simp))
   ·rw [if_neg h1] at s3 ⊢
    dsimp only
    rw [if_neg h0, if_neg h1]
    by_cases h2 : t.kind = 2
    ·rw [if_pos h2] at s3 ⊢
     simp only [qo] at s3 ⊢
     exact ⟨hv, s3.2⟩
    ·rw [if_neg h2] at s3; cases s3
theorem Like.typed (hk : ∀ x, R x → ∀ p ∈ (blkX f x).phis, ∃ z ∈ prs p, R z.1) (hT : typedB f = true) (h1 : bad1 g = false) (h2 : ∀ i (h : i < g.params.length), g.params[i] = (i : Int)) (h3 : ∀ i (h : i < g.vars.length), VarP g i g.vars[i]) (h4 : ∀ i (h : i < g.blocks.length), NamP g i g.blocks[i]) (h5 : sumTo g.blocks ≤ 1024) : typedB g = true := by
 have hb := h.blkP hS hV hk
 unfold typedB
 rw [shapedB_eq, qm (p := ShapedP g) ⟨h1, h2, h3, h4, h5, fun c hc => (hb c hc).1⟩, Bool.true_and, List.all_eq_true]
 intro c hc
 obtain ⟨_, x, hx, ec⟩ := hb c hc
 rw [ec]
 have hr := h.rng x hx
 have hl := h.blk x hx
 have hm := blkX_mem hr.1.1 hr.1.2
 obtain ⟨s1, s2, s3⟩ := hS.2.2.2.2.2 _ hm
 have ht := List.all_eq_true.1 (show f.blocks.all (blkT f) = true by unfold typedB at hT; rw [qo] at hT; exact hT.2) _ hm
 have hty : ∀ v, V v → kindV g (ν v) = kindV f v := fun v hv => (h.vty v hv).2.2
 unfold blkT at ht ⊢
 simp only [qo] at ht ⊢
 obtain ⟨⟨t1, t2⟩, t3⟩ := ht
 rw [List.all_eq_true] at t1 t2
 refine ⟨⟨?_, ?_⟩, ?_⟩
 ·rw [List.all_eq_true]
  intro q hq
  obtain ⟨i, hi, rfl⟩ := List.getElem_of_mem hq
  have hi2 : i < (blkX f x).phis.length := by rw [← hl.nphi]; exact hi
  obtain ⟨d1, d2, d3, k, k1, k2, k3, k4⟩ := hl.phi i _ _ (qa hi2) (qa hi)
  have g := t1 _ (qe hi2)
  unfold phiT at g ⊢
  rw [Bool.not_eq_true', List.any_eq_false] at g ⊢
  intro a ha
  obtain ⟨t, ht⟩ := prs_arg d3 ha
  obtain ⟨z, hz, e⟩ := List.mem_map.1 (k4.mem_iff.1 ht)
  rw [← (Prod.mk.inj e).2, d1, hty _ (k3 z hz), hty _ d2]
  exact g z.2 (List.of_mem_zip ((k1 z).1 hz).1).2
 ·rw [hl.insts, List.all_eq_true]
  intro z hz
  obtain ⟨x', hx', rfl⟩ := List.mem_map.1 hz
  have gg := t2 x' hx'
  have hiv := hl.instv x' hx'
  have hF := instP_F (s2 x' hx')
  have hd : 0 ≤ x'.dst → kindV g (insM ν x').dst = kindV f x'.dst := fun h0 => by
   rw [insM_dst, if_pos h0]
   exact hty _ (hiv _ (by unfold instVars; rw [if_pos h0]; simp))
  have hargs : ∀ v ∈ x'.args, V v := fun v hv => hiv v (List.mem_append_left _ hv)
  unfold instT at gg ⊢
  show (if x'.op = 1 then decide (kindV _ (insM ν x').dst = kindV _ ((x'.args.map ν).headD 0)) else decide ((x'.args.map ν).map (kindV _) = takesL x'.op) && (!makesB x'.op || decide (kindV _ (insM ν x').dst = makesT x'.op))) = true
  rw [kinds_map hty hargs]
  have hmk : makesB x'.op = true → 0 ≤ x'.dst := fun hm => by
   rcases hF.dst with ⟨h2, _⟩ | ⟨_, _, h2⟩
   ·rw [h2] at hm; cases hm
   ·exact (has_lt h2).2
  split
  ·rename_i e
   rw [if_pos e] at gg
   have hl := hF.argc
   rw [e] at hl
   rw [hd (hmk (by rw [e]; decide))]
   match hxa : x'.args, hl with
   | [a], _ =>
    rw [hxa] at gg
    show decide (kindV f x'.dst = kindV _ (ν a)) = true
    rw [hty a (hargs a (by rw [hxa]; exact .head _))]
    exact gg
  ·rename_i e
   rw [if_neg e] at gg
   simp only [qo, Bool.or_eq_true] at gg ⊢
   refine ⟨gg.1, ?_⟩
   rcases gg.2 with k | k
   ·exact .inl k
   ·by_cases hmm : makesB x'.op = true
    ·right; rw [hd (hmk hmm)]; exact k
    ·left; simpa using hmm
 ·rw [hl.term]
  have htv := hl.termv
  have hend : ∀ c ∈ endsL (blkX f x).term, R c := by rw [← ends_at hr.1.1 hr.1.2]; exact h.cl x hx
  generalize (blkX f x).term = t at t3 hend htv
  have hne : ∀ c, R c → ¬ c = 0 → ¬ β c = 0 := fun c hc hn e => hn (h.inj c 0 hc h.r0 (by rw [e, h.b0]))
  unfold termT at t3 ⊢
  unfold endsL at hend
  unfold termVars at htv
  unfold trmM
  by_cases h0 : t.kind = 0
  ·rw [if_pos h0] at t3 hend ⊢
   dsimp only
   rw [if_pos h0]
   simp only [Bool.not_eq_true', decide_eq_false_iff_not] at t3 ⊢
   exact hne _ (hend _ (.head _)) t3
  ·rw [if_neg h0] at t3 hend htv ⊢
   have hv := hty _ (htv _ (.head _))
   by_cases h1 : t.kind = 1
   ·rw [if_pos h1] at t3 hend ⊢
    dsimp only
    rw [if_neg h0, if_pos h1]
    simp only [qo, Bool.not_eq_true', decide_eq_false_iff_not] at t3 ⊢
    refine ⟨⟨by rw [hv]; exact t3.1.1, hne _ (hend t.to0 (by split <;> simp)) t3.1.2⟩, ?_⟩
    by_cases e : t.to0 = t.to1
    ·rw [← e]; exact hne _ (hend t.to0 (by split <;> simp)) t3.1.2
    ·exact hne _ (hend _ (by rw [if_neg e]; simp)) t3.2
   ·rw [if_neg h1] at t3 ⊢
    dsimp only
    rw [if_neg h0, if_neg h1, hv]; exact t3
omit h hS hV in
theorem hits_iff {R : Int → Prop} {β : Int → Int} (hi : ∀ x y, R x → R y → β x = β y → x = y) {l : List Int} (hl : ∀ c ∈ l, R c) {x : Int} (hx : R x) : β x ∈ l.map β ↔ x ∈ l := by
 rw [List.mem_map]
 exact ⟨fun ⟨c, hc, e⟩ => hi c x (hl c hc) hx e ▸ hc, fun h => ⟨x, h, rfl⟩⟩
omit hS hV in
theorem Like.joined (hD : ∀ x, R x → ∀ p ∈ (blkX f x).phis, DistP p) (hP : ∀ x, R x → ∀ p ∈ (blkX f x).phis, p.from_.length = p.args.length) (hJ : JoinP f) : JoinP g := fun y hy q hq => by
 obtain ⟨x, hx, e⟩ := h.onto y (by omega) (by omega)
 have ec : g.blocks[y] = blkX g (β x) := by rw [e]; exact (blkX_get (qa hy)).symm
 rw [ec] at hq
 have hr := h.rng x hx
 have hb := h.blk x hx
 obtain ⟨i, hi, rfl⟩ := List.getElem_of_mem hq
 have hi2 : i < (blkX f x).phis.length := by rw [← hb.nphi]; exact hi
 have hpm := qe hi2
 obtain ⟨d1, d2, d3, k, k1, k2, k3, k4⟩ := hb.phi i _ _ (qa hi2) (qa hi)
 have hpn := hD x hx _ hpm
 have hj : (blkX f x).phis[i].from_.Perm (predsT (EndsOf f) f.blocks.length x) := by
  have hxl : x.toNat < f.blocks.length := by omega
  have := hJ x.toNat hxl (blkX f x).phis[i] (by
   have e : f.blocks[x.toNat] = blkX f x := by unfold blkX; rw [qa hxl]; rfl
   rw [e]; exact hpm)
  rwa [qp hr.1.1] at this
 have hG := h.okg.grph
 have hF := h.okf.grph
 rw [← e]
 have efst : ∀ {p : PPhi}, p.from_.length = p.args.length → (prs p).map (·.1) = p.from_ := fun {p} hp => by
  unfold prs
  rw [List.map_fst_zip (by omega)]
 refine (List.perm_ext_iff_of_nodup ?_ (predsT_nodup (fun b=>?_) _ _).1).2 fun c=>?_
 ·rw [← efst d3]
  refine (k4.map (·.1)).nodup_iff.2 ?_
  rw [List.map_map]
  have hkn : (k.map (·.1)).Nodup := (k2.map _).nodup hpn
  have : ∀ l : List (Int × Int), (∀ z ∈ l, R z.1) → (l.map (·.1)).Nodup → (l.map ((fun z : Int × Int => z.1) ∘ fun z => (β z.1, ν z.2))).Nodup := by
   intro l
   induction l with
   | nil => intro _ _; simp
   | cons z l ih =>
    intro h1 h2
    rw [List.map_cons, List.nodup_cons] at h2 ⊢
    refine ⟨fun hm=>?_, ih (fun z hz => h1 z (.tail _ hz)) h2.2⟩
    obtain ⟨w, hw, e⟩ := List.mem_map.1 hm
    exact h2.1 (List.mem_map.2 ⟨w, hw, h.inj _ _ (h1 w (.tail _ hw)) (h1 z (.head _)) e⟩)
  exact this k (fun z hz => ((k1 z).1 hz).2) hkn
 ·exact EndsOf_nodup g b
 ·rw [mem_predsT hG.toEOk hG.out, ← efst d3, (k4.map (·.1)).mem_iff, List.map_map, List.mem_map]
  constructor
  ·rintro ⟨z, hz, e2⟩
   have e2 : β z.1 = c := e2
   obtain ⟨z1, z2⟩ := (k1 z).1 hz
   rw [← e2, h.leads z2, hits_iff h.inj (h.cl _ z2) hx]
   exact (mem_predsT hF.toEOk hF.out).1 (hj.mem_iff.1 (by rw [← efst (hP x hx _ hpm)]; exact List.mem_map_of_mem z1))
  ·intro hc
   by_cases hcr : 0 ≤ c ∧ c < g.blocks.length
   ·obtain ⟨w, hw, rfl⟩ := h.onto c hcr.1 hcr.2
    rw [h.leads hw, hits_iff h.inj (h.cl _ hw) hx] at hc
    have := hj.mem_iff.2 ((mem_predsT hF.toEOk hF.out).2 hc)
    rw [← efst (hP x hx _ hpm)] at this
    obtain ⟨z, hz, e3⟩ := List.mem_map.1 this
    exact ⟨z, (k1 z).2 ⟨hz, by rw [e3]; exact hw⟩, by show β z.1 = _; rw [e3]⟩
   ·rw [hG.out c hcr] at hc; cases hc
end
end Go.Proofs.YtpojdepccecpgaaGreatDoor
namespace Go.Proofs.YtpojdepccecpgaaGreatDoor
open Go.Proofs.Tryz
open Go.Proofs Go.Lib
theorem typedS {f : PFunc} (h : typedB f = true) : ShapedP f := by
 unfold typedB at h
 rw [qo, shapedB_eq] at h
 exact of_decide_eq_true h.1
theorem typedE {f : PFunc} (h : typedB f = true) : EndsOk f := (typedS h).ends
theorem fst_prs {p : PPhi} (h : p.from_.length = p.args.length) : (prs p).map (·.1) = p.from_ := by unfold prs; rw [List.map_fst_zip (by omega)]
section
variable {f : PFunc}
theorem blkX_eq {x : Int} (h0 : 0 ≤ x) (h1 : x < f.blocks.length) : f.blocks[x.toNat]'(by omega) = blkX f x := by unfold blkX; rw [qa (by omega)]; rfl
theorem phi_preds (hJ : JoinP f) {x : Int} (h0 : 0 ≤ x) (h1 : x < f.blocks.length) {p : PPhi} (hp : p ∈ (blkX f x).phis) : p.from_.Perm (predsT (EndsOf f) f.blocks.length x) := by
 have := hJ x.toNat (by omega) p (by rw [blkX_eq h0 h1]; exact hp)
 rwa [qp h0] at this
theorem phi_shape (hS : ShapedP f) {x : Int} (h0 : 0 ≤ x) (h1 : x < f.blocks.length) {p : PPhi} (hp : p ∈ (blkX f x).phis) : PhiP f p := (hS.2.2.2.2.2 _ (blkX_mem h0 h1)).1 p hp
theorem phi_dist (hS : ShapedP f) (hJ : JoinP f) {x : Int} (h0 : 0 ≤ x) (h1 : x < f.blocks.length) {p : PPhi} (hp : p ∈ (blkX f x).phis) : DistP p := by
 unfold DistP
 rw [fst_prs (phi_shape hS h0 h1 hp).2.1.symm]
 exact (phi_preds hJ h0 h1 hp).nodup_iff.2 (predsT_nodup (fun b => EndsOf_nodup f b) _ _).1
theorem no_start (hT : typedB f = true) {x : Int} : (0 : Int) ∉ EndsOf f x := fun hm => by
 have hG := (typedE hT).grph
 by_cases hx : 0 ≤ x ∧ x < f.blocks.length
 ·have ht : termT f (blkX f x).term = true := by
   have h2 : f.blocks.all (blkT f) = true := by unfold typedB at hT; rw [qo] at hT; exact hT.2
   have := List.all_eq_true.1 h2 _ (blkX_mem hx.1 hx.2)
   unfold blkT at this
   simp only [qo] at this
   exact this.2
  rw [ends_at hx.1 hx.2] at hm
  generalize (blkX f x).term = t at hm ht
  unfold endsL at hm
  unfold termT at ht
  by_cases h0 : t.kind = 0
  ·rw [if_pos h0] at hm ht
   have := List.mem_singleton.1 hm
   rw [← this] at ht; simp at ht
  ·rw [if_neg h0] at hm ht
   by_cases h1 : t.kind = 1
   ·rw [if_pos h1] at hm ht
    simp only [qo, Bool.not_eq_true', decide_eq_false_iff_not] at ht
    split at hm
    ·exact ht.1.2 (List.mem_singleton.1 hm).symm
    ·rcases List.mem_cons.1 hm with e | e
     ·exact ht.1.2 e.symm
     ·exact ht.2 (List.mem_singleton.1 e).symm
   ·rw [if_neg h1] at hm; cases hm
 ·rw [hG.out x hx] at hm; cases hm
theorem phi_reached (hT : typedB f = true) (hJ : JoinP f) {x : Int} (hx : x ∈ ord f) {p : PPhi} (hp : p ∈ (blkX f x).phis) : ∃ z ∈ prs p, z.1 ∈ ord f := by
 have hS := typedS hT
 have hE := typedE hT
 have hG := hE.grph
 have hr := order_rng hG.toEOk hx
 have hs := phi_shape hS hr.1 hr.2 hp
 have hj := phi_preds hJ hr.1 hr.2 hp
 have hne : x ≠ 0 := fun e => by
  have hl : 0 < p.from_.length := by have := hs.2.1; have := hs.2.2.1; omega
  have hm := hj.mem_iff.1 (qe hl)
  have := (mem_predsT hG.toEOk hG.out).1 hm
  rw [e] at this
  exact no_start hT this
 obtain ⟨k, hk⟩ := List.getElem?_of_mem hx
 obtain ⟨j, y, _, hy, hyx⟩ := order_led hG.toEOk k x hk hne
 have hyo : y ∈ ord f := qj hy
 obtain ⟨a, ha⟩ := prs_from hs.2.1.symm (hj.mem_iff.2 ((mem_predsT hG.toEOk hG.out).2 hyx))
 exact ⟨_, ha, hyo⟩
theorem names_ne (hS : ShapedP f) {a b : Nat} (ha : a < f.blocks.length) (hb : b < f.blocks.length) (h : a ≠ b) : f.blocks[a].name ≠ f.blocks[b].name := by
 have aux : ∀ {a b : Nat} (hb : b < f.blocks.length) (h : a < b), (f.blocks[a]'(by omega)).name ≠ f.blocks[b].name := fun {a b} hb h => by
  refine (hS.2.2.2.1 b hb).2 _ (List.mem_map.2 ⟨f.blocks[a], ?_, Z⟩)
  refine qj (i := a) ?_
  rw [List.getElem?_take, if_pos h, qa]
 rcases Nat.lt_or_gt_of_ne h with k | k
 ·exact aux hb k
 ·exact fun e => aux ha k e.symm
theorem sum_sub {g : Nat → Nat} {l m : List Nat} (h : List.Sublist l m) : (l.map g).sum ≤ (m.map g).sum := by
 induction h with
 | slnil => exact Nat.le_refl _
 | cons a _ ih => rw [List.map_cons, List.sum_cons]; omega
 | cons_cons a _ ih => rw [List.map_cons, List.map_cons, List.sum_cons, List.sum_cons]; omega
theorem prune_typed (hT : typedB f = true) (hJ : JoinP f) : typedB (pruneF f) = true ∧ JoinP (pruneF f) := by
 have hS := typedS hT
 have hE := typedE hT
 have h := prune_like hE hS hJ
 have hl : (pruneF f).blocks.length = (rlL f).length := qh ..
 have hle : (rlL f).length ≤ f.blocks.length := by
  have := List.length_filter_le (fun b : Nat => decide ((b : Int) ∈ ord f)) (List.range f.blocks.length)
  rw [List.length_range] at this; exact this
 have hpos := (prune_ends hE).pos
 have hrl : ∀ {i : Nat} (hi : i < (rlL f).length), (rlL f)[i] < f.blocks.length := fun hi => List.mem_range.1 (List.mem_filter.1 (qe hi)).1
 have hrg : ∀ {x : Int}, x ∈ ord f → 0 ≤ x ∧ x < f.blocks.length := fun hx => order_rng hE.grph.toEOk hx
 have hbn : ∀ i (hi : i < (pruneF f).blocks.length), (pruneF f).blocks[i].name = (f.blocks[(rlL f)[i]'(by omega)]'(hrl (by omega))).name := fun i hi => by
  have e : (pruneF f).blocks[i] = pruneB (nmb f) (frL f ((rlL f)[i]'(by omega))) (blkX f ((rlL f)[i]'(by omega) : Nat)) := List.getElem_map ..
  rw [e]
  show (blkX f _).name = _
  rw [blkX_get (qa (hrl (by omega)))]
 refine ⟨h.typed hS (fun v hv => hv) (fun x hx p hp => phi_reached hT hJ hx hp) hT ?_ hS.2.1 hS.2.2.1 (fun i hi => ?_) ?_, h.joined (fun x hx p hp => phi_dist hS hJ (hrg hx).1 (hrg hx).2 hp) (fun x hx p hp => (phi_shape hS (hrg hx).1 (hrg hx).2 hp).2.1.symm) hJ⟩
 ·have h1 := hS.1
  unfold bad1 at h1 ⊢
  simp only [Bool.or_eq_false_iff, decide_eq_false_iff_not] at h1 ⊢
  refine ⟨h1.1, h1.2.1, h1.2.2.1, by omega, by omega⟩
 ·have hi2 : i < (rlL f).length := by omega
  refine ⟨by rw [hbn i hi]; exact (hS.2.2.2.1 _ (hrl hi2)).1, fun s hs => ?_⟩
  obtain ⟨c, hc, rfl⟩ := List.mem_map.1 hs
  obtain ⟨j, hj⟩ := List.getElem?_of_mem hc
  rw [List.getElem?_take] at hj
  split at hj
  ·rename_i hji
   have hj2 : j < (pruneF f).blocks.length := by omega
   rw [qa hj2] at hj
   rw [← Option.some.inj hj, hbn i hi, hbn j hj2]
   exact names_ne hS _ _ fun e => by
    have := (List.getElem_inj rl_nodup (h₀ := by omega) (h₁ := hi2)).1 e
    omega
  ·cases hj
 ·refine Nat.le_trans ?_ hS.2.2.2.2.1
  unfold sumTo
  show (((rlL f).map _).map _).sum ≤ _
  rw [List.map_map]
  have e1 : f.blocks.map (fun b : PBlock => b.phis.length + b.insts.length) = (List.range f.blocks.length).map fun b : Nat => (blkX f b).phis.length + (blkX f b).insts.length := by
   apply List.ext_getElem
   ·simp
   ·intro i h1 h2
    rw [List.getElem_map, List.getElem_map, List.getElem_range, blkX_get (qa (by simpa using h1))]
  rw [e1]
  refine Nat.le_trans (Nat.le_of_eq ?_) (sum_sub (List.filter_sublist (p := fun b : Nat => decide ((b : Int) ∈ ord f))))
  congr 1
  refine List.map_congr_left fun b _ => ?_
  show ((blkX f b).phis.map _).length + _ = _
  rw [qh]; rfl
theorem prune_can (hT : typedB f = true) (hJ : JoinP f) : canD (pruneF f) = canD f := by
 have hS := typedS hT
 have hE := typedE hT
 exact (prune_like hE hS hJ).can fun x hx p hp => phi_dist hS hJ (order_rng hE.grph.toEOk hx).1 (order_rng hE.grph.toEOk hx).2 hp
theorem prune_small (hs : small f) : small (pruneF f) := by
 obtain ⟨h1, h2, h3, h4, h5⟩ := hs
 refine ⟨h1, h2, ?_, h4, fun c hc => ?_⟩
 ·show ((rlL f).map _).length ≤ _
  rw [qh]
  have := List.length_filter_le (fun b : Nat => decide ((b : Int) ∈ ord f)) (List.range f.blocks.length)
  rw [List.length_range] at this
  unfold rlL; omega
 ·obtain ⟨b, hb, rfl⟩ := List.mem_map.1 hc
  have hb2 : b < f.blocks.length := List.mem_range.1 (List.mem_filter.1 hb).1
  obtain ⟨g1, g2, g3, g4, g5⟩ := h5 _ (blkX_mem (f := f) (x := b) (by omega) (by omega))
  refine ⟨g1, by show (List.map _ _).length ≤ _; rw [qh]; exact g2, g3, fun q hq => ?_, g5⟩
  obtain ⟨p, hp, rfl⟩ := List.mem_map.1 hq
  have := g4 p hp
  have hk := List.length_filter_le (fun z : Int × Int => decide (z.1 ∈ frL f b ∧ 0 ≤ nmb f z.1)) (prs p)
  have hz : (prs p).length ≤ p.args.length := by unfold prs; rw [List.length_zip]; omega
  have e1 : (pruneP (nmb f) (frL f b) p).args.length = (kept (nmb f) (frL f b) p).length := qh ..
  have e2 : (pruneP (nmb f) (frL f b) p).from_.length = (kept (nmb f) (frL f b) p).length := qh ..
  rw [e1, e2]
  unfold kept
  omega
end
end Go.Proofs.YtpojdepccecpgaaGreatDoor
namespace Go.Proofs.YtpojdepccecpgaaGreatDoor
open Go.Proofs.Tryz
open Go.Proofs Go.Lib
def valN (s : ByteArray) : Nat := (s.data.toList.drop 1).foldl (fun a b => 10 * a + (b.toNat - 48)) 0
theorem names_ok : (List.range 513).all (fun i => nameB (nameK 118 i) && nameB (nameK 98 i) && (valN (nameK 118 i) == i) && (valN (nameK 98 i) == i) && (decide ((nameK 118 i).size ≤ 10) && decide ((nameK 98 i).size ≤ 10))) = true := by decide +kernel
theorem name_ok {c : UInt8} (hc : c = 118 ∨ c = 98) {i : Nat} (h : i ≤ 512) : nameB (nameK c i) = true ∧ valN (nameK c i) = i ∧ (nameK c i).size ≤ 10 := by
 have := List.all_eq_true.1 names_ok i (List.mem_range.2 (by omega))
 simp only [qo, beq_iff_eq, qq] at this
 rcases hc with rfl | rfl
 ·exact ⟨this.1.1.1.1, this.1.1.2, this.2.1⟩
 ·exact ⟨this.1.1.1.2, this.1.2, this.2.2⟩
theorem name_inj {c : UInt8} (hc : c = 118 ∨ c = 98) {i j : Nat} (h : i ≤ 512) (k : j ≤ 512) (e : nameK c i = nameK c j) : i = j := by
 rw [← (name_ok hc h).2.1, ← (name_ok hc k).2.1, e]
theorem mem_pairs {l : List Int} {p : PPhi} {z : Int × Int} : z ∈ phPairs l p ↔ ∃ (k : Nat) (x : Int), l[k]? = some x ∧ z.1 = k ∧ lookP p x = some z.2 := by
 unfold phPairs
 rw [List.mem_filterMap]
 constructor
 ·rintro ⟨k, _, h⟩
  cases hx : l[k]? with
  | none => rw [hx] at h; cases h
  | some x =>
   rw [hx] at h
   have h : (lookP p x).map (fun a => ((k : Int), a)) = some z := h
   cases ha : lookP p x with
   | none => rw [ha] at h; cases h
   | some a =>
    rw [ha] at h
    have h := Option.some.inj h
    exact ⟨k, x, hx, by rw [← h], by rw [ha, ← h]⟩
 ·rintro ⟨k, x, hx, h1, h2⟩
  refine ⟨k, List.mem_range.2 (List.getElem?_eq_some_iff.1 hx).1, ?_⟩
  rw [hx]
  show (lookP p x).map _ = _
  rw [h2]
  show some ((k : Int), z.2) = some z
  rw [← h1]
theorem pairs_sorted (l : List Int) (p : PPhi) : (phPairs l p).Pairwise fun a b => a.1 < b.1 := by
 unfold phPairs
 rw [List.pairwise_filterMap]
 refine List.pairwise_lt_range.imp fun {a b} h => ?_
 intro z hz w hw
 cases hx : l[a]? with
 | none => rw [hx] at hz; cases hz
 | some x =>
  rw [hx] at hz
  cases hy : l[b]? with
  | none => rw [hy] at hw; cases hw
  | some y =>
   rw [hy] at hw
   have hz : (lookP p x).map (fun c => ((a : Int), c)) = some z := hz
   have hw : (lookP p y).map (fun c => ((b : Int), c)) = some w := hw
   rw [Option.map_eq_some_iff] at hz hw
   obtain ⟨_, _, rfl⟩ := hz
   obtain ⟨_, _, rfl⟩ := hw
   show (a : Int) < b
   omega
theorem pos_at {l : List Int} (hn : l.Nodup) {k : Nat} {x : Int} (h : l[k]? = some x) : posI l x = k := by
 obtain ⟨hk, e⟩ := List.getElem?_eq_some_iff.1 h
 unfold posI
 rw [← e]
 have hl := List.idxOf_lt_length_of_mem (qe hk)
 have := (List.getElem_inj hn (h₀ := hl) (h₁ := hk)).1 (List.getElem_idxOf hl)
 rw [this]
theorem at_pos {l : List Int} {x : Int} (h : x ∈ l) : l[(posI l x).toNat]? = some x ∧ 0 ≤ posI l x ∧ posI l x < l.length := by
 have hl := List.idxOf_lt_length_of_mem h
 unfold posI
 refine ⟨?_, by omega, by omega⟩
 rw [Int.toNat_natCast, qa hl, List.getElem_idxOf hl]
theorem pos_inj {l : List Int} {x y : Int} (hx : x ∈ l) (hy : y ∈ l) (e : posI l x = posI l y) : x = y := by
 have := (at_pos hx).1
 rw [e, (at_pos hy).1] at this
 exact (Option.some.inj this).symm
theorem pairs_perm {l : List Int} (hn : l.Nodup) {p : PPhi} (hD : DistP p) : (phPairs l p).Perm (((prs p).filter fun z => decide (z.1 ∈ l)).map fun z => (posI l z.1, z.2)) := by
 have n1 : (phPairs l p).Nodup := (pairs_sorted l p).imp fun {a b} h e => by rw [e] at h; omega
 have n2 : (((prs p).filter fun z => decide (z.1 ∈ l)).map fun z => (posI l z.1, z.2)).Nodup := by
  have hd : ((prs p).map (·.1)).Nodup := hD
  have : ∀ m : List (Int × Int), (m.map (·.1)).Nodup → ((m.filter fun z => decide (z.1 ∈ l)).map fun z => (posI l z.1, z.2)).Nodup := by
   intro m
   induction m with
   | nil => intro _; simp
   | cons z m ih =>
    intro h
    rw [List.map_cons, List.nodup_cons] at h
    rw [List.filter_cons]
    split
    ·rename_i hz
     rw [List.map_cons, List.nodup_cons]
     refine ⟨fun hm=>?_, ih h.2⟩
     obtain ⟨w, hw, e⟩ := List.mem_map.1 hm
     obtain ⟨w1, w2⟩ := List.mem_filter.1 hw
     exact h.1 (List.mem_map.2 ⟨w, w1, pos_inj (of_decide_eq_true w2) (of_decide_eq_true hz) (Prod.mk.inj e).1⟩)
    ·exact ih h.2
  exact this _ hd
 refine (List.perm_ext_iff_of_nodup n1 n2).2 fun z=>?_
 rw [mem_pairs, List.mem_map]
 constructor
 ·rintro ⟨k, x, hx, h1, h2⟩
  exact ⟨(x, z.2), List.mem_filter.2 ⟨(look_iff hD).1 h2, qm (qj hx)⟩, by rw [pos_at hn hx, ← h1]⟩
 ·rintro ⟨w, hw, e⟩
  obtain ⟨w1, w2⟩ := List.mem_filter.1 hw
  have hm := of_decide_eq_true w2
  have := at_pos hm
  exact ⟨(posI l w.1).toNat, w.1, this.1, by rw [← e, qp this.2.1], by rw [← e]; exact (look_iff hD).2 w1⟩
theorem pairs_of_sorted {l : List Int} (hn : l.Nodup) {p : PPhi} (hD : DistP p) (hl : ∀ x ∈ p.from_, x ∈ l) {L : List (Int × Int)} (hs : L.Pairwise fun a b => a.1 ≤ b.1) (hp : L.Perm ((prs p).map fun z => (posI l z.1, z.2))) : L = phPairs l p := by
 have e : (prs p).filter (fun z => decide (z.1 ∈ l)) = prs p := List.filter_eq_self.2 fun z hz => qm (hl _ (List.of_mem_zip hz).1)
 have hq := pairs_perm hn hD
 rw [e] at hq
 have hpq := hp.trans hq.symm
 refine List.Perm.eq_of_pairwise (le := fun a b => a.1 ≤ b.1) (fun a b ha hb h1 h2 => ?_) hs ((pairs_sorted l p).imp fun h => Int.le_of_lt h) hpq
 have ha := hpq.mem_iff.1 ha
 obtain ⟨k, x, hx, hk, h3⟩ := mem_pairs.1 ha
 obtain ⟨j, y, hy, hj, h4⟩ := mem_pairs.1 hb
 have : k = j := by omega
 rw [this, hy] at hx
 rw [Option.some.inj hx, h3] at h4
 exact Prod.ext (by omega) (Option.some.inj h4)
theorem see_mem : ∀ {vs l : List Int} {v : Int}, v ∈ seeL l vs ↔ v ∈ l ∨ v ∈ vs
 | [], l, v => by show v ∈ l ↔ _; simp
 | w :: vs, l, v => by
  show v ∈ seeL (see1 l w) vs ↔ _
  rw [see_mem]
  have : v ∈ see1 l w ↔ v ∈ l ∨ v = w := by
   unfold see1
   split
   ·rename_i h
    exact ⟨.inl, fun k => k.elim id fun e => e ▸ h⟩
   ·rw [List.mem_append, List.mem_singleton]
  rw [this, List.mem_cons, or_assoc]
theorem see_nodup : ∀ {vs l : List Int}, l.Nodup → (seeL l vs).Nodup
 | [], _, h => h
 | w :: vs, l, h => by
  show (seeL (see1 l w) vs).Nodup
  refine see_nodup ?_
  unfold see1
  split
  ·exact h
  ·rename_i hw
   rw [List.nodup_append]
   exact ⟨h, by simp, fun a ha b hb => by rw [List.mem_singleton.1 hb]; exact fun e => hw (e ▸ ha)⟩
theorem see_pre : ∀ {vs l : List Int}, l <+: seeL l vs
 | [], l => List.prefix_refl l
 | w :: vs, l => by
  show l <+: seeL (see1 l w) vs
  refine List.IsPrefix.trans ?_ see_pre
  unfold see1
  split
  ·exact List.prefix_refl l
  ·exact List.prefix_append ..
theorem see_new : ∀ {vs l : List Int}, vs.Nodup → (∀ v ∈ vs, v ∉ l) → seeL l vs = l ++ vs
 | [], l, _, _ => by show l = l ++ []; rw [List.append_nil]
 | w :: vs, l, h, k => by
  rw [List.nodup_cons] at h
  show seeL (see1 l w) vs = _
  unfold see1
  rw [if_neg (k w (.head _)), see_new h.2 fun v hv => ?_, qc]; rfl
  rw [List.mem_append, List.mem_singleton]
  exact fun e => e.elim (k v (.tail _ hv)) fun e => h.1 (e ▸ hv)
theorem see_app (l vs ws : List Int) : seeL l (vs ++ ws) = seeL (seeL l vs) ws := by unfold seeL; rw [List.foldl_append]
end Go.Proofs.YtpojdepccecpgaaGreatDoor
namespace Go.Proofs.YtpojdepccecpgaaGreatDoor
open Go.Proofs.Tryz
open Go.Proofs Go.Lib Go.Shelf Go.RowKit
variable {E : World}
set_option maxRecDepth 20000
theorem idx_first : ∀ {l : List Int} {k : Nat} {v : Int}, l[k]? = some v → v ∉ l.take k → l.idxOf v = k
 | [], k, v, h, _ => by simp at h
 | x :: l, 0, v, h, _ => by
  simp at h; subst h
  rw [List.idxOf_cons]; simp
 | x :: l, k + 1, v, h, hn => by
  rw [List.take_succ_cons, List.mem_cons, not_or] at hn
  rw [List.idxOf_cons, idx_first (k := k) (by simpa using h) hn.2]
  have : (x == v) = false := beq_eq_false_iff_ne.2 (fun e => hn.1 e.symm)
  rw [this]; rfl
end Go.Proofs.YtpojdepccecpgaaGreatDoor
namespace Go.Proofs.YtpojdepccecpgaaGreatDoor
open Go.Proofs.Tryz
variable {α : Type}
def mg (k : Int) : List (Int × List α) → List α
 | [] => []
 | (k', r) :: es => if k = k' then r else mg k es
def ms (k : Int) (r : List α) : List (Int × List α) → List (Int × List α)
 | [] => [(k, r)]
 | (k', r') :: es => if k = k' then (k, r) :: es else (k', r') :: ms k r es
def kv (k : Int) : Value := .int .i64 k
theorem kv_key (k : Int) : MapKept.IsKey (.int .i64) (kv k) := rfl
theorem kv_now (k k' : Int) : Instr.sameNow (.int .i64) (kv k) (kv k') = some (decide (k = k')) := by
 simp [Instr.sameNow, kv]; by_cases h : k = k' <;> simp [h]
def ents (arr : Array MapEntry) : List (Value × Value) := arr.toList.map fun e => (e.key, e.val)
inductive MapR (c : Enc α) (e : TypeId) : List (Int × List α) → List (Value × Value) → List (Nat × Obj) → Prop
 | nil : MapR c e [] [] []
 | cons {k r es a n cap hs A B} : OwnS c.k e a n cap (c.vs r) A → MapR c e es hs B → MapR c e ((k, r) :: es) ((kv k, .slice a n cap) :: hs) (A ++ B)
theorem MapR.get {c : Enc α} {e : TypeId} {k : Int} : ∀ {l : List MapEntry} {es : List (Int × List α)} {L : List (Nat × Obj)} (i : Nat), MapR c e es (l.map fun e => (e.key, e.val)) L →
  (Instr.findNow (.int .i64) (kv k) l i = some none ∧ mg k es = [] ∧ ∀ r' a' n' c' A', OwnS c.k e a' n' c' (c.vs r') A' → ∃ L', MapR c e (ms k r' es) (l.map (fun e => (e.key, e.val)) ++ [(kv k, .slice a' n' c')]) L' ∧ L'.Perm (A' ++ L)) ∨
  (∃ j e0 a n cap A B, Instr.findNow (.int .i64) (kv k) l i = some (some (i + j, .slice a n cap)) ∧ l[j]? = some e0 ∧ e0.key = kv k ∧ OwnS c.k e a n cap (c.vs (mg k es)) A ∧ L.Perm (A ++ B) ∧
   ∀ r' a' n' c' A', OwnS c.k e a' n' c' (c.vs r') A' → ∃ L', MapR c e (ms k r' es) ((l.map fun e => (e.key, e.val)).set j (kv k, .slice a' n' c')) L' ∧ L'.Perm (A' ++ B))
 | [], es, L, i, h => by
  cases h
  exact .inl ⟨rfl, rfl, fun r' a' n' c' A' h => ⟨_, by simpa [ms] using MapR.cons (k := k) h .nil, by simp⟩⟩
 | x :: l, es, L, i, h => by
  generalize hl : ((x :: l).map fun e => (e.key, e.val)) = hs0 at h
  cases h with
  | nil => simp at hl
  | @cons k1 r es a n cap hs A B h1 h2 =>
   simp only [List.map_cons, List.cons.injEq, Prod.mk.injEq] at hl
   obtain ⟨⟨hk, hv⟩, rfl⟩ := hl
   by_cases e1 : k = k1
   ·subst e1
    right
    refine ⟨0, x, a, n, cap, A, B, ?_, Z, hk, by simpa [mg] using h1, .refl _, fun r' a' n' c' A' h => ⟨A' ++ B, ?_, .refl _⟩⟩
    ·unfold Instr.findNow; rw [hk, kv_now, qm rfl]; simp [hv]
    ·simp only [ms, if_pos, List.map_cons, List.set_cons_zero]
     exact .cons h h2
   ·have hf : Instr.findNow (.int .i64) (kv k) (x :: l) i = Instr.findNow (.int .i64) (kv k) l (i + 1) := by
     rw [Instr.findNow, hk, kv_now, qn e1]
    have hg : mg k ((k1, r) :: es) = mg k es := by simp [mg, e1]
    have hms : ∀ r', ms k r' ((k1, r) :: es) = (k1, r) :: ms k r' es := fun r' => by simp [ms, e1]
    rw [hf, hg]
    rcases MapR.get (k := k) (i + 1) h2 with ⟨g1, g2, g3⟩ | ⟨j, e0, a1, n1, c1, A1, B1, g1, g2, g3, g4, g5, g6⟩
    ·left
     refine ⟨g1, g2, fun r' a' n' c' A' h => ?_⟩
     obtain ⟨L', q1, q2⟩ := g3 r' a' n' c' A' h
     refine ⟨A ++ L', ?_, ?_⟩
     ·rw [hms, List.cons_append]; exact .cons h1 q1
     ·refine (q2.append_left A).trans ?_
      rw [← qc, ← qc]
      exact List.perm_append_comm.append_right B
    ·right
     refine ⟨j + 1, e0, a1, n1, c1, A1, A ++ B1, by rw [g1]; congr 3; omega, by simpa using g2, g3, g4, ?_, fun r' a' n' c' A' h => ?_⟩
     ·refine (g5.append_left A).trans ?_
      rw [← qc, ← qc]
      exact List.perm_append_comm.append_right B1
     ·obtain ⟨L', q1, q2⟩ := g6 r' a' n' c' A' h
      refine ⟨A ++ L', ?_, ?_⟩
      ·rw [hms, List.set_cons_succ]; exact .cons h1 q1
      ·refine (q2.append_left A).trans ?_
       rw [← qc, ← qc]
       exact List.perm_append_comm.append_right B1
section
variable {E : World} {P : Program} {ops : Array Oper} {K : AEnv → OL → Prop} {env : AEnv} {O O' O'' : OL} {rest : List Oper} {n : Nat}
variable {d ty : Nat} {pos : String} {af : Array Edge} {x y z : Operand} {t u e T kt : TypeId} {b : Nat}
def FroM (c : Enc α) (I : G) : List (Int × List α) → List (Value × Value) → Prop
 | [], hs => hs = []
 | (k, r) :: es, hs => ∃ v hs', hs = (kv k, v) :: hs' ∧ RepV I (.fro c.k (r.map c.row)) v ∧ FroM c I es hs'
theorem FroM.mono {c : Enc α} {I J : G} (h : I.le J) : ∀ {es : List (Int × List α)} {hs : List (Value × Value)}, FroM c I es hs → FroM c J es hs
 | [], _, e => e
 | (_, _) :: _, _, ⟨v, hs', e, h1, h2⟩ => ⟨v, hs', e, RepV.mono h _ _ h1, FroM.mono h h2⟩
theorem MapR.fro {c : Enc α} {I : G} {e : TypeId} {es : List (Int × List α)} {hs : List (Value × Value)} {B : List (Nat × Obj)} (h : MapR c e es hs B) (hI : ∀ x ∈ B, I.k x.1 = some x.2) : FroM c I es hs := by
 induction h with
 | nil => rfl
 | cons h1 _ ih => exact ⟨_, _, rfl, h1.fro fun x hx => hI x (List.mem_append_left _ hx), ih fun x hx => hI x (List.mem_append_right _ hx)⟩
theorem FroM.get {c : Enc α} {I : G} {k : Int} : ∀ {l : List MapEntry} {es : List (Int × List α)} (i : Nat), FroM c I es (l.map fun e => (e.key, e.val)) →
  (Instr.findNow (.int .i64) (kv k) l i = some none ∧ mg k es = []) ∨ (∃ j v, Instr.findNow (.int .i64) (kv k) l i = some (some (j, v)) ∧ RepV I (.fro c.k ((mg k es).map c.row)) v)
 | [], [], i, _ => .inl ⟨rfl, rfl⟩
 | _ :: _, [], _, h => by cases h
 | [], (_, _) :: _, _, ⟨_, _, e, _⟩ => by cases e
 | x :: l, (k1, r) :: es, i, ⟨v, hs', e, h1, h2⟩ => by
  simp only [List.map_cons, List.cons.injEq, Prod.mk.injEq] at e
  obtain ⟨⟨hk, hv⟩, rfl⟩ := e
  by_cases e1 : k = k1
  ·subst e1
   right
   refine ⟨i, v, ?_, by simpa [mg] using h1⟩
   unfold Instr.findNow; rw [hk, kv_now, qm rfl]; simp [hv]
  ·have hf : Instr.findNow (.int .i64) (kv k) (x :: l) i = Instr.findNow (.int .i64) (kv k) l (i + 1) := by
    rw [Instr.findNow, hk, kv_now, qn e1]
   rw [hf, show mg k ((k1, r) :: es) = mg k es by simp [mg, e1]]
   exact FroM.get (i + 1) h2
end
end Go.Proofs.YtpojdepccecpgaaGreatDoor
namespace Go.Proofs.YtpojdepccecpgaaGreatDoor
open Go.Proofs.Tryz
def ag (k : Int) : List (Int × AV) → Option AV
 | [] => none
 | (k', x) :: es => if k = k' then some x else ag k es
def am (k : Int) (x : AV) : List (Int × AV) → List (Int × AV)
 | [] => [(k, x)]
 | (k', x') :: es => if k = k' then (k, x) :: es else (k', x') :: am k x es
theorem ag_am (k k' : Int) (x : AV) : ∀ es : List (Int × AV), ag k (am k' x es) = if k = k' then some x else ag k es
 | [] => by simp only [am, ag]
 | (q, y) :: es => by
  simp only [am]
  by_cases h : k' = q
  ·subst h
   rw [if_pos rfl]
   simp only [ag]
   by_cases h2 : k = k'
   ·rw [if_pos h2, if_pos h2]
   ·rw [if_neg h2, if_neg h2, if_neg h2]
  ·rw [if_neg h]
   simp only [ag]
   by_cases h2 : k = q
   ·rw [if_pos h2, if_pos h2, if_neg (fun e => h (by rw [← e, h2]))]
   ·rw [if_neg h2, if_neg h2]; exact ag_am k k' x es
def EntR (I : G) : List (Int × AV) → List (Value × Value) → Prop
 | [], hs => hs = []
 | (k, x) :: es, hs => ∃ v hs', hs = (kv k, v) :: hs' ∧ RepV I x v ∧ EntR I es hs'
theorem EntR.mono {I J : G} (h : I.le J) : ∀ {es : List (Int × AV)} {hs : List (Value × Value)}, EntR I es hs → EntR J es hs
 | [], _, e => e
 | (_, _) :: _, _, ⟨v, hs', e, h1, h2⟩ => ⟨v, hs', e, RepV.mono h _ _ h1, EntR.mono h h2⟩
theorem EntR.get {I : G} {k : Int} : ∀ {l : List MapEntry} {es : List (Int × AV)} (i : Nat), EntR I es (l.map fun e => (e.key, e.val)) →
  (Instr.findNow (.int .i64) (kv k) l i = some none ∧ ag k es = none ∧ ∀ y u, RepV I y u → EntR I (am k y es) ((l.map fun e => (e.key, e.val)) ++ [(kv k, u)])) ∨
  (∃ j e0 v x, Instr.findNow (.int .i64) (kv k) l i = some (some (i + j, v)) ∧ l[j]? = some e0 ∧ e0.key = kv k ∧ ag k es = some x ∧ RepV I x v ∧ ∀ y u, RepV I y u → EntR I (am k y es) ((l.map fun e => (e.key, e.val)).set j (kv k, u)))
 | [], [], i, _ => .inl ⟨rfl, rfl, fun y u h => ⟨u, [], rfl, h, rfl⟩⟩
 | _ :: _, [], _, h => by cases h
 | [], (_, _) :: _, _, ⟨_, _, e, _⟩ => by cases e
 | x :: l, (k1, r) :: es, i, ⟨v, hs', e, h1, h2⟩ => by
  simp only [List.map_cons, List.cons.injEq, Prod.mk.injEq] at e
  obtain ⟨⟨hk, hv⟩, rfl⟩ := e
  by_cases e1 : k = k1
  ·subst e1
   right
   refine ⟨0, x, v, r, ?_, Z, hk, by simp [ag], h1, fun y u h => ?_⟩
   ·unfold Instr.findNow; rw [hk, kv_now, qm rfl]; simp [hv]
   ·simp only [am, if_pos, List.map_cons, List.set_cons_zero]
    exact ⟨u, _, rfl, h, h2⟩
  ·have hf : Instr.findNow (.int .i64) (kv k) (x :: l) i = Instr.findNow (.int .i64) (kv k) l (i + 1) := by
    rw [Instr.findNow, hk, kv_now, qn e1]
   have hg : ag k ((k1, r) :: es) = ag k es := by simp [ag, e1]
   have hms : ∀ y, am k y ((k1, r) :: es) = (k1, r) :: am k y es := fun y => by simp [am, e1]
   rw [hf, hg]
   rcases EntR.get (k := k) (i + 1) h2 with ⟨g1, g2, g3⟩ | ⟨j, e0, v1, x1, g1, g2, g3, g4, g5, g6⟩
   ·left
    refine ⟨g1, g2, fun y u h => ?_⟩
    rw [hms]
    exact ⟨v, _, by rw [List.map_cons, hk, hv]; rfl, h1, g3 y u h⟩
   ·right
    refine ⟨j + 1, e0, v1, x1, by rw [g1]; congr 3; omega, by simpa using g2, g3, g4, g5, fun y u h => ?_⟩
    rw [hms]
    exact ⟨v, _, by rw [List.map_cons, hk, hv, List.set_cons_succ], h1, g6 y u h⟩
def mapAO (b : Nat) (es : List (Int × AV)) : AObj := .heapG (fun I L => ∃ arr clock, L = [(b, .map arr clock)] ∧ EntR I es (ents arr)) fun I J L h hp => by
 obtain ⟨arr, clock, h1, h2⟩ := hp; exact ⟨arr, clock, h1, h2.mono h⟩
section
variable {E : World} {P : Program} {ops : Array Oper} {K : AEnv → OL → Prop} {env : AEnv} {O O' O'' : OL} {rest : List Oper} {n : Nat}
variable {d ty : Nat} {pos : String} {af : Array Edge} {x y z : Operand} {t u e T kt : TypeId} {b : Nat}
theorem AOps.makeMapA (k : ∀ b, AOps P E ops K rest (aupd env d (mref b)) ((0, mapAO b []) :: O)) : AOps P E ops K (Oper.mk (some d) (.makeMap t none) ty pos af none :: rest) env O := fun I F ρ w h1 ⟨ht, L, hL, hS⟩ => by
 refine q9 Z ?_
 unfold OpW
 have : (execOp (Go.Proofs.YtpojdepccecpgaaGreatDoor.ev ρ) (Oper.mk (some d) (.makeMap t none) ty pos af none)).run P w = .ok (.value (.map (some w.heap.size))) (w.alloc (.map #[] 0)) := by
  simp only [execOp, Option.map_none]
  rw [Sem.run_bind, run_makeMap_plain]; rfl
 rw [this]
 exact k w.heap.size I F _ _ (h1.upd d rfl) ⟨ht, (w.heap.size, .map #[] 0) :: L, ⟨[_], L, rfl, ⟨#[], 0, rfl, rfl⟩, hL⟩, hS.alloc _⟩
theorem Gv.lookupA {k : Int} {m : Nat} {es : List (Int × AV)} {zx : AV} {zv : Value} {r : Option AV} (hg : ag k es = r) (ht : P.underlying t = some (.map kt u)) (hk : P.underlying kt = some (.int .i64)) (hz : ∀ w, (zeroValue u).run P w = .ok zv w) (hzr : ∀ I, RepV I zx zv) (hx : aev env x = mref b) (hy : aev env y = .int .i64 k)
  (hO : Has O m (mapAO b es)) : Gv P env O (Oper.mk (some d) (.lookup t x y true) ty pos af none) (.tup [r.getD zx, .bool r.isSome]) := fun I L E ρ h1 hL => by
 subst hg
 obtain ⟨O', hO⟩ := hO
 obtain ⟨A, B, hp, ⟨arr, clock, rfl, hM⟩, _⟩ := hO.rep hL
 have hin0 : (b, Obj.map arr clock) ∈ L := hp.mem_iff.2 (by simp)
 have hx := evRaw h1 hx
 have hy := evI h1 hy
 have hb : ∀ w J L', I.k.le J → SL J L' E w → (∀ y ∈ L, y ∈ L') → w.heap[b]? = some (Obj.map arr clock) := fun w J L' hl hS hin => by
  have := hS.own _ (hin _ hin0); simpa using this
 have hc : ∀ w, (Instr.checkKey arr.isEmpty 10000 kt (kv k)).run P w = .ok () w := fun w => MapKept.run_checkKey (k := kv k) hk (kv_key k) _ 9999
 rcases EntR.get (k := k) 0 hM with ⟨g1, g2, _⟩ | ⟨j, e0, v, x1, g1, _, _, g4, g5, _⟩
 ·rw [g2]
  refine ⟨.tuple #[zv, .bool false], ⟨[_, _], Z, _, _, Z, hzr I, _, _, Z, Z, Z⟩, fun w J L' hl hS hin => ?_⟩
  have hb := hb w J L' hl hS hin
  have hc := hc w
  simp only [kv] at hc g1
  simp [execOp, Instr.lookup, run_underlying ht, hx, hy, MapKept.run_getObj_map hb, hc, MapKept.run_findKey hk g1, hz, Result.andThen]
 ·rw [g4]
  refine ⟨.tuple #[v, .bool true], ⟨[_, _], Z, _, _, Z, g5, _, _, Z, Z, Z⟩, fun w J L' hl hS hin => ?_⟩
  have hb := hb w J L' hl hS hin
  have hc := hc w
  simp only [kv] at hc g1
  simp [execOp, Instr.lookup, run_underlying ht, hx, hy, MapKept.run_getObj_map hb, hc, MapKept.run_findKey hk g1, Result.andThen]
theorem AOps.mapSetA {k : Int} {m : Nat} {v : AV} {es : List (Int × AV)} (ht : P.underlying t = some (.map kt u)) (hk : P.underlying kt = some (.int .i64)) (hx : aev env x = mref b) (hy : aev env y = .int .i64 k) (hz : aev env z = v) (hO : Put O m (mapAO b es) (mapAO b (am k v es)) O')
  (kk : AOps P E ops K rest env O') : AOps P E ops K (Oper.mk none (.mapUpdate t x y z) ty pos af none :: rest) env O := fun I F ρ w h1 ⟨htop, L, hL, hS⟩ => by
 have hx := evRaw h1 hx
 have hy := evI h1 hy
 have hz2 := h1.ev z
 rw [hz] at hz2
 obtain ⟨uu, hu⟩ : ∃ uu, Go.Proofs.YtpojdepccecpgaaGreatDoor.ev ρ z = uu := ⟨_, rfl⟩
 rw [hu] at hz2
 obtain ⟨A, B, hp, ⟨arr, clock, rfl, he⟩, hback⟩ := hO.rep hL
 have hS2 : SL I.k ((b, .map arr clock) :: (B ++ F)) E w := hS.perm ((hp.append_right F).symm)
 have hb := hS2.own _ (.head _)
 simp only at hb
 have hc : (Instr.checkKey false 10000 kt (kv k)).run P w = .ok () w := MapKept.run_checkKey (k := kv k) hk (kv_key k) false 9999
 have fin : ∀ (arr' : Array MapEntry) (clock' : Nat), EntR I (am k v es) (ents arr') →
   (execOp (Go.Proofs.YtpojdepccecpgaaGreatDoor.ev ρ) (Oper.mk none (.mapUpdate t x y z) ty pos af none)).run P w = .ok .skip { w with heap := w.heap.setIfInBounds b (.map arr' clock') } → Ops P ops (postK I F E K) (Oper.mk none (.mapUpdate t x y z) ty pos af none :: rest) ρ w := fun arr' clock' he' hrun => by
  refine q9 Z ?_
  unfold OpW
  rw [hrun]
  obtain ⟨L', h7, h8⟩ := hback (G.le.refl I) (A' := [(b, .map arr' clock')]) ⟨arr', clock', rfl, he'⟩
  have hh := MapKept.heap_set (o' := .map arr' clock') hb
  have hS3 : SL I.k ((b, .map arr' clock') :: (B ++ F)) E { w with heap := w.heap.setIfInBounds b (.map arr' clock') } := hS2.turn rfl rfl rfl hh.1 hh.2
  exact kk I F ρ _ h1 ⟨htop, L', h7, hS3.perm (h8.append_right F)⟩
 rcases EntR.get (k := k) 0 he with ⟨g1, _, g3⟩ | ⟨j, e0, v1, x1, g1, g2, g3, _, _, g6⟩
 ·refine fin (arr.push { key := kv k, val := uu, born := clock }) (clock + 1) ?_ ?_
  ·have := g3 v uu hz2
   unfold ents; simpa using this
  ·simp only [kv] at hc g1
   simp [execOp, hx, hy, hu, Instr.mapUpdate, run_underlying ht, MapKept.run_getObj_map hb, hc, MapKept.run_findKey hk g1, MapKept.run_setObj_map _ hb, Result.andThen, kv]
 ·rw [Nat.zero_add] at g1
  have hj' : arr[j]? = some e0 := by rw [← Array.getElem?_toList]; exact g2
  refine fin (arr.modify j fun e => { e with key := kv k, val := uu }) clock ?_ ?_
  ·have hjl : j < arr.toList.length := (List.getElem?_eq_some_iff.1 g2).1
   have : (arr.modify j fun e => { e with key := kv k, val := uu }).toList = arr.toList.set j { e0 with key := kv k, val := uu } := by
    apply List.ext_getElem?
    intro q
    rw [Array.getElem?_toList, Array.getElem?_modify]
    by_cases hq : j = q
    ·subst hq
     rw [if_pos rfl, hj', List.getElem?_set_self hjl]; rfl
    ·rw [if_neg hq, List.getElem?_set_ne hq, Array.getElem?_toList]
   unfold ents
   rw [this, List.map_set]; exact g6 v uu hz2
  ·have hkeep : (Instr.keyThatStays (kv k) (kv k)).run P w = .ok (kv k) w := MapKept.run_keyThatStays (kv_key k)
   simp only [kv] at hc g1 g3 hkeep
   simp [execOp, hx, hy, hu, Instr.mapUpdate, run_underlying ht, MapKept.run_getObj_map hb, hc, MapKept.run_findKey hk g1, MapKept.run_setObj_map _ hb, Result.andThen, hj', g3, hkeep, kv]
end
end Go.Proofs.YtpojdepccecpgaaGreatDoor
namespace Go.Proofs.YtpojdepccecpgaaGreatDoor
open Go.Proofs.Tryz
open Go.Proofs Go.Lib Go.Shelf Go.RowKit
variable {E : World}
set_option maxRecDepth 20000
def MapOf (l : List Int) (es : List (Int × AV)) : Prop := ∀ k, ag k es = if k ∈ l then some (.int .i64 (posI l k)) else none
theorem MapOf.push {l : List Int} {es : List (Int × AV)} (h : MapOf l es) {v : Int} (hv : v ∉ l) : MapOf (l ++ [v]) (am v (.int .i64 l.length) es) := fun k => by
 rw [ag_am]
 by_cases e : k = v
 ·subst e
  rw [if_pos rfl, if_pos (by simp)]
  have : (l ++ [k]).idxOf k = l.length := idx_first (by simp) (by simpa using hv)
  unfold posI
  rw [this]
 ·rw [if_neg e, h k]
  by_cases hk : k ∈ l
  ·rw [if_pos hk, if_pos (List.mem_append_left _ hk)]
   unfold posI
   rw [List.idxOf_append, if_pos hk]
  ·rw [if_neg hk, if_neg (by simp [hk, e])]
theorem see_len : ∀ (vs l : List Int), (seeL l vs).length ≤ l.length + vs.length
 | [], l => Nat.le_refl _
 | w :: vs, l => by
  show (seeL (see1 l w) vs).length ≤ _
  have h1 := see_len vs (see1 l w)
  have h2 : (see1 l w).length ≤ l.length + 1 := by
   unfold see1; split
   ·omega
   ·rw [qg]; exact Nat.le_refl _
  rw [List.length_cons]; omega
def ordO (o b io : Nat) (l : List Int) (es : List (Int × AV)) : OL := [(o, .cells 79 [.own io l.length, mref b]), (io, .grow 1 3 (cI l)), (0, mapAO b es)]
theorem see_spec (o b io : Nat) (l vs : List Int) (es : List (Int × AV)) (hM : MapOf l es) (hl : l.length + vs.length ≤ 1000000) :
  ACall prog E 55 [.po o 0, .fro 1 (vs.map encI)] (ordO o b io l es) (fun x O' => ∃ g : Nat × List (Int × AV), x = .tup [] ∧ O' = ordO o b g.1 (seeL l vs) g.2 ∧ MapOf (seeL l vs) g.2) := by
 unfold ordO
 refine ACall.exact (γ := Nat × List (Int × AV)) (x := fun _ => .tup []) (M := fun g => [(o, .cells 79 [.own g.1 (seeL l vs).length, mref b]), (g.1, .grow 1 3 (cI (seeL l vs))), (0, mapAO b g.2)]) (p := fun g => MapOf (seeL l vs) g.2)<|zt func55 Z (by decide) Z<|zSr<|zVzMf Z<|zVGvlenM j6 Z<|zVzMi Z<|z6<|zi<|y7 (γ := Nat × Nat × List (Int × AV)) [0, 8, 9] (fun g => [(10, .int .i64 g.1)]) (fun g => [(o, .cells 79 [.own g.2.1 (seeL l (vs.take g.1)).length, mref b]), (g.2.1, .grow 1 3 (cI (seeL l (vs.take g.1)))), (0, mapAO b g.2.2)]) (fun g => g.1 ≤ vs.length ∧ MapOf (seeL l (vs.take g.1)) g.2.2) (fun g => vs.length - g.1) (0, io, es) zR1 zLe (⟨qd _, hM⟩) ?_
 rintro ⟨k, io, es⟩ ⟨hk, hM⟩
 try dsimp only at *
 refine zSr<|zVGvlss Z Z<|z6<|ze<|y2 Z (fun ck=>?_) (fun ck=>?_)
 ·have hk2 : k < vs.length := by omega
  obtain ⟨v, hv⟩ : ∃ v, vs[k] = v := ⟨_, rfl⟩
  have hsn : seeL l (vs.take (k + 1)) = see1 (seeL l (vs.take k)) v := by rw [qb hk2, hv, see_app]; rfl
  have hSl : (seeL l (vs.take k)).length ≤ l.length + k := by
   have := see_len (vs.take k) l
   rw [ql] at this; omega
  obtain ⟨S, hS⟩ : ∃ S, seeL l (vs.take k) = S := ⟨_, rfl⟩
  rw [hS] at hsn hM hSl ⊢
  have hgv := hM v
  by_cases hm : v ∈ S
  ·rw [if_pos hm] at hgv
   refine zj<|ze<|zi<|zSr<|z8 (zIM k j6 j8 Z Z Z (show vs[k]? = some v by rw [qa hk2, hv]))<|zVzLi jl Z<|zVzAi Z<|z6<|zSr<|z8 (zMp Z)<|z8 (ym Z)<|z8 (zf Zs Z sizeOf77 (by decide) Z Z)<|z8 (zp (c := mref _) isAgg77 Z ⟨_, .head⟩ Z)<|zVzMi Z<|z8 (Gv.lookupA (zx := .int .i64 0) hgv Y9 Z8 Zr (fun _ => Z) Z Z ⟨_, .t2⟩)<|z8 (zMu Z)<|z8 (zXi Z Z)<|z8 (zXb Z Z)<|zVzAi Z<|zVzAb Z<|z6<|zSr<|zVzMb Z<|zVGvnot Z<|z6<|yl Z Z<|zj<|zRg<|zVzAd Z Z<|zVzMi Z<|z6 ?_
   exact ⟨(k + 1, io, es), zR3, zR1, ⟨_, (.refl _), by rw [hsn]; unfold see1; rw [if_pos hm]⟩, ⟨hk2, by rw [hsn]; unfold see1; rw [if_pos hm]; exact hM⟩, by dsimp only; omega⟩
  ·rw [if_neg hm] at hgv
   refine zj<|ze<|zi<|zSr<|z8 (zIM k j6 j8 Z Z Z (show vs[k]? = some v by rw [qa hk2, hv]))<|zVzLi jl Z<|zVzAi Z<|z6<|zSr<|z8 (zMp Z)<|z8 (ym Z)<|z8 (zf Zs Z sizeOf77 (by decide) Z Z)<|z8 (zp (c := mref _) isAgg77 Z ⟨_, .head⟩ Z)<|zVzMi Z<|z8 (Gv.lookupA (zx := .int .i64 0) hgv Y9 Z8 Zr (fun _ => Z) Z Z ⟨_, .t2⟩)<|z8 (zMu Z)<|z8 (zXi Z Z)<|z8 (zXb Z Z)<|zVzAi Z<|zVzAb Z<|z6<|zSr<|zVzMb Z<|zVGvnot Z<|z6<|yq Z Z<|ze<|y6 (fun j => false) (by kernel_rfl) Z (yb (.r (.rest _)))<|zTk 0 Z (zMp Z)<|zTk 1 Z (ym Z)<|zTk 2 Z (zf Zs Z sizeOf77 (by decide) Z Z)<|zTk 3 Z (zp (c := mref _) isAgg77 Z ⟨_, .head⟩ Z)<|zTk 4 Z (zMi Z)<|zTk 5 Z (zMp Z)<|zTk 6 Z (ym Z)<|zTk 7 Z (zf Zs Z ji (by decide) Z Z)<|zTk 8 Z (zp (c := .own _ _) jq Z ⟨_, .head⟩ Z)<|zTk 9 Z (Gv.lenO j6 Z)<|zOn 10 Z<|AOps.mapSetA (v := .int _ _) Y9 Z8 Z Z Z .t1<|z6 ?_
   refine zDn ?_
   have hsv : seeL l (vs.take (k + 1)) = S ++ [v] := by rw [hsn]; unfold see1; rw [if_neg hm]
   refine zRg<|z8 (zMp Z)<|z8 (zMp Z)<|z8 (ym Z)<|z8 (zf Zs Z ji (by decide) Z Z)<|z8 (zp (c := .own _ _) jq Z ⟨_, .head⟩ Z)<|zVzMi Z<|zr (rows := [[_]]) ps23_1 Z Z Z Z Z<|zq (k := 1) j6 jz Z Z Z Z Z (fun _ => .t1) (by rw [cI_len]; omega) (by decide) Z (by show (_ + _) * 8 ≤ _; simp <;> omega) (by simp <;> omega)<|fun i42 => z8 (ym Z)<|z8 (zf Zs Z ji (by decide) Z Z)<|ya (l := [_]) (new := [_, _]) ji Z Z Z Z Z Z .head Z Z<|z6<|zRg<|zVzAd Z Z<|zVzMi Z<|z6 ?_
   exact ⟨(k + 1, i42, am v (.int .i64 S.length) es), zR3, zR1, ⟨_, (.refl _), by rw [hsv, qg, ← cI_app]; rfl⟩, ⟨hk2, by rw [hsv]; exact hM.push hm⟩, by dsimp only; omega⟩
 ·obtain rfl : k = vs.length := by omega
  rw [qf] at hM ⊢
  refine y5<|afin.t0 ?_
  exact ⟨(io, es), rfl, ⟨_, .refl _, rfl⟩, hM⟩
end Go.Proofs.YtpojdepccecpgaaGreatDoor
namespace Go.Proofs.YtpojdepccecpgaaGreatDoor
open Go.Proofs.Tryz
open Go.Proofs Go.Lib Go.Shelf Go.RowKit
theorem pl79 : Places prog 79 #[(0, 1), (1, 1)] [.raw (.slice none 0 0), .raw (.map none)] := ⟨_, _, Zs, zeroValue79, fun w => by kernel_rfl, rfl⟩
variable {E : World}
set_option maxRecDepth 20000
theorem seen_bd {n : Nat} {vs : List Int} (h : ∀ v ∈ vs, 0 ≤ v ∧ v < (n : Int)) : (seeL [] vs).length ≤ n := by
 have := List.Nodup.length_le_of_subset (l₂ := intsTo n) (see_nodup (vs := vs) (l := []) (by simp)) fun v hv => by
  rw [see_mem] at hv
  exact mem_intsTo.2 (h v (hv.resolve_left (by simp)))
 rwa [intsTo_len] at this
theorem seen_spec (F : AV) (ps : List Int) (bs : List PBlock) (n : Nat) (hn : n ≤ 1000) (hps : ∀ v ∈ ps, 0 ≤ v ∧ v < (n : Int)) (hbs : ∀ b ∈ bs, ∀ v ∈ blkVars b, 0 ≤ v ∧ v < (n : Int)) (hpl : ps.length ≤ 1000) (hbl : bs.length ≤ 1000) (hb : ∀ b ∈ bs, smallBlk b) (a c : AV) :
  ACall prog E 26 [.agg [a, .fro 1 (ps.map encI), c], .fro 7 (bs.map encBlk)] [] (fun x O' => ∃ g : Nat × Nat × Nat × List (Int × AV), x = .po g.1 0 ∧ O' = ordO g.1 g.2.1 g.2.2.1 (seeL [] (ps ++ bs.flatMap blkVars)) g.2.2.2 ∧ MapOf (seeL [] (ps ++ bs.flatMap blkVars)) g.2.2.2) := by
 refine ACall.exact (γ := Nat × Nat × Nat × List (Int × AV)) (x := fun g => .po g.1 0) (M := fun g => ordO g.1 g.2.1 g.2.2.1 (seeL [] (ps ++ bs.flatMap blkVars)) g.2.2.2) (p := fun g => MapOf (seeL [] (ps ++ bs.flatMap blkVars)) g.2.2.2) ?_
 unfold ordO
 have hM0 : MapOf [] [] := fun k => by rw [if_neg (by simp)]; rfl
 refine zt func26 Z (by decide) Z<|zSr<|yc (cs := _) Z Z Z<|z8 (zAr Z)<|z6<|zSr<|AOps.makeMapA<|fun b12 => z8 (y1 (cps := [(1, [_])]) (rs := [.raw (.slice none 0 0), _]) pl79 Z Z Z)<|AOps.boxO (cs := _) Z Z Z Z<|fun i14 => z8 (zAp Z)<|z6<|adoptC_wp (off := 0) (k := 1) (T := 3) (fun _ => .head) Z<|fun io => y4 (zb (zc .t2))<|y4 (zb (zc .t1))<|y4 (zb (zc .t2))<|zSr<|z8 (zMp Z)<|zVzFF jd Z ji Z Z<|zVzLf jq Z<|yv Z (yb (.l (.l (.l (.rest _))))) (see_spec i14 b12 io [] ps [] hM0 (by simp; omega)) ?_
 rintro r18 O18 ⟨⟨io, es⟩, rfl, rfl, hM⟩
 refine z6<|ze<|zSr<|zVzMf Z<|zVGvlenM jc Z<|zVzMi Z<|z6<|zi<|y7 (γ := Nat × Nat × List (Int × AV)) [5, 19, 20] (fun g => [(21, .int .i64 g.1)]) (fun g => [(i14, .cells 79 [.own g.2.1 (seeL [] (ps ++ (bs.take g.1).flatMap blkVars)).length, mref b12]), (g.2.1, .grow 1 3 (cI (seeL [] (ps ++ (bs.take g.1).flatMap blkVars)))), (0, mapAO b12 g.2.2)]) (fun g => g.1 ≤ bs.length ∧ MapOf (seeL [] (ps ++ (bs.take g.1).flatMap blkVars)) g.2.2) (fun g => bs.length - g.1) (0, io, es) zR1 ⟨_, (.refl _), by simp only [List.take_zero, List.flatMap_nil, List.append_nil]; rfl⟩ (⟨qd _, by rw [List.take_zero, List.flatMap_nil, List.append_nil]; exact hM⟩) ?_
 rintro ⟨k, io, es⟩ ⟨hk, hM⟩
 try dsimp only at *
 refine zSr<|zVGvlss Z Z<|z6<|ze<|y2 Z (fun ck=>?_) (fun ck=>?_)
 ·have hk2 : k < bs.length := by omega
  obtain ⟨b, hbk⟩ : ∃ b, bs[k] = b := ⟨_, rfl⟩
  have hgb : bs[k]? = some b := by rw [qa hk2, hbk]
  have hbm : b ∈ bs := hbk ▸ qe hk2
  obtain ⟨q1, q2, q3, q4, q5⟩ := hb b hbm
  have hbv := hbs b hbm
  obtain ⟨L0, hL0⟩ : ∃ L0, ps ++ (bs.take k).flatMap blkVars = L0 := ⟨_, rfl⟩
  have hL0v : ∀ v ∈ L0, 0 ≤ v ∧ v < (n : Int) := fun v hv => by
   rw [← hL0] at hv
   rcases List.mem_append.1 hv with h | h
   ·exact hps v h
   ·obtain ⟨c, hc, h2⟩ := List.mem_flatMap.1 h
    exact hbs c (List.mem_of_mem_take hc) v h2
  have hnext : ps ++ (bs.take (k + 1)).flatMap blkVars = L0 ++ blkVars b := by
   rw [qb hk2, List.flatMap_append, hbk, ← qc, hL0]; simp
  rw [hL0] at hM ⊢
  refine zj<|ze<|zi<|zSr<|z8 (zIM k jc jm Z Z Z hgb)<|zVGvloadWF Ze jm Z Z<|zo (cs := [.str ⟨#[]⟩, .raw (.slice none 0 0), .raw (.slice none 0 0), .int .i64 0, .int .i64 0, .int .i64 0, .int .i64 0]) Z0 Z Z<|fun i7 => zh jm Z Z Z Z Z Z .head Z<|zd (yf (t := 7) Z .head)<|z6<|ze<|zSr<|zVzFF j7 Z Z6 Z Z<|zVzLf Zk Z<|zVGvlenM jo Z<|zVzMi Z<|z6<|zi<|y7 (γ := Nat × Nat × List (Int × AV)) [5, 7, 19, 20, 21, 26, 27] (fun g => [(28, .int .i64 g.1)]) (fun g => [(i14, .cells 79 [.own g.2.1 (seeL [] (L0 ++ (b.phis.take g.1).flatMap phiVars)).length, mref b12]), (g.2.1, .grow 1 3 (cI (seeL [] (L0 ++ (b.phis.take g.1).flatMap phiVars)))), (0, mapAO b12 g.2.2)]) (fun g => g.1 ≤ b.phis.length ∧ MapOf (seeL [] (L0 ++ (b.phis.take g.1).flatMap phiVars)) g.2.2) (fun g => b.phis.length - g.1) (0, io, es) zR1 ⟨_, (.refl _), by rw [List.take_zero, List.flatMap_nil, List.append_nil]⟩ (⟨qd _, by rw [List.take_zero, List.flatMap_nil, List.append_nil]; exact hM⟩) ?_
  rintro ⟨m, io, es⟩ ⟨hm, hM⟩
  try dsimp only at *
  refine zSr<|zVGvlss Z Z<|z6<|ze<|y2 Z (fun cm=>?_) (fun cm=>?_)
  ·have hm2 : m < b.phis.length := by omega
   obtain ⟨p, hp⟩ : ∃ p, b.phis[m] = p := ⟨_, rfl⟩
   have hgp : b.phis[m]? = some p := by rw [qa hm2, hp]
   have hpm : p ∈ b.phis := hp ▸ qe hm2
   have hpl2 := (q4 p hpm).1
   have hLv : ∀ v ∈ L0 ++ (b.phis.take m).flatMap phiVars, 0 ≤ v ∧ v < (n : Int) := fun v hv => by
    rcases List.mem_append.1 hv with h | h
    ·exact hL0v v h
    ·obtain ⟨c, hc, h2⟩ := List.mem_flatMap.1 h
     exact hbv v (List.mem_append_left _ (List.mem_flatMap.2 ⟨c, List.mem_of_mem_take hc, h2⟩))
   have hSl := seen_bd hLv
   have hstep : seeL (seeL (seeL [] (L0 ++ (b.phis.take m).flatMap phiVars)) [p.dst]) p.args = seeL [] (L0 ++ (b.phis.take (m + 1)).flatMap phiVars) := by
    rw [qb hm2, List.flatMap_append, hp, ← qc, see_app [] (L0 ++ _)]
    rw [List.flatMap_cons, List.flatMap_nil, List.append_nil]; rfl
   obtain ⟨S, hS⟩ : ∃ S, seeL [] (L0 ++ (b.phis.take m).flatMap phiVars) = S := ⟨_, rfl⟩
   rw [hS] at hM hSl hstep ⊢
   have hS2 := see_len [p.dst] S
   refine zj<|ze<|zi<|zSr<|z8 (zIM m jo ju Z Z Z hgp)<|zVGvloadWF Zj ju Z Z<|zo (cs := [.int .i64 0, .raw (.slice none 0 0), .raw (.slice none 0 0)]) Z9 Z Z<|fun i9 => zh ju Z Z Z Z Z Z .head Z<|zd (yf (t := 9) Z .head)<|z6<|zSr<|z8 (zMp Z)<|zVzFF jj Z j8 Z Z<|zVzLi jl Z<|zr (rows := [[_]]) ps23_1 Z Z Z Z Z<|yv Z (yb (.l (.l (.l (.rest _))))) (see_spec i14 b12 io S [p.dst] es hM (by simp; omega)) ?_
   rintro r36 O36 ⟨⟨io, es⟩, rfl, rfl, hM⟩
   refine z6<|zRg<|z8 (zMp Z)<|zVzFF jj Z ji Z Z<|zVzLf jq Z<|yv Z (yb (.l (.l (.l (.rest _))))) (see_spec i14 b12 io (seeL S [p.dst]) p.args es hM (by simp at hS2; omega)) ?_
   rintro r40 O40 ⟨⟨io, es⟩, rfl, rfl, hM⟩
   refine z6 ?_
   rw [hstep] at hM ⊢
   refine zRg<|zVzAd Z Z<|zVzMi Z<|z6 ?_
   exact ⟨(m + 1, io, es), zR7, zR1, zLe, ⟨hm2, hM⟩, by dsimp only; omega⟩
  ·obtain rfl : m = b.phis.length := by omega
   obtain ⟨L2, hL2⟩ : ∃ L2, L0 ++ (b.phis.take b.phis.length).flatMap phiVars = L2 := ⟨_, rfl⟩
   have hL2v : ∀ v ∈ L2, 0 ≤ v ∧ v < (n : Int) := fun v hv => by
    rw [← hL2, qf] at hv
    rcases List.mem_append.1 hv with h | h
    ·exact hL0v v h
    ·exact hbv v (List.mem_append_left _ h)
   rw [hL2] at hM ⊢
   refine y5<|ze<|zSr<|zVzFF j7 Z Z7 Z Z<|zVzLf Zm Z<|zVGvlenM js Z<|zVzMi Z<|z6<|zi<|y7 (γ := Nat × Nat × List (Int × AV)) [5, 7, 19, 20, 21, 43, 44] (fun g => [(45, .int .i64 g.1)]) (fun g => [(i14, .cells 79 [.own g.2.1 (seeL [] (L2 ++ (b.insts.take g.1).flatMap instVars)).length, mref b12]), (g.2.1, .grow 1 3 (cI (seeL [] (L2 ++ (b.insts.take g.1).flatMap instVars)))), (0, mapAO b12 g.2.2)]) (fun g => g.1 ≤ b.insts.length ∧ MapOf (seeL [] (L2 ++ (b.insts.take g.1).flatMap instVars)) g.2.2) (fun g => b.insts.length - g.1) (0, io, es) zR1 ⟨_, (.refl _), by rw [List.take_zero, List.flatMap_nil, List.append_nil]⟩ (⟨qd _, by rw [List.take_zero, List.flatMap_nil, List.append_nil]; exact hM⟩) ?_
   rintro ⟨m, io, es⟩ ⟨hm, hM⟩
   try dsimp only at *
   refine zSr<|zVGvlss Z Z<|z6<|ze<|y2 Z (fun cm=>?_) (fun cm=>?_)
   ·have hm2 : m < b.insts.length := by omega
    obtain ⟨x, hx⟩ : ∃ x, b.insts[m] = x := ⟨_, rfl⟩
    have hgx : b.insts[m]? = some x := by rw [qa hm2, hx]
    have hxm : x ∈ b.insts := hx ▸ qe hm2
    have hxl := q5 x hxm
    have hLv : ∀ v ∈ L2 ++ (b.insts.take m).flatMap instVars, 0 ≤ v ∧ v < (n : Int) := fun v hv => by
     rcases List.mem_append.1 hv with h | h
     ·exact hL2v v h
     ·obtain ⟨c, hc, h2⟩ := List.mem_flatMap.1 h
      exact hbv v (List.mem_append_right _ (List.mem_append_left _ (List.mem_flatMap.2 ⟨c, List.mem_of_mem_take hc, h2⟩)))
    have hSl := seen_bd hLv
    have hstep : seeL (seeL [] (L2 ++ (b.insts.take m).flatMap instVars)) (instVars x) = seeL [] (L2 ++ (b.insts.take (m + 1)).flatMap instVars) := by
     rw [qb hm2, List.flatMap_append, hx, ← qc, see_app [] (L2 ++ _)]
     rw [List.flatMap_cons, List.flatMap_nil, List.append_nil]
    obtain ⟨S, hS⟩ : ∃ S, seeL [] (L2 ++ (b.insts.take m).flatMap instVars) = S := ⟨_, rfl⟩
    rw [hS] at hM hSl hstep ⊢
    have hS2 := see_len x.args S
    refine zj<|ze<|zi<|zSr<|z8 (zIM m js jx Z Z Z hgx)<|zVGvloadWF Zn jx Z Z<|zo (cs := [.int .i64 0, .int .i64 0, .raw (.slice none 0 0), .int .i64 0]) Zf Z Z<|fun i11 => zh jx Z Z Z Z Z Z .head Z<|zd (yf (t := 11) Z .head)<|z6<|zSr<|z8 (zMp Z)<|zVzFF jh Z ji Z Z<|zVzLf jq Z<|yv Z (yb (.l (.l (.l (.rest _))))) (see_spec i14 b12 io S x.args es hM (by omega)) ?_
    rintro r52 O52 ⟨⟨io, es⟩, rfl, rfl, hM⟩
    refine z6<|zSr<|zVzFF jh Z j8 Z Z<|zVzLi jl Z<|z8 (Gv.geq Z Z)<|z6<|y2 Z (fun cd=>?_) (fun cd=>?_)
    ·have hd : instVars x = x.args ++ [x.dst] := by unfold instVars; rw [if_pos (by first | exact cd | omega)]
     rw [hd, see_app] at hstep
     refine zRg<|z8 (zMp Z)<|zVzFF jh Z j8 Z Z<|zVzLi jl Z<|zr (rows := [[_]]) ps23_1 Z Z Z Z Z<|yv Z (yb (.l (.l (.l (.rest _))))) (see_spec i14 b12 io (seeL S x.args) [x.dst] es hM (by simp; omega)) ?_
     rintro r60 O60 ⟨⟨io, es⟩, rfl, rfl, hM⟩
     refine z6 ?_
     rw [hstep] at hM ⊢
     refine zRg<|zVzAd Z Z<|zVzMi Z<|z6 ?_
     exact ⟨(m + 1, io, es), zR7, zR1, zLe, ⟨hm2, hM⟩, by dsimp only; omega⟩
    ·have hd : instVars x = x.args := by unfold instVars; rw [if_neg (by first | exact cd | omega), List.append_nil]
     rw [hd] at hstep
     rw [hstep] at hM ⊢
     refine zj<|zRg<|zVzAd Z Z<|zVzMi Z<|z6 ?_
     exact ⟨(m + 1, io, es), zR7, zR1, zLe, ⟨hm2, hM⟩, by dsimp only; omega⟩
   ·obtain rfl : m = b.insts.length := by omega
    rw [qf] at hM ⊢
    have hL3v : ∀ v ∈ L2 ++ b.insts.flatMap instVars, 0 ≤ v ∧ v < (n : Int) := fun v hv => by
     rcases List.mem_append.1 hv with h | h
     ·exact hL2v v h
     ·exact hbv v (List.mem_append_right _ (List.mem_append_left _ h))
    have hSl := seen_bd hL3v
    have hstep : seeL (seeL [] (L2 ++ b.insts.flatMap instVars)) (termVars b.term) = seeL [] (ps ++ (bs.take (k + 1)).flatMap blkVars) := by
     rw [hnext, ← see_app, ← hL2, qf]
     unfold blkVars
     simp only [qc]
    obtain ⟨S, hS⟩ : ∃ S, seeL [] (L2 ++ b.insts.flatMap instVars) = S := ⟨_, rfl⟩
    rw [hS] at hM hSl hstep ⊢
    refine y5<|zSr<|zVzFF j7 Z jv Z Z<|zVzFF je Z Zg Z Z<|zVzLi Zl Z<|zVGvneqI Z Z<|z6<|y3 Z (fun ct=>?_) (fun ct=>?_)
    ·have hd : termVars b.term = [b.term.var] := by unfold termVars; rw [if_neg (by first | exact ct | simpa using ct)]
     rw [hd] at hstep
     refine zRg<|z8 (zMp Z)<|zVzFF j7 Z jv Z Z<|zVzFF je Z j8 Z Z<|zVzLi jl Z<|zr (rows := [[_]]) ps23_1 Z Z Z Z Z<|yv Z (yb (.l (.l (.l (.rest _))))) (see_spec i14 b12 io S [b.term.var] es hM (by simp; omega)) ?_
     rintro r71 O71 ⟨⟨io, es⟩, rfl, rfl, hM⟩
     refine z6 ?_
     rw [hstep] at hM ⊢
     refine zRg<|zVzAd Z Z<|zVzMi Z<|z6 ?_
     exact ⟨(k + 1, io, es), zR3, zR1, zLe, ⟨hk2, hM⟩, by dsimp only; omega⟩
    ·have hd : termVars b.term = [] := by unfold termVars; rw [if_pos (by first | exact ct | simpa using ct)]
     rw [hd] at hstep
     have hstep : S = seeL [] (ps ++ (bs.take (k + 1)).flatMap blkVars) := hstep
     rw [hstep] at hM ⊢
     refine zj<|zRg<|zVzAd Z Z<|zVzMi Z<|z6 ?_
     exact ⟨(k + 1, io, es), zR3, zR1, zLe, ⟨hk2, hM⟩, by dsimp only; omega⟩
 ·obtain rfl : k = bs.length := by omega
  rw [qf] at hM ⊢
  refine y5<|zSr<|z8 (zMp Z)<|z8 (zAp Z)<|z6<|zk<|zm (x := .po _ _) Z ?_
  exact ⟨(i14, b12, io, es), rfl, ⟨_, .refl _, rfl⟩, hM⟩
end Go.Proofs.YtpojdepccecpgaaGreatDoor
