/- The phi that makes a variable; the order of a round; what each has first. Plain law. No conditions. -/
import Derived.Test.YtjnpcfpecilejaaGreatDoorZn
import Derived.Test.YtjnpcfpecilejaaGreatDoorZe
import Derived.Test.YtjnpcfpecilejaaGreatDoorZm
import Derived.Test.YtjnpcfpecilejaaGreatDoorZl
import Derived.Test.YtjnpcfpecilejaaGreatDoorZd
import Derived.Test.YtjnpcfpecilejaaGreatDoorZf
set_option linter.unusedVariables false
set_option linter.unusedSimpArgs false
set_option linter.unusedSectionVars false
namespace Go.Proofs.YtjnpcfpecilejaaGreatDoor
open Go.Proofs.Tryz
theorem clipQ_ok (k : Nat) (a b : Rng) : ok64 (clipQ k a b) := by
 have g : ∀ x y, is64 (one3 k x y) := fun x y => one3_ok k x y
 have h := hull_least (g a.1 b.1) (g a.1 b.2) (g a.2 b.1) (g a.2 b.2)
 have h2 : (clipQ k a b).1 ≤ (clipQ k a b).2 := by
  unfold clipQ wideQ hullQ
  by_cases c1 : one3 k a.1 b.2 < one3 k a.1 b.1 <;> by_cases c2 : one3 k a.2 b.2 < one3 k a.2 b.1 <;> simp only [c1, c2, if_true, if_false] <;> (repeat' split) <;> omega
 have h3 : clipQ k a b = wideQ (hullQ (one3 k a.1 b.1) (one3 k a.1 b.2)) (hullQ (one3 k a.2 b.1) (one3 k a.2 b.2)) := rfl
 rw [← h3] at h
 unfold ok64 is64
 omega
theorem truQ_ok (n y : Bool) : ok64 (truQ n y) := by cases n <;> cases y <;> exact ⟨by decide, by decide⟩
theorem allR_ok : ok64 allR := ⟨by decide, by decide⟩
theorem noR_ok : ok64 noR := ⟨by decide, by decide⟩
theorem sumQ_ok (k : Nat) (a b : Rng) (c : Bool) : ok64 (sumQ k a b c) := by unfold sumQ; split; exact clipQ_ok k a b; exact allR_ok
theorem quoQ_ne (a b : Rng) : (quoQ a b).1 ≤ (quoQ a b).2 := by
 unfold quoQ wideQ hullQ
 by_cases c1 : a.1.tdiv b.2 < a.1.tdiv b.1 <;> by_cases c2 : a.2.tdiv b.2 < a.2.tdiv b.1 <;> simp only [c1, c2, if_true, if_false] <;> (repeat' split) <;> omega
theorem divQ_ok {a b : Rng} (ha : ok64 a) (hb : ok64 b) (na : a.1 ≤ a.2) (nb : b.1 ≤ b.2) : ok64 (divQ a b) := by
 by_cases hno : a.1 = m64 ∧ b.1 ≤ -1 ∧ -1 ≤ b.2
 ·have e : divQ a b = (m64, M64) := by unfold divQ; rw [if_pos hno]
  rw [e]; exact allR_ok
 ·by_cases hz : b.1 = 0 ∧ b.2 = 0
  ·have e : divQ a b = noR := by unfold divQ; rw [if_neg hno, if_pos hz]
   rw [e]; exact noR_ok
  ·have h := div_least (a := a) (b := b) (lo := -9223372036854775808) (hi := 9223372036854775807) (fun x y hx hy h0 => div_ok ha hb hx hy hno h0) na nb hno
   have hne : (divQ a b).1 ≤ (divQ a b).2 := by
    unfold divQ
    rw [if_neg hno, if_neg hz]
    split
    ·exact quoQ_ne _ _
    ·split
     ·exact quoQ_ne _ _
     ·have h1 := quoQ_ne a (b.1, -1)
      have h2 := quoQ_ne a (1, b.2)
      unfold wideQ
      (repeat' split) <;> omega
   unfold ok64 is64
   omega
theorem remQ_ok {a b : Rng} (ha : ok64 a) (hb : ok64 b) : ok64 (remQ a b) := by
 have h1 := ha.1; have h2 := ha.2; have h3 := hb.1; have h4 := hb.2
 unfold is64 at h1 h2 h3 h4
 unfold remQ
 split
 ·exact noR_ok
 ·rename_i hz
  have hk : 0 ≤ far b ∧ far b ≤ 9223372036854775807 := by unfold far imax; (repeat' split) <;> omega
  constructor
  ·unfold is64; dsimp only; unfold imax; (repeat' split) <;> omega
  ·unfold is64; dsimp only; unfold imin; (repeat' split) <;> omega
theorem m64_ok : is64 m64 := by decide
theorem M64_ok : is64 M64 := by decide
theorem cutQ_ok {num : Int} {a b : Rng} (ha : ok64 a) (hb : ok64 b) : ok64 (cutQ num a b) := by
 have h3 := hb.1; have h4 := hb.2
 unfold is64 at h3 h4
 unfold cutQ
 split
 ·split
  ·exact noR_ok
  ·rename_i h
   exact rMeet_ok ha ⟨m64_ok, by unfold m64 at h; unfold is64; dsimp only; omega⟩
 ·split
  ·exact rMeet_ok ha ⟨m64_ok, hb.2⟩
  ·split
   ·exact rMeet_ok ha hb
   ·split
    ·exact rMeet_ok ha ⟨hb.1, M64_ok⟩
    ·split
     ·split
      ·exact noR_ok
      ·rename_i h
       exact rMeet_ok ha ⟨by unfold M64 at h; unfold is64; dsimp only; omega, M64_ok⟩
     ·exact ha
theorem rOf_ok {n : Int} (h : is64 n) : ok64 (rOf n) := ⟨h, h⟩
theorem instQ_ok {op num : Int} {rs : List Rng} {chk : Bool} (h0 : ok64 (ra rs 0)) (h1 : ok64 (ra rs 1)) (n0 : (ra rs 0).1 ≤ (ra rs 0).2) (n1 : (ra rs 1).1 ≤ (ra rs 1).2) (hnum : is64 num) : ok64 (instQ op num rs chk) := by
 unfold instQ
 by_cases c0 : op = 0
 ·rw [if_pos c0]; exact rOf_ok hnum
 rw [if_neg c0]
 by_cases c1 : op = 1 ∨ op = 12
 ·rw [if_pos c1]; exact h0
 rw [if_neg c1]
 by_cases c2 : op = 2
 ·rw [if_pos c2]; exact sumQ_ok _ _ _ _
 rw [if_neg c2]
 by_cases c3 : op = 3
 ·rw [if_pos c3]; exact sumQ_ok _ _ _ _
 rw [if_neg c3]
 by_cases c4 : op = 4
 ·rw [if_pos c4]; exact sumQ_ok _ _ _ _
 rw [if_neg c4]
 by_cases c5 : op = 5
 ·rw [if_pos c5]; exact divQ_ok h0 h1 n0 n1
 rw [if_neg c5]
 by_cases c6 : op = 6
 ·rw [if_pos c6]; exact remQ_ok h0 h1
 rw [if_neg c6]
 by_cases c7 : op = 7
 ·rw [if_pos c7]; exact truQ_ok _ _
 rw [if_neg c7]
 by_cases c8 : op = 8
 ·rw [if_pos c8]; exact truQ_ok _ _
 rw [if_neg c8]
 by_cases c9 : op = 9
 ·rw [if_pos c9]; exact truQ_ok _ _
 rw [if_neg c9]
 by_cases c10 : op = 10
 ·rw [if_pos c10]; exact truQ_ok _ _
 rw [if_neg c10]
 by_cases c11 : op = 11
 ·rw [if_pos c11]; exact truQ_ok _ _
 rw [if_neg c11]
 by_cases c15 : op = 15
 ·rw [if_pos c15]; exact rMeet_ok h0 ⟨by decide, by decide⟩
 rw [if_neg c15]
 by_cases c16 : op = 16
 ·rw [if_pos c16]; exact rOf_ok (by decide)
 rw [if_neg c16]
 by_cases c25 : op = 25
 ·rw [if_pos c25]; exact cutQ_ok h0 h1
 rw [if_neg c25]
 by_cases c26 : op = 26
 ·rw [if_pos c26]; exact cutQ_ok (rMeet_ok h0 ⟨by decide, by decide⟩) h1
 rw [if_neg c26]
 exact allR_ok
def tyV (f : PFunc) (v : Int) : Int := ((f.vars[v.toNat]?).map (·.ty)).getD 0
def ofR (f : PFunc) (l : List Rng) (v : Int) : Rng := rMeet (lv l v) (rType (tyV f v))
def phiR (f : PFunc) (l : List Rng) (p : PPhi) : Rng := p.args.foldl (fun acc v => rJoin acc (ofR f l v)) noR
def argsR (f : PFunc) (l : List Rng) (x : PInst) : List Rng := x.args.map (ofR f l)
def rEmp (r : Rng) : Bool := decide (r.2 < r.1)
def instR (f : PFunc) (chk : Int → Bool) (l : List Rng) (x : PInst) : Rng := if (argsR f l x).any rEmp then noR else instQ x.op x.num (argsR f l x) (chk x.dst)
def ruleR (f : PFunc) (chk : Int → Bool) (l : List Rng) (v : Int) : Rng :=
 let m := makerT f v
 match f.blocks[m.1.toNat]? with
 | none => noR
 | some b => if 0 ≤ m.2 then (match b.insts[m.2.toNat]? with | none => noR | some x => instR f chk l x) else (match b.phis.find? fun p => decide (p.dst = v) with | none => noR | some p => phiR f l p)
theorem ofR_ok {f : PFunc} {l : List Rng} (h : ∀ u : Int, 0 ≤ u → ok64 (lv l u)) {v : Int} (hv : 0 ≤ v) : ok64 (ofR f l v) := rMeet_ok (h v hv) (rType_ok _)
theorem ofR_mono {f : PFunc} {l l' : List Rng} {v : Int} (h : rSub (lv l v) (lv l' v)) : rSub (ofR f l v) (ofR f l' v) := meet_mono h (rSub.refl _)
theorem ofR_ty {f : PFunc} {l : List Rng} {v : Int} (h : tyV f v = 1) (hn : (ofR f l v).1 ≤ (ofR f l v).2) : 0 ≤ (ofR f l v).1 ∧ (ofR f l v).2 ≤ 1 := by
 have := (meet_sub (a := lv l v) (b := rType (tyV f v))).2
 rw [h] at this
 unfold ofR at hn ⊢
 rw [h] at hn ⊢
 have e : rType 1 = (0, 1) := rfl
 rw [e] at this hn ⊢
 rcases this with h1 | h1
 ·omega
 ·exact h1
theorem phi_fold_mono {f : PFunc} {l l' : List Rng} (h : ∀ u : Int, 0 ≤ u → rSub (lv l u) (lv l' u)) : ∀ (az : List Int) (r r' : Rng), (∀ a ∈ az, 0 ≤ a) → rSub r r' → rSub (az.foldl (fun acc v => rJoin acc (ofR f l v)) r) (az.foldl (fun acc v => rJoin acc (ofR f l' v)) r')
 | [], _, _, _, hr => hr
 | a :: az, r, r', ha, hr => phi_fold_mono h az _ _ (fun x hx => ha x (.tail _ hx)) (join_mono hr (ofR_mono (h a (ha a (.head _)))))
theorem phi_fold_ok {f : PFunc} {l : List Rng} (h : ∀ u : Int, 0 ≤ u → ok64 (lv l u)) : ∀ (az : List Int) (r : Rng), (∀ a ∈ az, 0 ≤ a) → ok64 r → ok64 (az.foldl (fun acc v => rJoin acc (ofR f l v)) r)
 | [], _, _, hr => hr
 | a :: az, r, ha, hr => phi_fold_ok h az _ (fun x hx => ha x (.tail _ hx)) (rJoin_ok hr (ofR_ok h (ha a (.head _))))
theorem ra_map {f : PFunc} {l : List Rng} {x : PInst} (i : Nat) : ra (argsR f l x) i = match x.args[i]? with | some v => ofR f l v | none => (0, 0) := by
 unfold ra argsR
 rw [List.getElem?_map]
 cases x.args[i]? <;> rfl
structure RuleOk (f : PFunc) : Prop where
 args : ∀ b ∈ f.blocks, ∀ x ∈ b.insts, ∀ v ∈ x.args, 0 ≤ v
 pargs : ∀ b ∈ f.blocks, ∀ p ∈ b.phis, ∀ v ∈ p.args, 0 ≤ v
 bool : ∀ b ∈ f.blocks, ∀ x ∈ b.insts, x.op = 10 ∨ x.op = 11 → ∀ v ∈ x.args, tyV f v = 1
 two : ∀ b ∈ f.blocks, ∀ x ∈ b.insts, (x.op = 10 → 1 ≤ x.args.length) ∧ (x.op = 11 → 2 ≤ x.args.length)
 num : ∀ b ∈ f.blocks, ∀ x ∈ b.insts, is64 x.num
theorem instR_mono {f : PFunc} (hf : RuleOk f) {chk : Int → Bool} {l l' : List Rng} (h : ∀ u : Int, 0 ≤ u → rSub (lv l u) (lv l' u)) (ho : ∀ u : Int, 0 ≤ u → ok64 (lv l u)) (ho' : ∀ u : Int, 0 ≤ u → ok64 (lv l' u)) {b : PBlock} (hb : b ∈ f.blocks) {x : PInst} (hx : x ∈ b.insts) : rSub (instR f chk l x) (instR f chk l' x) := by
 unfold instR
 by_cases he : (argsR f l x).any rEmp = true
 ·rw [if_pos he]; left; decide
 ·rw [if_neg he]
  have hne : ∀ v ∈ x.args, (ofR f l v).1 ≤ (ofR f l v).2 := fun v hv => by
   refine Classical.byContradiction fun hn => he (List.any_eq_true.2 ⟨ofR f l v, List.mem_map.2 ⟨v, hv, rfl⟩, ?_⟩)
   unfold rEmp; simp; omega
  have hless : ∀ v ∈ x.args, Less (ofR f l v) (ofR f l' v) := fun v hv => by
   have h0 := hf.args b hb x hx v hv
   have h1 := ofR_mono (f := f) (h v h0)
   have h2 := hne v hv
   refine ⟨ofR_ok ho h0, ofR_ok ho' h0, h2, ?_⟩
   rcases h1 with h1 | h1
   ·omega
   ·exact h1
  have he' : ¬ (argsR f l' x).any rEmp = true := fun h' => by
   obtain ⟨r, hr, h2⟩ := List.any_eq_true.1 h'
   obtain ⟨v, hv, rfl⟩ := List.mem_map.1 hr
   have h3 := hless v hv
   have h4 := h3.ne; have h5 := h3.sub
   unfold rEmp at h2
   simp at h2
   omega
  rw [if_neg he']
  have hra : ∀ i, Less (ra (argsR f l x) i) (ra (argsR f l' x) i) := fun i => by
   rw [ra_map, ra_map]
   cases hi : x.args[i]? with
   | none => exact Less.zero
   | some v => exact hless v (List.mem_of_getElem? hi)
  have hbool : x.op = 10 ∨ x.op = 11 → ∀ i v, x.args[i]? = some v → 0 ≤ (ra (argsR f l' x) i).1 ∧ (ra (argsR f l' x) i).2 ≤ 1 := fun ho2 i v hi => by
   rw [ra_map, hi]
   have hv := List.mem_of_getElem? hi
   have h3 := hless v hv
   have h4 := h3.ne; have h5 := h3.sub
   exact ofR_ty (hf.bool b hb x hx ho2 v hv) (by omega)
  have htwo := hf.two b hb x hx
  refine inst_mono (hra 0) (hra 1) (fun ho2 => ?_) (fun ho2 => ?_)
  ·have hl : 0 < x.args.length := by
    rcases ho2 with h | h
    ·have := htwo.1 h; omega
    ·have := htwo.2 h; omega
   exact hbool ho2 0 _ (List.getElem?_eq_getElem hl)
  ·exact hbool (.inr ho2) 1 _ (List.getElem?_eq_getElem (by have := htwo.2 ho2; omega))
theorem instR_ok {f : PFunc} (hf : RuleOk f) {chk : Int → Bool} {l : List Rng} (ho : ∀ u : Int, 0 ≤ u → ok64 (lv l u)) {b : PBlock} (hb : b ∈ f.blocks) {x : PInst} (hx : x ∈ b.insts) : ok64 (instR f chk l x) := by
 unfold instR
 by_cases he : (argsR f l x).any rEmp = true
 ·rw [if_pos he]; exact noR_ok
 ·rw [if_neg he]
  have hra : ∀ i, ok64 (ra (argsR f l x) i) ∧ (ra (argsR f l x) i).1 ≤ (ra (argsR f l x) i).2 := fun i => by
   rw [ra_map]
   cases hi : x.args[i]? with
   | none => exact (show ok64 (0, 0) ∧ (0 : Int) ≤ 0 from ⟨⟨by decide, by decide⟩, by decide⟩)
   | some v =>
    have hv := List.mem_of_getElem? hi
    refine ⟨ofR_ok ho (hf.args b hb x hx v hv), Classical.byContradiction fun hn => he (List.any_eq_true.2 ⟨ofR f l v, List.mem_map.2 ⟨v, hv, rfl⟩, ?_⟩)⟩
    dsimp only at hn
    unfold rEmp; simp; omega
  exact instQ_ok (hra 0).1 (hra 1).1 (hra 0).2 (hra 1).2 (hf.num b hb x hx)
theorem ruleR_rules {f : PFunc} (hf : RuleOk f) (chk : Int → Bool) {vs : List Int} (hv : ∀ v ∈ vs, 0 ≤ v ∧ v < f.vars.length) : Rules f.vars.length (ruleR f chk) vs := by
 refine ⟨fun l l' v _ _ h ho ho' _ => ?_, fun l v _ ho _ => ?_, hv⟩
 ·unfold ruleR
  dsimp only
  cases hb : f.blocks[(makerT f v).1.toNat]? with
  | none => exact rSub.refl _
  | some b =>
   have hbm := List.mem_of_getElem? hb
   dsimp only
   split
   ·cases hx : b.insts[(makerT f v).2.toNat]? with
    | none => exact rSub.refl _
    | some x => exact instR_mono hf h ho ho' hbm (List.mem_of_getElem? hx)
   ·cases hp : b.phis.find? fun p => decide (p.dst = v) with
    | none => exact rSub.refl _
    | some p =>
     have hpm := List.mem_of_find?_eq_some hp
     exact phi_fold_mono h p.args noR noR (hf.pargs b hbm p hpm) (rSub.refl _)
 ·unfold ruleR
  dsimp only
  cases hb : f.blocks[(makerT f v).1.toNat]? with
  | none => exact noR_ok
  | some b =>
   have hbm := List.mem_of_getElem? hb
   dsimp only
   split
   ·cases hx : b.insts[(makerT f v).2.toNat]? with
    | none => exact noR_ok
    | some x => exact instR_ok hf ho hbm (List.mem_of_getElem? hx)
   ·cases hp : b.phis.find? fun p => decide (p.dst = v) with
    | none => exact noR_ok
    | some p =>
     have hpm := List.mem_of_find?_eq_some hp
     exact phi_fold_ok ho p.args noR (hf.pargs b hbm p hpm) noR_ok
end Go.Proofs.YtjnpcfpecilejaaGreatDoor
namespace Go.Proofs.YtjnpcfpecilejaaGreatDoor
open Go.Proofs.Tryz
def chkQ (f : PFunc) (op : Int) (args : List Int) (i : Nat) (block at_ : Int) (q : PInst × Nat) : Bool := decide (q.1.op = op) && decide (q.1.args = args) && aheadB f ((i : Int), (q.2 : Int)) block at_
def chkI (f : PFunc) (op : Int) (args : List Int) (block at_ : Int) (i : Nat) : Bool := ((f.blocks[i]?).map fun b => b.insts.zipIdx.any (chkQ f op args i block at_)).getD false
def chkW (f : PFunc) (op : Int) (args : List Int) (block at_ : Int) : Bool := (List.range f.blocks.length).any (chkI f op args block at_)
def isSum (op : Int) : Bool := decide (op = 2 ∨ op = 3 ∨ op = 4)
def chkX (f : PFunc) (x : PInst) (block at_ : Int) : Bool := isSum x.op && chkW f (x.op + 19) x.args block at_
def instAt (f : PFunc) (m : Plc) : Option PInst := if 0 ≤ m.1 ∧ 0 ≤ m.2 then (f.blocks[m.1.toNat]?).bind fun b => b.insts[m.2.toNat]? else none
def chkV (f : PFunc) (v : Int) : Bool := ((instAt f (makerT f v)).map fun x => chkX f x (makerT f v).1 (makerT f v).2).getD false
theorem chkI_at {f : PFunc} {op : Int} {args : List Int} {block at_ : Int} {i : Nat} {b : PBlock} (h : f.blocks[i]? = some b) : chkI f op args block at_ i = b.insts.zipIdx.any (chkQ f op args i block at_) := by unfold chkI; rw [h]; rfl
theorem mem_mkBlk {v i : Int} {b : PBlock} {m : Plc} : m ∈ mkBlk v i b ↔ (∃ p ∈ b.phis, p.dst = v ∧ m = (i, -1)) ∨ ∃ (k : Nat) (x : PInst), b.insts[k]? = some x ∧ x.dst = v ∧ m = (i, (k : Int)) := by
 unfold mkBlk
 rw [List.mem_append]
 constructor
 ·rintro (h | h)
  ·obtain ⟨p, hp, e⟩ := List.mem_map.1 h
   obtain ⟨h1, h2⟩ := List.mem_filter.1 hp
   exact .inl ⟨p, h1, by simpa using h2, e.symm⟩
  ·obtain ⟨q, hq, e⟩ := List.mem_map.1 h
   obtain ⟨h1, h2⟩ := List.mem_filter.1 hq
   obtain ⟨x, k⟩ := q
   have := List.mem_zipIdx_iff_getElem?.1 h1
   exact .inr ⟨k, x, this, by simpa using h2, e.symm⟩
 ·rintro (⟨p, h1, h2, rfl⟩ | ⟨k, x, h1, h2, rfl⟩)
  ·exact .inl (List.mem_map.2 ⟨p, List.mem_filter.2 ⟨h1, by simpa using h2⟩, rfl⟩)
  ·exact .inr (List.mem_map.2 ⟨(x, k), List.mem_filter.2 ⟨List.mem_zipIdx_iff_getElem?.2 h1, by simpa using h2⟩, rfl⟩)
theorem mem_makings {f : PFunc} {v : Int} {m : Plc} : m ∈ makings f v ↔ ∃ (i : Nat) (b : PBlock), f.blocks[i]? = some b ∧ m ∈ mkBlk v i b := by
 unfold makings
 rw [List.mem_flatMap]
 constructor
 ·rintro ⟨⟨b, i⟩, h1, h2⟩; exact ⟨i, b, List.mem_zipIdx_iff_getElem?.1 h1, h2⟩
 ·rintro ⟨i, b, h1, h2⟩; exact ⟨(b, i), List.mem_zipIdx_iff_getElem?.2 h1, h2⟩
theorem maker_mem {f : PFunc} {v : Int} (h : 0 ≤ (makerT f v).1) : makerT f v ∈ makings f v := by
 unfold makerT at h ⊢
 cases hm : makings f v with
 | nil => rw [hm] at h; simp at h
 | cons x l => simp
theorem maker_eq {f : PFunc} {v : Int} {m : Plc} (hl : (makings f v).length ≤ 1) (h : m ∈ makings f v) : makerT f v = m := by
 unfold makerT
 cases hm : makings f v with
 | nil => rw [hm] at h; cases h
 | cons x l =>
  rw [hm] at h hl
  cases l with
  | nil => simp at h; simp [h]
  | cons y l => simp at hl
theorem maker_cases {f : PFunc} {v : Int} (h : 0 ≤ (makerT f v).1) : ∃ (i : Nat) (b : PBlock), f.blocks[i]? = some b ∧ ((∃ p ∈ b.phis, p.dst = v ∧ makerT f v = ((i : Int), -1)) ∨ ∃ (k : Nat) (x : PInst), b.insts[k]? = some x ∧ x.dst = v ∧ makerT f v = ((i : Int), (k : Int))) := by
 obtain ⟨i, b, h1, h2⟩ := mem_makings.1 (maker_mem h)
 exact ⟨i, b, h1, mem_mkBlk.1 h2⟩
theorem chkV_at {f : PFunc} {v : Int} {i k : Nat} {b : PBlock} {x : PInst} (hb : f.blocks[i]? = some b) (hx : b.insts[k]? = some x) (hm : makerT f v = ((i : Int), (k : Int))) : chkV f v = chkX f x i k := by
 unfold chkV instAt
 rw [hm, if_pos ⟨by dsimp only; omega, by dsimp only; omega⟩]
 show (((f.blocks[i]?).bind fun b => b.insts[k]?).map fun x => chkX f x i k).getD false = _
 rw [hb]; show ((b.insts[k]?).map _).getD false = _
 rw [hx]; rfl
end Go.Proofs.YtjnpcfpecilejaaGreatDoor
namespace Go.Proofs.YtjnpcfpecilejaaGreatDoor
open Go.Proofs.Tryz
open Go.Proofs Go.Lib Go.Shelf Go.RowKit
variable {E : World}
set_option maxRecDepth 20000
end Go.Proofs.YtjnpcfpecilejaaGreatDoor
namespace Go.Proofs.YtjnpcfpecilejaaGreatDoor
open Go.Proofs.Tryz
open Go.Proofs
theorem pl261 : Places Tryz.prog 261 #[(0, 2), (2, 1)] [.int .i64 0, .int .i64 0, .bool false] := ⟨_, _, underlying261, zeroValue261, fun w => by kernel_rfl, rfl⟩
theorem pl280 : PlacesA Tryz.prog 280 1 [.int .i64 0, .int .i64 0] := ⟨_, _, _, underlying280, zeroValue280, sizeOf2, rfl⟩
theorem pl283 : PlacesA Tryz.prog 283 2 [.int .i64 0, .int .i64 0, .int .i64 0, .int .i64 0] := ⟨_, _, _, underlying283, zeroValue283, sizeOf74, rfl⟩
variable {E : World}
set_option maxRecDepth 20000
theorem aMul {x y : Int} (hx : is64 x) (hy : is64 y) : AFun Tryz.prog E 237 [.int .i64 x, .int .i64 y] (.tup [.int .i64 (IntKind.i64.wrap (x * y)), .bool (decide (fit3 2 x y))]) := by
 rw [← mulB]
 refine zx func237 rfl (by decide) rfl<|za<|z7 rfl<|z2 (zd (v := .int _ _) rfl)<|z2 (zd (v := .bool _) rfl)<|z6<|za<|z7 rfl<|z2 (zc (v := .int _ _) rfl)<|zh (aAbs hx) rfl<|z2 (zc (v := .int _ _) rfl)<|zh (aAbs hy) rfl<|zh (mul64_spec _ _ (abs_lt hx) (abs_lt hy)) rfl<|z2 (zc (v := .tup _) rfl)<|z2 (yp (v := .int _ _) rfl rfl)<|z2 (yp (v := .int _ _) rfl rfl)<|z2 (zd (v := .int _ _) rfl)<|z2 (zd (v := .int _ _) rfl)<|z6<|za<|z7 rfl<|z2 (zd (v := .int _ _) rfl)<|z6<|za<|za<|z7 rfl<|z2 (zc (v := .int _ _) rfl)<|z2 (yn rfl rfl)<|z2 (zc (v := .int _ _) rfl)<|z2 (yn rfl rfl)<|z2 (Gv.neqB underlying4 rfl rfl)<|z6<|yt (γ := Int) [0, 1, 6, 7] (fun m => [(8, .int .u64 m)]) (fun m => []) (fun m => m = if (!(decide (x < 0) == decide (y < 0))) = true then 9223372036854775808 else 9223372036854775807) ?_ (fun _ _ h => h) ?_
 ·refine y9 rfl (fun c1 => ?_) (fun c1 => ?_)
  ·refine z7 rfl<|z2 (zc (v := .int _ _) rfl)<|z2 (Gv.addW rfl rfl)<|z2 (zd (v := .int _ _) rfl)<|z6 ?_
   exact ⟨_, ⟨rfl, rfl, rfl, rfl, trivial⟩, ⟨rfl, trivial⟩, ⟨_, (.refl _), rfl⟩, by simp_all <;> first | rfl | decide⟩
  ·refine zp ?_
   exact ⟨_, ⟨rfl, rfl, rfl, rfl, trivial⟩, ⟨rfl, trivial⟩, ⟨_, (.refl _), rfl⟩, by simp_all <;> first | rfl | decide⟩
 ·rintro m hm
  subst hm
  refine za<|z7 rfl<|z2 (zc (v := .int _ _) rfl)<|z2 (zc (v := .int _ _) rfl)<|z2 (Gv.mulW rfl rfl)<|z2 (zc (v := .int _ _) rfl)<|z2 (yi rfl rfl)<|z2 (zc (v := .bool _) rfl)<|y3 (s := 29) rfl (fun c2 => ?_) (fun c2 => ?_)
  ·refine zb rfl rfl c2<|z2 (zc (v := .int _ _) rfl)<|zb rfl rfl c2<|z2 (zc (v := .int _ _) rfl)<|zb rfl rfl c2<|z2 (Gv.leq rfl rfl)<|z2 (zu (v := .bool _) rfl c2 rfl)<|z2 (zd (v := .int _ _) rfl)<|z2 (zd (v := .bool _) rfl)<|z6<|zo<|qp (x := .int _ _) (y := .bool _) rfl rfl ?_
   simp_all
  ·refine z8 rfl rfl c2<|z8 rfl rfl c2<|z8 rfl rfl c2<|z2 (zt (v := .bool _) rfl c2 rfl)<|z2 (zd (v := .int _ _) rfl)<|z2 (zd (v := .bool _) rfl)<|z6<|zo<|qp (x := .int _ _) (y := .bool _) rfl rfl ?_
   simp_all
theorem hull_add (i : Nat) (h : Rng × Bool) (n : Int) (fits : Bool) (e : Int) : ACall Tryz.prog E 234 [.po i 0, .int .i64 n, .bool fits, .int .i64 e] [(i, .cells 261 (encH h))] fun r O => r = .tup [] ∧ O = [(i, .cells 261 (encH (hAdd h n fits e)))] := by
 refine zx func234 rfl (by decide) rfl<|za<|za<|z7 rfl<|z2 (zc (v := .bool _) rfl)<|z2 (yx rfl)<|z6<|yt (γ := Int × Bool) [0] (fun g => [(1, .int .i64 g.1)]) (fun g => [(i, .cells 261 (encH (h.1, g.2)))]) (fun g => g.1 = (if fits then n else e) ∧ g.2 = (h.2 || !fits)) ?_ (fun _ _ h => h) ?_
 ·refine y9 rfl (fun c => ?_) (fun c => ?_)
  ·refine z7 rfl<|z2 (zc (v := .po _ _) rfl)<|z2 (zc (v := .int _ _) rfl)<|z2 (yv rfl)<|z2 (y5 underlying261 rfl sizeOf4 (by decide) rfl rfl)<|qk (l := [_]) (new := [_, _, _]) sizeOf4 rfl rfl rfl rfl rfl rfl .head rfl rfl<|z2 (zd (v := .int _ _) rfl)<|z6 ?_
   exact ⟨(e, true), ⟨rfl, trivial⟩, ⟨rfl, trivial⟩, ⟨_, (.refl _), rfl⟩, by simp_all⟩
  ·refine zp ?_
   exact ⟨(n, h.2), ⟨rfl, trivial⟩, ⟨rfl, trivial⟩, ⟨_, (.refl _), rfl⟩, by simp_all⟩
 ·rintro ⟨m, w⟩ ⟨h1, h2⟩
  dsimp only at h1 h2
  subst h1 h2
  refine yg (fun j => Nat.beq j 10) (by kernel_rfl) rfl (y4 (.r (.rest _)))<|ze (i := 0) rfl (by kernel_rfl) (zc (v := .po _ _) rfl)<|ze (i := 1) rfl (by kernel_rfl) (zc (v := .po _ _) rfl)<|ze (i := 2) rfl (by kernel_rfl) (yv rfl)<|ze (i := 3) rfl (by kernel_rfl) (y5 underlying261 rfl sizeOf74 (by decide) rfl rfl)<|ze (i := 4) rfl (by kernel_rfl) (yr (l := [_, _]) isAgg74 sizeOf74 rfl ⟨_, .head⟩ rfl rfl)<|ze (i := 5) rfl (by kernel_rfl) (zc (v := .int _ _) rfl)<|zm (i := 6) rfl (by kernel_rfl)<|zh (iOf _) rfl<|z6<|zm (i := 7) rfl (by kernel_rfl)<|zh (iJoin _ _) rfl<|z6<|AAny.takeK (i := 8) rfl (by kernel_rfl) (by kernel_rfl) (by kernel_rfl) (by kernel_rfl) (yv rfl)<|ze (i := 9) rfl (by kernel_rfl) (y5 underlying261 rfl sizeOf74 (by decide) rfl rfl)<|q6<|qd (i := 10) rfl (by kernel_rfl) (by kernel_rfl)<|qk (l := [_, _]) (new := [_, _, _]) sizeOf74 rfl rfl rfl rfl rfl rfl .head rfl rfl<|z6<|q8 (by kernel_rfl)<|afin.t0 ?_
  exact ⟨rfl, rfl⟩
set_option maxHeartbeats 4000000 in
theorem iCorners (op : Int) (k : Nat) (hk : k ≤ 2) (hop : op = 2 + (k : Int)) {a b : Rng} (ha : ok64 a) (hb : ok64 b) : AFun Tryz.prog E 218 [.int .i64 op, .agg (encZ a), .agg (encZ b)] (.agg (encH (cornP k a b))) := by
 obtain ⟨st, hst⟩ : ∃ st, hSt (op3 k) (fun x y => decide (fit3 k x y)) (near3 k) (noR, false) a b = st := ⟨_, rfl⟩
 have hstep : ∀ (i j : Nat), j < 2 → st (2 * i + (j + 1)) = hAdd (st (2 * i + j)) (op3 k (selR a i) (selR b j)) (decide (fit3 k (selR a i) (selR b j))) (near3 k (selR a i) (selR b j)) := fun i j hj => by rw [← hst]; exact hSt_step i hj
 have h4 : st 4 = cornP k a b := by rw [← hst]; rfl
 have h0 : st 0 = (noR, false) := by rw [← hst]; rfl
 refine zx func218 rfl (by decide) rfl<|za<|z7 rfl<|yk (cs := _) rfl rfl rfl<|yk (cs := _) rfl rfl rfl<|zz (cs := [.int .i64 0, .int .i64 0, .bool false]) zeroValue261 rfl rfl<|fun i6 => z6<|za<|z7 rfl<|zh (iNone) rfl<|z2 (ya (cps := [(0, [_, _])]) (rs := [_, _, .bool false]) pl261 rfl rfl rfl)<|zz (cs := [.int .i64 0, .int .i64 0, .bool false]) zeroValue261 rfl rfl<|fun i7 => zj sizeOf261 rfl rfl rfl rfl rfl rfl .head rfl<|z6<|za<|za<|z7 rfl<|z2 (zg underlying74 rfl sizeOf2 (by decide) rfl rfl)<|z2 (zf (c := .int _ _) isAgg2 rfl)<|z2 (zg underlying74 rfl sizeOf2 (by decide) rfl rfl)<|z2 (zf (c := .int _ _) isAgg2 rfl)<|z2 (Gv.buildA (cps := [(0, [_]), (1, [_])]) (rs := [_, _]) pl280 rfl rfl rfl)<|z2 (zc (v := .int _ _) rfl)<|z6<|zq<|yj (γ := Nat) [0, 5, 6, 7, 24] (fun i => [(25, .int .i64 i)]) (fun i => [(i7, .cells 261 (encH (st (2 * i)))), (i6, .cells 261 [.int .i64 0, .int .i64 0, .bool false])]) (fun i => i ≤ 2) (fun i => 2 - i) 0 ⟨rfl, trivial⟩ ⟨_, (.refl _), by rw [h0]; rfl⟩ ((by omega)) ?_
 rintro i hi
 refine za<|z7 rfl<|z2 (yn rfl rfl)<|z6<|za<|zy rfl (fun ci => ?_) (fun ci => ?_)
 ·have hi2 : i < 2 := by omega
  have hx := sel_ok ha i
  refine zp<|za<|zq<|za<|z7 rfl<|z2 (Gv.index1 (n := 2) (j := i) (cs := [.int .i64 a.1, .int .i64 a.2]) (v := .int .i64 (selR a i)) underlying280 isAgg2 sizeOf2 rfl rfl rfl hi2 (sel_get hi2))<|z2 (zd (v := .int _ _) rfl)<|z6<|za<|z7 rfl<|z2 (zg underlying74 rfl sizeOf2 (by decide) rfl rfl)<|z2 (zf (c := .int _ _) isAgg2 rfl)<|z2 (zg underlying74 rfl sizeOf2 (by decide) rfl rfl)<|z2 (zf (c := .int _ _) isAgg2 rfl)<|z2 (Gv.buildA (cps := [(0, [_]), (1, [_])]) (rs := [_, _]) pl280 rfl rfl rfl)<|z2 (zc (v := .int _ _) rfl)<|z6<|zq<|yj (γ := Nat) [0, 5, 6, 7, 9, 24, 25, 32] (fun j => [(33, .int .i64 j)]) (fun j => [(i7, .cells 261 (encH (st (2 * i + j)))), (i6, .cells 261 [.int .i64 0, .int .i64 0, .bool false])]) (fun j => j ≤ 2) (fun j => 2 - j) 0 ⟨rfl, trivial⟩ ⟨_, (.refl _), rfl⟩ ((by omega)) ?_
  rintro j hj
  refine za<|z7 rfl<|z2 (yn rfl rfl)<|z6<|za<|zy rfl (fun cj => ?_) (fun cj => ?_)
  ·have hj2 : j < 2 := by omega
   have hy := sel_ok hb j
   have hs := hstep i j hj2
   refine zp<|za<|zq<|za<|z7 rfl<|z2 (Gv.index1 (n := 2) (j := j) (cs := [.int .i64 b.1, .int .i64 b.2]) (v := .int .i64 (selR b j)) underlying280 isAgg2 sizeOf2 rfl rfl rfl hj2 (sel_get hj2))<|z2 (zd (v := .int _ _) rfl)<|z6<|za<|z7 rfl<|z2 (zc (v := .int _ _) rfl)<|z6<|zq<|za<|z7 rfl<|z2 (yi rfl rfl)<|z2 (zd (v := .bool _) rfl)<|z6<|zy rfl (fun c2 => ?_) (fun c2 => ?_)
   ·have hk0 : k = 0 := by omega
    subst hk0
    refine za<|z7 rfl<|z2 (zc (v := .int _ _) rfl)<|z2 (zc (v := .int _ _) rfl)<|zh (aAdd hx hy) rfl<|z2 (zc (v := .tup _) rfl)<|z2 (yp (v := .int _ _) rfl rfl)<|z2 (yp (v := .bool _) rfl rfl)<|z2 (zd (v := .int _ _) rfl)<|z2 (zd (v := .bool _) rfl)<|z6<|z7 rfl<|z2 (zc (v := .int _ _) rfl)<|z2 (zc (v := .bool _) rfl)<|z2 (zc (v := .int _ _) rfl)<|z2 (yn rfl rfl)<|zh (iNear _) rfl<|yc rfl (y4 (.l (.r (.rest _)))) (hull_add i7 _ _ _ _) ?_
    rintro r50 O50 ⟨rfl, rfl⟩
    refine z6<|z7 rfl<|z2 (yl rfl rfl (by unfold I64; omega))<|z2 (zc (v := .int _ _) rfl)<|z6 ?_
    exact ⟨j + 1, ⟨rfl, rfl, rfl, rfl, rfl, rfl, rfl, rfl, trivial⟩, ⟨rfl, trivial⟩, ⟨_, (.refl _), by rw [hs, hAdd_fit add_fit (near_0 _ (selR b j))]; rfl⟩, hj2, by omega⟩
   ·refine za<|z7 rfl<|z2 (yi rfl rfl)<|z2 (zd (v := .bool _) rfl)<|z6<|zy rfl (fun c3 => ?_) (fun c3 => ?_)
    ·have hk0 : k = 1 := by omega
     subst hk0
     refine za<|z7 rfl<|z2 (zc (v := .int _ _) rfl)<|z2 (zc (v := .int _ _) rfl)<|zh (aSub hx hy) rfl<|z2 (zc (v := .tup _) rfl)<|z2 (yp (v := .int _ _) rfl rfl)<|z2 (yp (v := .bool _) rfl rfl)<|z2 (zd (v := .int _ _) rfl)<|z2 (zd (v := .bool _) rfl)<|z6<|z7 rfl<|z2 (zc (v := .int _ _) rfl)<|z2 (zc (v := .bool _) rfl)<|z2 (zc (v := .int _ _) rfl)<|z2 (yn rfl rfl)<|zh (iNear _) rfl<|yc rfl (y4 (.l (.r (.rest _)))) (hull_add i7 _ _ _ _) ?_
     rintro r64 O64 ⟨rfl, rfl⟩
     refine z6<|z7 rfl<|z2 (yl rfl rfl (by unfold I64; omega))<|z2 (zc (v := .int _ _) rfl)<|z6 ?_
     exact ⟨j + 1, ⟨rfl, rfl, rfl, rfl, rfl, rfl, rfl, rfl, trivial⟩, ⟨rfl, trivial⟩, ⟨_, (.refl _), by rw [hs, hAdd_fit sub_fit (near_1 _ (selR b j))]; rfl⟩, hj2, by omega⟩
    ·refine za<|z7 rfl<|z2 (yi rfl rfl)<|z2 (zd (v := .bool _) rfl)<|z6<|zy rfl (fun c4 => ?_) (fun c4 => ?_)
     ·have hk0 : k = 2 := by omega
      subst hk0
      refine za<|z7 rfl<|z2 (zc (v := .int _ _) rfl)<|z2 (zc (v := .int _ _) rfl)<|zh (aMul hx hy) rfl<|z2 (zc (v := .tup _) rfl)<|z2 (yp (v := .int _ _) rfl rfl)<|z2 (yp (v := .bool _) rfl rfl)<|z2 (zd (v := .int _ _) rfl)<|z2 (zd (v := .bool _) rfl)<|z6<|z7 rfl<|z2 (zc (v := .int _ _) rfl)<|z2 (zc (v := .bool _) rfl)<|z2 (zc (v := .int _ _) rfl)<|z2 (yn rfl rfl)<|z2 (zc (v := .int _ _) rfl)<|z2 (yn rfl rfl)<|z2 (Gv.neqB underlying4 rfl rfl)<|zh (iNear _) rfl<|yc rfl (y4 (.l (.r (.rest _)))) (hull_add i7 _ _ _ _) ?_
      rintro r81 O81 ⟨rfl, rfl⟩
      refine z6<|z7 rfl<|z2 (yl rfl rfl (by unfold I64; omega))<|z2 (zc (v := .int _ _) rfl)<|z6 ?_
      exact ⟨j + 1, ⟨rfl, rfl, rfl, rfl, rfl, rfl, rfl, rfl, trivial⟩, ⟨rfl, trivial⟩, ⟨_, (.refl _), by rw [hs, hAdd_fit mul_fit3 (near_2 _ (selR b j))]; rfl⟩, hj2, by omega⟩
     ·exfalso; omega
  ·have hj2 : j = 2 := by omega
   subst hj2
   refine yf<|z7 rfl<|z2 (yl rfl rfl (by unfold I64; omega))<|z2 (zc (v := .int _ _) rfl)<|z6 ?_
   exact ⟨i + 1, ⟨rfl, rfl, rfl, rfl, rfl, trivial⟩, ⟨rfl, trivial⟩, ⟨_, (.refl _), by rw [show 2 * (i + 1) = 2 * i + 2 by omega]⟩, hi2, by omega⟩
 ·have hi2 : i = 2 := by omega
  subst hi2
  refine yf<|za<|z7 rfl<|z2 (qf isAgg261 sizeOf261 rfl ⟨_, .head⟩ rfl)<|zj sizeOf261 rfl rfl rfl rfl rfl rfl (.tail .head) rfl<|z6<|zo<|yq rfl ⟨_, (.tail .head)⟩ isAgg261 sizeOf261 rfl ?_
  rw [← h4]; try rfl
theorem iQuot {a b : Rng} (ha : ok64 a) : AFun Tryz.prog E 219 [.agg (encZ a), .agg (encZ b)] (.agg (encZ (quotP a b))) := by
 have h0 : quoT a b 0 = (noR, false) := rfl
 refine zx func219 rfl (by decide) rfl<|za<|z7 rfl<|yk (cs := _) rfl rfl rfl<|yk (cs := _) rfl rfl rfl<|zz (cs := [.int .i64 0, .int .i64 0]) zeroValue74 rfl rfl<|fun i4 => z6<|za<|z7 rfl<|zh (iNone) rfl<|z2 (ya (cps := [(0, [_, _])]) (rs := [_, _, .bool false]) pl261 rfl rfl rfl)<|zz (cs := [.int .i64 0, .int .i64 0, .bool false]) zeroValue261 rfl rfl<|fun i5 => zj sizeOf261 rfl rfl rfl rfl rfl rfl .head rfl<|z6<|za<|za<|yg (fun j => false) (by kernel_rfl) rfl (y4 (.rest _))<|ze (i := 0) rfl (by kernel_rfl) (zr isAgg74 sizeOf74 rfl rfl)<|ze (i := 1) rfl (by kernel_rfl) (ya (cps := [(0, [_]), (1, [_])]) (rs := [_, _]) pl74 rfl rfl rfl)<|ze (i := 3) rfl (by kernel_rfl) (zr isAgg74 sizeOf74 rfl rfl)<|ze (i := 4) rfl (by kernel_rfl) (ya (cps := [(0, [_]), (1, [_])]) (rs := [_, _]) pl74 rfl rfl rfl)<|ze (i := 7) rfl (by kernel_rfl) (zc (v := .int _ _) rfl)<|zm (i := 2) rfl (by kernel_rfl)<|zh (iMeet b (m64, -1)) rfl<|z6<|zm (i := 5) rfl (by kernel_rfl)<|zh (iMeet b (1, M64)) rfl<|z6<|ze (i := 6) rfl (by kernel_rfl) (Gv.buildA (cps := [(0, [_, _]), (1, [_, _])]) (rs := [_, _, _, _]) pl283 rfl rfl rfl)<|y6 (by kernel_rfl)<|zq<|yj (γ := Nat) [2, 4, 5, 22] (fun q => [(23, .int .i64 q)]) (fun q => [(i5, .cells 261 (encH (quoT a b q))), (i4, .cells 74 [.int .i64 0, .int .i64 0])]) (fun q => q ≤ 2) (fun q => 2 - q) 0 ⟨rfl, trivial⟩ ⟨_, (.refl _), rfl⟩ ((by omega)) ?_
 rintro q hq
 refine za<|z7 rfl<|z2 (yn rfl rfl)<|z6<|za<|zy rfl (fun cq => ?_) (fun cq => ?_)
 ·have hq2 : q < 2 := by omega
  have hqs : quoT a b (q + 1) = quoH a (partR b q) (quoT a b q) := rfl
  obtain ⟨p, hp⟩ : ∃ p, partR b q = p := ⟨_, rfl⟩
  have hpg := part_get (b := b) hq2
  rw [hp] at hqs hpg
  refine zp<|za<|zq<|za<|z7 rfl<|z2 (Gv.indexA (n := 2) (j := q) (k := 2) (cs := encZ (rMeet b (m64, -1)) ++ encZ (rMeet b (1, M64))) (l := encZ p) underlying283 isAgg74 sizeOf74 rfl rfl rfl hq2 hpg)<|zz (cs := [.int .i64 0, .int .i64 0]) zeroValue74 rfl rfl<|fun i7 => zj sizeOf74 rfl rfl rfl rfl rfl rfl .head rfl<|z6<|yw (yo (t := 7) rfl .head)<|za<|za<|z7 rfl<|z2 (zr isAgg74 sizeOf74 rfl rfl)<|zh (iEmpty _) rfl<|z6<|zy rfl (fun ce => ?_) (fun ce => ?_)
  ·refine yf<|z7 rfl<|z2 (yl rfl rfl (by unfold I64; omega))<|z2 (zc (v := .int _ _) rfl)<|z6 ?_
   exact ⟨q + 1, ⟨rfl, rfl, rfl, rfl, trivial⟩, ⟨rfl, trivial⟩, ⟨_, (.refl _), by rw [hqs, quoH, if_pos ce]⟩, hq2, by omega⟩
  ·obtain ⟨st, hst⟩ : ∃ st, hSt Int.tdiv fitD (fun _ _ => M64) (quoT a b q) a p = st := ⟨_, rfl⟩
   have hstep : ∀ (i j : Nat), j < 2 → st (2 * i + (j + 1)) = hAdd (st (2 * i + j)) ((selR a i).tdiv (selR p j)) (fitD (selR a i) (selR p j)) M64 := fun i j hj => by rw [← hst]; exact hSt_step i hj
   have h4 : st 4 = quoT a b (q + 1) := by rw [hqs, quoH, if_neg ce, ← hst]; rfl
   have hs0 : st 0 = quoT a b q := by rw [← hst]; rfl
   refine zp<|za<|z7 rfl<|z2 (zg underlying74 rfl sizeOf2 (by decide) rfl rfl)<|z2 (zf (c := .int _ _) isAgg2 rfl)<|z2 (zg underlying74 rfl sizeOf2 (by decide) rfl rfl)<|z2 (zf (c := .int _ _) isAgg2 rfl)<|z2 (Gv.buildA (cps := [(0, [_]), (1, [_])]) (rs := [_, _]) pl280 rfl rfl rfl)<|z2 (zc (v := .int _ _) rfl)<|z6<|zq<|yj (γ := Nat) [2, 4, 5, 7, 22, 23, 32] (fun i => [(33, .int .i64 i)]) (fun i => [(i5, .cells 261 (encH (st (2 * i)))), (i4, .cells 74 [.int .i64 0, .int .i64 0])]) (fun i => i ≤ 2) (fun i => 2 - i) 0 ⟨rfl, trivial⟩ ⟨_, (.refl _), by rw [hs0]⟩ ((by omega)) ?_
   rintro i hi
   refine za<|z7 rfl<|z2 (yn rfl rfl)<|z6<|za<|zy rfl (fun ci => ?_) (fun ci => ?_)
   ·have hi2 : i < 2 := by omega
    have hx := sel_ok ha i
    refine zp<|za<|zq<|za<|z7 rfl<|z2 (Gv.index1 (n := 2) (j := i) (cs := [.int .i64 a.1, .int .i64 a.2]) (v := .int .i64 (selR a i)) underlying280 isAgg2 sizeOf2 rfl rfl rfl hi2 (sel_get hi2))<|z2 (zd (v := .int _ _) rfl)<|z6<|za<|z7 rfl<|z2 (zg underlying74 rfl sizeOf2 (by decide) rfl rfl)<|z2 (zf (c := .int _ _) isAgg2 rfl)<|z2 (zg underlying74 rfl sizeOf2 (by decide) rfl rfl)<|z2 (zf (c := .int _ _) isAgg2 rfl)<|z2 (Gv.buildA (cps := [(0, [_]), (1, [_])]) (rs := [_, _]) pl280 rfl rfl rfl)<|z2 (zc (v := .int _ _) rfl)<|z6<|zq<|yj (γ := Nat) [2, 4, 5, 7, 9, 22, 23, 32, 33, 40] (fun j => [(41, .int .i64 j)]) (fun j => [(i5, .cells 261 (encH (st (2 * i + j)))), (i4, .cells 74 [.int .i64 0, .int .i64 0])]) (fun j => j ≤ 2) (fun j => 2 - j) 0 ⟨rfl, trivial⟩ ⟨_, (.refl _), rfl⟩ ((by omega)) ?_
    rintro j hj
    refine za<|z7 rfl<|z2 (yn rfl rfl)<|z6<|za<|zy rfl (fun cj => ?_) (fun cj => ?_)
    ·have hj2 : j < 2 := by omega
     have hs := hstep i j hj2
     have hy : selR p j ≠ 0 := by have := part_nz (b := b) (q := q) (j := j) (by rw [hp]; exact ce); rwa [hp] at this
     refine zp<|za<|zq<|za<|z7 rfl<|z2 (Gv.index1 (n := 2) (j := j) (cs := [.int .i64 p.1, .int .i64 p.2]) (v := .int .i64 (selR p j)) underlying280 isAgg2 sizeOf2 rfl rfl rfl hj2 (sel_get hj2))<|z2 (zd (v := .int _ _) rfl)<|z6<|za<|z7 rfl<|z2 (zc (v := .int _ _) rfl)<|z2 (zc (v := .int _ _) rfl)<|zh (aDiv hy) rfl<|z2 (zc (v := .tup _) rfl)<|z2 (yp (v := .int _ _) rfl rfl)<|z2 (yp (v := .bool _) rfl rfl)<|z2 (zd (v := .int _ _) rfl)<|z2 (zd (v := .bool _) rfl)<|z6<|z7 rfl<|z2 (zc (v := .int _ _) rfl)<|z2 (zc (v := .int _ _) rfl)<|z2 (yz rfl rfl)<|z2 (zc (v := .bool _) rfl)<|y3 (s := 53) rfl (fun c1 => ?_) (fun c1 => ?_)
     ·have hf : fitD (selR a i) (selR p j) = true := by unfold fitD; simp_all [m64]
      refine z8 rfl rfl c1<|z8 rfl rfl c1<|z2 (zu (v := .bool _) rfl c1 rfl)<|yc rfl (y4 (.l (.r (.rest _)))) (hull_add i5 _ _ _ _) ?_
      rintro r57 O57 ⟨rfl, rfl⟩
      refine z6<|z7 rfl<|z2 (yl rfl rfl (by unfold I64; omega))<|z2 (zc (v := .int _ _) rfl)<|z6 ?_
      exact ⟨j + 1, ⟨rfl, rfl, rfl, rfl, rfl, rfl, rfl, rfl, rfl, rfl, trivial⟩, ⟨rfl, trivial⟩, ⟨_, (.refl _), by rw [hs, hf, hAdd_fit (fits := true) (fun _ => quo_fit hx hy hf) (show (9223372036854775807 : Int) = M64 from rfl)]; rfl⟩, hj2, by omega⟩
     ·have hf : fitD (selR a i) (selR p j) = !decide (selR p j = -1) := by unfold fitD; simp_all [m64]
      refine zb rfl rfl c1<|z2 (zc (v := .int _ _) rfl)<|zb rfl rfl c1<|z2 (yz rfl rfl)<|z2 (zt (v := .bool _) rfl c1 rfl)<|yc rfl (y4 (.l (.r (.rest _)))) (hull_add i5 _ _ _ _) ?_
      rintro r57 O57 ⟨rfl, rfl⟩
      refine z6<|z7 rfl<|z2 (yl rfl rfl (by unfold I64; omega))<|z2 (zc (v := .int _ _) rfl)<|z6 ?_
      exact ⟨j + 1, ⟨rfl, rfl, rfl, rfl, rfl, rfl, rfl, rfl, rfl, rfl, trivial⟩, ⟨rfl, trivial⟩, ⟨_, (.refl _), by rw [hs, hf, hAdd_fit (fits := !decide (selR p j = -1)) (fun h => quo_fit hx hy (by rw [hf]; exact h)) (show (9223372036854775807 : Int) = M64 from rfl)]; rfl⟩, hj2, by omega⟩
    ·have hj2 : j = 2 := by omega
     subst hj2
     refine yf<|z7 rfl<|z2 (yl rfl rfl (by unfold I64; omega))<|z2 (zc (v := .int _ _) rfl)<|z6 ?_
     exact ⟨i + 1, ⟨rfl, rfl, rfl, rfl, rfl, rfl, rfl, trivial⟩, ⟨rfl, trivial⟩, ⟨_, (.refl _), by rw [show 2 * (i + 1) = 2 * i + 2 by omega]⟩, hi2, by omega⟩
   ·have hi2 : i = 2 := by omega
    subst hi2
    refine yf<|z7 rfl<|z2 (yl rfl rfl (by unfold I64; omega))<|z2 (zc (v := .int _ _) rfl)<|z6 ?_
    exact ⟨q + 1, ⟨rfl, rfl, rfl, rfl, trivial⟩, ⟨rfl, trivial⟩, ⟨_, (.refl _), by rw [← h4]⟩, hq2, by omega⟩
 ·have hq2 : q = 2 := by omega
  subst hq2
  refine yf<|za<|za<|z7 rfl<|z2 (y5 underlying261 rfl sizeOf4 (by decide) rfl rfl)<|z2 (y8 (c := .bool _) isAgg4 rfl ⟨_, .head⟩ rfl)<|z6<|y9 rfl (fun cw => ?_) (fun cw => ?_)
  ·refine za<|z7 rfl<|zh (iAll) rfl<|zj sizeOf74 rfl rfl rfl rfl rfl rfl (.tail .head) rfl<|z6<|zo<|yq rfl ⟨_, (.tail .head)⟩ isAgg74 sizeOf74 rfl ?_
   rw [quoT_2, if_pos cw]; try rfl
  ·refine zp<|za<|z7 rfl<|z2 (y5 underlying261 rfl sizeOf74 (by decide) rfl rfl)<|z2 (yr (l := [_, _]) isAgg74 sizeOf74 rfl ⟨_, .head⟩ rfl rfl)<|zj sizeOf74 rfl rfl rfl rfl rfl rfl (.tail .head) rfl<|z6<|zo<|yq rfl ⟨_, (.tail .head)⟩ isAgg74 sizeOf74 rfl ?_
   rw [quoT_2, if_neg (by simpa using cw)]; try rfl
theorem iRests {a b : Rng} (ha : ok64 a) (hb : ok64 b) : AFun Tryz.prog E 220 [.agg (encZ a), .agg (encZ b)] (.agg (encZ (restP a b))) := by
 have ha1 := ha.1; have ha2 := ha.2; have hb1 := hb.1; have hb2 := hb.2
 unfold is64 at ha1 ha2 hb1 hb2
 refine zx func220 rfl (by decide) rfl<|za<|z7 rfl<|yk (cs := _) rfl rfl rfl<|yk (cs := _) rfl rfl rfl<|zz (cs := [.int .i64 0, .int .i64 0]) zeroValue74 rfl rfl<|fun i4 => z6<|za<|za<|yg (fun j => false) (by kernel_rfl) rfl (y4 (.rest _))<|ze (i := 0) rfl (by kernel_rfl) (zr isAgg74 sizeOf74 rfl rfl)<|zm (i := 1) rfl (by kernel_rfl)<|zh (iOf _) rfl<|z6<|ze (i := 2) rfl (by kernel_rfl) (Gv.eqlP (xs := [.int _ _, .int _ _]) (ys := [.int _ _, .int _ _]) (by kernel_rfl) rfl rfl (fun w => eq_range _ _ _ _ w))<|y6 (by kernel_rfl)<|zy rfl (fun c0 => ?_) (fun c0 => ?_)
 ·refine za<|z7 rfl<|zh (iNone) rfl<|zj sizeOf74 rfl rfl rfl rfl rfl rfl .head rfl<|z6<|zo<|yq rfl ⟨_, .head⟩ isAgg74 sizeOf74 rfl ?_
  rw [restP, if_pos (by obtain ⟨b1, b2⟩ := b; obtain ⟨h1, h2⟩ := c0; exact Prod.ext h1 h2)]; try rfl
 ·have c0 : ¬ b = (0, 0) := fun e => c0 (by rw [e]; exact ⟨rfl, rfl⟩)
  refine zp<|za<|z7 rfl<|z2 (zd (v := .int _ _) rfl)<|z6<|za<|za<|z7 rfl<|z2 (zg underlying74 rfl sizeOf2 (by decide) rfl rfl)<|z2 (zf (c := .int _ _) isAgg2 rfl)<|z2 (yn rfl rfl)<|z6<|yt (γ := Int) [2, 3, 4] (fun k => [(5, .int .i64 k)]) (fun k => [(i4, .cells 74 [.int .i64 0, .int .i64 0])]) (fun k => k = if b.1 < 0 then -(b.1 + 1) else 0) ?_ (fun _ _ h => h) ?_
  ·refine zy rfl (fun c1 => ?_) (fun c1 => ?_)
   ·refine z7 rfl<|z2 (zg underlying74 rfl sizeOf2 (by decide) rfl rfl)<|z2 (zf (c := .int _ _) isAgg2 rfl)<|z2 (yl rfl rfl (by unfold I64; omega))<|z2 (Gv.neg rfl)<|z2 (zd (v := .int _ _) rfl)<|z6 ?_
    exact ⟨IntKind.i64.wrap (0 - (b.1 + 1)), ⟨rfl, rfl, rfl, trivial⟩, ⟨rfl, trivial⟩, ⟨_, (.refl _), rfl⟩, by rw [if_pos c1, wrap_fit (by unfold is64; omega)]; omega⟩
   ·refine zp ?_
    exact ⟨0, ⟨rfl, rfl, rfl, trivial⟩, ⟨rfl, trivial⟩, ⟨_, (.refl _), rfl⟩, by rw [if_neg c1]⟩
  ·rintro k hk
   have hkr : 0 ≤ k ∧ k ≤ 9223372036854775807 := by rw [hk]; split <;> omega
   refine za<|za<|z7 rfl<|z2 (zg underlying74 rfl sizeOf2 (by decide) rfl rfl)<|z2 (zf (c := .int _ _) isAgg2 rfl)<|z2 (q9 rfl rfl)<|z6<|yt (γ := Int) [2, 4] (fun m => [(5, .int .i64 m)]) (fun m => [(i4, .cells 74 [.int .i64 0, .int .i64 0])]) (fun m => m = if 0 < b.2 then imax k (b.2 - 1) else k) ?_ (fun _ _ h => h) ?_
   ·refine zy rfl (fun c1 => ?_) (fun c1 => ?_)
    ·refine z7 rfl<|z2 (zc (v := .int _ _) rfl)<|z2 (zg underlying74 rfl sizeOf2 (by decide) rfl rfl)<|z2 (zf (c := .int _ _) isAgg2 rfl)<|z2 (Gv.sub rfl rfl (by unfold I64; omega))<|z2 (Gv.maxI rfl rfl)<|z2 (zd (v := .int _ _) rfl)<|z6 ?_
     exact ⟨imax k (b.2 - 1), ⟨rfl, rfl, trivial⟩, ⟨rfl, trivial⟩, ⟨_, (.refl _), rfl⟩, by rw [if_pos c1]⟩
    ·refine zp ?_
     exact ⟨k, ⟨rfl, rfl, trivial⟩, ⟨rfl, trivial⟩, ⟨_, (.refl _), rfl⟩, by rw [if_neg c1]⟩
   ·rintro m hm
    have hmr : 0 ≤ m ∧ m ≤ 9223372036854775807 := by rw [hm]; unfold imax; (repeat' split) <;> omega
    have hr : restP a b = (if a.1 < 0 then imax a.1 (-m) else 0, if 0 < a.2 then imin a.2 m else 0) := by subst hm hk; rw [restP, if_neg c0]
    rw [hr]
    refine za<|z7 rfl<|zh (iOf _) rfl<|zz (cs := [.int .i64 0, .int .i64 0]) zeroValue74 rfl rfl<|fun i6 => zj sizeOf74 rfl rfl rfl rfl rfl rfl .head rfl<|z6<|za<|za<|z7 rfl<|z2 (zg underlying74 rfl sizeOf2 (by decide) rfl rfl)<|z2 (zf (c := .int _ _) isAgg2 rfl)<|z2 (yn rfl rfl)<|z6<|yt (γ := Int) [2, 4, 5, 6] (fun x => []) (fun x => [(i6, .cells 74 [.int .i64 x, .int .i64 0]), (i4, .cells 74 [.int .i64 0, .int .i64 0])]) (fun x => x = if a.1 < 0 then imax a.1 (-m) else 0) ?_ (fun _ _ h => h) ?_
    ·refine zy rfl (fun c1 => ?_) (fun c1 => ?_)
     ·refine z7 rfl<|z2 (zg underlying74 rfl sizeOf2 (by decide) rfl rfl)<|z2 (zf (c := .int _ _) isAgg2 rfl)<|z2 (zc (v := .int _ _) rfl)<|z2 (Gv.neg rfl)<|z2 (Gv.maxI rfl rfl)<|z2 (y5 underlying74 rfl sizeOf2 (by decide) rfl rfl)<|qk (l := [_]) (new := [_, _]) sizeOf2 rfl rfl rfl rfl rfl rfl .head rfl rfl<|z6 ?_
      exact ⟨imax a.1 (IntKind.i64.wrap (0 - m)), ⟨rfl, rfl, rfl, rfl, trivial⟩, trivial, ⟨_, (.refl _), rfl⟩, by rw [if_pos c1, wrap_fit (by unfold is64; omega), Int.zero_sub]⟩
     ·refine zp ?_
      exact ⟨0, ⟨rfl, rfl, rfl, rfl, trivial⟩, trivial, ⟨_, (.refl _), rfl⟩, by rw [if_neg c1]⟩
    ·rintro x hx
     refine za<|za<|z7 rfl<|z2 (zg underlying74 rfl sizeOf2 (by decide) rfl rfl)<|z2 (zf (c := .int _ _) isAgg2 rfl)<|z2 (q9 rfl rfl)<|z6<|zy rfl (fun c1 => ?_) (fun c1 => ?_)
     ·refine z7 rfl<|z2 (zg underlying74 rfl sizeOf2 (by decide) rfl rfl)<|z2 (zf (c := .int _ _) isAgg2 rfl)<|z2 (zc (v := .int _ _) rfl)<|z2 (Gv.minI rfl rfl)<|z2 (y5 underlying74 rfl sizeOf2 (by decide) rfl rfl)<|qk (l := [_]) (new := [_, _]) sizeOf2 rfl rfl rfl rfl rfl rfl .head rfl rfl<|z6<|za<|z7 rfl<|z2 (qf isAgg74 sizeOf74 rfl ⟨_, .head⟩ rfl)<|zj sizeOf74 rfl rfl rfl rfl rfl rfl (.tail .head) rfl<|z6<|zo<|yq rfl ⟨_, (.tail .head)⟩ isAgg74 sizeOf74 rfl ?_
      rw [← hx, if_pos c1]; try rfl
     ·refine zp<|za<|z7 rfl<|z2 (qf isAgg74 sizeOf74 rfl ⟨_, .head⟩ rfl)<|zj sizeOf74 rfl rfl rfl rfl rfl rfl (.tail .head) rfl<|z6<|zo<|yq rfl ⟨_, (.tail .head)⟩ isAgg74 sizeOf74 rfl ?_
      rw [← hx, if_neg c1]; try rfl
def applyP (op : Int) (a b : Rng) : Rng :=
 if a.2 < a.1 ∨ b.2 < b.1 then noR else if op = 2 then sumP 0 a b false else if op = 3 then sumP 1 a b false else if op = 4 then sumP 2 a b false else if op = 5 then quotP a b else if op = 6 then restP a b else allR
def clipP (op : Int) (a b : Rng) : Rng :=
 if a.2 < a.1 ∨ b.2 < b.1 then noR else if op = 2 then sumP 0 a b true else if op = 3 then sumP 1 a b true else if op = 4 then sumP 2 a b true else if op = 5 then quotP a b else if op = 6 then restP a b else allR
theorem sum_op {op : Int} (h : op = 2 ∨ op = 3 ∨ op = 4) : ∃ k : Nat, k ≤ 2 ∧ op = 2 + (k : Int) := ⟨(op - 2).toNat, by omega, by omega⟩
theorem apply_sum {op : Int} {k : Nat} (hk : k ≤ 2) (h : op = 2 + (k : Int)) {a b : Rng} (hn : ¬ (a.2 < a.1 ∨ b.2 < b.1)) : applyP op a b = sumP k a b false ∧ clipP op a b = sumP k a b true := by
 unfold applyP clipP
 rw [if_neg hn, if_neg hn]
 rcases (by omega : k = 0 ∨ k = 1 ∨ k = 2) with rfl | rfl | rfl <;> subst h <;> exact ⟨rfl, rfl⟩
theorem apply_clip {op : Int} {a b : Rng} (hc : (a.2 < a.1 ∨ b.2 < b.1) ∨ ¬ (op = 2 ∨ op = 3 ∨ op = 4)) : applyP op a b = clipP op a b := by
 unfold applyP clipP
 by_cases h : a.2 < a.1 ∨ b.2 < b.1
 ·rw [if_pos h, if_pos h]
 ·have hs : ¬ (op = 2 ∨ op = 3 ∨ op = 4) := hc.resolve_left h
  rw [not_or, not_or] at hs
  obtain ⟨h2, h3, h4⟩ := hs
  rw [if_neg h, if_neg h]
  simp only [h2, h3, h4, if_false]
theorem iApply (op : Int) {a b : Rng} (ha : ok64 a) (hb : ok64 b) : AFun Tryz.prog E 178 [.int .i64 op, .agg (encZ a), .agg (encZ b)] (.agg (encZ (applyP op a b))) := by
 refine zx func178 rfl (by decide) rfl<|za<|z7 rfl<|yk (cs := _) rfl rfl rfl<|yk (cs := _) rfl rfl rfl<|zz (cs := [.int .i64 0, .int .i64 0]) zeroValue74 rfl rfl<|fun i6 => z6<|za<|zq<|za<|yt (γ := Bool) [0, 4, 5, 6] (fun u => [(8, .bool u)]) (fun u => [(i6, .cells 74 [.int .i64 0, .int .i64 0])]) (fun u => u = decide (a.2 < a.1 ∨ b.2 < b.1)) ?_ (fun _ _ h => h) ?_
 ·refine z7 rfl<|z2 (zr isAgg74 sizeOf74 rfl rfl)<|zh (iEmpty _) rfl<|z2 (zc (v := .bool _) rfl)<|y3 (s := 11) rfl (fun c3 => ?_) (fun c3 => ?_)
  ·refine z8 rfl rfl c3<|z8 rfl rfl c3<|z2 (zu (v := .bool _) rfl c3 rfl)<|z2 (zd (v := .bool _) rfl)<|z6 ?_
   exact ⟨_, ⟨rfl, rfl, rfl, rfl, trivial⟩, ⟨rfl, trivial⟩, ⟨_, (.refl _), rfl⟩, by simp_all <;> omega⟩
  ·refine zb rfl rfl c3<|z2 (zr isAgg74 sizeOf74 rfl rfl)<|zb rfl rfl c3<|zh (iEmpty _) rfl<|z2 (zt (v := .bool _) rfl c3 rfl)<|z2 (zd (v := .bool _) rfl)<|z6 ?_
   exact ⟨_, ⟨rfl, rfl, rfl, rfl, trivial⟩, ⟨rfl, trivial⟩, ⟨_, (.refl _), rfl⟩, by simp_all <;> omega⟩
 ·rintro u hu
  subst hu
  refine zy rfl (fun cn => ?_) (fun cn => ?_)
  ·refine za<|z7 rfl<|zh (iNone) rfl<|zj sizeOf74 rfl rfl rfl rfl rfl rfl .head rfl<|z6<|zo<|yq rfl ⟨_, .head⟩ isAgg74 sizeOf74 rfl ?_
   rw [applyP, if_pos cn]; try rfl
  ·refine za<|z7 rfl<|z2 (zc (v := .int _ _) rfl)<|zh (iSums _) rfl<|z2 (zd (v := .bool _) rfl)<|z6<|y9 rfl (fun cs => ?_) (fun cs => ?_)
   ·have hs : op = 2 ∨ op = 3 ∨ op = 4 := by simpa using cs
    obtain ⟨k, hk, hop⟩ := sum_op hs
    rw [(apply_sum hk hop cn).1]
    refine za<|z7 rfl<|z2 (zc (v := .int _ _) rfl)<|z2 (zr isAgg74 sizeOf74 rfl rfl)<|z2 (zr isAgg74 sizeOf74 rfl rfl)<|zh (iCorners op k hk hop ha hb) rfl<|zz (cs := [.int .i64 0, .int .i64 0, .bool false]) zeroValue261 rfl rfl<|fun i7 => zj sizeOf261 rfl rfl rfl rfl rfl rfl .head rfl<|z6<|za<|z7 rfl<|z2 (y5 underlying261 rfl sizeOf4 (by decide) rfl rfl)<|z2 (y8 (c := .bool _) isAgg4 rfl ⟨_, .head⟩ rfl)<|z2 (yx rfl)<|z6<|y9 rfl (fun cw => ?_) (fun cw => ?_)
    ·refine za<|z7 rfl<|z2 (y5 underlying261 rfl sizeOf74 (by decide) rfl rfl)<|z2 (yr (l := [_, _]) isAgg74 sizeOf74 rfl ⟨_, .head⟩ rfl rfl)<|zj sizeOf74 rfl rfl rfl rfl rfl rfl (.tail .head) rfl<|z6<|zo<|yq rfl ⟨_, (.tail .head)⟩ isAgg74 sizeOf74 rfl ?_
     rw [sumP, if_neg (by decide), if_neg (by simpa using cw)]; try rfl
    ·refine zp<|za<|z7 rfl<|zh (iAll) rfl<|zj sizeOf74 rfl rfl rfl rfl rfl rfl (.tail .head) rfl<|z6<|zo<|yq rfl ⟨_, (.tail .head)⟩ isAgg74 sizeOf74 rfl ?_
     rw [sumP, if_neg (by decide), if_pos (by simpa using cw)]; try rfl
   ·have hs : ¬ (op = 2 ∨ op = 3 ∨ op = 4) := by simpa using cs
    rw [applyP, if_neg cn, if_neg (by omega), if_neg (by omega), if_neg (by omega)]
    refine za<|z7 rfl<|z2 (zc (v := .int _ _) rfl)<|z2 (yi rfl rfl)<|z2 (zd (v := .bool _) rfl)<|z6<|zy rfl (fun c5 => ?_) (fun c5 => ?_)
    ·refine za<|z7 rfl<|z2 (zr isAgg74 sizeOf74 rfl rfl)<|z2 (zr isAgg74 sizeOf74 rfl rfl)<|zh (iQuot ha) rfl<|zj sizeOf74 rfl rfl rfl rfl rfl rfl .head rfl<|z6<|zo<|yq rfl ⟨_, .head⟩ isAgg74 sizeOf74 rfl ?_
     rw [if_pos c5]; try rfl
    ·rw [if_neg c5]
     refine za<|z7 rfl<|z2 (zc (v := .int _ _) rfl)<|z2 (yi rfl rfl)<|z2 (zd (v := .bool _) rfl)<|z6<|zy rfl (fun c6 => ?_) (fun c6 => ?_)
     ·refine za<|z7 rfl<|z2 (zr isAgg74 sizeOf74 rfl rfl)<|z2 (zr isAgg74 sizeOf74 rfl rfl)<|zh (iRests ha hb) rfl<|zj sizeOf74 rfl rfl rfl rfl rfl rfl .head rfl<|z6<|zo<|yq rfl ⟨_, .head⟩ isAgg74 sizeOf74 rfl ?_
      rw [if_pos c6]; try rfl
     ·refine zp<|za<|z7 rfl<|zh (iAll) rfl<|zj sizeOf74 rfl rfl rfl rfl rfl rfl .head rfl<|z6<|zo<|yq rfl ⟨_, .head⟩ isAgg74 sizeOf74 rfl ?_
      rw [if_neg c6]; try rfl
theorem iClip (op : Int) {a b : Rng} (ha : ok64 a) (hb : ok64 b) : AFun Tryz.prog E 216 [.int .i64 op, .agg (encZ a), .agg (encZ b)] (.agg (encZ (clipP op a b))) := by
 refine zx func216 rfl (by decide) rfl<|za<|z7 rfl<|yk (cs := _) rfl rfl rfl<|yk (cs := _) rfl rfl rfl<|zz (cs := [.int .i64 0, .int .i64 0]) zeroValue74 rfl rfl<|fun i6 => z6<|za<|za<|yt (γ := Bool) [0, 4, 5, 6] (fun u => [(17, .bool u)]) (fun u => [(i6, .cells 74 [.int .i64 0, .int .i64 0])]) (fun u => u = decide ((a.2 < a.1 ∨ b.2 < b.1) ∨ ¬ (op = 2 ∨ op = 3 ∨ op = 4))) ?_ (fun _ _ h => h) ?_
 ·refine z7 rfl<|z2 (zr isAgg74 sizeOf74 rfl rfl)<|zh (iEmpty _) rfl<|z2 (zc (v := .bool _) rfl)<|y3 (s := 9) rfl (fun c4 => ?_) (fun c4 => ?_)
  ·refine z8 rfl rfl c4<|z8 rfl rfl c4<|z2 (zu (v := .bool _) rfl c4 rfl)<|z2 (zc (v := .bool _) rfl)<|z8 rfl rfl rfl<|z8 rfl rfl rfl<|z8 rfl rfl rfl<|z2 (zu (v := .bool _) rfl rfl rfl)<|z6 ?_
   exact ⟨_, ⟨rfl, rfl, rfl, rfl, trivial⟩, ⟨rfl, trivial⟩, ⟨_, (.refl _), rfl⟩, by simp_all <;> omega⟩
  ·refine zb rfl rfl c4<|z2 (zr isAgg74 sizeOf74 rfl rfl)<|zb rfl rfl c4<|zh (iEmpty _) rfl<|z2 (zt (v := .bool _) rfl c4 rfl)<|z2 (zc (v := .bool _) rfl)<|y3 (s := 13) rfl (fun c5 => ?_) (fun c5 => ?_)
   ·refine z8 rfl rfl c5<|z8 rfl rfl c5<|z8 rfl rfl c5<|z2 (zu (v := .bool _) rfl c5 rfl)<|z6 ?_
    exact ⟨_, ⟨rfl, rfl, rfl, rfl, trivial⟩, ⟨rfl, trivial⟩, ⟨_, (.refl _), rfl⟩, by simp_all <;> omega⟩
   ·refine zb rfl rfl c5<|z2 (zc (v := .int _ _) rfl)<|zb rfl rfl c5<|zh (iSums _) rfl<|zb rfl rfl c5<|z2 (yx rfl)<|z2 (zt (v := .bool _) rfl c5 rfl)<|z6 ?_
    exact ⟨_, ⟨rfl, rfl, rfl, rfl, trivial⟩, ⟨rfl, trivial⟩, ⟨_, (.refl _), rfl⟩, by simp_all <;> omega⟩
 ·rintro u hu
  subst hu
  refine zy rfl (fun cn => ?_) (fun cn => ?_)
  ·refine za<|z7 rfl<|z2 (zc (v := .int _ _) rfl)<|z2 (zr isAgg74 sizeOf74 rfl rfl)<|z2 (zr isAgg74 sizeOf74 rfl rfl)<|zh (iApply op ha hb) rfl<|zj sizeOf74 rfl rfl rfl rfl rfl rfl .head rfl<|z6<|zo<|yq rfl ⟨_, .head⟩ isAgg74 sizeOf74 rfl ?_
   rw [apply_clip cn]; try rfl
  ·obtain ⟨k, hk, hop⟩ := sum_op (Classical.byContradiction fun h => cn (.inr h))
   have hn : ¬ (a.2 < a.1 ∨ b.2 < b.1) := fun h => cn (.inl h)
   rw [(apply_sum hk hop hn).2]
   refine zp<|za<|z7 rfl<|z2 (zc (v := .int _ _) rfl)<|z2 (zr isAgg74 sizeOf74 rfl rfl)<|z2 (zr isAgg74 sizeOf74 rfl rfl)<|zh (iCorners op k hk hop ha hb) rfl<|z2 (Gv.fieldA (l := [_, _]) underlying261 rfl isAgg74 sizeOf74 rfl rfl)<|zj sizeOf74 rfl rfl rfl rfl rfl rfl .head rfl<|z6<|zo<|yq rfl ⟨_, .head⟩ isAgg74 sizeOf74 rfl ?_
   rw [sumP, if_pos rfl]; try rfl
end Go.Proofs.YtjnpcfpecilejaaGreatDoor
namespace Go.Proofs.YtjnpcfpecilejaaGreatDoor
open Go.Proofs.Tryz
open Go.Proofs
variable {E : World}
set_option maxRecDepth 20000
theorem iWiden (t : Int) (a b : Rng) : AFun Tryz.prog E 203 [.int .i64 t, .agg (encZ a), .agg (encZ b)] (.agg (encZ (widQ (rType t) a b))) := by
 obtain ⟨tt, htt⟩ : ∃ tt, rType t = tt := ⟨_, rfl⟩
 obtain ⟨j, hj⟩ : ∃ j, rJoin a b = j := ⟨_, rfl⟩
 have hw : widQ (rType t) a b = if a.2 < a.1 then j else (if j.1 < a.1 ∧ tt.1 ≤ tt.2 then imin j.1 tt.1 else j.1, if a.2 < j.2 ∧ tt.1 ≤ tt.2 then imax j.2 tt.2 else j.2) := by subst htt hj; rfl
 rw [hw]
 have hJ := iJoin (E := E) a b
 rw [hj] at hJ
 have hT := iType (E := E) t
 rw [htt] at hT
 refine zx func203 rfl (by decide) rfl<|za<|z7 rfl<|yk (cs := _) rfl rfl rfl<|yk (cs := _) rfl rfl rfl<|zz (cs := [.int .i64 0, .int .i64 0]) zeroValue74 rfl rfl<|fun i6 => z6<|za<|z7 rfl<|z2 (zr isAgg74 sizeOf74 rfl rfl)<|z2 (zr isAgg74 sizeOf74 rfl rfl)<|zh (hJ) rfl<|z2 (zc (v := .int _ _) rfl)<|zh (hT) rfl<|zz (cs := [.int .i64 0, .int .i64 0]) zeroValue74 rfl rfl<|fun i7 => zz (cs := [.int .i64 0, .int .i64 0]) zeroValue74 rfl rfl<|fun i8 => zj sizeOf74 rfl rfl rfl rfl rfl rfl (.tail .head) rfl<|zj sizeOf74 rfl rfl rfl rfl rfl rfl .head rfl<|z6<|yw (yo (t := 8) rfl .head)<|za<|za<|z7 rfl<|z2 (zr isAgg74 sizeOf74 rfl rfl)<|zh (iEmpty _) rfl<|z6<|zy rfl (fun ce => ?_) (fun ce => ?_)
 ·refine za<|z7 rfl<|z2 (qf isAgg74 sizeOf74 rfl ⟨_, .head⟩ rfl)<|zj sizeOf74 rfl rfl rfl rfl rfl rfl (.tail .head) rfl<|z6<|zo<|yq rfl ⟨_, (.tail .head)⟩ isAgg74 sizeOf74 rfl ?_
  rw [if_pos ce]; try rfl
 ·rw [if_neg ce]
  refine zp<|za<|za<|yt (γ := Bool) [4, 6, 7, 8] (fun u => [(26, .bool u)]) (fun u => [(i7, .cells 74 (encZ j)), (i6, .cells 74 [.int .i64 0, .int .i64 0])]) (fun u => u = decide (j.1 < a.1 ∧ tt.1 ≤ tt.2)) ?_ (fun _ _ h => h) ?_
  ·refine z7 rfl<|z2 (y5 underlying74 rfl sizeOf2 (by decide) rfl rfl)<|z2 (y8 (c := .int _ _) isAgg2 rfl ⟨_, .head⟩ rfl)<|z2 (zg underlying74 rfl sizeOf2 (by decide) rfl rfl)<|z2 (zf (c := .int _ _) isAgg2 rfl)<|z2 (yn rfl rfl)<|z2 (zc (v := .bool _) rfl)<|y3 (s := 22) rfl (fun c1 => ?_) (fun c1 => ?_)
   ·refine zb rfl rfl c1<|z2 (zr isAgg74 sizeOf74 rfl rfl)<|zb rfl rfl c1<|zh (iEmpty _) rfl<|zb rfl rfl c1<|z2 (yx rfl)<|z2 (zu (v := .bool _) rfl c1 rfl)<|z6 ?_
    exact ⟨_, ⟨rfl, rfl, rfl, rfl, trivial⟩, ⟨rfl, trivial⟩, ⟨_, (.refl _), rfl⟩, by have : j.1 < a.1 := (by simpa using c1); simp [this]; rw [Bool.eq_iff_iff]; simp⟩
   ·refine z8 rfl rfl c1<|z8 rfl rfl c1<|z8 rfl rfl c1<|z2 (zt (v := .bool _) rfl c1 rfl)<|z6 ?_
    exact ⟨_, ⟨rfl, rfl, rfl, rfl, trivial⟩, ⟨rfl, trivial⟩, ⟨_, (.refl _), rfl⟩, by have : ¬ j.1 < a.1 := (by simpa using c1); simp [this]⟩
  ·rintro u hu
   subst hu
   refine yt (γ := Int) [4, 6, 7, 8] (fun x => []) (fun x => [(i7, .cells 74 [.int .i64 x, .int .i64 j.2]), (i6, .cells 74 [.int .i64 0, .int .i64 0])]) (fun x => x = if j.1 < a.1 ∧ tt.1 ≤ tt.2 then imin j.1 tt.1 else j.1) ?_ (fun _ _ h => h) ?_
   ·refine zy rfl (fun c1 => ?_) (fun c1 => ?_)
    ·refine z7 rfl<|z2 (y5 underlying74 rfl sizeOf2 (by decide) rfl rfl)<|z2 (y8 (c := .int _ _) isAgg2 rfl ⟨_, .head⟩ rfl)<|z2 (zg underlying74 rfl sizeOf2 (by decide) rfl rfl)<|z2 (zf (c := .int _ _) isAgg2 rfl)<|z2 (Gv.minI rfl rfl)<|z2 (y5 underlying74 rfl sizeOf2 (by decide) rfl rfl)<|qk (l := [_]) (new := [_, _]) sizeOf2 rfl rfl rfl rfl rfl rfl .head rfl rfl<|z6 ?_
     exact ⟨imin j.1 tt.1, ⟨rfl, rfl, rfl, rfl, trivial⟩, trivial, ⟨_, (.refl _), rfl⟩, by rw [if_pos c1]⟩
    ·refine zp ?_
     exact ⟨j.1, ⟨rfl, rfl, rfl, rfl, trivial⟩, trivial, ⟨_, (.refl _), rfl⟩, by rw [if_neg c1]⟩
   ·rintro x hx
    refine za<|za<|yt (γ := Bool) [6, 7, 8] (fun u => [(42, .bool u)]) (fun u => [(i7, .cells 74 [.int .i64 x, .int .i64 j.2]), (i6, .cells 74 [.int .i64 0, .int .i64 0])]) (fun u => u = decide (a.2 < j.2 ∧ tt.1 ≤ tt.2)) ?_ (fun _ _ h => h) ?_
    ·refine z7 rfl<|z2 (y5 underlying74 rfl sizeOf2 (by decide) rfl rfl)<|z2 (y8 (c := .int _ _) isAgg2 rfl ⟨_, .head⟩ rfl)<|z2 (zg underlying74 rfl sizeOf2 (by decide) rfl rfl)<|z2 (zf (c := .int _ _) isAgg2 rfl)<|z2 (q9 rfl rfl)<|z2 (zc (v := .bool _) rfl)<|y3 (s := 38) rfl (fun c1 => ?_) (fun c1 => ?_)
     ·refine zb rfl rfl c1<|z2 (zr isAgg74 sizeOf74 rfl rfl)<|zb rfl rfl c1<|zh (iEmpty _) rfl<|zb rfl rfl c1<|z2 (yx rfl)<|z2 (zu (v := .bool _) rfl c1 rfl)<|z6 ?_
      exact ⟨_, ⟨rfl, rfl, rfl, trivial⟩, ⟨rfl, trivial⟩, ⟨_, (.refl _), rfl⟩, by have : a.2 < j.2 := (by simpa using c1); simp [this]; rw [Bool.eq_iff_iff]; simp⟩
     ·refine z8 rfl rfl c1<|z8 rfl rfl c1<|z8 rfl rfl c1<|z2 (zt (v := .bool _) rfl c1 rfl)<|z6 ?_
      exact ⟨_, ⟨rfl, rfl, rfl, trivial⟩, ⟨rfl, trivial⟩, ⟨_, (.refl _), rfl⟩, by have : ¬ a.2 < j.2 := (by simpa using c1); simp [this]⟩
    ·rintro u hu
     subst hu
     rw [← hx]
     refine zy rfl (fun c1 => ?_) (fun c1 => ?_)
     ·refine z7 rfl<|z2 (y5 underlying74 rfl sizeOf2 (by decide) rfl rfl)<|z2 (y8 (c := .int _ _) isAgg2 rfl ⟨_, .head⟩ rfl)<|z2 (zg underlying74 rfl sizeOf2 (by decide) rfl rfl)<|z2 (zf (c := .int _ _) isAgg2 rfl)<|z2 (Gv.maxI rfl rfl)<|z2 (y5 underlying74 rfl sizeOf2 (by decide) rfl rfl)<|qk (l := [_]) (new := [_, _]) sizeOf2 rfl rfl rfl rfl rfl rfl .head rfl rfl<|z6<|za<|z7 rfl<|z2 (qf isAgg74 sizeOf74 rfl ⟨_, .head⟩ rfl)<|zj sizeOf74 rfl rfl rfl rfl rfl rfl (.tail .head) rfl<|z6<|zo<|yq rfl ⟨_, (.tail .head)⟩ isAgg74 sizeOf74 rfl ?_
      rw [if_pos c1]; try rfl
     ·refine zp<|za<|z7 rfl<|z2 (qf isAgg74 sizeOf74 rfl ⟨_, .head⟩ rfl)<|zj sizeOf74 rfl rfl rfl rfl rfl rfl (.tail .head) rfl<|z6<|zo<|yq rfl ⟨_, (.tail .head)⟩ isAgg74 sizeOf74 rfl ?_
      rw [if_neg c1]; try rfl
def alwB (op : Int) (a b : Rng) : Bool := if op = 7 then decide (a.1 = a.2) && decide (a = b) else if op = 8 then decide (a.2 < b.1) else if op = 9 then decide (a.2 ≤ b.1) else false
def nevB (op : Int) (a b : Rng) : Bool := if op = 7 then decide ((rMeet a b).2 < (rMeet a b).1) else if op = 8 then decide (b.2 ≤ a.1) else if op = 9 then decide (b.2 < a.1) else false
theorem truthP_b (op : Int) (a b : Rng) : truthP op a b = if a.2 < a.1 ∨ b.2 < b.1 then noR else truP (alwB op a b) (nevB op a b) := by
 unfold truthP alwB nevB
 by_cases h : a.2 < a.1 ∨ b.2 < b.1
 ·rw [if_pos h, if_pos h]
 ·rw [if_neg h, if_neg h]
  by_cases h7 : op = 7
  ·rw [if_pos h7, if_pos h7, if_pos h7]
  ·rw [if_neg h7, if_neg h7, if_neg h7]
   by_cases h8 : op = 8
   ·rw [if_pos h8, if_pos h8, if_pos h8]
   ·rw [if_neg h8, if_neg h8, if_neg h8]
    by_cases h9 : op = 9
    ·rw [if_pos h9, if_pos h9, if_pos h9]
    ·rw [if_neg h9, if_neg h9, if_neg h9]; rfl
theorem rng_eq (a b : Rng) : decide (a.1 = b.1 ∧ a.2 = b.2) = decide (a = b) := decide_eq_decide.2 ⟨fun h => Prod.ext h.1 h.2, fun h => by rw [h]; exact ⟨rfl, rfl⟩⟩
theorem iTruth (op : Int) (a b : Rng) : AFun Tryz.prog E 179 [.int .i64 op, .agg (encZ a), .agg (encZ b)] (.agg (encZ (truthP op a b))) := by
 rw [truthP_b]
 refine zx func179 rfl (by decide) rfl<|za<|z7 rfl<|yk (cs := _) rfl rfl rfl<|yk (cs := _) rfl rfl rfl<|zz (cs := [.int .i64 0, .int .i64 0]) zeroValue74 rfl rfl<|fun i6 => z6<|za<|z7 rfl<|z2 (zd (v := .bool _) rfl)<|z2 (zd (v := .bool _) rfl)<|z6<|za<|za<|z7 rfl<|z2 (zc (v := .int _ _) rfl)<|z6<|yt (γ := Bool × Bool) [4, 5, 6] (fun g => [(8, .bool g.1), (7, .bool g.2)]) (fun g => [(i6, .cells 74 [.int .i64 0, .int .i64 0])]) (fun g => g.1 = alwB op a b ∧ g.2 = nevB op a b) ?_ (fun _ _ h => h) ?_
 ·refine zq<|za<|z7 rfl<|z2 (yi rfl rfl)<|z2 (zd (v := .bool _) rfl)<|z6<|zy rfl (fun c7 => ?_) (fun c7 => ?_)
  ·refine za<|z7 rfl<|z2 (zg underlying74 rfl sizeOf2 (by decide) rfl rfl)<|z2 (zf (c := .int _ _) isAgg2 rfl)<|z2 (zg underlying74 rfl sizeOf2 (by decide) rfl rfl)<|z2 (zf (c := .int _ _) isAgg2 rfl)<|z2 (yi rfl rfl)<|z2 (zc (v := .bool _) rfl)<|y3 (s := 17) rfl (fun c => ?_) (fun c => ?_)
   ·refine zb rfl rfl c<|z2 (zr isAgg74 sizeOf74 rfl rfl)<|zb rfl rfl c<|z2 (zr isAgg74 sizeOf74 rfl rfl)<|zb rfl rfl c<|z2 (Gv.eqlP (xs := [.int _ _, .int _ _]) (ys := [.int _ _, .int _ _]) (by kernel_rfl) rfl rfl (fun w => eq_range _ _ _ _ w))<|z2 (zu (v := .bool _) rfl c rfl)<|z2 (zd (v := .bool _) rfl)<|z6<|z7 rfl<|z2 (zr isAgg74 sizeOf74 rfl rfl)<|z2 (zr isAgg74 sizeOf74 rfl rfl)<|zh (iMeet _ _) rfl<|zh (iEmpty _) rfl<|z2 (zd (v := .bool _) rfl)<|z6 ?_
    exact ⟨(decide (a.1 = b.1 ∧ a.2 = b.2), decide ((rMeet a b).2 < (rMeet a b).1)), ⟨rfl, rfl, rfl, trivial⟩, ⟨rfl, rfl, trivial⟩, ⟨_, (.refl _), rfl⟩, by dsimp only; exact ⟨by rw [alwB, if_pos c7, rng_eq, show decide (a.1 = a.2) = true from c]; rfl, by rw [nevB, if_pos c7]⟩⟩
   ·refine z8 rfl rfl c<|z8 rfl rfl c<|z8 rfl rfl c<|z2 (zt (v := .bool _) rfl c rfl)<|z2 (zd (v := .bool _) rfl)<|z6<|z7 rfl<|z2 (zr isAgg74 sizeOf74 rfl rfl)<|z2 (zr isAgg74 sizeOf74 rfl rfl)<|zh (iMeet _ _) rfl<|zh (iEmpty _) rfl<|z2 (zd (v := .bool _) rfl)<|z6 ?_
    exact ⟨(false, decide ((rMeet a b).2 < (rMeet a b).1)), ⟨rfl, rfl, rfl, trivial⟩, ⟨rfl, rfl, trivial⟩, ⟨_, (.refl _), rfl⟩, by dsimp only; exact ⟨by rw [alwB, if_pos c7, show decide (a.1 = a.2) = false from c]; rfl, by rw [nevB, if_pos c7]⟩⟩
  ·refine za<|z7 rfl<|z2 (yi rfl rfl)<|z2 (zd (v := .bool _) rfl)<|z6<|zy rfl (fun c8 => ?_) (fun c8 => ?_)
   ·refine yg (fun j => false) (by kernel_rfl) rfl (y4 (.rest _))<|ze (i := 0) rfl (by kernel_rfl) (zg underlying74 rfl sizeOf2 (by decide) rfl rfl)<|ze (i := 1) rfl (by kernel_rfl) (zf (c := .int _ _) isAgg2 rfl)<|ze (i := 2) rfl (by kernel_rfl) (zg underlying74 rfl sizeOf2 (by decide) rfl rfl)<|ze (i := 3) rfl (by kernel_rfl) (zf (c := .int _ _) isAgg2 rfl)<|ze (i := 4) rfl (by kernel_rfl) (yn rfl rfl)<|ze (i := 5) rfl (by kernel_rfl) (zg underlying74 rfl sizeOf2 (by decide) rfl rfl)<|ze (i := 6) rfl (by kernel_rfl) (zf (c := .int _ _) isAgg2 rfl)<|ze (i := 7) rfl (by kernel_rfl) (zg underlying74 rfl sizeOf2 (by decide) rfl rfl)<|ze (i := 8) rfl (by kernel_rfl) (zf (c := .int _ _) isAgg2 rfl)<|ze (i := 9) rfl (by kernel_rfl) (qi rfl rfl)<|ze (i := 10) rfl (by kernel_rfl) (zd (v := .bool _) rfl)<|ze (i := 11) rfl (by kernel_rfl) (zd (v := .bool _) rfl)<|y6 (by kernel_rfl) ?_
    exact ⟨(decide (a.2 < b.1), decide (b.2 ≤ a.1)), ⟨rfl, rfl, rfl, trivial⟩, ⟨rfl, rfl, trivial⟩, ⟨_, (.refl _), rfl⟩, by dsimp only; exact ⟨by rw [alwB, if_neg c7, if_pos c8], by rw [nevB, if_neg c7, if_pos c8]⟩⟩
   ·refine za<|z7 rfl<|z2 (yi rfl rfl)<|z2 (zd (v := .bool _) rfl)<|z6<|zy rfl (fun c9 => ?_) (fun c9 => ?_)
    ·refine yg (fun j => false) (by kernel_rfl) rfl (y4 (.rest _))<|ze (i := 0) rfl (by kernel_rfl) (zg underlying74 rfl sizeOf2 (by decide) rfl rfl)<|ze (i := 1) rfl (by kernel_rfl) (zf (c := .int _ _) isAgg2 rfl)<|ze (i := 2) rfl (by kernel_rfl) (zg underlying74 rfl sizeOf2 (by decide) rfl rfl)<|ze (i := 3) rfl (by kernel_rfl) (zf (c := .int _ _) isAgg2 rfl)<|ze (i := 4) rfl (by kernel_rfl) (Gv.leq rfl rfl)<|ze (i := 5) rfl (by kernel_rfl) (zg underlying74 rfl sizeOf2 (by decide) rfl rfl)<|ze (i := 6) rfl (by kernel_rfl) (zf (c := .int _ _) isAgg2 rfl)<|ze (i := 7) rfl (by kernel_rfl) (zg underlying74 rfl sizeOf2 (by decide) rfl rfl)<|ze (i := 8) rfl (by kernel_rfl) (zf (c := .int _ _) isAgg2 rfl)<|ze (i := 9) rfl (by kernel_rfl) (q9 rfl rfl)<|ze (i := 10) rfl (by kernel_rfl) (zd (v := .bool _) rfl)<|ze (i := 11) rfl (by kernel_rfl) (zd (v := .bool _) rfl)<|y6 (by kernel_rfl) ?_
     exact ⟨(decide (a.2 ≤ b.1), decide (b.2 < a.1)), ⟨rfl, rfl, rfl, trivial⟩, ⟨rfl, rfl, trivial⟩, ⟨_, (.refl _), rfl⟩, by dsimp only; exact ⟨by rw [alwB, if_neg c7, if_neg c8, if_pos c9], by rw [nevB, if_neg c7, if_neg c8, if_pos c9]⟩⟩
    ·refine zp ?_
     exact ⟨(false, false), ⟨rfl, rfl, rfl, trivial⟩, ⟨rfl, rfl, trivial⟩, ⟨_, (.refl _), rfl⟩, by dsimp only; exact ⟨by rw [alwB, if_neg c7, if_neg c8, if_neg c9], by rw [nevB, if_neg c7, if_neg c8, if_neg c9]⟩⟩
 ·rintro ⟨al, ne⟩ ⟨h1, h2⟩
  dsimp only at h1 h2
  rw [← h1, ← h2]
  refine za<|zq<|za<|yt (γ := Bool) [6, 7, 8] (fun u => [(50, .bool u)]) (fun u => [(i6, .cells 74 [.int .i64 0, .int .i64 0])]) (fun u => u = decide (a.2 < a.1 ∨ b.2 < b.1)) ?_ (fun _ _ h => h) ?_
  ·refine z7 rfl<|z2 (zr isAgg74 sizeOf74 rfl rfl)<|zh (iEmpty _) rfl<|z2 (zc (v := .bool _) rfl)<|y3 (s := 53) rfl (fun c1 => ?_) (fun c1 => ?_)
   ·refine z8 rfl rfl c1<|z8 rfl rfl c1<|z2 (zu (v := .bool _) rfl c1 rfl)<|z2 (zd (v := .bool _) rfl)<|z6 ?_
    exact ⟨_, ⟨rfl, rfl, rfl, trivial⟩, ⟨rfl, trivial⟩, ⟨_, (.refl _), rfl⟩, by simp_all <;> omega⟩
   ·refine zb rfl rfl c1<|z2 (zr isAgg74 sizeOf74 rfl rfl)<|zb rfl rfl c1<|zh (iEmpty _) rfl<|z2 (zt (v := .bool _) rfl c1 rfl)<|z2 (zd (v := .bool _) rfl)<|z6 ?_
    exact ⟨_, ⟨rfl, rfl, rfl, trivial⟩, ⟨rfl, trivial⟩, ⟨_, (.refl _), rfl⟩, by simp_all <;> omega⟩
  ·rintro u hu
   subst hu
   refine zy rfl (fun cn => ?_) (fun cn => ?_)
   ·refine za<|z7 rfl<|zh (iNone) rfl<|zj sizeOf74 rfl rfl rfl rfl rfl rfl .head rfl<|z6<|zo<|yq rfl ⟨_, .head⟩ isAgg74 sizeOf74 rfl ?_
    rw [if_pos cn]; try rfl
   ·rw [if_neg cn]
    refine za<|z7 rfl<|z2 (zc (v := .bool _) rfl)<|z2 (zd (v := .bool _) rfl)<|z6<|y9 rfl (fun c1 => ?_) (fun c1 => ?_)
    ·refine za<|z7 rfl<|zh (iOf _) rfl<|zj sizeOf74 rfl rfl rfl rfl rfl rfl .head rfl<|z6<|zo<|yq rfl ⟨_, .head⟩ isAgg74 sizeOf74 rfl ?_
     rw [show al = true from c1]; try rfl
    ·refine za<|z7 rfl<|z2 (zc (v := .bool _) rfl)<|z2 (zd (v := .bool _) rfl)<|z6<|y9 rfl (fun c2 => ?_) (fun c2 => ?_)
     ·refine za<|z7 rfl<|zh (iOf _) rfl<|zj sizeOf74 rfl rfl rfl rfl rfl rfl .head rfl<|z6<|zo<|yq rfl ⟨_, .head⟩ isAgg74 sizeOf74 rfl ?_
      rw [show al = false from c1, show ne = true from c2]; try rfl
     ·refine zp<|za<|z7 rfl<|z2 (ya (cps := [(0, [_]), (1, [_])]) (rs := [_, _]) pl74 rfl rfl rfl)<|zj sizeOf74 rfl rfl rfl rfl rfl rfl .head rfl<|z6<|zo<|yq rfl ⟨_, .head⟩ isAgg74 sizeOf74 rfl ?_
      rw [show al = false from c1, show ne = false from c2]; try rfl
theorem iCut (num : Int) {a b : Rng} (hb : ok64 b) : AFun Tryz.prog E 180 [.int .i64 num, .agg (encZ a), .agg (encZ b)] (.agg (encZ (cutP num a b))) := by
 have hb1 := hb.1; have hb2 := hb.2
 unfold is64 at hb1 hb2
 have hm : m64 = -9223372036854775808 := rfl
 have hM : M64 = 9223372036854775807 := rfl
 refine zx func180 rfl (by decide) rfl<|za<|z7 rfl<|yk (cs := _) rfl rfl rfl<|yk (cs := _) rfl rfl rfl<|zz (cs := [.int .i64 0, .int .i64 0]) zeroValue74 rfl rfl<|fun i6 => z6<|za<|za<|yt (γ := Bool) [0, 4, 5, 6] (fun u => [(12, .bool u)]) (fun u => [(i6, .cells 74 [.int .i64 0, .int .i64 0])]) (fun u => u = decide (a.2 < a.1 ∨ b.2 < b.1)) ?_ (fun _ _ h => h) ?_
 ·refine z7 rfl<|z2 (zr isAgg74 sizeOf74 rfl rfl)<|zh (iEmpty _) rfl<|z2 (zc (v := .bool _) rfl)<|y3 (s := 9) rfl (fun c2 => ?_) (fun c2 => ?_)
  ·refine z8 rfl rfl c2<|z8 rfl rfl c2<|z2 (zu (v := .bool _) rfl c2 rfl)<|z6 ?_
   exact ⟨_, ⟨rfl, rfl, rfl, rfl, trivial⟩, ⟨rfl, trivial⟩, ⟨_, (.refl _), rfl⟩, by simp_all <;> omega⟩
  ·refine zb rfl rfl c2<|z2 (zr isAgg74 sizeOf74 rfl rfl)<|zb rfl rfl c2<|zh (iEmpty _) rfl<|z2 (zt (v := .bool _) rfl c2 rfl)<|z6 ?_
   exact ⟨_, ⟨rfl, rfl, rfl, rfl, trivial⟩, ⟨rfl, trivial⟩, ⟨_, (.refl _), rfl⟩, by simp_all <;> omega⟩
 ·rintro u hu
  subst hu
  refine zy rfl (fun cn => ?_) (fun cn => ?_)
  ·refine za<|z7 rfl<|zh (iNone) rfl<|zj sizeOf74 rfl rfl rfl rfl rfl rfl .head rfl<|z6<|zo<|yq rfl ⟨_, .head⟩ isAgg74 sizeOf74 rfl ?_
   rw [cutP, if_pos cn]; try rfl
  ·rw [cutP, if_neg cn]
   refine zp<|za<|za<|z7 rfl<|z2 (zc (v := .int _ _) rfl)<|z6<|zq<|za<|z7 rfl<|z2 (yi rfl rfl)<|z2 (zd (v := .bool _) rfl)<|z6<|zy rfl (fun c0 => ?_) (fun c0 => ?_)
   ·refine za<|za<|z7 rfl<|z2 (zg underlying74 rfl sizeOf2 (by decide) rfl rfl)<|z2 (zf (c := .int _ _) isAgg2 rfl)<|z2 (yi rfl rfl)<|z6<|zy rfl (fun cm => ?_) (fun cm => ?_)
    ·refine za<|z7 rfl<|zh (iNone) rfl<|zj sizeOf74 rfl rfl rfl rfl rfl rfl .head rfl<|z6<|zo<|yq rfl ⟨_, .head⟩ isAgg74 sizeOf74 rfl ?_
     rw [if_pos c0, if_pos (show b.2 = m64 from cm)]; try rfl
    ·refine zp<|za<|z7 rfl<|z2 (zg underlying74 rfl sizeOf2 (by decide) rfl rfl)<|z2 (zf (c := .int _ _) isAgg2 rfl)<|z2 (zg underlying74 rfl sizeOf2 (by decide) rfl rfl)<|z2 (zf (c := .int _ _) isAgg2 rfl)<|z2 (zg underlying74 rfl sizeOf2 (by decide) rfl rfl)<|z2 (zf (c := .int _ _) isAgg2 rfl)<|z2 (Gv.sub rfl rfl (by unfold I64; omega))<|z2 (Gv.minI rfl rfl)<|zh (iMade _ _) rfl<|zj sizeOf74 rfl rfl rfl rfl rfl rfl .head rfl<|z6<|zo<|yq rfl ⟨_, .head⟩ isAgg74 sizeOf74 rfl ?_
     rw [if_pos c0, if_neg (show ¬ b.2 = m64 from cm)]; try rfl
   ·rw [if_neg c0]
    refine za<|z7 rfl<|z2 (yi rfl rfl)<|z2 (zd (v := .bool _) rfl)<|z6<|zy rfl (fun c1 => ?_) (fun c1 => ?_)
    ·refine za<|z7 rfl<|z2 (zg underlying74 rfl sizeOf2 (by decide) rfl rfl)<|z2 (zf (c := .int _ _) isAgg2 rfl)<|z2 (zg underlying74 rfl sizeOf2 (by decide) rfl rfl)<|z2 (zf (c := .int _ _) isAgg2 rfl)<|z2 (zg underlying74 rfl sizeOf2 (by decide) rfl rfl)<|z2 (zf (c := .int _ _) isAgg2 rfl)<|z2 (Gv.minI rfl rfl)<|zh (iMade _ _) rfl<|zj sizeOf74 rfl rfl rfl rfl rfl rfl .head rfl<|z6<|zo<|yq rfl ⟨_, .head⟩ isAgg74 sizeOf74 rfl ?_
     rw [if_pos c1]; try rfl
    ·rw [if_neg c1]
     refine za<|z7 rfl<|z2 (yi rfl rfl)<|z2 (zd (v := .bool _) rfl)<|z6<|zy rfl (fun c2 => ?_) (fun c2 => ?_)
     ·refine za<|z7 rfl<|z2 (zr isAgg74 sizeOf74 rfl rfl)<|z2 (zr isAgg74 sizeOf74 rfl rfl)<|zh (iMeet _ _) rfl<|zj sizeOf74 rfl rfl rfl rfl rfl rfl .head rfl<|z6<|zo<|yq rfl ⟨_, .head⟩ isAgg74 sizeOf74 rfl ?_
      rw [if_pos c2]; try rfl
     ·rw [if_neg c2]
      refine za<|z7 rfl<|z2 (yi rfl rfl)<|z2 (zd (v := .bool _) rfl)<|z6<|zy rfl (fun c3 => ?_) (fun c3 => ?_)
      ·refine za<|z7 rfl<|z2 (zg underlying74 rfl sizeOf2 (by decide) rfl rfl)<|z2 (zf (c := .int _ _) isAgg2 rfl)<|z2 (zg underlying74 rfl sizeOf2 (by decide) rfl rfl)<|z2 (zf (c := .int _ _) isAgg2 rfl)<|z2 (Gv.maxI rfl rfl)<|z2 (zg underlying74 rfl sizeOf2 (by decide) rfl rfl)<|z2 (zf (c := .int _ _) isAgg2 rfl)<|zh (iMade _ _) rfl<|zj sizeOf74 rfl rfl rfl rfl rfl rfl .head rfl<|z6<|zo<|yq rfl ⟨_, .head⟩ isAgg74 sizeOf74 rfl ?_
       rw [if_pos c3]; try rfl
      ·rw [if_neg c3]
       refine za<|z7 rfl<|z2 (yi rfl rfl)<|z2 (zd (v := .bool _) rfl)<|z6<|zy rfl (fun c4 => ?_) (fun c4 => ?_)
       ·refine za<|za<|z7 rfl<|z2 (zg underlying74 rfl sizeOf2 (by decide) rfl rfl)<|z2 (zf (c := .int _ _) isAgg2 rfl)<|z2 (yi rfl rfl)<|z6<|zy rfl (fun cm => ?_) (fun cm => ?_)
        ·refine za<|z7 rfl<|zh (iNone) rfl<|zj sizeOf74 rfl rfl rfl rfl rfl rfl .head rfl<|z6<|zo<|yq rfl ⟨_, .head⟩ isAgg74 sizeOf74 rfl ?_
         rw [if_pos c4, if_pos (show b.1 = M64 from cm)]; try rfl
        ·refine zp<|za<|z7 rfl<|z2 (zg underlying74 rfl sizeOf2 (by decide) rfl rfl)<|z2 (zf (c := .int _ _) isAgg2 rfl)<|z2 (zg underlying74 rfl sizeOf2 (by decide) rfl rfl)<|z2 (zf (c := .int _ _) isAgg2 rfl)<|z2 (yl rfl rfl (by unfold I64; omega))<|z2 (Gv.maxI rfl rfl)<|z2 (zg underlying74 rfl sizeOf2 (by decide) rfl rfl)<|z2 (zf (c := .int _ _) isAgg2 rfl)<|zh (iMade _ _) rfl<|zj sizeOf74 rfl rfl rfl rfl rfl rfl .head rfl<|z6<|zo<|yq rfl ⟨_, .head⟩ isAgg74 sizeOf74 rfl ?_
         rw [if_pos c4, if_neg (show ¬ b.1 = M64 from cm)]; try rfl
       ·refine zp<|za<|z7 rfl<|z2 (zr isAgg74 sizeOf74 rfl rfl)<|zj sizeOf74 rfl rfl rfl rfl rfl rfl .head rfl<|z6<|zo<|yq rfl ⟨_, .head⟩ isAgg74 sizeOf74 rfl ?_
        rw [if_neg c4]; try rfl
end Go.Proofs.YtjnpcfpecilejaaGreatDoor
namespace Go.Proofs.YtjnpcfpecilejaaGreatDoor
open Go.Proofs.Tryz
open Go.Proofs Go.Lib Go.Shelf Go.RowKit
variable {E : World}
set_option maxRecDepth 20000
theorem ra_at {rs : List Rng} {i : Nat} (h : i < rs.length) : rs[i]? = some (ra rs i) := by unfold ra; rw [List.getElem?_eq_getElem h]; rfl
def okRs (rs : List Rng) : Prop := ∀ r ∈ rs, ok64 r ∧ r.1 ≤ r.2
theorem okRs.at {rs : List Rng} (h : okRs rs) {i : Nat} (hi : i < rs.length) : ok64 (ra rs i) ∧ (ra rs i).1 ≤ (ra rs i).2 := by
 have := ra_at hi
 exact h _ (List.mem_of_getElem? this)
end Go.Proofs.YtjnpcfpecilejaaGreatDoor
namespace Go.Proofs.YtjnpcfpecilejaaGreatDoor
open Go.Proofs.Tryz
theorem flat_len1 {α β : Type} {g : α → List β} : ∀ {l : List α} {i : Nat} {x : α}, l[i]? = some x → (g x).length ≤ (l.flatMap g).length
 | y :: l, 0, x, h => by simp at h; subst h; rw [List.flatMap_cons, List.length_append]; omega
 | y :: l, i + 1, x, h => by
  have := flat_len1 (g := g) (l := l) (i := i) (x := x) (by simpa using h)
  rw [List.flatMap_cons, List.length_append]; omega
theorem mkBlk_len {f : PFunc} {v : Int} (hl : (makings f v).length ≤ 1) {i : Nat} {b : PBlock} (h : f.blocks[i]? = some b) : (mkBlk v i b).length ≤ 1 := by
 have h2 : f.blocks.zipIdx[i]? = some (b, i) := by rw [List.getElem?_zipIdx, h]; simp
 exact Nat.le_trans (flat_len1 (g := fun b : PBlock × Nat => mkBlk v (b.2 : Int) b.1) h2) hl
theorem phi_one {f : PFunc} {v : Int} (hl : (makings f v).length ≤ 1) {i : Nat} {b : PBlock} (h : f.blocks[i]? = some b) {p : PPhi} (hp : p ∈ b.phis) (hd : p.dst = v) : b.phis.filter (fun q => decide (q.dst = v)) = [p] := by
 have h1 := mkBlk_len hl h
 unfold mkBlk at h1
 rw [List.length_append, List.length_map] at h1
 have h2 : p ∈ b.phis.filter (fun q => decide (q.dst = v)) := List.mem_filter.2 ⟨hp, by simpa using hd⟩
 cases hf : b.phis.filter (fun q => decide (q.dst = v)) with
 | nil => rw [hf] at h2; cases h2
 | cons x l =>
  rw [hf] at h1 h2
  have : l = [] := List.eq_nil_of_length_eq_zero (by simp only [List.length_cons] at h1; omega)
  subst this
  simp at h2; rw [h2]
theorem phi_find {f : PFunc} {v : Int} (hl : (makings f v).length ≤ 1) {i : Nat} {b : PBlock} (h : f.blocks[i]? = some b) {p : PPhi} (hp : p ∈ b.phis) (hd : p.dst = v) : (b.phis.find? fun q => decide (q.dst = v)) = some p := by
 rw [← List.head?_filter, phi_one hl h hp hd]; rfl
def phiAcc (f : PFunc) (l : List Rng) (acc : Rng) (xs : List Int) : Rng := xs.foldl (fun acc v => rJoin acc (ofR f l v)) acc
theorem phiAcc_snoc (f : PFunc) (l : List Rng) (acc : Rng) (xs : List Int) (v : Int) : phiAcc f l acc (xs ++ [v]) = rJoin (phiAcc f l acc xs) (ofR f l v) := by unfold phiAcc; rw [List.foldl_append]; rfl
theorem rule_phi {f : PFunc} {chk : Int → Bool} {l : List Rng} {v : Int} (hl : (makings f v).length ≤ 1) {i : Nat} {b : PBlock} (h : f.blocks[i]? = some b) {p : PPhi} (hp : p ∈ b.phis) (hd : p.dst = v) (hm : makerT f v = ((i : Int), -1)) : ruleR f chk l v = phiAcc f l noR p.args := by
 unfold ruleR
 rw [hm]
 dsimp only
 rw [show (i : Int).toNat = i from rfl, h]
 dsimp only
 rw [if_neg (by decide), phi_find hl h hp hd]
 rfl
theorem rule_inst {f : PFunc} {chk : Int → Bool} {l : List Rng} {v : Int} {i k : Nat} {b : PBlock} (h : f.blocks[i]? = some b) {x : PInst} (hx : b.insts[k]? = some x) (hm : makerT f v = ((i : Int), (k : Int))) : ruleR f chk l v = instR f chk l x := by
 unfold ruleR
 rw [hm]
 dsimp only
 rw [show (i : Int).toNat = i from rfl, h]
 dsimp only
 rw [if_pos (by omega), show (k : Int).toNat = k from rfl, hx]
def firstR (f : PFunc) (v : Int) : Rng := if v < f.params.length then rType (tyV f v) else (0, 0)
def first0R (f : PFunc) (v : Int) : Rng := if (makerT f v).1 < 0 then firstR f v else noR
def firstL (f : PFunc) : List Rng := (List.range f.vars.length).map fun (v : Nat) => first0R f v
theorem firstL_len (f : PFunc) : (firstL f).length = f.vars.length := by simp [firstL]
theorem firstL_take {f : PFunc} {k : Nat} (h : k < f.vars.length) : (firstL f).take (k + 1) = (firstL f).take k ++ [first0R f k] := by
 rw [List.take_succ_eq_append_getElem (by rw [firstL_len]; exact h)]
 congr 1
 unfold firstL; simp
def madePh (b : PBlock) : List (Int × Bool) := b.phis.map fun p => (p.dst, true)
def madeIn (xs : List PInst) : List (Int × Bool) := (xs.filter fun x => decide (0 ≤ x.dst)).map fun x => (x.dst, false)
def madeTo (f : PFunc) (k : Nat) : List (Int × Bool) := (f.blocks.take k).flatMap fun b => madePh b ++ madeIn b.insts
def madeL (f : PFunc) : List (Int × Bool) := f.blocks.flatMap fun b => madePh b ++ madeIn b.insts
theorem madeTo_all (f : PFunc) : madeTo f f.blocks.length = madeL f := by unfold madeTo madeL; rw [List.take_length]
theorem madeTo_succ {f : PFunc} {k : Nat} (h : k < f.blocks.length) : madeTo f (k + 1) = madeTo f k ++ (madePh f.blocks[k] ++ madeIn f.blocks[k].insts) := by
 unfold madeTo; rw [List.take_succ_eq_append_getElem h, List.flatMap_append]; simp
theorem madePh_succ {b : PBlock} {j : Nat} (h : j < b.phis.length) : (b.phis.take (j + 1)).map (fun p => ((p.dst, true) : Int × Bool)) = (b.phis.take j).map (fun p => ((p.dst, true) : Int × Bool)) ++ [(b.phis[j].dst, true)] := by
 rw [List.take_succ_eq_append_getElem h, List.map_append]; rfl
theorem madeIn_succ {xs : List PInst} {j : Nat} (h : j < xs.length) : madeIn (xs.take (j + 1)) = madeIn (xs.take j) ++ if 0 ≤ xs[j].dst then [(xs[j].dst, false)] else [] := by
 unfold madeIn
 rw [List.take_succ_eq_append_getElem h, List.filter_append, List.map_append]
 congr 1
 by_cases c : 0 ≤ xs[j].dst
 ·rw [if_pos c]; simp [c]
 ·rw [if_neg c]; simp [c]
theorem mem_madeL {f : PFunc} {v : Int} {p : Bool} : (v, p) ∈ madeL f ↔ ∃ b ∈ f.blocks, (p = true ∧ ∃ q ∈ b.phis, q.dst = v) ∨ (p = false ∧ 0 ≤ v ∧ ∃ x ∈ b.insts, x.dst = v) := by
 unfold madeL
 rw [List.mem_flatMap]
 constructor
 ·rintro ⟨b, hb, h⟩
  refine ⟨b, hb, ?_⟩
  rcases List.mem_append.1 h with h | h
  ·obtain ⟨q, hq, e⟩ := List.mem_map.1 h
   simp only [Prod.mk.injEq] at e
   exact .inl ⟨e.2.symm, q, hq, e.1⟩
  ·obtain ⟨x, hx, e⟩ := List.mem_map.1 h
   obtain ⟨h1, h2⟩ := List.mem_filter.1 hx
   simp only [Prod.mk.injEq] at e
   exact .inr ⟨e.2.symm, by rw [← e.1]; simpa using h2, x, h1, e.1⟩
 ·rintro ⟨b, hb, h⟩
  refine ⟨b, hb, ?_⟩
  rcases h with ⟨rfl, q, hq, rfl⟩ | ⟨rfl, h0, x, hx, rfl⟩
  ·exact List.mem_append_left _ (List.mem_map.2 ⟨q, hq, rfl⟩)
  ·exact List.mem_append_right _ (List.mem_map.2 ⟨x, List.mem_filter.2 ⟨hx, by simpa using h0⟩, rfl⟩)
end Go.Proofs.YtjnpcfpecilejaaGreatDoor
