/- The document's table of blocks, its checks of sums; its rules. Of programs that are little. -/
import Derived.Test.YtjnpcfpecilejaaGreatDoorKo
import Derived.Test.YtjnpcfpecilejaaGreatDoorKf
import Derived.Test.YtjnpcfpecilejaaGreatDoorKn
import Derived.Test.YtjnpcfpecilejaaGreatDoorKm
import Derived.Test.YtjnpcfpecilejaaGreatDoorKe
set_option linter.unusedVariables false
set_option linter.unusedSimpArgs false
set_option linter.unusedSectionVars false
namespace Go.Proofs.YtjnpcfpecilejaaGreatDoor
open Go.Proofs.Tryz
theorem clipQ_ok (k : Nat) (a b : Rng) : ok64 (clipQ k a b) := by
 have g : ∀ x y, is64 (one3 k x y) := fun x y => one3_ok k x y
 have h := hull_least (g a.1 b.1) (g a.1 b.2) (g a.2 b.1) (g a.2 b.2)
 have h2 : (clipQ k a b).1 ≤ (clipQ k a b).2 := by
  unfold clipQ wideQ hullQ
  by_cases c1 : one3 k a.1 b.2 < one3 k a.1 b.1 <;> by_cases c2 : one3 k a.2 b.2 < one3 k a.2 b.1 <;> simp only [c1, c2, if_true, if_false] <;> (repeat' split) <;> omega
 have h3 : clipQ k a b = wideQ (hullQ (one3 k a.1 b.1) (one3 k a.1 b.2)) (hullQ (one3 k a.2 b.1) (one3 k a.2 b.2)) := rfl
 rw [← h3] at h
 unfold ok64 is64
 omega
theorem truQ_ok (n y : Bool) : ok64 (truQ n y) := by cases n <;> cases y <;> exact ⟨by decide, by decide⟩
theorem allR_ok : ok64 allR := ⟨by decide, by decide⟩
theorem noR_ok : ok64 noR := ⟨by decide, by decide⟩
theorem sumQ_ok (k : Nat) (a b : Rng) (c : Bool) : ok64 (sumQ k a b c) := by unfold sumQ; split; exact clipQ_ok k a b; exact allR_ok
theorem quoQ_ne (a b : Rng) : (quoQ a b).1 ≤ (quoQ a b).2 := by
 unfold quoQ wideQ hullQ
 by_cases c1 : a.1.tdiv b.2 < a.1.tdiv b.1 <;> by_cases c2 : a.2.tdiv b.2 < a.2.tdiv b.1 <;> simp only [c1, c2, if_true, if_false] <;> (repeat' split) <;> omega
theorem divQ_ok {a b : Rng} (ha : ok64 a) (hb : ok64 b) (na : a.1 ≤ a.2) (nb : b.1 ≤ b.2) : ok64 (divQ a b) := by
 by_cases hno : a.1 = m64 ∧ b.1 ≤ -1 ∧ -1 ≤ b.2
 ·have e : divQ a b = (m64, M64) := by unfold divQ; rw [if_pos hno]
  rw [e]; exact allR_ok
 ·by_cases hz : b.1 = 0 ∧ b.2 = 0
  ·have e : divQ a b = noR := by unfold divQ; rw [if_neg hno, if_pos hz]
   rw [e]; exact noR_ok
  ·have h := div_least (a := a) (b := b) (lo := -9223372036854775808) (hi := 9223372036854775807) (fun x y hx hy h0 => div_ok ha hb hx hy hno h0) na nb hno
   have hne : (divQ a b).1 ≤ (divQ a b).2 := by
    unfold divQ
    rw [if_neg hno, if_neg hz]
    split
    ·exact quoQ_ne _ _
    ·split
     ·exact quoQ_ne _ _
     ·have h1 := quoQ_ne a (b.1, -1)
      have h2 := quoQ_ne a (1, b.2)
      unfold wideQ
      (repeat' split) <;> omega
   unfold ok64 is64
   omega
theorem remQ_ok {a b : Rng} (ha : ok64 a) (hb : ok64 b) : ok64 (remQ a b) := by
 have h1 := ha.1; have h2 := ha.2; have h3 := hb.1; have h4 := hb.2
 unfold is64 at h1 h2 h3 h4
 unfold remQ
 split
 ·exact noR_ok
 ·rename_i hz
  have hk : 0 ≤ far b ∧ far b ≤ 9223372036854775807 := by unfold far imax; (repeat' split) <;> omega
  constructor
  ·unfold is64; dsimp only; unfold imax; (repeat' split) <;> omega
  ·unfold is64; dsimp only; unfold imin; (repeat' split) <;> omega
theorem m64_ok : is64 m64 := by decide
theorem M64_ok : is64 M64 := by decide
theorem cutQ_ok {num : Int} {a b : Rng} (ha : ok64 a) (hb : ok64 b) : ok64 (cutQ num a b) := by
 have h3 := hb.1; have h4 := hb.2
 unfold is64 at h3 h4
 unfold cutQ
 split
 ·split
  ·exact noR_ok
  ·rename_i h
   exact rMeet_ok ha ⟨m64_ok, by unfold m64 at h; unfold is64; dsimp only; omega⟩
 ·split
  ·exact rMeet_ok ha ⟨m64_ok, hb.2⟩
  ·split
   ·exact rMeet_ok ha hb
   ·split
    ·exact rMeet_ok ha ⟨hb.1, M64_ok⟩
    ·split
     ·split
      ·exact noR_ok
      ·rename_i h
       exact rMeet_ok ha ⟨by unfold M64 at h; unfold is64; dsimp only; omega, M64_ok⟩
     ·exact ha
theorem rOf_ok {n : Int} (h : is64 n) : ok64 (rOf n) := ⟨h, h⟩
theorem instQ_ok {op num : Int} {rs : List Rng} {chk : Bool} (h0 : ok64 (ra rs 0)) (h1 : ok64 (ra rs 1)) (n0 : (ra rs 0).1 ≤ (ra rs 0).2) (n1 : (ra rs 1).1 ≤ (ra rs 1).2) (hnum : is64 num) : ok64 (instQ op num rs chk) := by
 unfold instQ
 by_cases c0 : op = 0
 ·rw [if_pos c0]; exact rOf_ok hnum
 rw [if_neg c0]
 by_cases c1 : op = 1 ∨ op = 12
 ·rw [if_pos c1]; exact h0
 rw [if_neg c1]
 by_cases c2 : op = 2
 ·rw [if_pos c2]; exact sumQ_ok _ _ _ _
 rw [if_neg c2]
 by_cases c3 : op = 3
 ·rw [if_pos c3]; exact sumQ_ok _ _ _ _
 rw [if_neg c3]
 by_cases c4 : op = 4
 ·rw [if_pos c4]; exact sumQ_ok _ _ _ _
 rw [if_neg c4]
 by_cases c5 : op = 5
 ·rw [if_pos c5]; exact divQ_ok h0 h1 n0 n1
 rw [if_neg c5]
 by_cases c6 : op = 6
 ·rw [if_pos c6]; exact remQ_ok h0 h1
 rw [if_neg c6]
 by_cases c7 : op = 7
 ·rw [if_pos c7]; exact truQ_ok _ _
 rw [if_neg c7]
 by_cases c8 : op = 8
 ·rw [if_pos c8]; exact truQ_ok _ _
 rw [if_neg c8]
 by_cases c9 : op = 9
 ·rw [if_pos c9]; exact truQ_ok _ _
 rw [if_neg c9]
 by_cases c10 : op = 10
 ·rw [if_pos c10]; exact truQ_ok _ _
 rw [if_neg c10]
 by_cases c11 : op = 11
 ·rw [if_pos c11]; exact truQ_ok _ _
 rw [if_neg c11]
 by_cases c15 : op = 15
 ·rw [if_pos c15]; exact rMeet_ok h0 ⟨by decide, by decide⟩
 rw [if_neg c15]
 by_cases c16 : op = 16
 ·rw [if_pos c16]; exact rOf_ok (by decide)
 rw [if_neg c16]
 by_cases c25 : op = 25
 ·rw [if_pos c25]; exact cutQ_ok h0 h1
 rw [if_neg c25]
 by_cases c26 : op = 26
 ·rw [if_pos c26]; exact cutQ_ok (rMeet_ok h0 ⟨by decide, by decide⟩) h1
 rw [if_neg c26]
 exact allR_ok
def tyV (f : PFunc) (v : Int) : Int := ((f.vars[v.toNat]?).map (·.ty)).getD 0
def ofR (f : PFunc) (l : List Rng) (v : Int) : Rng := rMeet (lv l v) (rType (tyV f v))
def phiR (f : PFunc) (l : List Rng) (p : PPhi) : Rng := p.args.foldl (fun acc v => rJoin acc (ofR f l v)) noR
def argsR (f : PFunc) (l : List Rng) (x : PInst) : List Rng := x.args.map (ofR f l)
def rEmp (r : Rng) : Bool := decide (r.2 < r.1)
def instR (f : PFunc) (chk : Int → Bool) (l : List Rng) (x : PInst) : Rng := if (argsR f l x).any rEmp then noR else instQ x.op x.num (argsR f l x) (chk x.dst)
def ruleR (f : PFunc) (chk : Int → Bool) (l : List Rng) (v : Int) : Rng :=
 let m := makerT f v
 match f.blocks[m.1.toNat]? with
 | none => noR
 | some b => if 0 ≤ m.2 then (match b.insts[m.2.toNat]? with | none => noR | some x => instR f chk l x) else (match b.phis.find? fun p => decide (p.dst = v) with | none => noR | some p => phiR f l p)
theorem ofR_ok {f : PFunc} {l : List Rng} (h : ∀ u : Int, 0 ≤ u → ok64 (lv l u)) {v : Int} (hv : 0 ≤ v) : ok64 (ofR f l v) := rMeet_ok (h v hv) (rType_ok _)
theorem ofR_mono {f : PFunc} {l l' : List Rng} {v : Int} (h : rSub (lv l v) (lv l' v)) : rSub (ofR f l v) (ofR f l' v) := meet_mono h (rSub.refl _)
theorem ofR_ty {f : PFunc} {l : List Rng} {v : Int} (h : tyV f v = 1) (hn : (ofR f l v).1 ≤ (ofR f l v).2) : 0 ≤ (ofR f l v).1 ∧ (ofR f l v).2 ≤ 1 := by
 have := (meet_sub (a := lv l v) (b := rType (tyV f v))).2
 rw [h] at this
 unfold ofR at hn ⊢
 rw [h] at hn ⊢
 have e : rType 1 = (0, 1) := rfl
 rw [e] at this hn ⊢
 rcases this with h1 | h1
 ·omega
 ·exact h1
theorem phi_fold_mono {f : PFunc} {l l' : List Rng} (h : ∀ u : Int, 0 ≤ u → rSub (lv l u) (lv l' u)) : ∀ (az : List Int) (r r' : Rng), (∀ a ∈ az, 0 ≤ a) → rSub r r' → rSub (az.foldl (fun acc v => rJoin acc (ofR f l v)) r) (az.foldl (fun acc v => rJoin acc (ofR f l' v)) r')
 | [], _, _, _, hr => hr
 | a :: az, r, r', ha, hr => phi_fold_mono h az _ _ (fun x hx => ha x (.tail _ hx)) (join_mono hr (ofR_mono (h a (ha a (.head _)))))
theorem phi_fold_ok {f : PFunc} {l : List Rng} (h : ∀ u : Int, 0 ≤ u → ok64 (lv l u)) : ∀ (az : List Int) (r : Rng), (∀ a ∈ az, 0 ≤ a) → ok64 r → ok64 (az.foldl (fun acc v => rJoin acc (ofR f l v)) r)
 | [], _, _, hr => hr
 | a :: az, r, ha, hr => phi_fold_ok h az _ (fun x hx => ha x (.tail _ hx)) (rJoin_ok hr (ofR_ok h (ha a (.head _))))
theorem ra_map {f : PFunc} {l : List Rng} {x : PInst} (i : Nat) : ra (argsR f l x) i = match x.args[i]? with | some v => ofR f l v | none => (0, 0) := by
 unfold ra argsR
 rw [qp]
 cases x.args[i]? <;> rfl
structure RuleOk (f : PFunc) : Prop where
 args : ∀ b ∈ f.blocks, ∀ x ∈ b.insts, ∀ v ∈ x.args, 0 ≤ v
 pargs : ∀ b ∈ f.blocks, ∀ p ∈ b.phis, ∀ v ∈ p.args, 0 ≤ v
 bool : ∀ b ∈ f.blocks, ∀ x ∈ b.insts, x.op = 10 ∨ x.op = 11 → ∀ v ∈ x.args, tyV f v = 1
 two : ∀ b ∈ f.blocks, ∀ x ∈ b.insts, (x.op = 10 → 1 ≤ x.args.length) ∧ (x.op = 11 → 2 ≤ x.args.length)
 num : ∀ b ∈ f.blocks, ∀ x ∈ b.insts, is64 x.num
theorem instR_mono {f : PFunc} (hf : RuleOk f) {chk : Int → Bool} {l l' : List Rng} (h : ∀ u : Int, 0 ≤ u → rSub (lv l u) (lv l' u)) (ho : ∀ u : Int, 0 ≤ u → ok64 (lv l u)) (ho' : ∀ u : Int, 0 ≤ u → ok64 (lv l' u)) {b : PBlock} (hb : b ∈ f.blocks) {x : PInst} (hx : x ∈ b.insts) : rSub (instR f chk l x) (instR f chk l' x) := by
 unfold instR
 by_cases he : (argsR f l x).any rEmp = true
 ·rw [if_pos he]; left; decide
 ·rw [if_neg he]
  have hne : ∀ v ∈ x.args, (ofR f l v).1 ≤ (ofR f l v).2 := fun v hv => by
   refine Classical.byContradiction fun hn => he (List.any_eq_true.2 ⟨ofR f l v, List.mem_map.2 ⟨v, hv, rfl⟩, ?_⟩)
   unfold rEmp; simp; omega
  have hless : ∀ v ∈ x.args, Less (ofR f l v) (ofR f l' v) := fun v hv => by
   have h0 := hf.args b hb x hx v hv
   have h1 := ofR_mono (f := f) (h v h0)
   have h2 := hne v hv
   refine ⟨ofR_ok ho h0, ofR_ok ho' h0, h2, ?_⟩
   rcases h1 with h1 | h1
   ·omega
   ·exact h1
  have he' : ¬ (argsR f l' x).any rEmp = true := fun h' => by
   obtain ⟨r, hr, h2⟩ := List.any_eq_true.1 h'
   obtain ⟨v, hv, rfl⟩ := List.mem_map.1 hr
   have h3 := hless v hv
   have h4 := h3.ne; have h5 := h3.sub
   unfold rEmp at h2
   simp at h2
   omega
  rw [if_neg he']
  have hra : ∀ i, Less (ra (argsR f l x) i) (ra (argsR f l' x) i) := fun i => by
   rw [ra_map, ra_map]
   cases hi : x.args[i]? with
   | none => exact Less.zero
   | some v => exact hless v (qr hi)
  have hbool : x.op = 10 ∨ x.op = 11 → ∀ i v, x.args[i]? = some v → 0 ≤ (ra (argsR f l' x) i).1 ∧ (ra (argsR f l' x) i).2 ≤ 1 := fun ho2 i v hi => by
   rw [ra_map, hi]
   have hv := qr hi
   have h3 := hless v hv
   have h4 := h3.ne; have h5 := h3.sub
   exact ofR_ty (hf.bool b hb x hx ho2 v hv) (by omega)
  have htwo := hf.two b hb x hx
  refine inst_mono (hra 0) (hra 1) (fun ho2=>?_) (fun ho2=>?_)
  ·have hl : 0 < x.args.length := by
    rcases ho2 with h | h
    ·have := htwo.1 h; omega
    ·have := htwo.2 h; omega
   exact hbool ho2 0 _ (qh hl)
  ·exact hbool (.inr ho2) 1 _ (qh (by have := htwo.2 ho2; omega))
theorem instR_ok {f : PFunc} (hf : RuleOk f) {chk : Int → Bool} {l : List Rng} (ho : ∀ u : Int, 0 ≤ u → ok64 (lv l u)) {b : PBlock} (hb : b ∈ f.blocks) {x : PInst} (hx : x ∈ b.insts) : ok64 (instR f chk l x) := by
 unfold instR
 by_cases he : (argsR f l x).any rEmp = true
 ·rw [if_pos he]; exact noR_ok
 ·rw [if_neg he]
  have hra : ∀ i, ok64 (ra (argsR f l x) i) ∧ (ra (argsR f l x) i).1 ≤ (ra (argsR f l x) i).2 := fun i => by
   rw [ra_map]
   cases hi : x.args[i]? with
   | none => exact (show ok64 (0, 0) ∧ (0 : Int) ≤ 0 from ⟨⟨by decide, by decide⟩, by decide⟩)
   | some v =>
    have hv := qr hi
    refine ⟨ofR_ok ho (hf.args b hb x hx v hv), Classical.byContradiction fun hn => he (List.any_eq_true.2 ⟨ofR f l v, List.mem_map.2 ⟨v, hv, rfl⟩, ?_⟩)⟩
    dsimp only at hn
    unfold rEmp; simp; omega
  exact instQ_ok (hra 0).1 (hra 1).1 (hra 0).2 (hra 1).2 (hf.num b hb x hx)
theorem ruleR_rules {f : PFunc} (hf : RuleOk f) (chk : Int → Bool) {vs : List Int} (hv : ∀ v ∈ vs, 0 ≤ v ∧ v < f.vars.length) : Rules f.vars.length (ruleR f chk) vs := by
 refine ⟨fun l l' v _ _ h ho ho' _ => ?_, fun l v _ ho _ => ?_, hv⟩
 ·unfold ruleR
  dsimp only
  cases hb : f.blocks[(makerT f v).1.toNat]? with
  | none => exact rSub.refl _
  | some b =>
   have hbm := qr hb
   dsimp only
   split
   ·cases hx : b.insts[(makerT f v).2.toNat]? with
    | none => exact rSub.refl _
    | some x => exact instR_mono hf h ho ho' hbm (qr hx)
   ·cases hp : b.phis.find? fun p => decide (p.dst = v) with
    | none => exact rSub.refl _
    | some p =>
     have hpm := List.mem_of_find?_eq_some hp
     exact phi_fold_mono h p.args noR noR (hf.pargs b hbm p hpm) (rSub.refl _)
 ·unfold ruleR
  dsimp only
  cases hb : f.blocks[(makerT f v).1.toNat]? with
  | none => exact noR_ok
  | some b =>
   have hbm := qr hb
   dsimp only
   split
   ·cases hx : b.insts[(makerT f v).2.toNat]? with
    | none => exact noR_ok
    | some x => exact instR_ok hf ho hbm (qr hx)
   ·cases hp : b.phis.find? fun p => decide (p.dst = v) with
    | none => exact noR_ok
    | some p =>
     have hpm := List.mem_of_find?_eq_some hp
     exact phi_fold_ok ho p.args noR (hf.pargs b hbm p hpm) noR_ok
end Go.Proofs.YtjnpcfpecilejaaGreatDoor
namespace Go.Proofs.YtjnpcfpecilejaaGreatDoor
open Go.Proofs.Tryz
theorem reach_gb (E : Int → List Int) {n b : Nat} (hb : b < n) (s : Int) : (reachT E n s)[b]? = some (gb (reachT E n s) b) := gb_some (by rw [reachT_len]; exact hb)
theorem gb_reach {E : Int → List Int} {n b : Nat} (hb : b < n) (s : Int) : gb (reachT E n s) b = true ↔ Way E (fun x => x ≠ s) 0 b := by
 rw [gb_nat, reachT_get hb]; simp
theorem way_all2 {E : Int → List Int} {n : Nat} (hE : Grph E n) {b : Int} : Way E (fun x => x ≠ -1) 0 b ↔ Rch E b := by
 constructor
 ·exact fun h => h.mono fun _ _ => trivial
 ·intro h
  have h2 : ∀ c, Rch E c → (0 : Int) ≤ c := fun c hc => (order_rng hE.toEOk ((order_mem hE.toEOk c).2 hc)).1
  have := Way.self h
  exact this.mono fun x hx => by have := h2 x hx.2; omega
theorem dom_cell {E : Int → List Int} {n a b : Nat} (hE : Grph E n) (ha : a < n) (hb : b < n) (hra : gb (reachT E n (-1)) a = true) :
  (gb (reachT E n (-1)) b && (decide ((a : Int) = (b : Int)) || !gb (reachT E n a) b)) = domB E n a b := by
 rw [qq, hE.domB_iff]
 simp only [qw, Bool.or_eq_true, Bool.not_eq_true', qy]
 rw [gb_reach hb, way_all2 hE, ← Bool.not_eq_true, gb_reach hb]
 unfold Dom
 constructor
 ·rintro ⟨h1, h2⟩
  refine ⟨h1, ?_⟩
  rcases h2 with h2 | h2
  ·rw [h2]; exact fun hw => hw.end_ rfl
  ·exact h2
 ·rintro ⟨h1, h2⟩
  exact ⟨h1, .inr h2⟩
theorem dom_none {E : Int → List Int} {n a b : Nat} (hE : Grph E n) (ha : a < n) (hra : gb (reachT E n (-1)) a = false) : domB E n a b = false := by
 rw [← Bool.not_eq_true, hE.domB_iff]
 intro h
 have := h.rch
 rw [← way_all2 hE, ← gb_reach ha, hra] at this
 cases this
def rowTo (f : PFunc) (a k : Nat) : List Bool := (List.range f.blocks.length).map fun b => decide (b < k) && domB (EndsOf f) f.blocks.length a b
def rowR (f : PFunc) (a : Nat) : List Bool := (List.range f.blocks.length).map fun (b : Nat) => domB (EndsOf f) f.blocks.length a b
def tabR (f : PFunc) : List (List Bool) := (List.range f.blocks.length).map (rowR f)
theorem rowTo_len (f : PFunc) (a k : Nat) : (rowTo f a k).length = f.blocks.length := by simp [rowTo]
theorem rowTo_zero (f : PFunc) (a : Nat) : List.replicate f.blocks.length false = rowTo f a 0 := by
 unfold rowTo
 apply List.ext_getElem
 ·simp
 ·intro i h1 h2; simp
theorem rowTo_succ {f : PFunc} {a k : Nat} : (rowTo f a k).set k (domB (EndsOf f) f.blocks.length a k) = rowTo f a (k + 1) := by
 apply List.ext_getElem?
 intro i
 rw [List.getElem?_set]
 unfold rowTo
 by_cases hi : i < f.blocks.length
 ·by_cases e : k = i
  ·subst e
   rw [if_pos rfl, if_pos (by simpa using hi), qp, List.getElem?_range hi]; simp
  ·rw [if_neg e, qp, qp, List.getElem?_range hi]
   simp only [Option.map_some]
   congr 2
   exact decide_eq_decide.2 (by omega)
 ·by_cases e : k = i
  ·subst e
   rw [if_pos rfl, if_neg (by simpa using hi), qp, List.getElem?_eq_none (by simpa using hi)]; rfl
  ·rw [if_neg e, qp, qp, List.getElem?_eq_none (by simpa using hi)]; rfl
theorem rowTo_all (f : PFunc) (a : Nat) : rowTo f a f.blocks.length = rowR f a := by
 unfold rowTo rowR
 apply List.map_congr_left
 intro b hb
 rw [qu (List.mem_range.1 hb), Bool.true_and]
theorem row_none {f : PFunc} {a : Nat} (hE : Grph (EndsOf f) f.blocks.length) (ha : a < f.blocks.length) (hra : gb (reachT (EndsOf f) f.blocks.length (-1)) a = false) : rowTo f a 0 = rowR f a := by
 unfold rowTo rowR
 apply List.map_congr_left
 intro b hb
 rw [dom_none hE ha hra]; rfl
theorem rowR_len (f : PFunc) (a : Nat) : (rowR f a).length = f.blocks.length := by simp [rowR]
theorem tabR_len (f : PFunc) : (tabR f).length = f.blocks.length := by simp [tabR]
theorem tabR_get {f : PFunc} {a : Nat} (h : a < f.blocks.length) : (tabR f)[a]? = some (rowR f a) := by unfold tabR; rw [qp, List.getElem?_range h]; rfl
theorem rowR_get {f : PFunc} {a b : Nat} (h : b < f.blocks.length) : (rowR f a)[b]? = some (domB (EndsOf f) f.blocks.length a b) := by unfold rowR; rw [qp, List.getElem?_range h]; rfl
theorem tabR_take {f : PFunc} {k : Nat} (h : k < f.blocks.length) : (tabR f).take (k + 1) = (tabR f).take k ++ [rowR f k] := by
 rw [qi (by rw [tabR_len]; exact h)]
 have := tabR_get h
 rw [qh (by rw [tabR_len]; exact h)] at this
 rw [Option.some.inj this]
def chkQ (f : PFunc) (op : Int) (args : List Int) (i : Nat) (block at_ : Int) (q : PInst × Nat) : Bool := decide (q.1.op = op) && decide (q.1.args = args) && aheadB f ((i : Int), (q.2 : Int)) block at_
def chkI (f : PFunc) (op : Int) (args : List Int) (block at_ : Int) (i : Nat) : Bool := ((f.blocks[i]?).map fun b => b.insts.zipIdx.any (chkQ f op args i block at_)).getD false
def chkW (f : PFunc) (op : Int) (args : List Int) (block at_ : Int) : Bool := (List.range f.blocks.length).any (chkI f op args block at_)
def isSum (op : Int) : Bool := decide (op = 2 ∨ op = 3 ∨ op = 4)
def chkX (f : PFunc) (x : PInst) (block at_ : Int) : Bool := isSum x.op && chkW f (x.op + 19) x.args block at_
def instAt (f : PFunc) (m : Plc) : Option PInst := if 0 ≤ m.1 ∧ 0 ≤ m.2 then (f.blocks[m.1.toNat]?).bind fun b => b.insts[m.2.toNat]? else none
def chkV (f : PFunc) (v : Int) : Bool := ((instAt f (makerT f v)).map fun x => chkX f x (makerT f v).1 (makerT f v).2).getD false
theorem chkI_at {f : PFunc} {op : Int} {args : List Int} {block at_ : Int} {i : Nat} {b : PBlock} (h : f.blocks[i]? = some b) : chkI f op args block at_ i = b.insts.zipIdx.any (chkQ f op args i block at_) := by unfold chkI; rw [h]; rfl
theorem range_any_succ {p : Nat → Bool} {k : Nat} (h : (List.range k).any p = false) (hk : p k = false) : (List.range (k + 1)).any p = false := by rw [List.range_succ, List.any_append, h]; simp [hk]
theorem range_any_hit {p : Nat → Bool} {k n : Nat} (hk : k < n) (h : p k = true) : (List.range n).any p = true := List.any_eq_true.2 ⟨k, List.mem_range.2 hk, h⟩
theorem any_take {α : Type} {p : α → Bool} {l : List α} {k : Nat} (h : k < l.length) (h1 : (l.take k).any p = false) (h2 : p l[k] = false) : (l.take (k + 1)).any p = false := by
 rw [qi h, List.any_append, h1]; simp [h2]
theorem any_hit {α : Type} {p : α → Bool} {l : List α} {k : Nat} (h : k < l.length) (h2 : p l[k] = true) : l.any p = true := List.any_eq_true.2 ⟨_, ql h, h2⟩
theorem mem_mkBlk {v i : Int} {b : PBlock} {m : Plc} : m ∈ mkBlk v i b ↔ (∃ p ∈ b.phis, p.dst = v ∧ m = (i, -1)) ∨ ∃ (k : Nat) (x : PInst), b.insts[k]? = some x ∧ x.dst = v ∧ m = (i, (k : Int)) := by
 unfold mkBlk
 rw [List.mem_append]
 constructor
 ·rintro (h | h)
  ·obtain ⟨p, hp, e⟩ := List.mem_map.1 h
   obtain ⟨h1, h2⟩ := List.mem_filter.1 hp
   exact .inl ⟨p, h1, by simpa using h2, e.symm⟩
  ·obtain ⟨q, hq, e⟩ := List.mem_map.1 h
   obtain ⟨h1, h2⟩ := List.mem_filter.1 hq
   obtain ⟨x, k⟩ := q
   have := List.mem_zipIdx_iff_getElem?.1 h1
   exact .inr ⟨k, x, this, by simpa using h2, e.symm⟩
 ·rintro (⟨p, h1, h2, rfl⟩ | ⟨k, x, h1, h2, rfl⟩)
  ·exact .inl (List.mem_map.2 ⟨p, List.mem_filter.2 ⟨h1, by simpa using h2⟩, rfl⟩)
  ·exact .inr (List.mem_map.2 ⟨(x, k), List.mem_filter.2 ⟨List.mem_zipIdx_iff_getElem?.2 h1, by simpa using h2⟩, rfl⟩)
theorem mem_makings {f : PFunc} {v : Int} {m : Plc} : m ∈ makings f v ↔ ∃ (i : Nat) (b : PBlock), f.blocks[i]? = some b ∧ m ∈ mkBlk v i b := by
 unfold makings
 rw [List.mem_flatMap]
 constructor
 ·rintro ⟨⟨b, i⟩, h1, h2⟩; exact ⟨i, b, List.mem_zipIdx_iff_getElem?.1 h1, h2⟩
 ·rintro ⟨i, b, h1, h2⟩; exact ⟨(b, i), List.mem_zipIdx_iff_getElem?.2 h1, h2⟩
theorem maker_mem {f : PFunc} {v : Int} (h : 0 ≤ (makerT f v).1) : makerT f v ∈ makings f v := by
 unfold makerT at h ⊢
 cases hm : makings f v with
 | nil => rw [hm] at h; simp at h
 | cons x l => simp
theorem maker_eq {f : PFunc} {v : Int} {m : Plc} (hl : (makings f v).length ≤ 1) (h : m ∈ makings f v) : makerT f v = m := by
 unfold makerT
 cases hm : makings f v with
 | nil => rw [hm] at h; cases h
 | cons x l =>
  rw [hm] at h hl
  cases l with
  | nil => simp at h; simp [h]
  | cons y l => simp at hl
theorem maker_cases {f : PFunc} {v : Int} (h : 0 ≤ (makerT f v).1) : ∃ (i : Nat) (b : PBlock), f.blocks[i]? = some b ∧ ((∃ p ∈ b.phis, p.dst = v ∧ makerT f v = ((i : Int), -1)) ∨ ∃ (k : Nat) (x : PInst), b.insts[k]? = some x ∧ x.dst = v ∧ makerT f v = ((i : Int), (k : Int))) := by
 obtain ⟨i, b, h1, h2⟩ := mem_makings.1 (maker_mem h)
 exact ⟨i, b, h1, mem_mkBlk.1 h2⟩
theorem chkV_at {f : PFunc} {v : Int} {i k : Nat} {b : PBlock} {x : PInst} (hb : f.blocks[i]? = some b) (hx : b.insts[k]? = some x) (hm : makerT f v = ((i : Int), (k : Int))) : chkV f v = chkX f x i k := by
 unfold chkV instAt
 rw [hm, if_pos ⟨by dsimp only; omega, by dsimp only; omega⟩]
 show (((f.blocks[i]?).bind fun b => b.insts[k]?).map fun x => chkX f x i k).getD false = _
 rw [hb]; show ((b.insts[k]?).map _).getD false = _
 rw [hx]; rfl
end Go.Proofs.YtjnpcfpecilejaaGreatDoor
namespace Go.Proofs.YtjnpcfpecilejaaGreatDoor
open Go.Proofs.Tryz
open Go.Proofs Go.Lib Go.Shelf Go.RowKit
theorem ps82_1 : PlacesS prog 82 111 1 1 [.raw (.slice none 0 0)] := ⟨_, underlying82, sizeOf111, zeroValue111, by decide, by decide, by kernel_rfl⟩
variable {E : World}
set_option maxRecDepth 20000
def outC (rows : List (List Bool)) : List AV := (rows.map fun r => [AV.fro 1 (r.map encB)]).flatten
theorem outC_push (rows : List (List Bool)) (r : List Bool) : outC rows ++ [AV.fro 1 (r.map encB)] = outC (rows ++ [r]) := by unfold outC; simp
theorem outC_len (rows : List (List Bool)) : (outC rows).length = rows.length := by unfold outC; induction rows with
 | nil => rfl
 | cons r rows ih => simp only [List.map_cons, List.flatten_cons, qn, ih, List.length_cons, List.length_nil]; omega
def froB (rows : List (List Bool)) : AV := .fro 1 (rows.map fun r => [AV.fro 1 (r.map encB)])
set_option maxHeartbeats 4000000 in
theorem refTable_spec (f : PFunc) (hE : EndsOk f) (hn : f.blocks.length ≤ 1000) : AFun prog E 42 [.agg (encF f)] (froB (tabR f)) := by
 have hG := hE.grph
 refine zn func42 rfl (by decide) rfl<|zSr<|y1 (cs := _) rfl rfl rfl<|z2 (zAr rfl)<|z6<|zSr<|z2 (zh isAgg26 sizeOf26 rfl rfl)<|zb (reached_spec f hE hn (-1)) rfl<|z2 (zAf rfl)<|z6<|zSr<|z2 (zAr rfl)<|z6<|za<|zSr<|z2 (zFF underlying26 rfl sizeOf24 rfl rfl)<|z2 (zLf isAgg24 rfl)<|z2 (zz underlying24 rfl)<|z2 (zMi rfl)<|z6<|adopt_wp (t := 4) (k := 1) (T := 111) rfl<|fun i4 => zi<|y6 (γ := Nat × Nat) [1, 3, 13] (fun g => [(14, .int .i64 g.1), (4, .own g.2 g.1)]) (fun g => [(g.2, .grow 1 111 (outC ((tabR f).take g.1)))]) (fun g => g.1 ≤ f.blocks.length) (fun g => f.blocks.length - g.1) (0, i4) zR2 zLe (qk _) ?_
 rintro ⟨k, io⟩ hk
 try dsimp only at *
 refine zSr<|z2 (y7 rfl rfl)<|z6<|za<|zl rfl (fun ck=>?_) (fun ck=>?_)
 ·have hk2 : k < f.blocks.length := by simp at ck; omega
  have hgk := reach_gb (EndsOf f) hk2 (-1)
  refine zf<|za<|zi<|zSr<|z2 (zMi rfl)<|z2 (zAi rfl)<|z6<|zSr<|z2 (zFF underlying26 rfl sizeOf24 rfl rfl)<|z2 (zLf isAgg24 rfl)<|z2 (zz underlying24 rfl)<|AOps.makeB (m := f.blocks.length) underlying111 type4 rfl rfl rfl rfl rfl (by simp) (by simp) (by show (1 : Int) * _ ≤ _; omega) (by omega)<|fun i20 => z2 (zAo rfl)<|z6<|za<|zSr<|z2 (zMf rfl)<|z2 (zMi rfl)<|z2 (zIM k underlying111 sizeOf4 rfl rfl rfl hgk)<|z2 (yz (c := .bool _) isAgg4 rfl)<|z6<|yb (γ := Nat) [1, 3, 4, 13, 14] (fun q => [(6, .own q f.blocks.length)]) (fun q => [(q, .grow 1 4 (cB (rowR f k))), (io, .grow 1 111 (outC ((tabR f).take k)))]) (fun q => True) ?_ (fun _ _ h => h) ?_
  ·refine zy rfl (fun cr=>?_) (fun cr=>?_)
   ·have hra : gb (reachT (EndsOf f) f.blocks.length (-1)) (k : Int) = true := cr
    refine zSr<|z2 (zh isAgg26 sizeOf26 rfl rfl)<|z2 (zMi rfl)<|zb (reached_spec f hE hn (k : Int)) rfl<|z2 (zAf rfl)<|z6<|zSr<|z2 (zMo rfl)<|z2 (Gv.lenO underlying111 rfl)<|z2 (zMi rfl)<|z6<|zi<|y6 (γ := Nat) [1, 3, 4, 5, 6, 7, 13, 14, 29] (fun j => [(30, .int .i64 j)]) (fun j => [(i20, .grow 1 4 (cB (rowTo f k j))), (io, .grow 1 111 (outC ((tabR f).take k)))]) (fun j => j ≤ f.blocks.length) (fun j => f.blocks.length - j) 0 zR1 ⟨_, (.refl _), by rw [← rowTo_zero]⟩ (qk _) ?_
    rintro j hj
    refine zSr<|z2 (y7 rfl rfl)<|z6<|za<|zl rfl (fun cj=>?_) (fun cj=>?_)
    ·have hj2 : j < f.blocks.length := by simp at cj; omega
     have hgj := reach_gb (EndsOf f) hj2 (-1)
     have hgl := reach_gb (EndsOf f) hj2 (k : Int)
     have hcell := dom_cell hG hk2 hj2 hra
     refine zf<|za<|zi<|zSr<|z2 (zMi rfl)<|z2 (zAi rfl)<|z6<|zRg<|z2 (zMo rfl)<|z2 (zMi rfl)<|z2 (zMf rfl)<|z2 (zMi rfl)<|z2 (zIM j underlying111 sizeOf4 rfl rfl rfl hgj)<|z2 (yz (c := .bool _) isAgg4 rfl)<|z2 (zMb rfl)<|zr (s := 39) rfl (fun c1=>?_) (fun c1=>?_)
     ·have d1 : gb (reachT (EndsOf f) f.blocks.length (-1)) (j : Int) = true := c1
      refine z8 rfl rfl c1<|z2 (zMi rfl)<|z8 rfl rfl c1<|z2 (zMi rfl)<|z8 rfl rfl c1<|z2 (zw rfl rfl)<|z8 rfl rfl c1<|z2 (zMb rfl)<|zr (s := 43) rfl (fun c2=>?_) (fun c2=>?_)
      ·refine z7 rfl rfl c2<|z7 rfl rfl c2<|z7 rfl rfl c2<|z7 rfl rfl c2<|z7 rfl rfl c2<|z8 rfl rfl c1<|z2 (zPt rfl c2 rfl)<|z2 (zPt rfl c1 rfl)<|z2 (yw (j := j) underlying111 sizeOf4 rfl rfl rfl ⟨_, .head⟩ (by rw [cB_len, rowTo_len]) hj2)<|AOps.storeB (j := j) sizeOf4 rfl rfl .head (by rw [rowTo_len]; exact hj2)<|z6<|zRg<|z2 (zAd rfl rfl)<|z2 (zMi rfl)<|z6 ?_
       exact ⟨j + 1, zR9, zR1, ⟨_, (.refl _), by rw [← rowTo_succ, ← hcell, d1, show decide ((k : Int) = (j : Int)) = true from c2]; rfl⟩, hj2, by omega⟩
      ·refine z8 rfl rfl c2<|z2 (zMf rfl)<|z8 rfl rfl c2<|z2 (zMi rfl)<|z8 rfl rfl c2<|z2 (zIM j underlying111 sizeOf4 rfl rfl rfl hgl)<|z8 rfl rfl c2<|z2 (yz (c := .bool _) isAgg4 rfl)<|z8 rfl rfl c2<|z2 (yg rfl)<|z8 rfl rfl c1<|z2 (zPf rfl c2 rfl)<|z2 (zPt rfl c1 rfl)<|z2 (yw (j := j) underlying111 sizeOf4 rfl rfl rfl ⟨_, .head⟩ (by rw [cB_len, rowTo_len]) hj2)<|AOps.storeB (j := j) sizeOf4 rfl rfl .head (by rw [rowTo_len]; exact hj2)<|z6<|zRg<|z2 (zAd rfl rfl)<|z2 (zMi rfl)<|z6 ?_
       exact ⟨j + 1, zR9, zR1, ⟨_, (.refl _), by rw [← rowTo_succ, ← hcell, d1, show decide ((k : Int) = (j : Int)) = false from c2]; rfl⟩, hj2, by omega⟩
     ·have d1 : gb (reachT (EndsOf f) f.blocks.length (-1)) (j : Int) = false := c1
      refine z7 rfl rfl c1<|z7 rfl rfl c1<|z7 rfl rfl c1<|z7 rfl rfl c1<|zk rfl rfl<|zk rfl rfl<|zk rfl rfl<|zk rfl rfl<|zk rfl rfl<|z7 rfl rfl c1<|z2 (zPf rfl c1 rfl)<|z2 (yw (j := j) underlying111 sizeOf4 rfl rfl rfl ⟨_, .head⟩ (by rw [cB_len, rowTo_len]) hj2)<|AOps.storeB (j := j) sizeOf4 rfl rfl .head (by rw [rowTo_len]; exact hj2)<|z6<|zRg<|z2 (zAd rfl rfl)<|z2 (zMi rfl)<|z6 ?_
      exact ⟨j + 1, zR9, zR1, ⟨_, (.refl _), by rw [← rowTo_succ, ← hcell, d1]; rfl⟩, hj2, by omega⟩
    ·have hjn : j = f.blocks.length := by simp at cj; omega
     refine y3 ?_
     exact ⟨i20, zR5, zR1, ⟨_, (.refl _), by rw [hjn, rowTo_all]⟩, trivial⟩
   ·have hra : gb (reachT (EndsOf f) f.blocks.length (-1)) (k : Int) = false := cr
    refine zf ?_
    exact ⟨i20, zR5, zR1, ⟨_, (.refl _), by rw [← row_none hG hk2 hra, ← rowTo_zero]⟩, trivial⟩
  ·rintro q _
   refine yd (GStep.knowB (t := 6) rfl .head (rowR_len _ _))<|zRg<|z2 (zMo rfl)<|z2 (zMf rfl)<|y4 (rows := [[_]]) ps82_1 rfl rfl rfl rfl rfl<|yo (k := 1) underlying82 type111 rfl rfl rfl rfl rfl (fun _ => .head) (by rw [outC_len, List.length_take, tabR_len]; omega) (by decide) rfl (by show (_ + 1) * 24 ≤ _; omega) (by show _ + 1 ≤ _; omega)<|fun i56 => z2 (zAo rfl)<|z6<|zRg<|z2 (zAd rfl rfl)<|z2 (zMi rfl)<|z6 ?_
   exact ⟨(k + 1, i56), zR3, zR2, ⟨_, (.refl _), by rw [tabR_take hk2, ← outC_push]; rfl⟩, hk2, by dsimp only; omega⟩
 ·have hkn : k = f.blocks.length := by simp at ck; omega
  subst hkn
  rw [show f.blocks.length = (tabR f).length from (tabR_len f).symm, qm, tabR_len]
  refine y3<|zSr<|z2 (zMo rfl)<|z2 (zAo rfl)<|z6<|zd ?_
  repeat (first | refine aseqQ_ret ?_ | refine ablockQ_ret ?_)
  refine GStep.fin (GStep.know (t := 2) (rows := (tabR f).map fun r => [AV.fro 1 (r.map encB)]) rfl .head (by (intro r hr; obtain ⟨x, _, rfl⟩ := List.mem_map.1 hr; rfl)) (by decide) (by (rw [qo]; exact tabR_len f)))<|zm (x := .fro _ _) rfl ?_
  rfl
theorem refIs_spec (x : PInst) (op : Int) (args : List Int) (hx : x.args.length ≤ 100000) (ha : args.length ≤ 100000) : AFun prog E 19 [.agg (encInst x), .int .i64 op, .fro 1 (args.map encI)] (.bool (decide (x.op = op) && decide (x.args = args))) := by
 refine zn func19 rfl (by decide) rfl<|zSr<|y1 (cs := _) rfl rfl rfl<|z2 (zAb rfl)<|z6<|za<|za<|yb (γ := Bool) [2, 3] (fun u => [(19, .bool u)]) (fun u => []) (fun u => u = !(decide (x.op = op) && decide (x.args.length = args.length))) ?_ (fun _ _ h => h) ?_
 ·refine zRg<|z2 (zFF underlying33 rfl sizeOf31 rfl rfl)<|z2 (zLi isAgg31 rfl)<|z2 (zMi rfl)<|z2 (yk rfl rfl)<|z2 (zMb rfl)<|zr (s := 12) rfl (fun c1=>?_) (fun c1=>?_)
  ·refine z7 rfl rfl c1<|z7 rfl rfl c1<|z7 rfl rfl c1<|z7 rfl rfl c1<|z7 rfl rfl c1<|z7 rfl rfl c1<|z2 (zPt rfl c1 rfl)<|z6 ?_
   exact ⟨_, zR2, zR1, zLe, by simp_all <;> omega⟩
  ·refine z8 rfl rfl c1<|z2 (zFF underlying33 rfl sizeOf23 rfl rfl)<|z8 rfl rfl c1<|z2 (zLf isAgg23 rfl)<|z8 rfl rfl c1<|z2 (zz underlying23 rfl)<|z8 rfl rfl c1<|z2 (zMf rfl)<|z8 rfl rfl c1<|z2 (zz underlying23 rfl)<|z8 rfl rfl c1<|z2 (yk rfl rfl)<|z2 (zPf rfl c1 rfl)<|z6 ?_
   exact ⟨_, zR2, zR1, zLe, by simp_all <;> omega⟩
 ·rintro u hu
  subst hu
  refine zy rfl (fun c0=>?_) (fun c0=>?_)
  ·have h0 : (decide (x.op = op) && decide (x.args.length = args.length)) = false := by rwa [Bool.not_eq_true'] at c0
   refine zSr<|z2 (zAb rfl)<|z6<|zd<|zm (x := .bool _) rfl ?_
   exact jb (by
    rcases Bool.and_eq_false_iff.1 h0 with h | h
    ·rw [h]; rfl
    ·rw [qv (p := x.args = args) (fun e => absurd (congrArg List.length e) (of_decide_eq_false h)), Bool.and_false])
  ·have h0 : (decide (x.op = op) && decide (x.args.length = args.length)) = true := by simpa using c0
   have h1 : x.op = op := by rw [qw, qy, qy] at h0; exact h0.1
   have h2 : x.args.length = args.length := by rw [qw, qy, qy] at h0; exact h0.2
   refine zf<|za<|zSr<|z2 (zMf rfl)<|z2 (zz underlying23 rfl)<|z2 (zMi rfl)<|z6<|zi<|y6 (γ := Nat) [2, 3, 21] (fun k => [(22, .int .i64 k)]) (fun k => []) (fun k => k ≤ args.length ∧ x.args.take k = args.take k) (fun k => args.length - k) 0 zR1 zLe (⟨qk _, rfl⟩) ?_
   rintro k ⟨hk, hall⟩
   refine zSr<|z2 (y7 rfl rfl)<|z6<|za<|zl rfl (fun ck=>?_) (fun ck=>?_)
   ·have hk2 : k < args.length := by simp at ck; omega
    have hk3 : k < x.args.length := by omega
    refine zf<|za<|zi<|zSr<|z2 (zMi rfl)<|z2 (zAi rfl)<|z6<|za<|zt (fun j => false) (by kernel_rfl) rfl (zp (.rest _))<|zTk 0 rfl (zFF underlying33 rfl sizeOf23 rfl rfl)<|zTk 1 rfl (zLf isAgg23 rfl)<|zTk 2 rfl (zMi rfl)<|zTk 3 rfl (zIM k underlying23 sizeOf3 rfl rfl rfl (qh hk3))<|zTk 4 rfl (zLi isAgg3 rfl)<|zTk 5 rfl (zMf rfl)<|zTk 6 rfl (zMi rfl)<|zTk 7 rfl (zIM k underlying23 sizeOf3 rfl rfl rfl (qh hk2))<|zTk 8 rfl (zLi isAgg3 rfl)<|zTk 9 rfl (yk rfl rfl)<|zDn<|zy rfl (fun cn=>?_) (fun cn=>?_)
    ·have hne : ¬ x.args[k] = args[k] := by simpa using cn
     refine zSr<|z2 (zAb rfl)<|z6<|zd<|zm (x := .bool _) rfl ?_
     exact jb (by rw [qv (p := x.args = args) (fun e => hne (by simp only [e])), Bool.and_false])
    ·have heq : x.args[k] = args[k] := by simpa using cn
     refine zf<|zRg<|z2 (zAd rfl rfl)<|z2 (zMi rfl)<|z6 ?_
     exact ⟨k + 1, zR3, zR1, zLe, ⟨hk2, by rw [qi hk3, qi hk2, hall, heq]⟩, by omega⟩
   ·have hkn : k = args.length := by simp at ck; omega
    have he : x.args = args := by rw [hkn, qm, ← h2, qm] at hall; exact hall
    refine y3<|zSr<|z2 (zAb rfl)<|z6<|zd<|zm (x := .bool _) rfl ?_
    exact jb (by rw [qu h1, qu he]; rfl)
set_option maxHeartbeats 4000000 in
theorem refChecked_spec (f : PFunc) (hf : small f) (x : PInst) (hx : x.args.length ≤ 1000) (block : Nat) (at_ : Int) (hb : block < f.blocks.length) : AFun prog E 78 [.agg (encF f), froB (tabR f), .agg (encInst x), .int .i64 block, .int .i64 at_] (.bool (chkX f x block at_)) := by
 have hn := hf.2.2.1
 refine zn func78 rfl (by decide) rfl<|zSr<|y1 (cs := _) rfl rfl rfl<|y1 (cs := _) rfl rfl rfl<|z2 (zAb rfl)<|z6<|zSr<|z2 (zAi rfl)<|z6<|za<|zSr<|z2 (zFF underlying33 rfl sizeOf31 rfl rfl)<|z2 (zLi isAgg31 rfl)<|z6 ?_
 by_cases hs : isSum x.op = true
 ·have hs3 : x.op = 2 ∨ x.op = 3 ∨ x.op = 4 := by simpa [isSum] using hs
  rw [chkX, hs, Bool.true_and]
  refine yb (γ := Int) [1, 3, 4, 5, 7] (fun op => [(11, .int .i64 op)]) (fun op => []) (fun op => op = x.op + 19) ?_ (fun _ _ h => h) ?_
  ·refine zi<|zSr<|z2 (zw rfl rfl)<|z2 (zAb rfl)<|z6<|zl rfl (fun c2=>?_) (fun c2=>?_)
   ·refine zRg<|z2 (zAi rfl)<|z6 ?_
    exact ⟨_, zR5, zR1, zLe, by omega⟩
   ·refine zSr<|z2 (zw rfl rfl)<|z2 (zAb rfl)<|z6<|zl rfl (fun c3=>?_) (fun c3=>?_)
    ·refine zRg<|z2 (zAi rfl)<|z6 ?_
     exact ⟨_, zR5, zR1, zLe, by omega⟩
    ·refine zSr<|z2 (zw rfl rfl)<|z2 (zAb rfl)<|z6<|zl rfl (fun c4=>?_) (fun c4=>?_)
     ·refine zRg<|z2 (zAi rfl)<|z6 ?_
      exact ⟨_, zR5, zR1, zLe, by omega⟩
     ·exfalso; omega
  ·rintro op hop
   subst hop
   refine za<|zSr<|z2 (zFF underlying26 rfl sizeOf24 rfl rfl)<|z2 (zLf isAgg24 rfl)<|z2 (zz underlying24 rfl)<|z2 (zMi rfl)<|z6<|zi<|y6 (γ := Nat) [1, 3, 4, 7, 11, 25, 26] (fun i => [(27, .int .i64 i)]) (fun i => []) (fun i => i ≤ f.blocks.length ∧ (List.range i).any (chkI f (x.op + 19) x.args block at_) = false) (fun i => f.blocks.length - i) 0 zR1 zLe (⟨qk _, rfl⟩) ?_
   rintro i ⟨hi, hiall⟩
   refine zSr<|z2 (y7 rfl rfl)<|z6<|za<|zl rfl (fun ci=>?_) (fun ci=>?_)
   ·have hi2 : i < f.blocks.length := by simp at ci; omega
    obtain ⟨b, hbi⟩ : ∃ b, f.blocks[i] = b := ⟨_, rfl⟩
    have hget : f.blocks[i]? = some b := by rw [qh hi2, hbi]
    obtain ⟨hb0, hb1, hb2, hb3, hb4⟩ := hf.2.2.2.2 b (hbi ▸ ql hi2)
    refine zf<|za<|zi<|zSr<|z2 (zMi rfl)<|z2 (zIM i underlying24 sizeOf66 rfl rfl rfl hget)<|z2 (zh isAgg66 sizeOf66 rfl rfl)<|zo (cs := [.str ⟨#[]⟩, .raw (.slice none 0 0), .raw (.slice none 0 0), .int .i64 0, .int .i64 0, .int .i64 0, .int .i64 0]) zeroValue66 rfl rfl<|fun i13 => z2 (zAi rfl)<|zc sizeOf66 rfl rfl rfl rfl rfl rfl .head rfl<|zg (ya (t := 13) rfl .head)<|z6<|zSr<|z2 (zFF underlying66 rfl sizeOf60 rfl rfl)<|z2 (zLf isAgg60 rfl)<|z2 (zz underlying60 rfl)<|z2 (zMi rfl)<|z6<|zi<|y6 (γ := Nat) [1, 3, 4, 7, 11, 12, 25, 26, 27, 33, 34] (fun k => [(35, .int .i64 k)]) (fun k => []) (fun k => k ≤ b.insts.length ∧ (b.insts.zipIdx.take k).any (chkQ f (x.op + 19) x.args i block at_) = false) (fun k => b.insts.length - k) 0 zR1 zLe (⟨qk _, rfl⟩) ?_
    rintro k ⟨hk, hkall⟩
    refine zSr<|z2 (y7 rfl rfl)<|z6<|za<|zl rfl (fun ck=>?_) (fun ck=>?_)
    ·have hk2 : k < b.insts.length := by simp at ck; omega
     obtain ⟨z, hz⟩ : ∃ z, b.insts[k] = z := ⟨_, rfl⟩
     have hzl := hb4 z (hz ▸ ql hk2)
     have hzi : k < b.insts.zipIdx.length := by simp; exact hk2
     have hze : b.insts.zipIdx[k] = (z, k) := by simp [hz]
     have hah : ∀ r, aheadB f ((i : Int), (k : Int)) block at_ = r → chkQ f (x.op + 19) x.args i block at_ b.insts.zipIdx[k] = (decide (z.op = x.op + 19) && decide (z.args = x.args) && r) := fun r h => by rw [hze]; unfold chkQ; rw [h]
     have hab : aheadB f ((i : Int), (k : Int)) block at_ = if (i : Int) = (block : Int) then decide ((k : Int) < at_) else domB (EndsOf f) f.blocks.length i block := by unfold aheadB; rw [if_neg (by dsimp only; omega)]
     refine zf<|za<|zi<|zSr<|z2 (zMi rfl)<|z2 (zIM k underlying60 sizeOf33 rfl rfl rfl (by rw [qh hk2, hz]))<|z2 (zh isAgg33 sizeOf33 rfl rfl)<|zo (cs := [.int .i64 0, .int .i64 0, .raw (.slice none 0 0), .int .i64 0]) zeroValue33 rfl rfl<|fun i15 => z2 (zAi rfl)<|zc sizeOf33 rfl rfl rfl rfl rfl rfl .head rfl<|zg (ya (t := 15) rfl .head)<|z6<|za<|yb (γ := Bool) [1, 3, 4, 7, 11, 12, 25, 26, 27, 33, 34, 35] (fun u => [(68, .bool u)]) (fun u => []) (fun u => u = chkQ f (x.op + 19) x.args i block at_ b.insts.zipIdx[k]) ?_ (fun _ _ h => h) ?_
     ·refine zRg<|z2 (zh isAgg33 sizeOf33 rfl rfl)<|z2 (zMi rfl)<|z2 (zFF underlying33 rfl sizeOf23 rfl rfl)<|z2 (zLf isAgg23 rfl)<|zb (refIs_spec z (x.op + 19) x.args (by omega) (by omega)) rfl<|z2 (zMb rfl)<|zr (s := 45) rfl (fun c2=>?_) (fun c2=>?_)
      ·refine z8 rfl rfl c2<|z2 (zMi rfl)<|z8 rfl rfl c2<|z2 (zMi rfl)<|z8 rfl rfl c2<|z2 (zw rfl rfl)<|z8 rfl rfl c2<|z2 (zMb rfl)<|zr (s := 49) rfl (fun c3=>?_) (fun c3=>?_)
       ·refine z8 rfl rfl c3<|z2 (zMi rfl)<|z8 rfl rfl c3<|z2 (zMi rfl)<|z8 rfl rfl c3<|z2 (y7 rfl rfl)<|z8 rfl rfl c2<|z2 (zPt rfl c3 rfl)<|z8 rfl rfl c2<|z2 (zMb rfl)<|zr (s := 54) rfl (fun c4=>?_) (fun c4=>?_)
        ·refine z7 rfl rfl c4<|z7 rfl rfl c4<|z7 rfl rfl c4<|z7 rfl rfl c4<|zk rfl rfl<|zk rfl rfl<|zk rfl rfl<|zk rfl rfl<|zk rfl rfl<|zk rfl rfl<|zk rfl rfl<|z7 rfl rfl c4<|z8 rfl rfl c2<|z2 (zPt rfl c4 rfl)<|z2 (zPt rfl c2 rfl)<|z6 ?_
         exact ⟨_, zR12, zR1, zLe, by rw [hah _ hab]; by_cases h9 : (i : Int) = (block : Int) <;> simp_all⟩
        ·refine z8 rfl rfl c4<|z2 (zMi rfl)<|z8 rfl rfl c4<|z2 (zMi rfl)<|z8 rfl rfl c4<|z2 (yk rfl rfl)<|z8 rfl rfl c4<|z2 (zMb rfl)<|zr (s := 58) rfl (fun c5=>?_) (fun c5=>?_)
         ·refine z8 rfl rfl c5<|z2 (zMf rfl)<|z8 rfl rfl c5<|z2 (zMi rfl)<|z8 rfl rfl c5<|z2 (zIM i underlying82 sizeOf111 rfl rfl rfl (tabR_get hi2))<|z8 rfl rfl c5<|z2 (zLf isAgg111 rfl)<|z8 rfl rfl c5<|z2 (zMi rfl)<|z8 rfl rfl c5<|z2 (zIM block underlying111 sizeOf4 rfl rfl rfl (rowR_get hb))<|z8 rfl rfl c5<|z2 (yz (c := .bool _) isAgg4 rfl)<|z8 rfl rfl c4<|z2 (zPt rfl c5 rfl)<|z8 rfl rfl c2<|z2 (zPf rfl c4 rfl)<|z2 (zPt rfl c2 rfl)<|z6 ?_
          exact ⟨_, zR12, zR1, zLe, by rw [hah _ hab]; by_cases h9 : (i : Int) = (block : Int) <;> simp_all⟩
         ·refine z7 rfl rfl c5<|z7 rfl rfl c5<|z7 rfl rfl c5<|z7 rfl rfl c5<|z7 rfl rfl c5<|z7 rfl rfl c5<|z7 rfl rfl c5<|z8 rfl rfl c4<|z2 (zPf rfl c5 rfl)<|z8 rfl rfl c2<|z2 (zPf rfl c4 rfl)<|z2 (zPt rfl c2 rfl)<|z6 ?_
          exact ⟨_, zR12, zR1, zLe, by rw [hah _ hab]; by_cases h9 : (i : Int) = (block : Int) <;> simp_all⟩
       ·refine z7 rfl rfl c3<|z7 rfl rfl c3<|z7 rfl rfl c3<|z8 rfl rfl c2<|z2 (zPf rfl c3 rfl)<|z8 rfl rfl c2<|z2 (zMb rfl)<|z8 rfl rfl rfl<|z2 (zMi rfl)<|z8 rfl rfl rfl<|z2 (zMi rfl)<|z8 rfl rfl rfl<|z2 (yk rfl rfl)<|z8 rfl rfl rfl<|z2 (zMb rfl)<|zr (s := 58) rfl (fun c6=>?_) (fun c6=>?_)
        ·refine z8 rfl rfl c6<|z2 (zMf rfl)<|z8 rfl rfl c6<|z2 (zMi rfl)<|z8 rfl rfl c6<|z2 (zIM i underlying82 sizeOf111 rfl rfl rfl (tabR_get hi2))<|z8 rfl rfl c6<|z2 (zLf isAgg111 rfl)<|z8 rfl rfl c6<|z2 (zMi rfl)<|z8 rfl rfl c6<|z2 (zIM block underlying111 sizeOf4 rfl rfl rfl (rowR_get hb))<|z8 rfl rfl c6<|z2 (yz (c := .bool _) isAgg4 rfl)<|z8 rfl rfl rfl<|z2 (zPt rfl c6 rfl)<|z8 rfl rfl c2<|z2 (zPf rfl rfl rfl)<|z2 (zPt rfl c2 rfl)<|z6 ?_
         exact ⟨_, zR12, zR1, zLe, by rw [hah _ hab]; by_cases h9 : (i : Int) = (block : Int) <;> simp_all⟩
        ·refine z7 rfl rfl c6<|z7 rfl rfl c6<|z7 rfl rfl c6<|z7 rfl rfl c6<|z7 rfl rfl c6<|z7 rfl rfl c6<|z7 rfl rfl c6<|z8 rfl rfl rfl<|z2 (zPf rfl c6 rfl)<|z8 rfl rfl c2<|z2 (zPf rfl rfl rfl)<|z2 (zPt rfl c2 rfl)<|z6 ?_
         exact ⟨_, zR12, zR1, zLe, by rw [hah _ hab]; by_cases h9 : (i : Int) = (block : Int) <;> simp_all⟩
      ·refine z7 rfl rfl c2<|z7 rfl rfl c2<|z7 rfl rfl c2<|z7 rfl rfl c2<|zk rfl rfl<|zk rfl rfl<|zk rfl rfl<|z7 rfl rfl c2<|z7 rfl rfl c2<|zk rfl rfl<|zk rfl rfl<|zk rfl rfl<|zk rfl rfl<|zk rfl rfl<|zk rfl rfl<|zk rfl rfl<|zk rfl rfl<|zk rfl rfl<|zk rfl rfl<|zk rfl rfl<|zk rfl rfl<|z7 rfl rfl c2<|z2 (zPf rfl c2 rfl)<|z6 ?_
       exact ⟨_, zR12, zR1, zLe, by rw [hah _ hab]; by_cases h9 : (i : Int) = (block : Int) <;> simp_all⟩
     ·rintro u hu
      subst hu
      refine zy rfl (fun cq=>?_) (fun cq=>?_)
      ·refine zSr<|z2 (zAb rfl)<|z6<|zd<|zm (x := .bool _) rfl ?_
       exact jb (range_any_hit hi2 (by rw [chkI_at hget]; exact any_hit hzi cq)).symm
      ·refine zf<|zRg<|z2 (zAd rfl rfl)<|z2 (zMi rfl)<|z6 ?_
       exact ⟨k + 1, zR11, zR1, zLe, ⟨hk2, any_take hzi hkall (by simpa using cq)⟩, by omega⟩
    ·have hkn : k = b.insts.length := by simp at ck; omega
     rw [hkn, show b.insts.length = b.insts.zipIdx.length by simp, qm] at hkall
     refine y3<|zRg<|z2 (zAd rfl rfl)<|z2 (zMi rfl)<|z6 ?_
     exact ⟨i + 1, zR7, zR1, zLe, ⟨hi2, range_any_succ hiall (by rw [chkI_at hget]; exact hkall)⟩, by omega⟩
   ·have hin : i = f.blocks.length := by simp at ci; omega
    subst hin
    refine y3<|zSr<|z2 (zAb rfl)<|z6<|zd<|zm (x := .bool _) rfl ?_
    exact jb hiall.symm
 ·have hs3 : ¬ (x.op = 2 ∨ x.op = 3 ∨ x.op = 4) := by simpa [isSum] using hs
  refine zi<|zSr<|z2 (zw rfl rfl)<|z2 (zAb rfl)<|z6<|zl rfl (fun c2=>?_) (fun c2=>?_)
  ·exfalso; omega
  ·refine zSr<|z2 (zw rfl rfl)<|z2 (zAb rfl)<|z6<|zl rfl (fun c3=>?_) (fun c3=>?_)
   ·exfalso; omega
   ·refine zSr<|z2 (zw rfl rfl)<|z2 (zAb rfl)<|z6<|zl rfl (fun c4=>?_) (fun c4=>?_)
    ·exfalso; omega
    ·refine zSr<|z2 (zAb rfl)<|z6<|zd<|zm (x := .bool _) rfl ?_
     exact jb (by rw [chkX, Bool.eq_false_iff.2 hs]; rfl)
end Go.Proofs.YtjnpcfpecilejaaGreatDoor
