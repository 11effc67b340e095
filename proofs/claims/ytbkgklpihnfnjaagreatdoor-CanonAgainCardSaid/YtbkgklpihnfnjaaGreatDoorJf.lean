/- The document's own functions: names, the table, digits, what is the same, what has a text. No conditions but bounds. -/
import Derived.Test.YtbkgklpihnfnjaaGreatDoorJc
import Derived.Test.YtbkgklpihnfnjaaGreatDoorJe
import Derived.Lib.ItoaLen
import Derived.Lib.Join
set_option linter.unusedVariables false
set_option linter.unusedSimpArgs false
set_option linter.unusedSectionVars false
namespace Go.Proofs.YtbkgklpihnfnjaaGreatDoor
open Go.Proofs.Tryz
open Go.Proofs
theorem pl44 : PlacesA prog 44 1 [.int .i64 0, .int .i64 0] := ⟨_, _, _, jy, zeroValue44, jd, rfl⟩
theorem ps88_2 : PlacesS prog 88 9 2 1 [.str ⟨#[]⟩, .str ⟨#[]⟩] := ⟨_, jh, jx, Y7, by decide, by decide, by kernel_rfl⟩
theorem ps88_1 : PlacesS prog 88 9 1 1 [.str ⟨#[]⟩] := ⟨_, jh, jx, Y7, by decide, by decide, by kernel_rfl⟩
set_option maxRecDepth 20000
variable {E : World}
def inst1 (f : PFunc) (x : PInst) : Bool := decide ((kRow x.op).1 = ⟨#[]⟩) || !decide (x.args.length = (takesL x.op).length) || !x.args.all (hasV f)
def inst2 (f : PFunc) (x : PInst) : Bool := (makesB x.op && !hasV f x.dst) || (!makesB x.op && !decide (x.dst = -1))
def instOK (f : PFunc) (x : PInst) : Bool := !inst1 f x && !inst2 f x && (decide (x.num = 0) || isNum x.op)
def termOK (f : PFunc) (t : PTerm) : Bool := if t.kind = 0 then hasB f t.to0 && decide (t.to1 = 0) && decide (t.var = 0) else if t.kind = 1 then hasV f t.var && hasB f t.to0 && hasB f t.to1 else
 if t.kind = 2 then hasV f t.var && decide (t.to0 = 0 ∧ t.to1 = 0) else false
theorem eq_arr10 (a b c d : Int) (w : World) : (Op.equalIn 10000 44 (.agg [.int .i64 a, .int .i64 b].toArray) (.agg [.int .i64 c, .int .i64 d].toArray)).run prog w = .ok (decide (a = c ∧ b = d)) w := eq_arr a b c d w 9998
theorem inst_spec (f : PFunc) (x : PInst) (hx : okL x.args) : AFun prog E 80 [.agg (encF f), .agg (encInst x)] (.bool (instOK f x)) := by
 have hl := hx.lt
 refine zk func80 Z (by decide) Z<|zSr<|y6 (cs := _) Z Z Z<|y6 (cs := _) Z Z Z<|zVzAb Z<|z6<|zSr<|zVzFF jk Z Zx Z Z<|zVzLi Y8 Z<|zd (makes_spec _) Z<|z8 (zMu Z)<|z8 (zXi Z Z)<|z8 (zXb Z Z)<|zVzAi Z<|zVzAb Z<|z6<|zb<|zg<|zb<|zw (fun j => false) (by kernel_rfl) Z (zu (.rest _))<|zTk 0 Z (zFF jk Z Zx Z Z)<|zTk 1 Z (zLi Y8 Z)<|zOn 2 Z<|zd (word_spec _) Z<|z6<|zTk 3 Z (q8 Z Z)<|zTk 4 Z (zMb Z)<|qb (s := 18) Z (fun c1=>?_) (fun c1=>?_)
 ·refine zTf 5 Z Z Z c1<|zTf 6 Z Z Z c1<|zTf 7 Z Z Z c1<|zTf 8 Z Z Z c1<|zTf 9 Z Z Z c1<|zTf 10 Z Z Z c1<|zTf 11 Z Z Z c1<|zTf 12 Z Z Z c1<|zTk 13 Z (zPt Z c1 Z)<|zTk 14 Z (zMb Z)<|zTf 15 Z Z Z Z<|zTf 16 Z Z Z Z<|zTf 17 Z Z Z Z<|zTf 18 Z Z Z Z<|zTf 19 Z Z Z Z<|zTk 20 Z (zPt Z Z Z)<|zTk 21 Z (zAb Z)<|zDn<|yh Z Z<|zSr<|zVzAb Z<|z6<|ze<|zi (x := .bool _) Z ?_
  exact jb (by simp_all [instOK, inst1, inst2, Int.ofNat_inj] <;> grind)
 ·refine zTt 5 Z Z Z c1 (zFF jk Z jn Z Z)<|zTt 6 Z Z Z c1 (zLf jz Z)<|zTt 7 Z Z Z c1 (Gv.lenM j9 Z)<|zTt 8 Z Z Z c1 (zFF jk Z Zx Z Z)<|zTt 9 Z Z Z c1 (zLi Y8 Z)<|zOn 10 Z<|za Z Z c1<|zd (takes_spec _) Z<|z6<|zTt 11 Z Z Z c1 (Gv.lenM X4 Z)<|zTt 12 Z Z Z c1 (Gv.neqI Z Z)<|zTk 13 Z (zPf Z c1 Z)<|zTk 14 Z (zMb Z)<|qb (s := 28) Z (fun c2=>?_) (fun c2=>?_)
  ·refine zTf 15 Z Z Z c2<|zTf 16 Z Z Z c2<|zTf 17 Z Z Z c2<|zTf 18 Z Z Z c2<|zTf 19 Z Z Z c2<|zTk 20 Z (zPt Z c2 Z)<|zTk 21 Z (zAb Z)<|zDn<|yh Z Z<|zSr<|zVzAb Z<|z6<|ze<|zi (x := .bool _) Z ?_
   exact jb (by simp_all [instOK, inst1, inst2, Int.ofNat_inj] <;> grind)
  ·refine zTt 15 Z Z Z c2 (yq ju jj Z Z)<|zTt 16 Z Z Z c2 (zFF jk Z jn Z Z)<|zTt 17 Z Z Z c2 (zLf jz Z)<|zOn 18 Z<|za Z Z c2<|zd (vars_spec _ _ (by omega)) Z<|z6<|zTt 19 Z Z Z c2 (Gv.not Z)<|zTk 20 Z (zPf Z c2 Z)<|zTk 21 Z (zAb Z)<|zDn<|zz Z (fun c3=>?_) (fun c3=>?_)
   ·refine zSr<|zVzAb Z<|z6<|ze<|zi (x := .bool _) Z ?_
    exact jb (by simp_all [instOK, inst1, inst2, Int.ofNat_inj] <;> grind)
   ·refine zSr<|zVzMb Z<|zVzMb Z<|zo (s := 37) Z (fun c4=>?_) (fun c4=>?_)
    ·refine za Z Z c4<|zVGvloadWF ju jj Z Z<|za Z Z c4<|zVzFF jk Z jd Z Z<|za Z Z c4<|zVzLi jr Z<|za Z Z c4<|zd (has_spec _ _) Z<|za Z Z c4<|zVGvnot Z<|zVzPt Z c4 Z<|zVzMb Z<|zo (s := 44) Z (fun c5=>?_) (fun c5=>?_)
     ·refine z7 Z Z c5<|z7 Z Z c5<|z7 Z Z c5<|zh Z Z<|zh Z Z<|zh Z Z<|z7 Z Z c5<|zVzPt Z c5 Z<|zVzAb Z<|z6<|yh Z Z<|zSr<|zVzAb Z<|z6<|ze<|zi (x := .bool _) Z ?_
      exact jb (by simp_all [instOK, inst1, inst2, Int.ofNat_inj] <;> grind)
     ·refine za Z Z c5<|zVzMb Z<|za Z Z c5<|zVGvnot Z<|za Z Z c5<|zVzMb Z<|zo (s := 47) Z (fun c6=>?_) (fun c6=>?_)
      ·refine za Z Z c6<|zVzFF jk Z jd Z Z<|za Z Z c6<|zVzLi jr Z<|za Z Z c6<|zVGvneqI Z Z<|za Z Z c5<|zVzPt Z c6 Z<|zVzPf Z c5 Z<|zVzAb Z<|z6<|zz Z (fun c7=>?_) (fun c7=>?_)
       ·refine zSr<|zVzAb Z<|z6<|ze<|zi (x := .bool _) Z ?_
        exact jb (by simp_all [instOK, inst1, inst2, Int.ofNat_inj] <;> grind)
       ·refine zf<|zSr<|zVzFF jk Z Yl Z Z<|zVzLi X7 Z<|zVGveqlI Z Z<|zVzMb Z<|zo (s := 56) Z (fun c8=>?_) (fun c8=>?_)
        ·refine z7 Z Z c8<|z7 Z Z c8<|z7 Z Z c8<|zVzPt Z c8 Z<|zVzAb Z<|z6<|ze<|zi (x := .bool _) Z ?_
         exact jb (by simp_all [instOK, inst1, inst2, Int.ofNat_inj] <;> grind)
        ·refine za Z Z c8<|zVzFF jk Z Zx Z Z<|za Z Z c8<|zVzLi Y8 Z<|za Z Z c8<|zd (numbered_spec _) Z<|zVzPf Z c8 Z<|zVzAb Z<|z6<|ze<|zi (x := .bool _) Z ?_
         exact jb (by simp_all [instOK, inst1, inst2, Int.ofNat_inj] <;> grind)
      ·refine z7 Z Z c6<|z7 Z Z c6<|z7 Z Z c6<|za Z Z c5<|zVzPf Z c6 Z<|zVzPf Z c5 Z<|zVzAb Z<|z6<|yc Z Z<|zf<|zSr<|zVzFF jk Z Yl Z Z<|zVzLi X7 Z<|zVGveqlI Z Z<|zVzMb Z<|zo (s := 56) Z (fun c9=>?_) (fun c9=>?_)
       ·refine z7 Z Z c9<|z7 Z Z c9<|z7 Z Z c9<|zVzPt Z c9 Z<|zVzAb Z<|z6<|ze<|zi (x := .bool _) Z ?_
        exact jb (by simp_all [instOK, inst1, inst2, Int.ofNat_inj] <;> grind)
       ·refine za Z Z c9<|zVzFF jk Z Zx Z Z<|za Z Z c9<|zVzLi Y8 Z<|za Z Z c9<|zd (numbered_spec _) Z<|zVzPf Z c9 Z<|zVzAb Z<|z6<|ze<|zi (x := .bool _) Z ?_
        exact jb (by simp_all [instOK, inst1, inst2, Int.ofNat_inj] <;> grind)
    ·refine z7 Z Z c4<|z7 Z Z c4<|z7 Z Z c4<|z7 Z Z c4<|z7 Z Z c4<|zVzPf Z c4 Z<|zVzMb Z<|za Z Z Z<|zVzMb Z<|za Z Z Z<|zVGvnot Z<|za Z Z Z<|zVzMb Z<|zo (s := 47) Z (fun c10=>?_) (fun c10=>?_)
     ·refine za Z Z c10<|zVzFF jk Z jd Z Z<|za Z Z c10<|zVzLi jr Z<|za Z Z c10<|zVGvneqI Z Z<|za Z Z Z<|zVzPt Z c10 Z<|zVzPf Z Z Z<|zVzAb Z<|z6<|zz Z (fun c11=>?_) (fun c11=>?_)
      ·refine zSr<|zVzAb Z<|z6<|ze<|zi (x := .bool _) Z ?_
       exact jb (by simp_all [instOK, inst1, inst2, Int.ofNat_inj] <;> grind)
      ·refine zf<|zSr<|zVzFF jk Z Yl Z Z<|zVzLi X7 Z<|zVGveqlI Z Z<|zVzMb Z<|zo (s := 56) Z (fun c12=>?_) (fun c12=>?_)
       ·refine z7 Z Z c12<|z7 Z Z c12<|z7 Z Z c12<|zVzPt Z c12 Z<|zVzAb Z<|z6<|ze<|zi (x := .bool _) Z ?_
        exact jb (by simp_all [instOK, inst1, inst2, Int.ofNat_inj] <;> grind)
       ·refine za Z Z c12<|zVzFF jk Z Zx Z Z<|za Z Z c12<|zVzLi Y8 Z<|za Z Z c12<|zd (numbered_spec _) Z<|zVzPf Z c12 Z<|zVzAb Z<|z6<|ze<|zi (x := .bool _) Z ?_
        exact jb (by simp_all [instOK, inst1, inst2, Int.ofNat_inj] <;> grind)
     ·refine z7 Z Z c10<|z7 Z Z c10<|z7 Z Z c10<|za Z Z Z<|zVzPf Z c10 Z<|zVzPf Z Z Z<|zVzAb Z<|z6<|yc Z Z<|zf<|zSr<|zVzFF jk Z Yl Z Z<|zVzLi X7 Z<|zVGveqlI Z Z<|zVzMb Z<|zo (s := 56) Z (fun c13=>?_) (fun c13=>?_)
      ·refine z7 Z Z c13<|z7 Z Z c13<|z7 Z Z c13<|zVzPt Z c13 Z<|zVzAb Z<|z6<|ze<|zi (x := .bool _) Z ?_
       exact jb (by simp_all [instOK, inst1, inst2, Int.ofNat_inj] <;> grind)
      ·refine za Z Z c13<|zVzFF jk Z Zx Z Z<|za Z Z c13<|zVzLi Y8 Z<|za Z Z c13<|zd (numbered_spec _) Z<|zVzPf Z c13 Z<|zVzAb Z<|z6<|ze<|zi (x := .bool _) Z ?_
       exact jb (by simp_all [instOK, inst1, inst2, Int.ofNat_inj] <;> grind)
theorem term_spec (f : PFunc) (t : PTerm) : AFun prog E 81 [.agg (encF f), .agg (encTerm t)] (.bool (termOK f t)) := by
 refine zk func81 Z (by decide) Z<|zSr<|y6 (cs := _) Z Z Z<|y6 (cs := _) Z Z Z<|zVzAb Z<|z6<|zb<|zSr<|zVzFF je Z Zl Z Z<|zVzLi Y0 Z<|z6<|zg<|zSr<|zVGveqlI Z Z<|zVzAb Z<|z6<|zz Z (fun c14=>?_) (fun c14=>?_)
 ·refine zSr<|zVGvloadWF ju jj Z Z<|zVzFF je Z Z8 Z Z<|z8 (yo (j := 0) jy jd Z Z Z (by decide) Z)<|zVzLi jr Z<|zd (at_spec _ _) Z<|zVzMb Z<|zo (s := 14) Z (fun c15=>?_) (fun c15=>?_)
  ·refine za Z Z c15<|zVzFF je Z Z8 Z Z<|za Z Z c15<|z8 (yo (j := 1) jy jd Z Z Z (by decide) Z)<|za Z Z c15<|zVzLi jr Z<|za Z Z c15<|zVGveqlI Z Z<|zVzPt Z c15 Z<|zVzMb Z<|zo (s := 20) Z (fun c16=>?_) (fun c16=>?_)
   ·refine za Z Z c16<|zVzFF je Z jd Z Z<|za Z Z c16<|zVzLi jr Z<|za Z Z c16<|zVGveqlI Z Z<|zVzPt Z c16 Z<|zVzAb Z<|z6<|ze<|zi (x := .bool _) Z ?_
    exact jb (by simp_all [termOK] <;> grind)
   ·refine z7 Z Z c16<|z7 Z Z c16<|z7 Z Z c16<|zVzPf Z c16 Z<|zVzAb Z<|z6<|ze<|zi (x := .bool _) Z ?_
    exact jb (by simp_all [termOK] <;> grind)
  ·refine z7 Z Z c15<|z7 Z Z c15<|z7 Z Z c15<|z7 Z Z c15<|zVzPf Z c15 Z<|zVzMb Z<|z7 Z Z Z<|z7 Z Z Z<|z7 Z Z Z<|zVzPf Z Z Z<|zVzAb Z<|z6<|ze<|zi (x := .bool _) Z ?_
   exact jb (by simp_all [termOK] <;> grind)
 ·refine zSr<|zVGveqlI Z Z<|zVzAb Z<|z6<|zz Z (fun c17=>?_) (fun c17=>?_)
  ·refine zSr<|zVGvloadWF ju jj Z Z<|zVzFF je Z jd Z Z<|zVzLi jr Z<|zd (has_spec _ _) Z<|zVzMb Z<|zo (s := 31) Z (fun c18=>?_) (fun c18=>?_)
   ·refine za Z Z c18<|zVGvloadWF ju jj Z Z<|za Z Z c18<|zVzFF je Z Z8 Z Z<|za Z Z c18<|z8 (yo (j := 0) jy jd Z Z Z (by decide) Z)<|za Z Z c18<|zVzLi jr Z<|za Z Z c18<|zd (at_spec _ _) Z<|zVzPt Z c18 Z<|zVzMb Z<|zo (s := 38) Z (fun c19=>?_) (fun c19=>?_)
    ·refine za Z Z c19<|zVGvloadWF ju jj Z Z<|za Z Z c19<|zVzFF je Z Z8 Z Z<|za Z Z c19<|z8 (yo (j := 1) jy jd Z Z Z (by decide) Z)<|za Z Z c19<|zVzLi jr Z<|za Z Z c19<|zd (at_spec _ _) Z<|zVzPt Z c19 Z<|zVzAb Z<|z6<|ze<|zi (x := .bool _) Z ?_
     exact jb (by simp_all [termOK] <;> grind)
    ·refine z7 Z Z c19<|z7 Z Z c19<|z7 Z Z c19<|z7 Z Z c19<|z7 Z Z c19<|zVzPf Z c19 Z<|zVzAb Z<|z6<|ze<|zi (x := .bool _) Z ?_
     exact jb (by simp_all [termOK] <;> grind)
   ·refine z7 Z Z c18<|z7 Z Z c18<|z7 Z Z c18<|z7 Z Z c18<|z7 Z Z c18<|zVzPf Z c18 Z<|zVzMb Z<|z7 Z Z Z<|z7 Z Z Z<|z7 Z Z Z<|z7 Z Z Z<|z7 Z Z Z<|zVzPf Z Z Z<|zVzAb Z<|z6<|ze<|zi (x := .bool _) Z ?_
    exact jb (by simp_all [termOK] <;> grind)
  ·refine zSr<|zVGveqlI Z Z<|zVzAb Z<|z6<|zz Z (fun c20=>?_) (fun c20=>?_)
   ·refine zSr<|zVGvloadWF ju jj Z Z<|zVzFF je Z jd Z Z<|zVzLi jr Z<|zd (has_spec _ _) Z<|zVzMb Z<|zo (s := 51) Z (fun c21=>?_) (fun c21=>?_)
    ·refine za Z Z c21<|zVzFF je Z Z8 Z Z<|za Z Z c21<|zVGvloadWF isAgg44 Z8 Z Z<|za Z Z c21<|z8 (Gv.buildA (cps := []) (rs := [.int .i64 0, .int .i64 0]) pl44 Z Z Z)<|za Z Z c21<|z8 (Gv.eqlP (xs := [.int _ _, .int _ _]) (ys := [.int _ _, .int _ _]) (by kernel_rfl) Z Z (fun w => eq_arr10 _ _ _ _ w))<|zVzPt Z c21 Z<|zVzAb Z<|z6<|ze<|zi (x := .bool _) Z ?_
     exact jb (by simp_all [termOK] <;> grind)
    ·refine z7 Z Z c21<|z7 Z Z c21<|z7 Z Z c21<|z7 Z Z c21<|zVzPf Z c21 Z<|zVzAb Z<|z6<|ze<|zi (x := .bool _) Z ?_
     exact jb (by simp_all [termOK] <;> grind)
   ·refine zf<|zSr<|zVzAb Z<|z6<|ze<|zi (x := .bool _) Z ?_
    exact jb (by simp_all [termOK] <;> grind)
def joinS (ws : List ByteArray) (sep : ByteArray) : ByteArray := ⟨(Lib.join (ws.map (·.data.toList)) sep.data.toList).toArray⟩
def encS (s : ByteArray) : List AV := [.str s]
theorem join_spec (ws : List ByteArray) (sep : ByteArray) (hN : ws.length ≤ 140737488355328) (hlen : (Lib.join (ws.map (·.data.toList)) sep.data.toList).length ≤ 140737488355328) :
  AFun prog E 44 [.fro 1 (ws.map encS), .str sep] (.str (joinS ws sep)) := fun I F w vs h1 h2 => by
 obtain ⟨v, us, rfl, ⟨a, n, c, rfl, hn, hc, hnil, hr⟩, v2, us2, rfl, h3, h4⟩ := h1
 have h3 : v2 = .string sep := h3
 have h4 : us2 = [] := h4
 subst h3 h4
 obtain ⟨ht, L, hL, hS⟩ := h2
 have hL : L = [] := hL
 subst hL
 rw [qk] at hn
 refine Fn.ofCalls func44 Z (by decide) ?_
 cases ws with
 | nil =>
  subst hn
  exact (Tryz.strings_Join_none a c sep w).mono fun e w' ⟨he, hw⟩ => ⟨_, he, I, .str (joinS [] sep), [], .refl _, rfl, ⟨ht, [], rfl, hw ▸ hS⟩, rfl⟩
 | cons x ws =>
  subst hn
  have hcell : ∀ (b off : Nat), a = some ⟨b, off, none⟩ → ∀ (j : Nat) y, (x :: ws)[j]? = some y → w.cell? ⟨b, off + j, none⟩ = some (.string y) := by
   intro b off ha j y hj
   obtain ⟨b', off', l, ha', hk', hl', hat'⟩ := hr.get (j := j) (r := encS y) (by rw [ql, hj]; rfl)
   rw [ha] at ha'
   cases ha'
   obtain ⟨u, l2, rfl, hu, _⟩ := hl'
   have hu : u = .string y := hu
   subst hu
   have := hS.at_ ((hat' 0 _ rfl).at_ _)
   simpa using this
  obtain ⟨b, off, l, ha, _⟩ := hr.get (j := 0) (r := encS x) rfl
  subst ha
  refine (Tryz.strings_Join b off c (x :: ws) sep w (hcell b off Z) ?_ hN hc hlen).mono fun e w' ⟨he, hb⟩ => ⟨_, he, I, .str (joinS (x :: ws) sep), [], .refl _, Z, ⟨ht, [], Z, hS.below hb⟩, Z⟩
  by_cases hb : b < w.heap.size
  ·exact hb
  ·have hat0 := hcell b off rfl 0 x rfl
   simp [World.cell?, Array.getElem?_eq_none (by omega : w.heap.size ≤ b)] at hat0
def Pows (E : World) : Prop := Lib.TabIs prog E "internal/strconv.uint64pow10" .u64 Lib.pow10Tab
theorem tab_up {P : Program} {name : String} {k : IntKind} {zs : List Int} {I : Ghost} {O : List (Nat × Obj)} {w : World} (h : Lib.TabIs P E name k zs) (hS : SL I O E w) : Lib.TabIs P w name k zs := by
 unfold Lib.TabIs World.var? at *
 cases hg : P.globalNamed name with
 | none => rw [hg] at h; cases h
 | some g =>
  rw [hg] at h
  simp only [Option.bind_some] at h ⊢
  cases hh : E.heap[g]? with
  | none => rw [hh] at h; cases h
  | some o => rw [hh] at h; rw [hS.pers _ _ (hS.base _ _ hh)]; exact h
theorem formatInt_spec (n : Int) (hn : -9223372036854775808 ≤ n ∧ n ≤ 9223372036854775807) (hT : Pows E) : AFun prog E 87 [.int .i64 n, .int .i64 10] (.str ⟨(Lib.itoa n).toArray⟩) := fun I F w vs h1 h2 => by
 obtain ⟨v, us, rfl, h3, v2, us2, rfl, h4, h5⟩ := h1
 have h3 : v = .int .i64 n := h3
 have h4 : v2 = .int .i64 10 := h4
 have h5 : us2 = [] := h5
 subst h3 h4 h5
 obtain ⟨ht, L, hL, hS⟩ := h2
 have hL : L = [] := hL
 subst hL
 refine Fn.ofCalls func87 Z (by decide) ?_
 exact (Tryz.strconv_FormatInt_10 n hn.1 hn.2 w (tab_up hT hS)).mono fun e w' ⟨he, k, os, hw⟩ => ⟨_, he, I, .str ⟨(Lib.itoa n).toArray⟩, [], .refl _, rfl, ⟨ht, [], rfl, by
  subst hw
  exact hS.more rfl rfl rfl (fun k hk => Array.getElem?_append_left hk)⟩, rfl⟩
def vname (f : PFunc) (v : Int) : ByteArray := (f.vars[v.toNat]?.map (·.name)).getD ⟨#[]⟩
def words1 (f : PFunc) (x : PInst) : List ByteArray := if 0 ≤ x.dst then [vname f x.dst, ⟨#[61]⟩] else []
def words2 (f : PFunc) (x : PInst) (k : Nat) : List ByteArray := words1 f x ++ [(kRow x.op).1] ++ (x.args.take k).map (vname f)
def wordsOf (f : PFunc) (x : PInst) : List ByteArray := words2 f x x.args.length ++ (if isNum x.op then [⟨(Lib.itoa x.num).toArray⟩] else [])
theorem words1_len (f : PFunc) (x : PInst) : (words1 f x).length ≤ 2 := by unfold words1; split <;> simp
theorem words2_len (f : PFunc) (x : PInst) (k : Nat) : (words2 f x k).length ≤ 3 + k := by
 have := words1_len f x
 unfold words2; simp; omega
theorem words2_succ (f : PFunc) (x : PInst) {k : Nat} (h : k < x.args.length) : words2 f x (k + 1) = words2 f x k ++ [vname f x.args[k]] := by
 unfold words2; rw [qe h, qo]; simp only [qf]; rfl
def instLine (f : PFunc) (x : PInst) : ByteArray := if instOK f x then joinS (wordsOf f x) ⟨#[32]⟩ else ⟨#[]⟩
theorem has_get {f : PFunc} {v : Int} (h : hasV f v = true) : ∃ (h : v.toNat < f.vars.length), f.vars[v.toNat]? = some f.vars[v.toNat] ∧ 0 ≤ v ∧ vname f v = f.vars[v.toNat].name := by
 have h2 : 0 ≤ v ∧ v < f.vars.length := by simpa [hasV] using h
 have h3 : v.toNat < f.vars.length := by omega
 exact ⟨h3, qd h3, h2.1, by unfold vname; rw [qd h3]; rfl⟩
theorem joinTail_len (m : Nat) (r : List (List UInt8)) (hm : ∀ x ∈ r, x.length ≤ m) : (Lib.joinTail [32] r).length ≤ r.length * (m + 1) := by
 induction r with
 | nil => simp [Lib.joinTail]
 | cons x r ih =>
  have h1 := ih (fun y hy => hm y (.tail _ hy))
  have h2 := hm x (.head _)
  have h3 : Lib.joinTail [32] (x :: r) = [32] ++ x ++ Lib.joinTail [32] r := rfl
  rw [h3, qj, qj, List.length_cons, List.length_cons, Nat.add_mul]
  simp only [List.length_nil]
  omega
theorem join_len (ws : List ByteArray) (m : Nat) (hm : ∀ x ∈ ws, x.size ≤ m) : (Lib.join (ws.map (·.data.toList)) [32]).length ≤ ws.length * (m + 1) := by
 cases ws with
 | nil => simp [Lib.join_nil]
 | cons x r =>
  rw [List.map_cons, Lib.join_cons, qj]
  have h1 := joinTail_len m (r.map (·.data.toList)) (by
   intro y hy; obtain ⟨z, hz, rfl⟩ := List.mem_map.1 hy
   exact hm z (.tail _ hz))
  have h2 : x.data.toList.length ≤ m := hm x (.head _)
  rw [qk] at h1
  rw [List.length_cons, Nat.add_mul]
  omega
theorem word_len (op : Int) : (kRow op).1.size ≤ 6 := by
 rcases kRow_mem op with h | h
 ·rw [h]; decide
 ·have : ∀ r ∈ kindT, r.1.size ≤ 6 := by decide
  exact this _ h
theorem vname_len {f : PFunc} (hnm : ∀ v ∈ f.vars, v.name.size ≤ 1000) (v : Int) : (vname f v).size ≤ 1000 := by
 unfold vname
 cases h : f.vars[v.toNat]? with
 | none => exact (by decide : (⟨#[]⟩ : ByteArray).size ≤ 1000)
 | some x => exact hnm x (qm h)
theorem words_len {f : PFunc} {x : PInst} (hnm : ∀ v ∈ f.vars, v.name.size ≤ 1000) (hI : isNum x.op = true → -9223372036854775808 ≤ x.num ∧ x.num ≤ 9223372036854775807) : ∀ s ∈ wordsOf f x, s.size ≤ 1000 := by
 intro s hs
 unfold wordsOf words2 words1 at hs
 simp only [List.mem_append] at hs
 rcases hs with ((hs | hs) | hs) | hs
 ·split at hs
  ·simp only [List.mem_cons, List.not_mem_nil, or_false] at hs
   rcases hs with rfl | rfl
   ·exact vname_len hnm _
   ·decide
  ·cases hs
 ·rw [List.mem_singleton.1 hs]; have := word_len x.op; omega
 ·obtain ⟨v, _, rfl⟩ := List.mem_map.1 hs; exact vname_len hnm _
 ·split at hs
  ·rename_i hn
   rw [List.mem_singleton.1 hs]
   have := Lib.itoa_length_le x.num (hI hn).1 (hI hn).2
   show (List.toArray _).size ≤ _
   rw [List.size_toArray]; omega
  ·cases hs
theorem Inst_spec (f : PFunc) (x : PInst) (hbd : x.args.length ≤ 1000) (hnm : ∀ v ∈ f.vars, v.name.size ≤ 1000) (hI : isNum x.op = true → -9223372036854775808 ≤ x.num ∧ x.num ≤ 9223372036854775807) (hT : Pows E) :
  AFun prog E 47 [.agg (encF f), .agg (encInst x)] (.str (instLine f x)) := by
 have hx : okL x.args := by unfold okL; omega
 refine zk func47 Z (by decide) Z<|zSr<|y6 (cs := _) Z Z Z<|y6 (cs := _) Z Z Z<|z8 (y8 (v := .str _) Z)<|z6<|zb<|zSr<|zVGvloadWF ju jj Z Z<|zVGvloadWF Y3 Z7 Z Z<|zd (inst_spec _ _ (by assumption)) Z<|zVGvnot Z<|z6<|zz Z (fun cok=>?_) (fun cok=>?_)
 ·have hok : instOK f x = false := by simpa using cok
  refine zSr<|z8 (y8 (v := .str _) Z)<|z6<|ze<|zi (x := .str _) Z ?_
  unfold instLine; rw [hok]; rfl
 ·have hok : instOK f x = true := by simpa using cok
  obtain ⟨hi1, hi2⟩ : inst1 f x = false ∧ inst2 f x = false := by unfold instOK at hok; simp at hok; exact ⟨hok.1.1, hok.1.2⟩
  have hall : x.args.all (hasV f) = true := by unfold inst1 at hi1; simp at hi1; simpa using hi1.2
  have hdst : 0 ≤ x.dst → hasV f x.dst = true := by
   intro h; unfold inst2 at hi2
   cases hm : makesB x.op
   ·simp [hm] at hi2; omega
   ·simpa [hm] using hi2
  refine zf<|zSr<|zVzAr Z<|z6<|adopt_wp (t := 5) (k := 1) (T := 9) Z<|fun i5 => zb<|zSr<|zVzFF jk Z jd Z Z<|zVzLi jr Z<|z8 (qc Z Z)<|z6<|yn (γ := Nat) [2, 3] (fun i => [(5, .own i (words1 f x).length)]) (fun i => [(i, .grow 1 9 ((words1 f x).map encS).flatten)]) (fun i => True) ?_ (fun _ _ h => h) ?_
  ·refine zr Z (fun cd=>?_) (fun cd=>?_)
   ·obtain ⟨hlt, hg, hnn, hvn⟩ := has_get (hdst cd)
    refine zRg<|zVzMo Z<|zVzFF jc Z Z9 Z Z<|zVzLf Zn Z<|zVzFF jk Z jd Z Z<|zVzLi jr Z<|z8 (zIM x.dst.toNat js Zd Z Z (qt hnn).symm hg)<|zVzFF Zf Z jx Z Z<|z8 (ya (c := .str _) Z5 Z)<|zl (rows := [[_], [_]]) ps88_2 Z Z Z Z Z<|zy (k := 1) jh type9 Z Z Z Z Z (fun _ => .head) (by simp) (by decide) Z (by show (_ + _) * 16 ≤ _; simp <;> omega) (by simp <;> omega)<|fun i24 => zVzAo Z<|z6 ?_
    exact ⟨i24, zR2, ⟨by rw [words1, if_pos cd]; rfl, trivial⟩, ⟨_, (.refl _), by rw [words1, if_pos cd, hvn]; rfl⟩, trivial⟩
   ·refine zf ?_
    exact ⟨i5, zR2, ⟨by rw [words1, if_neg cd]; rfl, trivial⟩, ⟨_, (.refl _), by rw [words1, if_neg cd]; rfl⟩, trivial⟩
  ·rintro i _
   have hl1 := words1_len f x
   refine zSr<|zVzMo Z<|zVzFF jk Z Zx Z Z<|zVzLi Y8 Z<|zd (word_spec _) Z<|zl (rows := [[_]]) ps88_1 Z Z Z Z Z<|zy (k := 1) jh type9 Z Z Z Z Z (fun _ => .head) (by rw [grow_len (k := 1) (fun _ => rfl)]) (by decide) Z (by show (_ + 1) * 16 ≤ _; omega) (by show _ + 1 ≤ _; omega)<|fun i30 => zVzAo Z<|z6<|zb<|zSr<|zVzFF jk Z jn Z Z<|zVzLf jz Z<|zVGvlenM j9 Z<|zVzMi Z<|z6<|zg<|y3 (γ := Nat × Nat) [2, 3, 32, 33] (fun g => [(5, .own g.2 (words2 f x g.1).length), (34, .int .i64 g.1)]) (fun g => [(g.2, .grow 1 9 ((words2 f x g.1).map encS).flatten)]) (fun g => g.1 ≤ x.args.length) (fun g => x.args.length - g.1) (0, i30) ⟨congrArg (AV.own i30) (by simp [words2]), Z, trivial⟩ ⟨_, (.refl _), by rw [← grow_push (enc := encS) (ys := words2 f x 0) (xs := words1 f x) (x := (kRow x.op).1) (by simp [words2])]; rfl⟩ (qg _) ?_
   rintro ⟨k, i⟩ hk
   try dsimp only at *
   have hl2 := words2_len f x k
   refine zSr<|zVGvlss Z Z<|z6<|zb<|zr Z (fun ck=>?_) (fun ck=>?_)
   ·have hk2 : k < x.args.length := by omega
    have hh := (List.all_eq_true.1 hall) _ (qh hk2)
    obtain ⟨hlt, hg, hnn, hvn⟩ := has_get hh
    refine zf<|zb<|zg<|zSr<|z8 (yi j9 jd Z Z Z (qd (by omega)))<|zVzLi jr Z<|zVzAi Z<|z6<|zRg<|zVzMo Z<|zVzFF jc Z Z9 Z Z<|zVzLf Zn Z<|zVzMi Z<|z8 (yi (j := (x.args[k]).toNat) js Zd Z Z (qt hnn).symm hg)<|zVzFF Zf Z jx Z Z<|z8 (ya (c := .str _) Z5 Z)<|zl (rows := [[_]]) ps88_1 Z Z Z Z Z<|zy (k := 1) jh type9 Z Z Z Z Z (fun _ => .head) (by rw [grow_len (k := 1) (fun _ => rfl)]) (by decide) Z (by show (_ + 1) * 16 ≤ _; omega) (by show _ + 1 ≤ _; omega)<|fun i46 => zVzAo Z<|z6<|zRg<|zVzAd Z Z<|zVzMi Z<|z6 ?_
    exact ⟨(k + 1, i46), zR4, ⟨congrArg (AV.own i46) (by rw [words2_succ f x hk2]; simp), rfl, trivial⟩, ⟨_, (.refl _), by rw [← grow_push (enc := encS) (words2_succ f x hk2), hvn]; rfl⟩, hk2, by simp only; omega⟩
   ·have hkn : k = x.args.length := by omega
    subst hkn
    refine y2<|zb<|zSr<|zVzFF jk Z Zx Z Z<|zVzLi Y8 Z<|zd (numbered_spec _) Z<|z6<|yn (γ := Nat) [] (fun i => [(5, .own i (wordsOf f x).length)]) (fun i => [(i, .grow 1 9 ((wordsOf f x).map encS).flatten)]) (fun i => True) ?_ (fun _ _ h => h) ?_
    ·refine zz Z (fun cn=>?_) (fun cn=>?_)
     ·have hw : wordsOf f x = words2 f x x.args.length ++ [⟨(Lib.itoa x.num).toArray⟩] := by unfold wordsOf; rw [if_pos cn]
      refine zRg<|zVzMo Z<|zVzFF jk Z Yl Z Z<|zVzLi X7 Z<|zd (formatInt_spec _ (hI cn) hT) Z<|zl (rows := [[_]]) ps88_1 Z Z Z Z Z<|zy (k := 1) jh type9 Z Z Z Z Z (fun _ => .head) (by rw [grow_len (k := 1) (fun _ => rfl)]) (by decide) Z (by show (_ + 1) * 16 ≤ _; omega) (by show _ + 1 ≤ _; omega)<|fun i56 => zVzAo Z<|z6 ?_
      exact ⟨i56, trivial, ⟨congrArg (AV.own i56) (by rw [hw]; simp), trivial⟩, ⟨_, (.refl _), by rw [← grow_push (enc := encS) hw]; rfl⟩, trivial⟩
     ·have hw : wordsOf f x = words2 f x x.args.length := by unfold wordsOf; rw [if_neg (by simp [cn]), List.append_nil]
      refine zf ?_
      exact ⟨i, trivial, ⟨congrArg (AV.own i) (by rw [hw]), trivial⟩, ⟨_, (.refl _), by rw [hw]⟩, trivial⟩
    ·rintro i _
     have hlw := words2_len f x x.args.length
     have hlw2 : (wordsOf f x).length ≤ 1004 := by unfold wordsOf; rw [qj]; split <;> simp <;> omega
     have hjl := join_len (wordsOf f x) 1000 (words_len hnm hI)
     have hjl2 : (wordsOf f x).length * (1000 + 1) ≤ 1004 * 1001 := Nat.mul_le_mul hlw2 (Nat.le_refl _)
     refine zt (yw (t := 5) (rows := (wordsOf f x).map encS) Z .head (by simp [encS]) (by decide) (by simp))<|zSr<|zVzMf Z<|zd (join_spec _ _ (by omega) (by show (Lib.join _ [32]).length ≤ _; omega)) Z<|z8 (y8 (v := .str _) Z)<|z6<|ze<|zi (x := .str _) Z ?_
     unfold instLine; rw [hok]; rfl
end Go.Proofs.YtbkgklpihnfnjaaGreatDoor
namespace Go.Proofs.YtbkgklpihnfnjaaGreatDoor
open Go.Proofs.Tryz
open Go.Proofs Go.Lib Go.Shelf Go.RowKit
theorem pl172 : Places prog 172 #[(0, 1), (1, 1), (2, 1)] [.str ⟨#[]⟩, .str ⟨#[]⟩, .str ⟨#[]⟩] := ⟨_, _, Zy, Xe, fun w => by kernel_rfl, rfl⟩
theorem ps173_27 : PlacesS prog 173 172 27 3 [.str ⟨#[]⟩, .str ⟨#[]⟩, .str ⟨#[]⟩, .str ⟨#[]⟩, .str ⟨#[]⟩, .str ⟨#[]⟩, .str ⟨#[]⟩, .str ⟨#[]⟩, .str ⟨#[]⟩, .str ⟨#[]⟩, .str ⟨#[]⟩, .str ⟨#[]⟩, .str ⟨#[]⟩, .str ⟨#[]⟩, .str ⟨#[]⟩, .str ⟨#[]⟩, .str ⟨#[]⟩, .str ⟨#[]⟩, .str ⟨#[]⟩, .str ⟨#[]⟩, .str ⟨#[]⟩, .str ⟨#[]⟩, .str ⟨#[]⟩, .str ⟨#[]⟩, .str ⟨#[]⟩, .str ⟨#[]⟩, .str ⟨#[]⟩, .str ⟨#[]⟩, .str ⟨#[]⟩, .str ⟨#[]⟩, .str ⟨#[]⟩, .str ⟨#[]⟩, .str ⟨#[]⟩, .str ⟨#[]⟩, .str ⟨#[]⟩, .str ⟨#[]⟩, .str ⟨#[]⟩, .str ⟨#[]⟩, .str ⟨#[]⟩, .str ⟨#[]⟩, .str ⟨#[]⟩, .str ⟨#[]⟩, .str ⟨#[]⟩, .str ⟨#[]⟩, .str ⟨#[]⟩, .str ⟨#[]⟩, .str ⟨#[]⟩, .str ⟨#[]⟩, .str ⟨#[]⟩, .str ⟨#[]⟩, .str ⟨#[]⟩, .str ⟨#[]⟩, .str ⟨#[]⟩, .str ⟨#[]⟩, .str ⟨#[]⟩, .str ⟨#[]⟩, .str ⟨#[]⟩, .str ⟨#[]⟩, .str ⟨#[]⟩, .str ⟨#[]⟩, .str ⟨#[]⟩, .str ⟨#[]⟩, .str ⟨#[]⟩, .str ⟨#[]⟩, .str ⟨#[]⟩, .str ⟨#[]⟩, .str ⟨#[]⟩, .str ⟨#[]⟩, .str ⟨#[]⟩, .str ⟨#[]⟩, .str ⟨#[]⟩, .str ⟨#[]⟩, .str ⟨#[]⟩, .str ⟨#[]⟩, .str ⟨#[]⟩, .str ⟨#[]⟩, .str ⟨#[]⟩, .str ⟨#[]⟩, .str ⟨#[]⟩, .str ⟨#[]⟩, .str ⟨#[]⟩] := ⟨_, underlying173, Yk, Xe, by decide, by decide, by kernel_rfl⟩
set_option maxRecDepth 20000
variable {E : World}
def Letters (E : World) : Prop := Lib.TabIs prog E "unicode.properties" .u8 Lib.propertiesTab ∧ RVar 5 letterT E
theorem letter_spec (c : Int) (h1 : -2147483648 ≤ c) (h2 : c ≤ 2147483647) (hL : Letters E) : AFun prog E 182 [.int .i32 c] (.bool (isLetterU c)) :=
 AFun.ofBelow (vs := [.int .i32 c]) (r := .bool (isLetterU c)) func182 rfl (by decide) rfl fun w hw => Tryz.unicode_IsLetter_all c w h1 h2 (TabIs_below (g := 4) (by kernel_rfl) hL.1 hw) (RVar_below hL.2 hw)
theorem decode_ok (s : ByteArray) (p : Nat) : 1 ≤ (Utf8.decode s p).2 ∧ (Utf8.decode s p).1 ≤ 2097151 := by
 have h256 : ∀ k, (s.get! k).toNat < 256 := fun k => (s.get! k).toNat_lt
 unfold Utf8.decode
 dsimp only
 constructor
 ·repeat' split
  all_goals simp
 ·have h0 := h256 (p + 0)
  have h1 := h256 (p + 1)
  have h2 := h256 (p + 2)
  have h3 := h256 (p + 3)
  repeat' split
  all_goals (simp only [Utf8.runeError]; omega)
def okRune (c : Int) (n : Nat) : Bool := (isLetterU c && !decide (c = 65533)) || (!decide ((n : Int) = 0) && ((decide (48 ≤ c) && decide (c ≤ 57)) || decide (c = 46) || decide (c = 95)))
def nameFrom (s : ByteArray) (p n : Nat) : Bool :=
 if h : p < s.size then (if okRune (Utf8.decode s p).1 n then nameFrom s (p + (Utf8.decode s p).2) (n + 1) else false) else decide ((1 : Int) ≤ n) && decide ((n : Int) ≤ 16)
termination_by s.size - p
decreasing_by have := (decode_ok s p).1; omega
def nameB (s : ByteArray) : Bool := nameFrom s 0 0
theorem name_spec (s : ByteArray) (hs : s.size ≤ 140737488355328) (hL : Letters E) : AFun prog E 144 [.str s] (.bool (nameB s)) := by
 refine zk func144 Z (by decide) Z<|zSr<|zVzAb Z<|z6<|zSr<|zVzAi Z<|z6<|zb<|zSr<|z8 (y9 (v := .str _) Z)<|AOps.rangeT Z3 Z<|fun i8 => z6<|zg<|y3 (γ := Nat × Nat) [8] (fun g => [(3, .int .i64 g.2)]) (fun g => [(i8, .iter s g.1)]) (fun g => nameFrom s g.1 g.2 = nameB s ∧ g.2 ≤ g.1 ∧ g.2 ≤ s.size) (fun g => s.size - g.1) (0, 0) zR1 zLe (⟨Z, Nat.le_refl _, qg _⟩) ?_
 rintro ⟨p, n⟩ ⟨hp, hn, hn2⟩
 try dsimp only at *
 by_cases hlt : p < s.size
 ·obtain ⟨hd1, hd2⟩ := decode_ok s p
  have hstep := hp
  rw [nameFrom, dif_pos hlt] at hstep
  refine zSr<|AOps.nextT Z .head hlt<|z8 (zXb Z Z)<|z6<|zb<|yh Z Z<|zf<|zg<|zSr<|z8 (zXi Z Z)<|zVzAi Z<|z6<|zSr<|zVzMi Z<|zd (letter_spec _ (by omega) (by omega) hL) Z<|zVzMb Z<|zo (s := 14) Z (fun c1=>?_) (fun c1=>?_)
  ·refine za Z Z c1<|zVzMi Z<|za Z Z c1<|zVGvneqI Z Z<|zVzPt Z c1 Z<|zVzAb Z<|z6<|zb<|zSr<|zVzMb Z<|zVGvnot Z<|zVzMb Z<|zo (s := 20) Z (fun c2=>?_) (fun c2=>?_)
   ·refine za Z Z c2<|zVzMi Z<|za Z Z c2<|zVGveqlI Z Z<|za Z Z c2<|zVzMb Z<|zo (s := 23) Z (fun c3=>?_) (fun c3=>?_)
    ·refine z7 Z Z c3<|z7 Z Z c3<|z7 Z Z c3<|zh Z Z<|zh Z Z<|z7 Z Z c3<|z7 Z Z c3<|z7 Z Z c3<|zh Z Z<|zh Z Z<|z7 Z Z c3<|z7 Z Z c3<|zh Z Z<|zh Z Z<|z7 Z Z c3<|za Z Z c2<|zVzPt Z c3 Z<|zVzPt Z c2 Z<|z6<|yh Z Z<|zSr<|zVzAb Z<|z6<|ze<|zi (x := .bool _) Z ?_
     rw [if_neg (by simp_all [okRune] <;> omega)] at hstep; exact jb hstep
    ·refine za Z Z c3<|zVzMi Z<|za Z Z c3<|z8 (qc Z Z)<|za Z Z c3<|zVzMb Z<|zo (s := 26) Z (fun c4=>?_) (fun c4=>?_)
     ·refine za Z Z c4<|zVzMi Z<|za Z Z c4<|z8 (Gv.leq Z Z)<|za Z Z c3<|zVzPt Z c4 Z<|za Z Z c3<|zVGvnot Z<|za Z Z c3<|zVzMb Z<|zo (s := 31) Z (fun c5=>?_) (fun c5=>?_)
      ·refine za Z Z c5<|zVzMi Z<|za Z Z c5<|zVGvneqI Z Z<|za Z Z c3<|zVzPt Z c5 Z<|za Z Z c3<|zVzMb Z<|zo (s := 35) Z (fun c6=>?_) (fun c6=>?_)
       ·refine za Z Z c6<|zVzMi Z<|za Z Z c6<|zVGvneqI Z Z<|za Z Z c3<|zVzPt Z c6 Z<|za Z Z c2<|zVzPf Z c3 Z<|zVzPt Z c2 Z<|z6<|zz Z (fun c7=>?_) (fun c7=>?_)
        ·refine zSr<|zVzAb Z<|z6<|ze<|zi (x := .bool _) Z ?_
         rw [if_neg (by simp_all [okRune] <;> omega)] at hstep; exact jb hstep
        ·refine zf<|zRg<|zVzMi Z<|zVzAd Z Z<|zVzAi Z<|z6 ?_
         exact ⟨(p + (Utf8.decode s p).2, n + 1), zR1, zR1, zLe, ⟨by rw [if_pos (by simp_all [okRune] <;> omega)] at hstep; exact hstep, by dsimp only; omega, by dsimp only; omega⟩, by dsimp only; omega⟩
       ·refine z7 Z Z c6<|z7 Z Z c6<|za Z Z c3<|zVzPf Z c6 Z<|za Z Z c2<|zVzPf Z c3 Z<|zVzPt Z c2 Z<|z6<|yc Z Z<|zf<|zRg<|zVzMi Z<|zVzAd Z Z<|zVzAi Z<|z6 ?_
        exact ⟨(p + (Utf8.decode s p).2, n + 1), zR1, zR1, zLe, ⟨by rw [if_pos (by simp_all [okRune] <;> omega)] at hstep; exact hstep, by dsimp only; omega, by dsimp only; omega⟩, by dsimp only; omega⟩
      ·refine z7 Z Z c5<|z7 Z Z c5<|za Z Z c3<|zVzPf Z c5 Z<|za Z Z c3<|zVzMb Z<|z7 Z Z Z<|z7 Z Z Z<|za Z Z c3<|zVzPf Z Z Z<|za Z Z c2<|zVzPf Z c3 Z<|zVzPt Z c2 Z<|z6<|yc Z Z<|zf<|zRg<|zVzMi Z<|zVzAd Z Z<|zVzAi Z<|z6 ?_
       exact ⟨(p + (Utf8.decode s p).2, n + 1), zR1, zR1, zLe, ⟨by rw [if_pos (by simp_all [okRune] <;> omega)] at hstep; exact hstep, by dsimp only; omega, by dsimp only; omega⟩, by dsimp only; omega⟩
     ·refine z7 Z Z c4<|z7 Z Z c4<|za Z Z c3<|zVzPf Z c4 Z<|za Z Z c3<|zVGvnot Z<|za Z Z c3<|zVzMb Z<|za Z Z Z<|zVzMi Z<|za Z Z Z<|zVGvneqI Z Z<|za Z Z c3<|zVzPt Z Z Z<|za Z Z c3<|zVzMb Z<|zo (s := 35) Z (fun c8=>?_) (fun c8=>?_)
      ·refine za Z Z c8<|zVzMi Z<|za Z Z c8<|zVGvneqI Z Z<|za Z Z c3<|zVzPt Z c8 Z<|za Z Z c2<|zVzPf Z c3 Z<|zVzPt Z c2 Z<|z6<|zz Z (fun c9=>?_) (fun c9=>?_)
       ·refine zSr<|zVzAb Z<|z6<|ze<|zi (x := .bool _) Z ?_
        rw [if_neg (by simp_all [okRune] <;> omega)] at hstep; exact jb hstep
       ·refine zf<|zRg<|zVzMi Z<|zVzAd Z Z<|zVzAi Z<|z6 ?_
        exact ⟨(p + (Utf8.decode s p).2, n + 1), zR1, zR1, zLe, ⟨by rw [if_pos (by simp_all [okRune] <;> omega)] at hstep; exact hstep, by dsimp only; omega, by dsimp only; omega⟩, by dsimp only; omega⟩
      ·refine z7 Z Z c8<|z7 Z Z c8<|za Z Z c3<|zVzPf Z c8 Z<|za Z Z c2<|zVzPf Z c3 Z<|zVzPt Z c2 Z<|z6<|yc Z Z<|zf<|zRg<|zVzMi Z<|zVzAd Z Z<|zVzAi Z<|z6 ?_
       exact ⟨(p + (Utf8.decode s p).2, n + 1), zR1, zR1, zLe, ⟨by rw [if_pos (by simp_all [okRune] <;> omega)] at hstep; exact hstep, by dsimp only; omega, by dsimp only; omega⟩, by dsimp only; omega⟩
   ·refine z7 Z Z c2<|z7 Z Z c2<|z7 Z Z c2<|zh Z Z<|zh Z Z<|zh Z Z<|zh Z Z<|zh Z Z<|zh Z Z<|zh Z Z<|zh Z Z<|zh Z Z<|zh Z Z<|zh Z Z<|zh Z Z<|zh Z Z<|zh Z Z<|zh Z Z<|z7 Z Z c2<|zVzPf Z c2 Z<|z6<|yc Z Z<|zf<|zRg<|zVzMi Z<|zVzAd Z Z<|zVzAi Z<|z6 ?_
    exact ⟨(p + (Utf8.decode s p).2, n + 1), zR1, zR1, zLe, ⟨by rw [if_pos (by simp_all [okRune] <;> omega)] at hstep; exact hstep, by dsimp only; omega, by dsimp only; omega⟩, by dsimp only; omega⟩
  ·refine z7 Z Z c1<|z7 Z Z c1<|zVzPf Z c1 Z<|zVzAb Z<|z6<|zb<|zSr<|zVzMb Z<|zVGvnot Z<|zVzMb Z<|za Z Z Z<|zVzMi Z<|za Z Z Z<|zVGveqlI Z Z<|za Z Z Z<|zVzMb Z<|zo (s := 23) Z (fun c10=>?_) (fun c10=>?_)
   ·refine z7 Z Z c10<|z7 Z Z c10<|z7 Z Z c10<|zh Z Z<|zh Z Z<|z7 Z Z c10<|z7 Z Z c10<|z7 Z Z c10<|zh Z Z<|zh Z Z<|z7 Z Z c10<|z7 Z Z c10<|zh Z Z<|zh Z Z<|z7 Z Z c10<|za Z Z Z<|zVzPt Z c10 Z<|zVzPt Z Z Z<|z6<|yh Z Z<|zSr<|zVzAb Z<|z6<|ze<|zi (x := .bool _) Z ?_
    rw [if_neg (by simp_all [okRune] <;> omega)] at hstep; exact jb hstep
   ·refine za Z Z c10<|zVzMi Z<|za Z Z c10<|z8 (qc Z Z)<|za Z Z c10<|zVzMb Z<|zo (s := 26) Z (fun c11=>?_) (fun c11=>?_)
    ·refine za Z Z c11<|zVzMi Z<|za Z Z c11<|z8 (Gv.leq Z Z)<|za Z Z c10<|zVzPt Z c11 Z<|za Z Z c10<|zVGvnot Z<|za Z Z c10<|zVzMb Z<|zo (s := 31) Z (fun c12=>?_) (fun c12=>?_)
     ·refine za Z Z c12<|zVzMi Z<|za Z Z c12<|zVGvneqI Z Z<|za Z Z c10<|zVzPt Z c12 Z<|za Z Z c10<|zVzMb Z<|zo (s := 35) Z (fun c13=>?_) (fun c13=>?_)
      ·refine za Z Z c13<|zVzMi Z<|za Z Z c13<|zVGvneqI Z Z<|za Z Z c10<|zVzPt Z c13 Z<|za Z Z Z<|zVzPf Z c10 Z<|zVzPt Z Z Z<|z6<|zz Z (fun c14=>?_) (fun c14=>?_)
       ·refine zSr<|zVzAb Z<|z6<|ze<|zi (x := .bool _) Z ?_
        rw [if_neg (by simp_all [okRune] <;> omega)] at hstep; exact jb hstep
       ·refine zf<|zRg<|zVzMi Z<|zVzAd Z Z<|zVzAi Z<|z6 ?_
        exact ⟨(p + (Utf8.decode s p).2, n + 1), zR1, zR1, zLe, ⟨by rw [if_pos (by simp_all [okRune] <;> omega)] at hstep; exact hstep, by dsimp only; omega, by dsimp only; omega⟩, by dsimp only; omega⟩
      ·refine z7 Z Z c13<|z7 Z Z c13<|za Z Z c10<|zVzPf Z c13 Z<|za Z Z Z<|zVzPf Z c10 Z<|zVzPt Z Z Z<|z6<|yc Z Z<|zf<|zRg<|zVzMi Z<|zVzAd Z Z<|zVzAi Z<|z6 ?_
       exact ⟨(p + (Utf8.decode s p).2, n + 1), zR1, zR1, zLe, ⟨by rw [if_pos (by simp_all [okRune] <;> omega)] at hstep; exact hstep, by dsimp only; omega, by dsimp only; omega⟩, by dsimp only; omega⟩
     ·refine z7 Z Z c12<|z7 Z Z c12<|za Z Z c10<|zVzPf Z c12 Z<|za Z Z c10<|zVzMb Z<|z7 Z Z Z<|z7 Z Z Z<|za Z Z c10<|zVzPf Z Z Z<|za Z Z Z<|zVzPf Z c10 Z<|zVzPt Z Z Z<|z6<|yc Z Z<|zf<|zRg<|zVzMi Z<|zVzAd Z Z<|zVzAi Z<|z6 ?_
      exact ⟨(p + (Utf8.decode s p).2, n + 1), zR1, zR1, zLe, ⟨by rw [if_pos (by simp_all [okRune] <;> omega)] at hstep; exact hstep, by dsimp only; omega, by dsimp only; omega⟩, by dsimp only; omega⟩
    ·refine z7 Z Z c11<|z7 Z Z c11<|za Z Z c10<|zVzPf Z c11 Z<|za Z Z c10<|zVGvnot Z<|za Z Z c10<|zVzMb Z<|za Z Z Z<|zVzMi Z<|za Z Z Z<|zVGvneqI Z Z<|za Z Z c10<|zVzPt Z Z Z<|za Z Z c10<|zVzMb Z<|zo (s := 35) Z (fun c15=>?_) (fun c15=>?_)
     ·refine za Z Z c15<|zVzMi Z<|za Z Z c15<|zVGvneqI Z Z<|za Z Z c10<|zVzPt Z c15 Z<|za Z Z Z<|zVzPf Z c10 Z<|zVzPt Z Z Z<|z6<|zz Z (fun c16=>?_) (fun c16=>?_)
      ·refine zSr<|zVzAb Z<|z6<|ze<|zi (x := .bool _) Z ?_
       rw [if_neg (by simp_all [okRune] <;> omega)] at hstep; exact jb hstep
      ·refine zf<|zRg<|zVzMi Z<|zVzAd Z Z<|zVzAi Z<|z6 ?_
       exact ⟨(p + (Utf8.decode s p).2, n + 1), zR1, zR1, zLe, ⟨by rw [if_pos (by simp_all [okRune] <;> omega)] at hstep; exact hstep, by dsimp only; omega, by dsimp only; omega⟩, by dsimp only; omega⟩
     ·refine z7 Z Z c15<|z7 Z Z c15<|za Z Z c10<|zVzPf Z c15 Z<|za Z Z Z<|zVzPf Z c10 Z<|zVzPt Z Z Z<|z6<|yc Z Z<|zf<|zRg<|zVzMi Z<|zVzAd Z Z<|zVzAi Z<|z6 ?_
      exact ⟨(p + (Utf8.decode s p).2, n + 1), zR1, zR1, zLe, ⟨by rw [if_pos (by simp_all [okRune] <;> omega)] at hstep; exact hstep, by dsimp only; omega, by dsimp only; omega⟩, by dsimp only; omega⟩
 ·rw [nameFrom, dif_neg hlt] at hp
  refine zSr<|AOps.nextTover Z .head hlt<|z8 (zXb Z Z)<|z6<|zb<|yc Z Z<|y2<|zSr<|zVzMi Z<|z8 (qc Z Z)<|zVzMb Z<|zo (s := 45) Z (fun c17=>?_) (fun c17=>?_)
  ·refine za Z Z c17<|zVzMi Z<|za Z Z c17<|z8 (Gv.leq Z Z)<|zVzPt Z c17 Z<|zVzAb Z<|z6<|ze<|zi (x := .bool _) Z ?_
   rw [← hp]; exact jb (by simp_all <;> (intros; omega))
  ·refine z7 Z Z c17<|z7 Z Z c17<|zVzPf Z c17 Z<|zVzAb Z<|z6<|ze<|zi (x := .bool _) Z ?_
   rw [← hp]; exact jb (by simp_all <;> (intros; omega))
theorem rows_spec : AFun prog E 105 [] (.fro 3 (kindT.map encK)) := by
 refine zk func105 Z (by decide) Z<|zSr<|zVzAr Z<|z6<|zSr<|z8 (y4 (cps := [(0, [_]), (1, [_]), (2, [_])]) (rs := [_, _, _]) pl172 Z Z Z)<|z8 (y4 (cps := [(0, [_]), (1, [_]), (2, [_])]) (rs := [_, _, _]) pl172 Z Z Z)<|z8 (y4 (cps := [(0, [_]), (1, [_]), (2, [_])]) (rs := [_, _, _]) pl172 Z Z Z)<|z8 (y4 (cps := [(0, [_]), (1, [_]), (2, [_])]) (rs := [_, _, _]) pl172 Z Z Z)<|z8 (y4 (cps := [(0, [_]), (1, [_]), (2, [_])]) (rs := [_, _, _]) pl172 Z Z Z)<|z8 (y4 (cps := [(0, [_]), (1, [_]), (2, [_])]) (rs := [_, _, _]) pl172 Z Z Z)<|z8 (y4 (cps := [(0, [_]), (1, [_]), (2, [_])]) (rs := [_, _, _]) pl172 Z Z Z)<|z8 (y4 (cps := [(0, [_]), (1, [_]), (2, [_])]) (rs := [_, _, _]) pl172 Z Z Z)<|z8 (y4 (cps := [(0, [_]), (1, [_]), (2, [_])]) (rs := [_, _, _]) pl172 Z Z Z)<|z8 (y4 (cps := [(0, [_]), (1, [_]), (2, [_])]) (rs := [_, _, _]) pl172 Z Z Z)<|z8 (y4 (cps := [(0, [_]), (1, [_]), (2, [_])]) (rs := [_, _, _]) pl172 Z Z Z)<|z8 (y4 (cps := [(0, [_]), (1, [_]), (2, [_])]) (rs := [_, _, _]) pl172 Z Z Z)<|z8 (y4 (cps := [(0, [_]), (1, [_]), (2, [_])]) (rs := [_, _, _]) pl172 Z Z Z)<|z8 (y4 (cps := [(0, [_]), (1, [_]), (2, [_])]) (rs := [_, _, _]) pl172 Z Z Z)<|z8 (y4 (cps := [(0, [_]), (1, [_]), (2, [_])]) (rs := [_, _, _]) pl172 Z Z Z)<|z8 (y4 (cps := [(0, [_]), (1, [_]), (2, [_])]) (rs := [_, _, _]) pl172 Z Z Z)<|z8 (y4 (cps := [(0, [_]), (1, [_]), (2, [_])]) (rs := [_, _, _]) pl172 Z Z Z)<|z8 (y4 (cps := [(0, [_]), (1, [_]), (2, [_])]) (rs := [_, _, _]) pl172 Z Z Z)<|z8 (y4 (cps := [(0, [_]), (1, [_]), (2, [_])]) (rs := [_, _, _]) pl172 Z Z Z)<|z8 (y4 (cps := [(0, [_]), (1, [_]), (2, [_])]) (rs := [_, _, _]) pl172 Z Z Z)<|z8 (y4 (cps := [(0, [_]), (1, [_]), (2, [_])]) (rs := [_, _, _]) pl172 Z Z Z)<|z8 (y4 (cps := [(0, [_]), (1, [_]), (2, [_])]) (rs := [_, _, _]) pl172 Z Z Z)<|z8 (y4 (cps := [(0, [_]), (1, [_]), (2, [_])]) (rs := [_, _, _]) pl172 Z Z Z)<|z8 (y4 (cps := [(0, [_]), (1, [_]), (2, [_])]) (rs := [_, _, _]) pl172 Z Z Z)<|z8 (y4 (cps := [(0, [_]), (1, [_]), (2, [_])]) (rs := [_, _, _]) pl172 Z Z Z)<|z8 (y4 (cps := [(0, [_]), (1, [_]), (2, [_])]) (rs := [_, _, _]) pl172 Z Z Z)<|z8 (y4 (cps := [(0, [_]), (1, [_]), (2, [_])]) (rs := [_, _, _]) pl172 Z Z Z)<|zl (rows := [[_, _, _], [_, _, _], [_, _, _], [_, _, _], [_, _, _], [_, _, _], [_, _, _], [_, _, _], [_, _, _], [_, _, _], [_, _, _], [_, _, _], [_, _, _], [_, _, _], [_, _, _], [_, _, _], [_, _, _], [_, _, _], [_, _, _], [_, _, _], [_, _, _], [_, _, _], [_, _, _], [_, _, _], [_, _, _], [_, _, _], [_, _, _]]) ps173_27 Z Z Z Z Z<|z8 (zAf Z)<|z6<|ze<|zi (x := .fro _ _) Z ?_
 rfl
theorem in_spec (k n : Int) : AFun prog E 145 [.int .i64 k, .int .i64 n] (.bool (decide (0 ≤ k) && decide (k < n))) := by
 refine zk func145 Z (by decide) Z<|zSr<|zVzAb Z<|z6<|zSr<|zVzMi Z<|z8 (qc Z Z)<|zVzMb Z<|zo (s := 7) Z (fun c18=>?_) (fun c18=>?_)
 ·refine za Z Z c18<|zVzMi Z<|za Z Z c18<|zVzMi Z<|za Z Z c18<|zVGvlss Z Z<|zVzPt Z c18 Z<|zVzAb Z<|z6<|ze<|zi (x := .bool _) Z ?_
  exact jb (by simp_all <;> omega)
 ·refine z7 Z Z c18<|z7 Z Z c18<|z7 Z Z c18<|zVzPf Z c18 Z<|zVzAb Z<|z6<|ze<|zi (x := .bool _) Z ?_
  exact jb (by simp_all <;> omega)
def strL (l : List UInt8) : ByteArray := ⟨l.toArray⟩
theorem strL_app (a b : List UInt8) : strL a ++ strL b = strL (a ++ b) := by
 apply ByteArray.ext
 simp [strL, ByteArray.data_append]
theorem strL_size (a : List UInt8) : (strL a).size = a.length := by show (List.toArray a).size = _; simp
end Go.Proofs.YtbkgklpihnfnjaaGreatDoor
