/- Numbers: what variables are while blocks are gone through, kids. Plain law. No conditions. -/
import Derived.Test.YtiojekbkamegdaaGreatDoorLh
import Derived.Test.YtiojekbkamegdaaGreatDoorLf
import Derived.Test.YtiojekbkamegdaaGreatDoorLg
set_option linter.unusedVariables false
set_option linter.unusedSimpArgs false
set_option linter.unusedSectionVars false
namespace Go.Proofs.YtiojekbkamegdaaGreatDoor
open Go.Proofs.Tryz
def bag (X : OL) : AObj := .heapG (fun I L => ∃ L', RepOs I X L' ∧ L.Perm L') fun I J L h hp => by obtain ⟨L', h1, h2⟩ := hp; exact ⟨L', h1.mono h, h2⟩
section
variable {E : World} {env : AEnv} {O O1 O' : OL} {m i : Nat} {o : AObj} {X X' : OL}
theorem GStep.bagNew : GStep E env O env ((0, bag []) :: O) := fun I F ρ w h1 ⟨ht, L, hL, hS⟩ => ⟨I, .refl _, h1, ht, L, ⟨[], L, rfl, ⟨[], rfl, .refl _⟩, hL⟩, hS⟩
theorem GStep.bagOut (hX : X.Perm ((i, o) :: X')) (hO : Put O m (bag X) (bag X') O') : GStep E env O env ((i, o) :: O') := fun I F ρ w h1 ⟨ht, L, hL, hS⟩ => by
 obtain ⟨A, B, hp, ⟨L', hA, hpA⟩, hback⟩ := hO.rep hL
 obtain ⟨L2, h2, h3⟩ := hA.perm hX
 obtain ⟨C, D, rfl, h4, h5⟩ := h2
 obtain ⟨L3, h6, h7⟩ := hback (qb I) (A' := D) ⟨D, h5, .refl _⟩
 refine ⟨I, .refl _, h1, ht, C ++ L3, ⟨C, L3, Z, h4, h6⟩, hS.perm (List.Perm.append_right F ?_)⟩
 refine (h7.append_left C).trans ?_
 rw [← qs]
 exact (((hpA.trans h3).append_right B).symm).trans hp.symm
theorem GStep.bagIn (hP : Pick O i o O1) (hX : ((i, o) :: X).Perm X') (hO : Put O1 m (bag X) (bag X') O') : GStep E env O env O' := fun I F ρ w h1 ⟨ht, L, hL, hS⟩ => by
 obtain ⟨A, B, hp, hA, hB⟩ := hP.rep hL
 obtain ⟨A2, B2, hp2, ⟨L', h3, h4⟩, hback⟩ := hO.rep hB
 obtain ⟨L4, h5, h6⟩ := (show RepOs I ((i, o) :: X) (A ++ L') from ⟨A, L', rfl, hA, h3⟩).perm hX
 obtain ⟨L5, h7, h8⟩ := hback (qb I) (A' := A ++ A2) ⟨L4, h5, (h4.append_left A).trans h6⟩
 refine ⟨I, .refl _, h1, ht, L5, h7, hS.perm (List.Perm.append_right F ?_)⟩
 refine h8.trans ?_
 rw [qs]
 exact ((hp2.append_left A).symm).trans hp.symm
end
theorem zip_out {α β γ : Type} (g : α → β → γ) : ∀ (xs : List α) (ys : List β) (j : Nat) {a : α} {b : β}, xs[j]? = some a → ys[j]? = some b → ∃ X, (List.zipWith g xs ys).Perm (g a b :: X) ∧ ∀ a' b', (g a' b' :: X).Perm (List.zipWith g (xs.set j a') (ys.set j b'))
 | [], _, j, _, _, h, _ => by simp at h
 | _ :: _, [], j, _, _, _, h => by simp at h
 | x :: xs, y :: ys, 0, a, b, h1, h2 => by
  simp at h1 h2
  subst h1 h2
  exact ⟨List.zipWith g xs ys, .refl _, fun _ _ => .refl _⟩
 | x :: xs, y :: ys, j + 1, a, b, h1, h2 => by
  obtain ⟨X, h3, h4⟩ := zip_out g xs ys j (by simpa using h1) (by simpa using h2)
  refine ⟨g x y :: X, (h3.cons _).trans (.swap _ _ _), fun a' b' => ?_⟩
  exact (List.Perm.swap _ _ _).trans ((h4 a' b').cons _)
theorem own_fro {I J : G} {id k : Nat} {T : TypeId} {rows : List (List AV)} {L : List (Nat × Obj)} (hk : ∀ r ∈ rows, r.length = k) (hk0 : 0 < k) (h : RepO I (id, .grow k T rows.flatten) L) (hle : I.le J) (hJ : ∀ x ∈ L, J.k x.1 = some x.2) {v : Value} (hv : RepV I (.own id rows.length) v) : RepV J (.fro k rows) v := by
 obtain ⟨b, c, n, vs, e1, hvs, hvc, hown⟩ := h
 simp only at e1
 have hflat := flat_len hk
 have hnm : n = rows.length := by
  have h5 := hown.1
  have h6 := hvs.length
  have : n * k = rows.length * k := by omega
  exact Nat.eq_of_mul_eq_mul_right hk0 this
 obtain ⟨b2, c2, e2, rfl⟩ := hv
 rw [e1] at e2
 simp only [Option.some.injEq, Prod.mk.injEq] at e2
 obtain ⟨rfl, rfl⟩ := e2
 obtain ⟨h5, h6, h7⟩ := hown
 rcases h7 with ⟨ea, rfl, rfl⟩ | ⟨b', junk, ea, rfl, hj⟩
 ·have h0 : rows = [] := List.eq_nil_of_length_eq_zero (by omega)
  subst h0
  exact ⟨adr b, 0, 0, rfl, rfl, Nat.le_refl _, fun _ => rfl, trivial⟩
 ·cases b with
  | none => simp [adr] at ea
  | some b =>
   simp [adr] at ea
   subst ea
   have hb := hJ _ (.head _)
   simp only at hb
   refine ⟨adr (some b), rows.length, c, Z, Z, by omega, fun h => by simp [adr] at h, RepR.of_flat hb rows vs 0 hk (qe hle _ _ hvs) fun i u hu => ?_⟩
   rw [Nat.zero_mul, Nat.zero_add, List.getElem?_toArray, List.getElem?_append_left (List.getElem?_eq_some_iff.1 hu).1]
   exact hu
section
variable {E : World} {env : AEnv} {O O1 O' : OL} {m i k : Nat} {T : TypeId} {cs cs' : List AV} {X : OL}
theorem GStep.bagKnow (hB : Pick O m (bag X) O1) (hP : Put O1 i (.grow k T cs) (.grow k T cs') O')
  (hc : ∀ (I J : G) L vs, I.le J → RepOs I X L → (∀ x ∈ L, J.k x.1 = some x.2) → RepL I cs vs → RepL J cs' vs) : GStep E env O env O' := fun I F ρ w h1 ⟨ht, L, hL, hS⟩ => by
 obtain ⟨A, B, hp, ⟨L', hX, hA⟩, hB2⟩ := hB.rep hL
 have hS2 : SL I.k (A ++ (B ++ F)) E w := hS.perm (by rw [← qs]; exact (hp.append_right F).symm)
 obtain ⟨J, j1, j2, j3⟩ := SL.freezeAllN hS2
 have hle : I.le ⟨J, I.h⟩ := ⟨j1, fun _ _ h => h⟩
 obtain ⟨A2, B2, hp2, ⟨b, c, n, vs, e1, hvs, hvc, hown⟩, hback⟩ := hP.rep hB2
 obtain ⟨L3, h4, h5⟩ := hback hle (A' := A2) ⟨b, c, n, vs, e1, hc I ⟨J, I.h⟩ L' vs hle hX (fun x hx => j3 x (hA.mem_iff.2 hx)) hvs, hvc, hown⟩
 exact ⟨⟨J, I.h⟩, hle, h1.mono hle, ht, L3, h4, j2.perm ((h5.trans hp2.symm).append_right F)⟩
end
theorem RepL.cut {I : G} {xs ys : List AV} {vs : List Value} (h : RepL I (xs ++ ys) vs) : ∃ a b, vs = a ++ b ∧ RepL I xs a ∧ RepL I ys b := by
 have e1 := h.take xs.length
 have e2 := h.drop xs.length
 rw [List.take_left] at e1
 rw [List.drop_left] at e2
 exact ⟨_, _, (List.take_append_drop _ _).symm, e1, e2⟩
end Go.Proofs.YtiojekbkamegdaaGreatDoor
namespace Go.Proofs.YtiojekbkamegdaaGreatDoor
open Go.Proofs.Tryz
open Go.Proofs Go.Lib Go.Shelf Go.RowKit
set_option maxRecDepth 20000
variable {E : World}
theorem zip_push {α β γ : Type} (g : α → β → γ) {xs : List α} {ys : List β} {k : Nat} (a : α) (h : xs.length = k) (hk : k < ys.length) : List.zipWith g (xs ++ [a]) (ys.take (k + 1)) = List.zipWith g xs (ys.take k) ++ [g a ys[k]] := by
 rw [qr hk, List.zipWith_append (by rw [w3]; omega)]; rfl
theorem AOps.storeGN {P : Program} {ops : Array Oper} {K : AEnv → OL → Prop} {env : AEnv} {O O' : OL} {rest : List Oper} {ty : Nat} {pos : String} {af : Array Edge} {x y : Operand} {t : TypeId} {i off k : Nat} {T : TypeId} {v : AV} {cs new : List AV} (hs : ∀ w, (sizeOf t).run P w = .ok 1 w) (hx : aev env x = .po i off) (hy : aev env y = v) (hv : v.sto = true) (hl : v.cs = [v]) (hl1 : v.cell = true)
  (hO : Put O i (.grow k T cs) (.grow k T new) O') (hb : off < cs.length) (hnew : cs.set off v = new) (kk : AOps P E ops K rest env O') : AOps P E ops K (Oper.mk none (.store t x y) ty pos af none :: rest) env O := by
 subst hnew; exact AOps.storeG1 hs hx hy hv hl hl1 hO hb kk
end Go.Proofs.YtiojekbkamegdaaGreatDoor
namespace Go.Proofs.YtiojekbkamegdaaGreatDoor
open Go.Proofs.Tryz
open Go.Proofs Go.Lib Go.Shelf Go.RowKit
theorem pl163 : Places prog 163 #[(0, 1), (1, 1), (2, 1), (3, 1)] [.int .i64 0, .int .i64 0, .int .i64 0, .int .i64 0] := ⟨_, _, Zv, X0, fun w => by kernel_rfl, rfl⟩
variable {E : World}
set_option maxRecDepth 20000
theorem counts_spec (op : Int) : AFun prog E 55 [.int .i64 op] (.bool (cntB op)) := by
 refine zp func55 Z (by decide) Z<|zSr<|zVzAb Z<|z2<|zc<|zSr<|zVzMi Z<|z2<|zi<|zc<|zSr<|zVGveqlI Z Z<|zVzAb Z<|z2<|yn (γ := Bool) [] (fun z => [(4, .bool z)]) (fun z => []) (fun z => z = cntB op) ?_ (fun _ _ h => h) ?_
 ·refine zu Z (fun c1=>?_) (fun c1=>?_)
  ·refine zf ?_
   exact ⟨_, trivial, zR1, zLe, by unfold cntB; rw [decide_eq_decide]; simp only [w9, decide_eq_false_iff_not] at *; omega⟩
  ·refine zSr<|zVGveqlI Z Z<|zVzAb Z<|z2<|zu Z (fun c2=>?_) (fun c2=>?_)
   ·refine zf ?_
    exact ⟨_, trivial, zR1, zLe, by unfold cntB; rw [decide_eq_decide]; simp only [w9, decide_eq_false_iff_not] at *; omega⟩
   ·refine zSr<|zVGveqlI Z Z<|zVzAb Z<|z2<|zu Z (fun c3=>?_) (fun c3=>?_)
    ·refine zf ?_
     exact ⟨_, trivial, zR1, zLe, by unfold cntB; rw [decide_eq_decide]; simp only [w9, decide_eq_false_iff_not] at *; omega⟩
    ·refine zSr<|zVGveqlI Z Z<|zVzAb Z<|z2<|zu Z (fun c4=>?_) (fun c4=>?_)
     ·refine zf ?_
      exact ⟨_, trivial, zR1, zLe, by unfold cntB; rw [decide_eq_decide]; simp only [w9, decide_eq_false_iff_not] at *; omega⟩
     ·refine zSr<|zVGveqlI Z Z<|zVzAb Z<|z2<|zu Z (fun c5=>?_) (fun c5=>?_)
      ·refine zf ?_
       exact ⟨_, trivial, zR1, zLe, by unfold cntB; rw [decide_eq_decide]; simp only [w9, decide_eq_false_iff_not] at *; omega⟩
      ·refine zSr<|zVGveqlI Z Z<|zVzAb Z<|z2<|zu Z (fun c6=>?_) (fun c6=>?_)
       ·refine zf ?_
        exact ⟨_, trivial, zR1, zLe, by unfold cntB; rw [decide_eq_decide]; simp only [w9, decide_eq_false_iff_not] at *; omega⟩
       ·refine zSr<|zVGveqlI Z Z<|zVzAb Z<|z2<|zu Z (fun c7=>?_) (fun c7=>?_)
        ·refine zf ?_
         exact ⟨_, trivial, zR1, zLe, by unfold cntB; rw [decide_eq_decide]; simp only [w9, decide_eq_false_iff_not] at *; omega⟩
        ·refine zSr<|zVGveqlI Z Z<|zVzAb Z<|z2<|zu Z (fun c8=>?_) (fun c8=>?_)
         ·refine zf ?_
          exact ⟨_, trivial, zR1, zLe, by unfold cntB; rw [decide_eq_decide]; simp only [w9, decide_eq_false_iff_not] at *; omega⟩
         ·refine zSr<|zVGveqlI Z Z<|zVzAb Z<|z2<|zu Z (fun c9=>?_) (fun c9=>?_)
          ·refine zf ?_
           exact ⟨_, trivial, zR1, zLe, by unfold cntB; rw [decide_eq_decide]; simp only [w9, decide_eq_false_iff_not] at *; omega⟩
          ·refine zSr<|zVGveqlI Z Z<|zVzAb Z<|z2<|zu Z (fun c10=>?_) (fun c10=>?_)
           ·refine zf ?_
            exact ⟨_, trivial, zR1, zLe, by unfold cntB; rw [decide_eq_decide]; simp only [w9, decide_eq_false_iff_not] at *; omega⟩
           ·refine zSr<|zVGveqlI Z Z<|zVzAb Z<|z2<|zu Z (fun c11=>?_) (fun c11=>?_)
            ·refine zf ?_
             exact ⟨_, trivial, zR1, zLe, by unfold cntB; rw [decide_eq_decide]; simp only [w9, decide_eq_false_iff_not] at *; omega⟩
            ·refine zSr<|zVGveqlI Z Z<|zVzAb Z<|z2<|zu Z (fun c12=>?_) (fun c12=>?_)
             ·refine zf ?_
              exact ⟨_, trivial, zR1, zLe, by unfold cntB; rw [decide_eq_decide]; simp only [w9, decide_eq_false_iff_not] at *; omega⟩
             ·refine zRg<|zVGveqlI Z Z<|zVzAb Z<|z2 ?_
              exact ⟨_, trivial, zR1, zLe, by unfold cntB; rw [decide_eq_decide]; simp only [w9, decide_eq_false_iff_not] at *; omega⟩
 ·rintro z hz
  refine zu Z (fun c=>?_) (fun c=>?_)
  ·refine zSr<|zVzAb Z<|z2<|zj<|zk (x := .bool _) Z ?_
   rw [← hz, c]
  ·refine zf<|zSr<|zVzAb Z<|z2<|zj<|zk (x := .bool _) Z ?_
   rw [← hz, c]
theorem turns_spec (op : Int) : AFun prog E 57 [.int .i64 op] (.bool (trnB op)) := by
 refine zp func57 Z (by decide) Z<|zSr<|zVzAb Z<|z2<|zSr<|zVzMi Z<|zVGveqlI Z Z<|zVzMb Z<|zq (s := 5) Z (fun c13=>?_) (fun c13=>?_)
 ·refine z6 Z Z c13<|z6 Z Z c13<|zVzPt Z c13 Z<|zVzMb Z<|z6 Z Z Z<|z6 Z Z Z<|zVzPt Z Z Z<|zVzMb Z<|z6 Z Z Z<|z6 Z Z Z<|zVzPt Z Z Z<|zVzAb Z<|z2<|zj<|zk (x := .bool _) Z ?_
  simp_all [trnB] <;> omega
 ·refine z7 Z Z c13<|zVzMi Z<|z7 Z Z c13<|zVGveqlI Z Z<|zVzPf Z c13 Z<|zVzMb Z<|zq (s := 9) Z (fun c14=>?_) (fun c14=>?_)
  ·refine z6 Z Z c14<|z6 Z Z c14<|zVzPt Z c14 Z<|zVzMb Z<|z6 Z Z Z<|z6 Z Z Z<|zVzPt Z Z Z<|zVzAb Z<|z2<|zj<|zk (x := .bool _) Z ?_
   simp_all [trnB] <;> omega
  ·refine z7 Z Z c14<|zVzMi Z<|z7 Z Z c14<|zVGveqlI Z Z<|zVzPf Z c14 Z<|zVzMb Z<|zq (s := 13) Z (fun c15=>?_) (fun c15=>?_)
   ·refine z6 Z Z c15<|z6 Z Z c15<|zVzPt Z c15 Z<|zVzAb Z<|z2<|zj<|zk (x := .bool _) Z ?_
    simp_all [trnB] <;> omega
   ·refine z7 Z Z c15<|zVzMi Z<|z7 Z Z c15<|zVGveqlI Z Z<|zVzPf Z c15 Z<|zVzAb Z<|z2<|zj<|zk (x := .bool _) Z ?_
    simp_all [trnB] <;> omega
set_option maxRecDepth 200000 in
set_option maxHeartbeats 4000000 in
theorem key4_ok : KeyOk prog 163 where
 und := ⟨_, Zv⟩
 chk := fun e k w => by
  have hS : prog.underlying 163 = some (.struct (prog.fieldsOf 163)) := by kernel_rfl
  rw [show (10000 : Nat) = 9999 + 1 from rfl]
  unfold Instr.checkKey
  rw [Sem.run_bind, run_underlying hS]
  simp only [Result.andThen, v4, Program.fieldsOf, Zv]
  have h1 : ∀ n w, (Instr.checkKey e 9999 3 (.int .i64 n)).run prog w = .ok () w := fun n w => MapKept.run_checkKey (d := .int .i64) (k := kv n) Y7 (kv_key n) e 9998
  have h2 : ∀ n w, (Instr.checkKey e 9999 2 (.int .i64 n)).run prog w = .ok () w := fun n w => MapKept.run_checkKey (d := .int .i64) (k := kv n) Zj (kv_key n) e 9998
  have h3 : ∀ n w, (Instr.checkKey e 9999 59 (.int .i64 n)).run prog w = .ok () w := fun n w => MapKept.run_checkKey (d := .int .i64) (k := kv n) underlying59 (kv_key n) e 9998
  simp [part, j9, Yd, Y1, h1, h2, h3, Sem.run_bind, Result.andThen]
 eq := fun k k' w => by
  have hS : prog.underlying 163 = some (.struct (prog.fieldsOf 163)) := by kernel_rfl
  have hp : prog.stoodInHeld 163 = false := by kernel_rfl
  unfold Op.equal v4
  rw [show Op.maxDepth = 9999 + 1 from rfl, run_equalIn_agg w 9999 _ _ _ hS hp]
  simp only [Program.fieldsOf, Zv]
  simp [Op.eqFields, part, j9, Yd, Y1, run_equalIn_int, Y7, Zj, underlying59]
  obtain ⟨a, b, c, d⟩ := k
  obtain ⟨a', b', c', d'⟩ := k'
  by_cases h1 : a = a' <;> by_cases h2 : b = b' <;> by_cases h3 : c = c' <;> by_cases h4 : d = d' <;> simp [h1, h2, h3, h4]
theorem fm_push {α β : Type} {p : α → Bool} {h : α → β} {l : List α} {m : Nat} (hm : m < l.length) (hp : p l[m] = true) : ((l.take (m + 1)).filter p).map h = ((l.take m).filter p).map h ++ [h l[m]] := by
 rw [qr hm, List.filter_append, w2, List.filter_cons_of_pos hp]; rfl
theorem fm_same {α β : Type} {p : α → Bool} {h : α → β} {l : List α} {m : Nat} (hm : m < l.length) (hp : p l[m] = false) : ((l.take (m + 1)).filter p).map h = ((l.take m).filter p).map h := by
 rw [qr hm, List.filter_append, List.filter_cons_of_neg (by simp [hp]), List.filter_nil, List.append_nil]
theorem fm_len {α β : Type} {p : α → Bool} {h : α → β} {l : List α} {m : Nat} : (((l.take m).filter p).map h).length ≤ m := by
 rw [qx]
 exact Nat.le_trans (List.length_filter_le _ _) (by rw [w3]; omega)
def inW (a : Nat) (x : PInst) : List AV := [.int .i64 x.op, .int .i64 x.dst, .own a x.args.length, .int .i64 x.num]
def argX (a : Nat) (x : PInst) : Nat × AObj := (a, .grow 1 3 (cI x.args))
def phW (a : Nat) (p : PPhi) : List AV := [.int .i64 p.dst, .own a p.args.length, .fro 1 (p.from_.map encI)]
def argP (a : Nat) (p : PPhi) : Nat × AObj := (a, .grow 1 3 (cI p.args))
theorem getA {l : List Int} {k : Nat} (h : k < l.length) : l[k]? = some ((l[k]?).getD 0) := by rw [qq h]; rfl
set_option maxHeartbeats 4000000 in
theorem tells_spec (a n : Nat) (x : PInst) (hn : x.args.length = n) : ACall prog E 94 [.agg [.int .i64 x.op, .int .i64 x.dst, .own a n, .int .i64 x.num]] [argX a x] (fun y O => ∃ _ : Unit, y = .agg (k4 (keyX x)) ∧ O = [argX a x] ∧ True) := by
 subst hn
 refine ACall.exact (γ := Unit) (x := fun _ => .agg (k4 (keyX x))) (M := fun _ => [argX a x]) (p := fun _ => True)<|zp func94 Z (by decide) Z<|zSr<|yc (cs := _) Z Z Z<|zt (cs := [.int .i64 0, .int .i64 0, .int .i64 0, .int .i64 0]) X0 Z Z<|fun i2 => z2<|zSr<|zVzFF ji Z Zt Z Z<|zVzLi Y1 Z<|zVzFF ji Z Z9 Z Z<|zVzLi Yd Z<|z8 (zz (cps := [(0, [_]), (1, [_]), (2, [_]), (3, [_])]) (rs := [_, _, _, _]) pl163 Z Z Z)<|zt (cs := [.int .i64 0, .int .i64 0, .int .i64 0, .int .i64 0]) X0 Z Z<|fun i3 => zn Zs Z Z Z Z Z Z .head Z<|z2<|zc<|zSr<|zVzFF ji Z jd Z Z<|z8 (q9 (c := .own _ _) jk Z)<|z8 (qo j6 Z)<|zVGvgtr Z Z<|z2<|yn (γ := Int) [1, 2, 3] (fun u => []) (fun u => [(i3, .cells 163 [.int .i64 x.op, .int .i64 x.num, .int .i64 u, .int .i64 (-1)]), (i2, .cells 163 [.int .i64 0, .int .i64 0, .int .i64 0, .int .i64 0]), argX a x]) (fun u => u = a1X x) ?_ (fun _ _ h => h) ?_
 ·refine zo Z (fun c=>?_) (fun c=>?_)
  ·have c : 0 < x.args.length := by omega
   refine zRg<|zVzFF ji Z jd Z Z<|z8 (q9 (c := .own _ _) jk Z)<|z8 (yg (j := 0) j6 j7 Z Z Z ⟨_, .t2⟩ (cI_len _) c)<|z8 (yr (j := 0) j9 Z ⟨_, .t2⟩ (getA c))<|z8 (ze Zv Z j7 (by decide) Z Z)<|yp (l := [_]) (new := [_, _, _, _]) j7 Z Z Z Z Z Z .head Z Z<|z2 ?_
   exact ⟨_, zR3, trivial, zLe, by unfold a1X; rw [if_pos c]⟩
  ·have c : ¬ 0 < x.args.length := by omega
   refine zf ?_
   exact ⟨_, zR3, trivial, zLe, by unfold a1X; rw [if_neg c]⟩
 ·rintro u hu
  refine zc<|zSr<|zVzFF ji Z jd Z Z<|z8 (q9 (c := .own _ _) jk Z)<|z8 (qo j6 Z)<|zVGvgtr Z Z<|z2<|yn (γ := Int) [1, 2, 3] (fun v => []) (fun v => [(i3, .cells 163 [.int .i64 x.op, .int .i64 x.num, .int .i64 u, .int .i64 v]), (i2, .cells 163 [.int .i64 0, .int .i64 0, .int .i64 0, .int .i64 0]), argX a x]) (fun v => v = a2X x) ?_ (fun _ _ h => h) ?_
  ·refine zo Z (fun c=>?_) (fun c=>?_)
   ·have c : 1 < x.args.length := by omega
    refine zRg<|zVzFF ji Z jd Z Z<|z8 (q9 (c := .own _ _) jk Z)<|z8 (yg (j := 1) j6 j7 Z Z Z ⟨_, .t2⟩ (cI_len _) c)<|z8 (yr (j := 1) j9 Z ⟨_, .t2⟩ (getA c))<|z8 (ze Zv Z j7 (by decide) Z Z)<|yp (l := [_]) (new := [_, _, _, _]) j7 Z Z Z Z Z Z .head Z Z<|z2 ?_
    exact ⟨_, zR3, trivial, zLe, by unfold a2X; rw [if_pos c]⟩
   ·have c : ¬ 1 < x.args.length := by omega
    refine zf ?_
    exact ⟨_, zR3, trivial, zLe, by unfold a2X; rw [if_neg c]⟩
  ·rintro v hv
   refine zc<|zSr<|zVzFF ji Z Zt Z Z<|zVzLi Y1 Z<|zg (turns_spec _) Z<|zVzMb Z<|zq (s := 30) Z (fun ct=>?_) (fun ct=>?_)
   ·have dt : trnB x.op = true := ct
    refine z7 Z Z ct<|z8 (ze Zv Z j7 (by decide) Z Z)<|z7 Z Z ct<|z8 (zl (c := .int _ _) j9 Z ⟨_, .head⟩ Z)<|z7 Z Z ct<|z8 (ze Zv Z j7 (by decide) Z Z)<|z7 Z Z ct<|z8 (zl (c := .int _ _) j9 Z ⟨_, .head⟩ Z)<|z7 Z Z ct<|zVGvgtr Z Z<|zVzPt Z ct Z<|z2<|zo Z (fun cv=>?_) (fun cv=>?_)
    ·have cv : a2X x < a1X x := by rw [hu, hv] at cv; omega
     refine zRg<|z8 (ze Zv Z j7 (by decide) Z Z)<|z8 (zl (c := .int _ _) j9 Z ⟨_, .head⟩ Z)<|z8 (ze Zv Z j7 (by decide) Z Z)<|z8 (zl (c := .int _ _) j9 Z ⟨_, .head⟩ Z)<|z8 (ze Zv Z j7 (by decide) Z Z)<|yp (l := [_]) (new := [_, _, _, _]) j7 Z Z Z Z Z Z .head Z Z<|z8 (ze Zv Z j7 (by decide) Z Z)<|yp (l := [_]) (new := [_, _, _, _]) j7 Z Z Z Z Z Z .head Z Z<|z2<|zSr<|z8 (Gv.loadWC Yu Zs Z ⟨_, .head⟩ Z)<|zn Zs Z Z Z Z Z Z .t1 Z<|z2<|zj<|afin.c1 Z ⟨_, .t1⟩ Yu Zs Z ?_
     exact ⟨(), congrArg AV.agg (by unfold keyX; rw [if_pos ⟨dt, cv⟩, hu, hv]; rfl), ⟨_, .drop (.drop (.refl _)), rfl⟩, trivial⟩
    ·have cv : ¬ a2X x < a1X x := by rw [hu, hv] at cv; omega
     refine zf<|zSr<|z8 (Gv.loadWC Yu Zs Z ⟨_, .head⟩ Z)<|zn Zs Z Z Z Z Z Z .t1 Z<|z2<|zj<|afin.c1 Z ⟨_, .t1⟩ Yu Zs Z ?_
     exact ⟨(), congrArg AV.agg (by unfold keyX; rw [if_neg (fun h => cv h.2), hu, hv]; rfl), ⟨_, .drop (.drop (.refl _)), rfl⟩, trivial⟩
   ·have dt : ¬ trnB x.op = true := by rw [show trnB x.op = false from ct]; decide
    refine z6 Z Z ct<|z6 Z Z ct<|z6 Z Z ct<|z6 Z Z ct<|z6 Z Z ct<|zVzPf Z ct Z<|z2<|yj Z Z<|zf<|zSr<|z8 (Gv.loadWC Yu Zs Z ⟨_, .head⟩ Z)<|zn Zs Z Z Z Z Z Z .t1 Z<|z2<|zj<|afin.c1 Z ⟨_, .t1⟩ Yu Zs Z ?_
    exact ⟨(), congrArg AV.agg (by unfold keyX; rw [if_neg (fun h => dt h.1), hu, hv]; rfl), ⟨_, .drop (.drop (.refl _)), rfl⟩, trivial⟩
theorem put_one {g : Int → Int} {l : List Int} {k : Nat} (h : k < l.length) : ((l.take k).map g ++ l.drop k).set k (g l[k]) = (l.take (k + 1)).map g ++ l.drop (k + 1) := by
 rw [List.set_append_right _ _ (by simp; omega), qx, w3, Nat.min_eq_left (by omega), Nat.sub_self, List.drop_eq_getElem_cons h, List.set_cons_zero, qr h, w2, qs]; rfl
theorem put_spec (iw jr a : Nat) (y0 y1 y2 y3 y5 : AV) (n : Nat) (R l : List Int) (hR : R.length = n) (hl : ∀ v ∈ l, v < n ∧ 0 ≤ v) (hn : l.length ≤ 1000) : ACall prog E 43 [.po iw 0, .own a l.length] [(a, .grow 1 3 (cI l)), (iw, .cells 89 [y0, y1, y2, y3, .own jr n, y5]), (jr, .grow 1 3 (cI R))] (fun y O => y = .tup [] ∧ O = [(a, .grow 1 3 (cI (l.map (vi R)))), (iw, .cells 89 [y0, y1, y2, y3, .own jr n, y5]), (jr, .grow 1 3 (cI R))]) := by
 refine zp func43 Z (by decide) Z<|zSr<|z8 (zMo Z)<|z8 (qo j6 Z)<|zVzMi Z<|z2<|zi<|y7 (γ := Nat) [0, 1, 6, 7] (fun k => [(8, .int .i64 k)]) (fun k => [(a, .grow 1 3 (cI ((l.take k).map (vi R) ++ l.drop k))), (iw, .cells 89 [y0, y1, y2, y3, .own jr n, y5]), (jr, .grow 1 3 (cI R))]) (fun k => k ≤ l.length) (fun k => l.length - k) 0 zR1 zLe (qt _) ?_
 rintro k hk
 refine zSr<|zVGvlss Z Z<|z2<|zc<|zo Z (fun ck=>?_) (fun ck=>?_)
 ·have hk2 : k < l.length := by omega
  obtain ⟨v1, v0⟩ := hl _ (qu hk2)
  have hlen : ((l.take k).map (vi R) ++ l.drop k).length = l.length := by simp; omega
  have hget : ((l.take k).map (vi R) ++ l.drop k)[k]? = some l[k] := by
   rw [List.getElem?_append_right (by simp; omega)]
   simp [Nat.min_eq_left hk]
  refine zf<|zc<|zi<|zSr<|zVzMi Z<|z8 (yg (j := k) j6 j7 Z Z Z ⟨_, .head⟩ ((cI_len _).trans hlen) hk2)<|z8 (yr (j := k) j9 Z ⟨_, .head⟩ hget)<|zVzAi Z<|zVzAi Z<|z2<|zRg<|z8 (zMo Z)<|zVzMi Z<|zVzMp Z<|zVGvnilCheckO Z<|z8 (ze Zx Z jd (by decide) Z Z)<|z8 (zl (c := .own _ _) jk Z ⟨_, .t1⟩ Z)<|zVzMi Z<|z8 (yg (j := l[k].toNat) j6 j7 Z Z (w8 v0).symm ⟨_, .t2⟩ ((cI_len _).trans hR) (by omega))<|z8 (yr (j := l[k].toNat) j9 Z ⟨_, .t2⟩ (vi_get (by omega) v0))<|z8 (yg (j := k) j6 j7 Z Z Z ⟨_, .head⟩ ((cI_len _).trans hlen) hk2)<|yt (j := k) j7 Z Z .head (by rw [hlen]; exact hk2)<|z2<|zRg<|zVzAd Z Z<|zVzMi Z<|z2 ?_
  exact ⟨k + 1, zR4, zR1, ⟨_, (.refl _), by rw [put_one hk2]⟩, hk2, by omega⟩
 ·obtain rfl : k = l.length := by omega
  refine y6<|yv ?_
  exact ⟨rfl, by simp⟩
end Go.Proofs.YtiojekbkamegdaaGreatDoor
namespace Go.Proofs.YtiojekbkamegdaaGreatDoor
open Go.Proofs.Tryz
theorem GStep.bagPerm {E : World} {env : AEnv} {O O' : OL} {m : Nat} {X X' : OL} (hX : X.Perm X') (hO : Put O m (bag X) (bag X') O') : GStep E env O env O' := fun I F ρ w h1 ⟨ht, L, hL, hS⟩ => by
 obtain ⟨A, B, hp, ⟨L', hA, hpA⟩, hback⟩ := hO.rep hL
 obtain ⟨L2, h2, h3⟩ := hA.perm hX
 obtain ⟨L3, h6, h7⟩ := hback (qb I) (A' := A) ⟨L2, h2, hpA.trans h3⟩
 exact ⟨I, .refl _, h1, ht, L3, h6, hS.perm (List.Perm.append_right F (h7.trans hp.symm))⟩
end Go.Proofs.YtiojekbkamegdaaGreatDoor
namespace Go.Proofs.YtiojekbkamegdaaGreatDoor
open Go.Proofs.Tryz
open Go.Proofs Go.Lib Go.Shelf Go.RowKit
variable {E : World}
set_option maxRecDepth 20000
abbrev NBk := PBlock × List Nat × List Nat
def nbC (q : NBk) : List AV := [.str q.1.name, .fro 3 (List.zipWith phW q.2.1 q.1.phis), .fro 4 (List.zipWith inW q.2.2 q.1.insts), .int .i64 q.1.term.kind, .int .i64 q.1.term.var, .int .i64 q.1.term.to0, .int .i64 q.1.term.to1]
def nbO (q : NBk) : OL := List.zipWith argX q.2.2 q.1.insts ++ List.zipWith argP q.2.1 q.1.phis
def okNB (q : NBk) : Prop := q.2.1.length = q.1.phis.length ∧ q.2.2.length = q.1.insts.length
theorem zipf_len {α β : Type} {g : α → β → List AV} {n : Nat} (hg : ∀ a b, (g a b).length = n) : ∀ {xs : List α} {ys : List β}, xs.length = ys.length → (List.zipWith g xs ys).flatten.length = ys.length * n
 | [], [], _ => by simp
 | x :: xs, y :: ys, h => by
  rw [List.zipWith_cons_cons, List.flatten_cons, qw, hg, zipf_len hg (by simpa using h), List.length_cons, Nat.add_mul]; omega
theorem zipr_len {α β : Type} {g : α → β → List AV} {n : Nat} (hg : ∀ a b, (g a b).length = n) {xs : List α} {ys : List β} : ∀ r ∈ List.zipWith g xs ys, r.length = n := fun r hr => by
 obtain ⟨i, hi, e⟩ := List.getElem_of_mem hr
 rw [List.getElem_zipWith] at e
 rw [← e, hg]
theorem nbC_len (ns : List NBk) : (ns.flatMap nbC).length = ns.length * 7 := by
 induction ns with
 | nil => rfl
 | cons q ns ih => rw [List.flatMap_cons, qw, ih, List.length_cons, Nat.add_mul]; show 7 + _ = _; omega
theorem nbC_push (ns : List NBk) (q : NBk) : (ns ++ [q]).flatMap nbC = ns.flatMap nbC ++ nbC q := by rw [List.flatMap_append, List.flatMap_singleton]
theorem bag_push1 {α : Type} {g : Nat → α → Nat × AObj} {ks : List Nat} {l : List α} {m : Nat} (ia : Nat) (h : ks.length = m) (hm : m < l.length) (X : OL) : (g ia l[m] :: (List.zipWith g ks (l.take m) ++ X)).Perm (List.zipWith g (ks ++ [ia]) (l.take (m + 1)) ++ X) := by
 rw [zip_push g ia h hm, qs]; exact List.perm_middle.symm
theorem cloneI_ex (xs : List Int) (hl : xs.length ≤ 1000) : ACall prog E 93 [.fro 1 (xs.map encI)] [] (fun y O => ∃ i : Nat, y = .own i xs.length ∧ O = [(i, .grow 1 3 (cI xs))] ∧ True) := by
 have h := ACall.exact (γ := Nat) (x := fun i => .own i xs.length) (M := fun i => [(i, .grow 1 3 (xs.map encI).flatten)]) (p := fun _ => True) (cloneI_own (E := E) xs hl)
 rw [show (xs.map encI).flatten = cI xs from cI_flat xs] at h
 exact h
set_option maxHeartbeats 8000000 in
theorem copyN_own (f : PFunc) (hf : small f) : ACall prog E 41 [.agg (encF f)] [] (fun x O' => ∃ g : Nat × List NBk, x = .agg [.fro 2 (f.vars.map encVar), .fro 1 (f.params.map encI), .own g.1 f.blocks.length] ∧ O' = [(g.1, .grow 7 58 (g.2.flatMap nbC)), (0, bag (g.2.flatMap nbO))] ∧ g.2.map (·.1) = f.blocks ∧ ∀ q ∈ g.2, okNB q) := by
 refine ACall.exact (γ := Nat × List NBk) (x := fun g => .agg [.fro 2 (f.vars.map encVar), .fro 1 (f.params.map encI), .own g.1 f.blocks.length]) (M := fun g => [(g.1, .grow 7 58 (g.2.flatMap nbC)), (0, bag (g.2.flatMap nbO))]) (p := fun g => g.2.map (·.1) = f.blocks ∧ ∀ q ∈ g.2, okNB q) ?_
 obtain ⟨hf1, hf2, hf3, hf4, hf5⟩ := hf
 refine zp func41 Z (by decide) Z<|zSr<|yc (cs := _) Z Z Z<|zt (cs := [.raw (.slice none 0 0), .raw (.slice none 0 0), .raw (.slice none 0 0)]) Yj Z Z<|fun i2 => z2<|zc<|yn (γ := Nat) [1, 2] (fun i => [(3, .po i 0)]) (fun i => [(i, .cells 26 [.fro 2 (f.vars.map encVar), .fro 1 (f.params.map encI), .raw (.slice none 0 0)]), (i2, .cells 26 [.raw (.slice none 0 0), .raw (.slice none 0 0), .raw (.slice none 0 0)])]) (fun i => True) ?_ (fun _ _ h => h) ?_
 ·refine zr (fun j => Nat.beq j 8) (by kernel_rfl) Z (zm (.rest _))<|zTk 0 Z (zFF jh Z Ya Z Z)<|zTk 1 Z (zLf Yk Z)<|zTk 3 Z (zFF jh Z jd Z Z)<|zTk 4 Z (zLf jk Z)<|yi (i := 2) (j := 7) Z Z (by kernel_rfl) ?_ ?_
  ·refine zg (cloneV_spec _ (by omega)) Z<|z2<|yi (i := 5) (j := 7) Z Z (by kernel_rfl) ?_ ?_
   ·refine zg (cloneI_spec _ (by omega)) Z<|z2<|zTk 6 Z (zz (cps := [(0, [_]), (1, [_])]) (rs := [_, _, .raw (.slice none 0 0)]) pl26 Z Z Z)<|zOn 7 Z<|zt (cs := [.raw (.slice none 0 0), .raw (.slice none 0 0), .raw (.slice none 0 0)]) Yj Z Z<|fun i3 => z2<|yb<|y8 (i := 8) Z (by kernel_rfl) (by kernel_rfl)<|zn jj Z Z Z Z Z Z .head Z<|z2<|ye (by kernel_rfl) ?_
    exact ⟨i3, zR2, zR1, zLe, trivial⟩
   ·refine zt (cs := [.raw (.slice none 0 0), .raw (.slice none 0 0), .raw (.slice none 0 0)]) Yj Z Z<|fun i3 => z2<|zOn 5 Z<|zg (cloneI_spec _ (by omega)) Z<|z2<|zTk 6 Z (zz (cps := [(0, [_]), (1, [_])]) (rs := [_, _, .raw (.slice none 0 0)]) pl26 Z Z Z)<|yb<|y8 (i := 8) Z (by kernel_rfl) (by kernel_rfl)<|zn jj Z Z Z Z Z Z .head Z<|z2<|ye (by kernel_rfl) ?_
    exact ⟨i3, zR2, zR1, zLe, trivial⟩
  ·refine zt (cs := [.raw (.slice none 0 0), .raw (.slice none 0 0), .raw (.slice none 0 0)]) Yj Z Z<|fun i3 => z2<|zOn 2 Z<|zg (cloneV_spec _ (by omega)) Z<|z2<|zOn 5 Z<|zg (cloneI_spec _ (by omega)) Z<|z2<|zTk 6 Z (zz (cps := [(0, [_]), (1, [_])]) (rs := [_, _, .raw (.slice none 0 0)]) pl26 Z Z Z)<|yb<|y8 (i := 8) Z (by kernel_rfl) (by kernel_rfl)<|zn jj Z Z Z Z Z Z .head Z<|z2<|ye (by kernel_rfl) ?_
   exact ⟨i3, zR2, zR1, zLe, trivial⟩
 ·rintro i3 _
  refine zc<|zSr<|zVzFF jh Z Z1 Z Z<|zVzLf Z8 Z<|zVGvlenM jl Z<|zVzMi Z<|z2<|adoptC_wp (off := 2) (k := 7) (T := 58) (fun _ => .head) Z<|fun ib => zw GStep.bagNew<|zw (za (zb .t1))<|zi<|y7 (γ := Nat × Nat × List NBk) [2, 3, 19, 20] (fun g => [(21, .int .i64 g.1)]) (fun g => [(g.2.1, .grow 7 58 (g.2.2.flatMap nbC)), (0, bag (g.2.2.flatMap nbO)), (i3, .cells 26 [.fro 2 (f.vars.map encVar), .fro 1 (f.params.map encI), .own g.2.1 g.1]), (i2, .cells 26 [.raw (.slice none 0 0), .raw (.slice none 0 0), .raw (.slice none 0 0)])]) (fun g => g.1 ≤ f.blocks.length ∧ g.2.2.map (·.1) = f.blocks.take g.1 ∧ ∀ q ∈ g.2.2, okNB q) (fun g => f.blocks.length - g.1) (0, ib, []) zR1 zLe (⟨qt _, Z, fun _ h => by cases h⟩) ?_
  rintro ⟨k, ib, ns⟩ ⟨hk, hns, hokn⟩
  try dsimp only at *
  have hnl : ns.length = k := by have := congrArg List.length hns; rw [qx, w3, Nat.min_eq_left hk] at this; exact this
  refine zSr<|zVGvlss Z Z<|z2<|zc<|zo Z (fun ck=>?_) (fun ck=>?_)
  ·have hk2 : k < f.blocks.length := by omega
   obtain ⟨hb0, hb1, hb2, hb3, hb4⟩ := hf5 _ (qu hk2)
   refine zf<|zc<|zi<|zSr<|z8 (q7 jl jw Z Z Z (qq (by omega)))<|zVGvloadWF Yc jw Z Z<|zt (cs := [.str ⟨#[]⟩, .raw (.slice none 0 0), .raw (.slice none 0 0), .int .i64 0, .int .i64 0, .int .i64 0, .int .i64 0]) Zd Z Z<|fun i5 => zn jw Z Z Z Z Z Z .head Z<|z2<|zSr<|z8 (ze je Z Zq (by decide) Z Z)<|z8 (zl (c := .str _) Y0 Z ⟨_, .head⟩ Z)<|z8 (ze je Z Ze (by decide) Z Z)<|z8 (Gv.loadAC (l := [_, _, _, _]) isAgg56 Ze Z ⟨_, .head⟩ Z Z)<|z8 (zz (cps := [(0, [_]), (3, [_, _, _, _])]) (rs := [_, .raw (.slice none 0 0), .raw (.slice none 0 0), _, _, _, _]) pl58 Z Z Z)<|zt (cs := [.str ⟨#[]⟩, .raw (.slice none 0 0), .raw (.slice none 0 0), .int .i64 0, .int .i64 0, .int .i64 0, .int .i64 0]) Zd Z Z<|fun i6 => zn jw Z Z Z Z Z Z .head Z<|z2<|zc<|zSr<|z8 (ze je Z Zn (by decide) Z Z)<|z8 (zl (c := .fro _ _) Y4 Z ⟨_, .t1⟩ Z)<|zVGvlenM jx Z<|zVzMi Z<|z2<|adoptC_wp (off := 1) (k := 3) (T := 81) (fun _ => .head) Z<|fun ip => zw (za (zb .t1))<|zi<|y7 (γ := Nat × Nat × List Nat) [2, 3, 5, 6, 19, 20, 21, 31, 32] (fun g => [(33, .int .i64 g.1)]) (fun g => [(i6, .cells 58 [.str f.blocks[k].name, .own g.2.1 g.1, .raw (.slice none 0 0), .int .i64 f.blocks[k].term.kind, .int .i64 f.blocks[k].term.var, .int .i64 f.blocks[k].term.to0, .int .i64 f.blocks[k].term.to1]), (g.2.1, .grow 3 81 (List.zipWith phW g.2.2 (f.blocks[k].phis.take g.1)).flatten), (i5, .cells 58 (encBlk f.blocks[k])), (ib, .grow 7 58 (ns.flatMap nbC)), (0, bag (List.zipWith argP g.2.2 (f.blocks[k].phis.take g.1) ++ ns.flatMap nbO)), (i3, .cells 26 [.fro 2 (f.vars.map encVar), .fro 1 (f.params.map encI), .own ib k]), (i2, .cells 26 [.raw (.slice none 0 0), .raw (.slice none 0 0), .raw (.slice none 0 0)])]) (fun g => g.1 ≤ f.blocks[k].phis.length ∧ g.2.2.length = g.1) (fun g => f.blocks[k].phis.length - g.1) (0, ip, []) zR1 zLe (⟨qt _, Z⟩) ?_
   rintro ⟨m, ip, as0⟩ ⟨hm, has⟩
   try dsimp only at *
   refine zSr<|zVGvlss Z Z<|z2<|zc<|zo Z (fun cm=>?_) (fun cm=>?_)
   ·have hm2 : m < f.blocks[k].phis.length := by omega
    obtain ⟨hp1, hp2⟩ := hb3 _ (qu hm2)
    refine zf<|zc<|zi<|zSr<|z8 (q7 jx Z0 Z Z Z (qq (by omega)))<|zVGvloadWF Yf Z0 Z Z<|zt (cs := [.int .i64 0, .raw (.slice none 0 0), .raw (.slice none 0 0)]) Zk Z Z<|fun i8 => zn Z0 Z Z Z Z Z Z .head Z<|z2<|zr (fun j => Nat.beq j 14) (by kernel_rfl) Z (zm (.r (.r (.rest _))))<|zTk 0 Z (ze je Z Zn (by decide) Z Z)<|zTk 1 Z (zl (c := .own _ _) Y4 Z ⟨_, .t1⟩ Z)<|zTk 2 Z (ze js Z j7 (by decide) Z Z)<|zTk 3 Z (zl (c := .int _ _) j9 Z ⟨_, .head⟩ Z)<|zTk 4 Z (ze js Z jd (by decide) Z Z)<|zTk 5 Z (zl (c := .fro _ _) jk Z ⟨_, .head⟩ Z)<|zTk 7 Z (ze js Z jd (by decide) Z Z)<|zTk 8 Z (zl (c := .fro _ _) jk Z ⟨_, .head⟩ Z)<|zOn 6 Z<|zy Z (zm (.r (.r (.r (.r (.r (.r (.rest _)))))))) (cloneI_ex f.blocks[k].phis[m].args (by omega)) ?_
    rintro r43 O43 ⟨ia, rfl, rfl, _⟩
    refine z2<|zOn 9 Z<|zg (cloneI_spec _ (by omega)) Z<|z2<|zTk 10 Z (zz (cps := [(0, [_]), (1, [_]), (2, [_])]) (rs := [_, _, _]) pl81 Z Z Z)<|zOn 11 Z<|zx (rows := [[_, _, _]]) ps51_1 Z Z Z Z Z<|z2<|zOn 12 Z<|ym (k := 3) jx type81 Z Z Z Z Z (fun _ => .t1) (by rw [zipf_len (n := 3) (fun _ _ => rfl) (by rw [w3]; omega), w3, Nat.min_eq_left hm]) (by decide) Z (by show (_ + _) * 56 ≤ _; simp <;> omega) (by simp <;> omega)<|fun i49 => z2<|zTk 13 Z (ze je Z Zn (by decide) Z Z)<|yb<|y8 (i := 14) Z (by kernel_rfl) (by kernel_rfl)<|yp (l := [_]) (new := [_, _, _, _, _, _, _]) Zn Z Z Z Z Z Z .t1 Z Z<|z2<|ye (by kernel_rfl)<|zw (GStep.bagIn (X' := List.zipWith argP (as0 ++ [ia]) (f.blocks[k].phis.take (m + 1)) ++ ns.flatMap nbO) .t2 (bag_push1 (g := argP) ia has hm2 _) .t5)<|zRg<|zVzAd Z Z<|zVzMi Z<|z2 ?_
    exact ⟨(m + 1, i49, as0 ++ [ia]), zR9, zR1, ⟨_, (.drop (.refl _)), by dsimp only; rw [zip_push phW ia has hm2, List.flatten_append]; rfl⟩, ⟨hm2, by simp [has]⟩, by dsimp only; omega⟩
   ·obtain rfl : m = f.blocks[k].phis.length := by omega
    rw [qv]
    refine y6<|zc<|zc<|zw (GStep.knowC (off := 1) (rows := List.zipWith phW as0 f.blocks[k].phis) .t1 .head Z (by exact zipr_len (n := 3) (fun _ _ => rfl)) (by decide) (by simp [has]))<|zRg<|z8 (ze je Z Zb (by decide) Z Z)<|z8 (zl (c := .fro _ _) Zw Z ⟨_, .t1⟩ Z)<|zVGvlenM jv Z<|zVzMi Z<|z2<|adoptC_wp (off := 2) (k := 4) (T := 61) (fun _ => .head) Z<|fun ii => zi<|y7 (γ := Nat × Nat × List Nat) [2, 3, 6, 19, 20, 21, 53, 54] (fun g => [(55, .int .i64 g.1)]) (fun g => [(g.2.1, .grow 4 61 (List.zipWith inW g.2.2 (f.blocks[k].insts.take g.1)).flatten), (i6, .cells 58 [.str f.blocks[k].name, .fro 3 (List.zipWith phW as0 f.blocks[k].phis), .own g.2.1 g.1, .int .i64 f.blocks[k].term.kind, .int .i64 f.blocks[k].term.var, .int .i64 f.blocks[k].term.to0, .int .i64 f.blocks[k].term.to1]), (i5, .cells 58 (encBlk f.blocks[k])), (ib, .grow 7 58 (ns.flatMap nbC)), (0, bag (List.zipWith argX g.2.2 (f.blocks[k].insts.take g.1) ++ (List.zipWith argP as0 f.blocks[k].phis ++ ns.flatMap nbO))), (i3, .cells 26 [.fro 2 (f.vars.map encVar), .fro 1 (f.params.map encI), .own ib k]), (i2, .cells 26 [.raw (.slice none 0 0), .raw (.slice none 0 0), .raw (.slice none 0 0)])]) (fun g => g.1 ≤ f.blocks[k].insts.length ∧ g.2.2.length = g.1) (fun g => f.blocks[k].insts.length - g.1) (0, ii, []) zR1 zLe (⟨qt _, Z⟩) ?_
    rintro ⟨m, ii, cs0⟩ ⟨hm, hcs⟩
    try dsimp only at *
    refine zSr<|zVGvlss Z Z<|z2<|zc<|zo Z (fun cm=>?_) (fun cm=>?_)
    ·have hm2 : m < f.blocks[k].insts.length := by omega
     have hp1 := hb4 _ (qu hm2)
     refine zf<|zc<|zi<|zSr<|z8 (q7 jv Z2 Z Z Z (qq (by omega)))<|zVGvloadWF Yg Z2 Z Z<|zt (cs := [.int .i64 0, .int .i64 0, .raw (.slice none 0 0), .int .i64 0]) Zy Z Z<|fun i10 => zn Z2 Z Z Z Z Z Z .head Z<|z2<|zSr<|z8 (ze ji Z jd (by decide) Z Z)<|z8 (zl (c := .fro _ _) jk Z ⟨_, .head⟩ Z)<|zy Z (zm (.r (.r (.r (.r (.r (.r (.r (.r (.rest _)))))))))) (cloneI_ex f.blocks[k].insts[m].args (by omega)) ?_
     rintro r61 O61 ⟨ia, rfl, rfl, _⟩
     refine z8 (ze ji Z jd (by decide) Z Z)<|yp (l := [_]) (new := [_, _, _, _]) jd Z Z Z Z Z Z .t1 Z Z<|z2<|zRg<|z8 (ze je Z Zb (by decide) Z Z)<|z8 (zl (c := .own _ _) Zw Z ⟨_, .t3⟩ Z)<|z8 (Gv.loadWC Yg Z2 Z ⟨_, .t1⟩ Z)<|zx (rows := [[_, _, _, _]]) ps52_1 Z Z Z Z Z<|ym (k := 4) jv type61 Z Z Z Z Z (fun _ => .t2) (by rw [zipf_len (n := 4) (fun _ _ => rfl) (by rw [w3]; omega), w3, Nat.min_eq_left hm]) (by decide) Z (by show (_ + _) * 48 ≤ _; simp <;> omega) (by simp <;> omega)<|fun i67 => z8 (ze je Z Zb (by decide) Z Z)<|yp (l := [_]) (new := [_, _, _, _, _, _, _]) Zb Z Z Z Z Z Z .t3 Z Z<|z2<|zw (GStep.bagIn (X' := List.zipWith argX (cs0 ++ [ia]) (f.blocks[k].insts.take (m + 1)) ++ (List.zipWith argP as0 f.blocks[k].phis ++ ns.flatMap nbO)) .head (bag_push1 (g := argX) ia hcs hm2 _) .t5)<|zRg<|zVzAd Z Z<|zVzMi Z<|z2 ?_
     exact ⟨(m + 1, i67, cs0 ++ [ia]), zR8, zR1, ⟨_, (.drop (.refl _)), by dsimp only; rw [zip_push inW ia hcs hm2, List.flatten_append]; rfl⟩, ⟨hm2, by simp [hcs]⟩, by dsimp only; omega⟩
    ·obtain rfl : m = f.blocks[k].insts.length := by omega
     rw [qv]
     refine y6<|zw (GStep.knowC (off := 2) (rows := List.zipWith inW cs0 f.blocks[k].insts) .head .head Z (by exact zipr_len (n := 4) (fun _ _ => rfl)) (by decide) (by simp [hcs]))<|zRg<|z8 (ze jh Z Z1 (by decide) Z Z)<|z8 (zl (c := .own _ _) Z8 Z ⟨_, .t4⟩ Z)<|z8 (Gv.loadWC Yc jw Z ⟨_, .head⟩ Z)<|zx (rows := [[_, _, _, _, _, _, _]]) ps24_1 Z Z Z Z Z<|ym (k := 7) jl type58 Z Z Z Z Z (fun _ => .t2) (by rw [nbC_len, hnl]) (by decide) Z (by show (_ + _) * 96 ≤ _; simp <;> omega) (by simp <;> omega)<|fun i74 => z8 (ze jh Z Z1 (by decide) Z Z)<|yp (l := [_]) (new := [_, _, _]) Z1 Z Z Z Z Z Z .t4 Z Z<|z2<|zw (GStep.bagPerm (X' := (ns ++ [(f.blocks[k], as0, cs0)]).flatMap nbO) ((by rw [List.flatMap_append, ← qs]; simp only [List.flatMap_singleton]; exact List.perm_append_comm)) .t3)<|zRg<|zVzAd Z Z<|zVzMi Z<|z2 ?_
     exact ⟨(k + 1, i74, ns ++ [(f.blocks[k], as0, cs0)]), zR4, zR1, ⟨_, (.drop (.drop (.refl _))), by dsimp only; rw [nbC_push]; rfl⟩, ⟨hk2, by rw [w2, hns, qr hk2]; rfl, fun q hq => by rcases List.mem_append.1 hq with hq | hq; exact hokn q hq; rw [List.mem_singleton.1 hq]; exact ⟨has, hcs⟩⟩, by dsimp only; omega⟩
  ·obtain rfl : k = f.blocks.length := by omega
   rw [qv] at hns
   refine y6<|zSr<|z8 (Gv.loadWC jq jj Z ⟨_, .t2⟩ Z)<|zn jj Z Z Z Z Z Z .t3 Z<|z2<|zj<|afin.c1 Z ⟨_, .t3⟩ jq jj Z ?_
   exact ⟨(ib, ns), rfl, ⟨_, .keep (.keep (.drop (.drop (.refl _)))), rfl⟩, hns, hokn⟩
end Go.Proofs.YtiojekbkamegdaaGreatDoor
namespace Go.Proofs.YtiojekbkamegdaaGreatDoor
open Go.Proofs.Tryz
section
variable {E : World} {P : Program} {n : Nat} {env : AEnv} {O O' O'' : OL}
theorem Put.sameG {I J : G} {j off k2 : Nat} {T : TypeId} {cs new : List AV} {x y : AV} (hle : I.le J) (hp : Put O j (.grow k2 T cs) (.grow k2 T new) O') (hc : cs[off]? = some x) (hnew : cs.set off y = new) (hxy : ∀ v, RepV I x v → RepV J y v)
  {L : List (Nat × Obj)} (hL : RepOs I O L) : ∃ L', RepOs J O' L' ∧ L.Perm L' := by
 subst hnew
 obtain ⟨A, B, hp1, ⟨b, c, n, vs, e1, hvs, hvc, hown⟩, hback⟩ := hp.rep hL
 obtain ⟨L', h1, h2⟩ := hback hle (A' := A) ⟨b, c, n, vs, hle.h _ _ e1, hvs.same hle hc hxy, hvc, hown⟩
 exact ⟨L', h1, hp1.trans h2.symm⟩
theorem adoptG_wp {j off k k2 : Nat} {T T' : TypeId} {cs : List AV} {new : Nat → List AV} {c : Code} {Q : Exit → AEnv → OL → Prop} {f : Nat → OL} (hP : ∀ i, Put O j (.grow k2 T' cs) (.grow k2 T' (new i)) (f i)) (hnew : ∀ i, cs.set off (.own i 0) = new i) (hc : cs[off]? = some (.raw (.slice none 0 0)))
  (h : ∀ i, AWP P E n c Q env ((i, .grow k T []) :: f i)) : AWP P E n c Q env O := fun I F ρ w h1 h2 => by
 obtain ⟨i, hi⟩ := h2.name
 obtain ⟨J, e1, hle, e2, htop⟩ := hi (none, 0)
 obtain ⟨_, L, hL, hS⟩ := h2
 obtain ⟨L', h3, h4⟩ := Put.sameG hle (hP i) hc (hnew i) (fun v hv => ⟨none, 0, e2, hv⟩) hL
 exact (h i J F ρ w (h1.mono hle) ⟨htop, _, ⟨[], L', rfl, ⟨none, 0, 0, [], e2, rfl, by simp, OwnS.nil k T⟩, h3⟩, by rw [e1]; exact hS.perm (h4.symm.append_right F)⟩).mono fun _ _ _ => postE.up hle
theorem knowRest {I : G} {F : List (Nat × Obj)} {E w : World} {i k m : Nat} {T : TypeId} {rows : List (List AV)} (hO : Pick O i (.grow k T rows.flatten) O') (hk : ∀ r ∈ rows, r.length = k) (hk0 : 0 < k) (hm : rows.length = m) (h : SLA I O F E w) :
  ∃ J B, I.le J ∧ RepOs I O' B ∧ (∃ top, ∀ i, top ≤ i → J.h i = none) ∧ SL J.k (B ++ F) E w ∧ ∀ v, RepV I (.own i m) v → RepV J (.fro k rows) v := by
 obtain ⟨ht, L, hL, hS⟩ := h
 obtain ⟨A, B, hp, hA, hB⟩ := hO.rep hL
 have hS2 : SL I.k (A ++ (B ++ F)) E w := hS.perm (by rw [← qs]; exact (hp.append_right F).symm)
 obtain ⟨J, j1, j2, j3⟩ := SL.freezeAllN hS2
 have hle : I.le ⟨J, I.h⟩ := ⟨j1, fun _ _ h => h⟩
 subst hm
 exact ⟨⟨J, I.h⟩, B, hle, hB, ht, j2, fun v hv => own_fro hk hk0 hA hle j3 hv⟩
theorem GStep.knowG {j off i k k2 m : Nat} {T T' : TypeId} {cs new : List AV} {rows : List (List AV)} (hO : Pick O i (.grow k T rows.flatten) O') (hP : Put O' j (.grow k2 T' cs) (.grow k2 T' new) O'') (hc : cs[off]? = some (.own i m)) (hnew : cs.set off (.fro k rows) = new)
  (hk : ∀ r ∈ rows, r.length = k) (hk0 : 0 < k) (hm : rows.length = m) : GStep E env O env O'' := fun I F ρ w h1 h2 => by
 obtain ⟨J, B, hle, hB, htop, hS, h4⟩ := knowRest hO hk hk0 hm h2
 obtain ⟨L', h5, h6⟩ := Put.sameG hle hP hc hnew h4 hB
 exact ⟨J, hle, h1.mono hle, htop, L', h5, hS.perm (h6.symm.append_right F)⟩
end
end Go.Proofs.YtiojekbkamegdaaGreatDoor
namespace Go.Proofs.YtiojekbkamegdaaGreatDoor
open Go.Proofs.Tryz
section
variable {S : Int → List Int} {at_ : Int → Int} {V : List Int} {N : Int → Int}
theorem meet_left (hV : Ord S at_ V) (hN : NInv S at_ V N) {K : Nat} (hK : ∀ a b, a ∈ V → b ∈ V → at_ a + at_ b < K) {x y : Int} (hx : N x ≠ -1) (hy : N y ≠ -1) (hlt : at_ y < at_ x) :
  x ≠ 0 ∧ N (N x) ≠ -1 ∧ at_ (N x) < at_ x ∧ meetF N at_ K x y = meetF N at_ K (N x) y := by
 have h1 := (hV.pos x).1 (hN.mem x hx)
 have h2 := (hV.pos y).1 (hN.mem y hy)
 have h3 := hK x y (hN.mem x hx) (hN.mem y hy)
 have hx0 : x ≠ 0 := fun e => by rw [e, hV.zero] at hlt; omega
 obtain ⟨g1, g2, g3⟩ := hN.near x hx0 hx
 refine ⟨hx0, g2, g3, ?_⟩
 obtain ⟨k, rfl⟩ : ∃ k, K = k + 1 := ⟨K - 1, by omega⟩
 have hm := meet_more hV hN k (k + 1) (N x) y g2 hy (by omega) (by omega)
 rw [hm]
 show (if x = y then x else if at_ y < at_ x then meetF N at_ k (N x) y else meetF N at_ k x (N y)) = _
 rw [if_neg (fun e => by rw [e] at hlt; omega), if_pos hlt]
theorem meet_right (hV : Ord S at_ V) (hN : NInv S at_ V N) {K : Nat} (hK : ∀ a b, a ∈ V → b ∈ V → at_ a + at_ b < K) {x y : Int} (hx : N x ≠ -1) (hy : N y ≠ -1) (hlt : at_ x < at_ y) :
  y ≠ 0 ∧ N (N y) ≠ -1 ∧ at_ (N y) < at_ y ∧ meetF N at_ K x y = meetF N at_ K x (N y) := by
 have h1 := (hV.pos x).1 (hN.mem x hx)
 have h2 := (hV.pos y).1 (hN.mem y hy)
 have h3 := hK x y (hN.mem x hx) (hN.mem y hy)
 have hy0 : y ≠ 0 := fun e => by rw [e, hV.zero] at hlt; omega
 obtain ⟨g1, g2, g3⟩ := hN.near y hy0 hy
 refine ⟨hy0, g2, g3, ?_⟩
 obtain ⟨k, rfl⟩ : ∃ k, K = k + 1 := ⟨K - 1, by omega⟩
 have hm := meet_more hV hN k (k + 1) x (N y) hx g2 (by omega) (by omega)
 rw [hm]
 show (if x = y then x else if at_ y < at_ x then meetF N at_ k (N x) y else meetF N at_ k x (N y)) = _
 rw [if_neg (fun e => by rw [e] at hlt; omega), if_neg (by omega)]
theorem meet_same {K : Nat} (hK : 0 < K) (x : Int) : meetF N at_ K x x = x := by
 obtain ⟨k, rfl⟩ : ∃ k, K = k + 1 := ⟨K - 1, by omega⟩
 show (if x = x then x else _) = x
 rw [if_pos rfl]
end
def atTo (n : Nat) (V : List Int) (k : Nat) : List Int := ((V.take k).zipIdx).foldl (fun l p => l.set p.1.toNat (p.2 : Int)) (List.replicate n (-1))
theorem foldl_len {α : Type} {g : List Int → α → List Int} (h : ∀ l x, (g l x).length = l.length) : ∀ (ws : List α) (l : List Int), (ws.foldl g l).length = l.length
 | [], _ => rfl
 | w :: ws, l => by rw [List.foldl_cons, foldl_len h ws, h]
theorem atTo_len (n : Nat) (V : List Int) (k : Nat) : (atTo n V k).length = n := by unfold atTo; rw [foldl_len (fun l x => List.length_set)]; simp
theorem atTo_succ {n : Nat} {V : List Int} {k : Nat} (h : k < V.length) : (atTo n V k).set V[k].toNat (k : Int) = atTo n V (k + 1) := by
 unfold atTo; rw [zipTake h, List.foldl_append]; rfl
theorem atTo_all (n : Nat) (V : List Int) : atTo n V V.length = atOf n V := by unfold atTo atOf; rw [qv]
section
variable {S : Int → List Int} {at_ V : List Int} {preds : Int → List Int} {n : Nat}
def rndTo (at_ : List Int) (K : Nat) (preds : Int → List Int) (V l : List Int) (q : Nat) : List Int := ((V.drop 1).take q).foldl (stepL at_ K preds) l
theorem rndTo_succ {K q : Nat} {l : List Int} (h : q < (V.drop 1).length) : rndTo at_ K preds V l (q + 1) = stepL at_ K preds (rndTo at_ K preds V l q) (V.drop 1)[q] := by
 unfold rndTo; rw [qr h, List.foldl_append]; rfl
theorem rndTo_all {K : Nat} {l : List Int} : rndTo at_ K preds V l (V.drop 1).length = passL at_ K preds V l := by
 unfold rndTo passL; rw [qv, List.drop_one]
theorem rndTo_len {K q : Nat} (l : List Int) : (rndTo at_ K preds V l q).length = l.length := fold_len K _ _
end
section
variable {E : Int → List Int} {n : Nat}
theorem preds_rng (hE : Grph E n) {b p : Int} (h : p ∈ predsT E n b) : 0 ≤ p ∧ p < n := by
 unfold predsT at h
 obtain ⟨i, h1, h2⟩ := List.mem_flatMap.1 h
 obtain ⟨c, _, rfl⟩ := List.mem_map.1 h2
 exact mem_intsTo.1 h1
def nearR (E : Int → List Int) (n : Nat) : List Int := (nearG E n).set 0 (-1)
theorem nearR_len (E : Int → List Int) (n : Nat) : (nearR E n).length = n := by unfold nearR; rw [List.length_set, nearG_len]
theorem nearR_get {b : Int} (h0 : 0 ≤ b) (hb : b ≠ 0) : gi (nearR E n) b = gi (nearG E n) b := by
 unfold nearR gi
 rw [if_pos h0, if_pos h0, List.getElem?_set_ne (by omega)]
theorem nearR_0 (hn : 0 < n) : gi (nearR E n) 0 = -1 := by
 unfold nearR gi
 rw [if_pos (Int.le_refl _)]
 simp [nearG_len, hn]
end
theorem bestF_cons (N at_ : Int → Int) (K : Nat) (p : Int) (ps : List Int) (m : Int) : bestF N at_ K (p :: ps) m = bestF N at_ K ps (if at_ p = -1 ∨ N p = -1 then m else if m = -1 then p else meetF N at_ K m p) := rfl
end Go.Proofs.YtiojekbkamegdaaGreatDoor
namespace Go.Proofs.YtiojekbkamegdaaGreatDoor
open Go.Proofs.Tryz
section
variable {S : Int → List Int} {n : Nat} (hG : Grph S n)
def kidsOf (S : Int → List Int) (n : Nat) (i : Int) : List Int := (intsTo n).filter fun c => decide (gi (nearR S n) c ≠ -1) && decide (gi (nearR S n) c = i)
include hG
theorem mem_kids {i c : Int} (hall : ∀ j : Int, 0 ≤ j → j < n → j ∈ orderT S n) (hi : 0 ≤ i) : c ∈ kidsOf S n i ↔ (0 ≤ c ∧ c < n) ∧ c ≠ 0 ∧ gi (nearG S n) c = i := by
 unfold kidsOf
 simp only [List.mem_filter, w6, w9, mem_intsTo]
 constructor
 ·rintro ⟨⟨h0, h1⟩, h2, h3⟩
  have hc : c ≠ 0 := fun e => by rw [e, nearR_0 hG.npos] at h2; exact h2 rfl
  exact ⟨⟨h0, h1⟩, hc, by rw [nearR_get h0 hc] at h3; exact h3⟩
 ·rintro ⟨⟨h0, h1⟩, hc, h3⟩
  refine ⟨⟨h0, h1⟩, ?_, by rw [nearR_get h0 hc]; exact h3⟩
  rw [nearR_get h0 hc, h3]; omega
theorem kid_dom {i c : Int} (hall : ∀ j : Int, 0 ≤ j → j < n → j ∈ orderT S n) (hi : 0 ≤ i) (h : c ∈ kidsOf S n i) : (∀ j, Dom S j c ↔ j = c ∨ Dom S j i) ∧ i ∈ orderT S n ∧ c ∈ orderT S n ∧ gi (levG S n) c = gi (levG S n) i + 1 := by
 obtain ⟨⟨h0, h1⟩, hc, hN⟩ := (mem_kids hG hall hi).1 h
 have hco := hall c h0 h1
 obtain ⟨g1, g2⟩ := hG.near_mem hco hc
 rw [hN] at g1
 have hl := hG.lev_near hco hc
 rw [hN] at hl
 refine ⟨fun j=>?_, g1, hco, hl⟩
 rw [hG.dom_iff hco, hG.dom_iff g1]
 constructor
 ·intro ha
  rcases ha.cases' with e | ⟨_, _, h3⟩
  ·exact .inl e
  ·rw [hN] at h3; exact .inr h3
 ·rintro (rfl | ha)
  ·exact .refl _
  ·exact .up hc (hG.exact.has c hco) (by rw [hN]; exact ha)
theorem kid_not {i c : Int} (hall : ∀ j : Int, 0 ≤ j → j < n → j ∈ orderT S n) (hi : 0 ≤ i) (h : c ∈ kidsOf S n i) : ¬ Dom S c i ∧ c ≠ i := by
 obtain ⟨h1, h2, h3, h4⟩ := kid_dom hG hall hi h
 refine ⟨fun hd=>?_, fun e => by rw [e] at h4; omega⟩
 have := (hG.lev_anc h2 ((hG.dom_iff h2).1 hd)).2.1
 omega
theorem kid_apart {i c d j : Int} (hall : ∀ j : Int, 0 ≤ j → j < n → j ∈ orderT S n) (hi : 0 ≤ i) (h : c ∈ kidsOf S n i) (k : d ∈ kidsOf S n i) (hne : c ≠ d) (h1 : Dom S c j) (h2 : Dom S d j) : False := by
 rcases dom_total hG h1 h2 with h3 | h3
 ·rcases ((kid_dom hG hall hi h).1 d).1 h3 with e | e
  ·exact hne e.symm
  ·exact (kid_not hG hall hi k).1 e
 ·rcases ((kid_dom hG hall hi k).1 c).1 h3 with e | e
  ·exact hne e
  ·exact (kid_not hG hall hi h).1 e
theorem dom_kids {i j : Int} (hall : ∀ j : Int, 0 ≤ j → j < n → j ∈ orderT S n) (hi : 0 ≤ i) (hj : j ∈ orderT S n) : Dom S i j ↔ j = i ∨ ∃ c ∈ kidsOf S n i, Dom S c j := by
 constructor
 ·intro h
  have ha := (hG.dom_iff hj).1 h
  clear h
  induction ha with
  | refl x => exact .inl rfl
  | @up x a hx hN ht ih =>
   have hr := order_rng hG.toEOk hj
   obtain ⟨g1, _⟩ := hG.near_mem hj hx
   right
   rcases ih hi g1 with e | ⟨c, hc, hd⟩
   ·exact ⟨x, (mem_kids hG hall hi).2 ⟨hr, hx, e⟩, ⟨(order_mem hG.toEOk x).1 hj, fun hw => hw.end_ rfl⟩⟩
   ·exact ⟨c, hc, (hG.dom_iff hj).2 (.up hx hN ((hG.dom_iff g1).1 hd))⟩
 ·rintro (rfl | ⟨c, hc, hd⟩)
  ·exact ⟨(order_mem hG.toEOk j).1 hj, fun hw => hw.end_ rfl⟩
  ·obtain ⟨h1, h2, h3, _⟩ := kid_dom hG hall hi hc
   have hic := (h1 i).2 (.inr ⟨(order_mem hG.toEOk i).1 h2, fun hw => hw.end_ rfl⟩)
   exact (hG.dom_iff hj).2 (((hG.dom_iff hj).1 hd).trans ((hG.dom_iff h3).1 hic))
omit hG in
theorem kids_nodup (i : Int) : (kidsOf S n i).Nodup := by
 unfold kidsOf
 refine List.Nodup.sublist List.filter_sublist ?_
 unfold intsTo List.Nodup
 rw [List.pairwise_map]
 exact List.Pairwise.imp (fun h e => h (Int.ofNat.inj e)) (List.nodup_range (n := n))
end
def halfB (r : Int → Int) (b : PBlock) : PBlock := ⟨b.name, b.phis, (b.insts.filter (keepI r)).map (mapI r), numTm r b.term⟩
def blksV (f : PFunc) (r : Int → Int) (V : Int → Bool) : List PBlock := f.blocks.zipIdx.map fun q => if V (q.2 : Int) = true then halfB r q.1 else q.1
theorem blksV_len (f : PFunc) (r : Int → Int) (V : Int → Bool) : (blksV f r V).length = f.blocks.length := by unfold blksV; simp
theorem blksV_get {f : PFunc} {r : Int → Int} {V : Int → Bool} {j : Nat} {b : PBlock} (h : f.blocks[j]? = some b) : (blksV f r V)[j]? = some (if V (j : Int) = true then halfB r b else b) := by
 unfold blksV
 rw [qy, List.getElem?_zipIdx, h]; simp
theorem blksV_congr {f : PFunc} {r : Int → Int} {V W : Int → Bool} (h : ∀ j : Nat, j < f.blocks.length → V (j : Int) = W (j : Int)) : blksV f r V = blksV f r W := by
 refine List.ext_getElem? fun j=>?_
 by_cases hj : j < f.blocks.length
 ·rw [blksV_get (qq hj), blksV_get (qq hj), h j hj]
 ·rw [List.getElem?_eq_none (by rw [blksV_len]; omega), List.getElem?_eq_none (by rw [blksV_len]; omega)]
theorem blksV_set {f : PFunc} {r : Int → Int} {V W : Int → Bool} {i : Nat} {b : PBlock} (hb : f.blocks[i]? = some b) (hi : W (i : Int) = true) (h : ∀ j : Nat, j ≠ i → V (j : Int) = W (j : Int)) : (blksV f r V).set i (halfB r b) = blksV f r W := by
 refine List.ext_getElem? fun j=>?_
 have hil := (List.getElem?_eq_some_iff.1 hb).1
 by_cases hj : j < f.blocks.length
 ·by_cases e : i = j
  ·subst e
   rw [List.getElem?_set_self (by rw [blksV_len]; exact hj), blksV_get hb, if_pos hi]
  ·rw [List.getElem?_set_ne e, blksV_get (qq hj), blksV_get (qq hj), h j (fun h => e h.symm)]
 ·rw [List.getElem?_eq_none (by rw [List.length_set, blksV_len]; omega), List.getElem?_eq_none (by rw [blksV_len]; omega)]
theorem TAt.uniq {f : PFunc} {r : Int → Int} {i k : Nat} {T U : List (K4 × Int)} (h : TAt f r i k T) (g : TAt f r i k U) (key : K4) : kget T key = kget U key := by
 cases e : kget T key with
 | none =>
  cases e2 : kget U key with
  | none => rfl
  | some d => rw [(h.get key d).2 ((g.get key d).1 e2)] at e; cases e
 | some d => exact ((g.get key d).2 ((h.get key d).1 e)).symm
theorem TAt.congr {f : PFunc} {r : Int → Int} {i k : Nat} {T U : List (K4 × Int)} (h : TAt f r i k T) (hn : (U.map (·.1)).Nodup) (e : ∀ key, kget U key = kget T key) : TAt f r i k U := ⟨hn, fun key d => by rw [e]; exact h.get key d⟩
end Go.Proofs.YtiojekbkamegdaaGreatDoor
namespace Go.Proofs.YtiojekbkamegdaaGreatDoor
open Go.Proofs.Tryz
def cq {α : Type} (p : α → Bool) (l : List α) (k : Nat) : Nat := ((l.take k).filter p).length
theorem cq_succ {α : Type} {p : α → Bool} {l : List α} {k : Nat} {x : α} (h : l[k]? = some x) : cq p l (k + 1) = cq p l k + if p x = true then 1 else 0 := by
 obtain ⟨hk, e⟩ := List.getElem?_eq_some_iff.1 h
 unfold cq
 rw [qr hk, List.filter_append, qw, e]
 by_cases hp : p x = true <;> simp [hp]
theorem cq_mono {α : Type} (p : α → Bool) (l : List α) {a b : Nat} (h : a ≤ b) : cq p l a ≤ cq p l b := by
 unfold cq
 have : l.take a = (l.take b).take a := by rw [List.take_take, Nat.min_eq_left h]
 rw [this]
 exact ((List.take_sublist a (l.take b)).filter p).length_le
theorem cq_lt {α : Type} {p : α → Bool} {l : List α} {a b : Nat} {x : α} (hx : l[a]? = some x) (hp : p x = true) : cq p l a < cq p l b ↔ a < b := by
 constructor
 ·intro h
  rcases Nat.lt_or_ge a b with g | g
  ·exact g
  ·have := cq_mono p l g; omega
 ·intro h
  have h1 := cq_mono p l (show a + 1 ≤ b from h)
  rw [cq_succ hx, if_pos hp] at h1
  omega
theorem filt_at {α : Type} {p : α → Bool} : ∀ {l : List α} {q : Nat} {x : α}, (l.filter p)[q]? = some x ↔ ∃ k, l[k]? = some x ∧ p x = true ∧ cq p l k = q
 | [], q, x => by simp
 | y :: l, q, x => by
  have ih : ∀ {q : Nat} {x : α}, (l.filter p)[q]? = some x ↔ ∃ k, l[k]? = some x ∧ p x = true ∧ cq p l k = q := filt_at
  have hc : ∀ k, cq p (y :: l) (k + 1) = (if p y = true then 1 else 0) + cq p l k := fun k => by
   unfold cq
   rw [List.take_succ_cons, List.filter_cons]
   split <;> simp; omega
  have h0 : cq p (y :: l) 0 = 0 := rfl
  by_cases hy : p y = true
  ·rw [List.filter_cons_of_pos hy]
   cases q with
   | zero =>
    constructor
    ·intro h
     simp at h
     subst h
     exact ⟨0, rfl, hy, rfl⟩
    ·rintro ⟨k, h1, h2, h3⟩
     cases k with
     | zero => simpa using h1
     | succ k => rw [hc, if_pos hy] at h3; omega
   | succ q =>
    rw [List.getElem?_cons_succ, ih]
    constructor
    ·rintro ⟨k, h1, h2, h3⟩
     exact ⟨k + 1, h1, h2, by rw [hc, if_pos hy]; omega⟩
    ·rintro ⟨k, h1, h2, h3⟩
     cases k with
     | zero => rw [h0] at h3; omega
     | succ k => rw [hc, if_pos hy] at h3; exact ⟨k, h1, h2, by omega⟩
  ·rw [List.filter_cons_of_neg hy, ih]
   constructor
   ·rintro ⟨k, h1, h2, h3⟩
    exact ⟨k + 1, h1, h2, by rw [hc, if_neg hy]; omega⟩
   ·rintro ⟨k, h1, h2, h3⟩
    cases k with
    | zero => simp at h1; subst h1; exact absurd h2 hy
    | succ k => rw [hc, if_neg hy] at h3; exact ⟨k, h1, h2, by omega⟩
theorem num_blk {f : PFunc} {r : Int → Int} {i : Nat} : (numF f r).blocks[i]? = (f.blocks[i]?).map (numB r) := by unfold numF; rw [qy]
theorem num_ends (f : PFunc) (r : Int → Int) : EndsOf (numF f r) = EndsOf f := by
 funext b
 unfold EndsOf
 split
 ·rw [num_blk]
  cases f.blocks[b.toNat]? with
  | none => rfl
  | some c => rfl
 ·rfl
theorem num_at {f : PFunc} {r : Int → Int} {i q : Nat} {z : PInst} : AtI (numF f r) i q z ↔ ∃ b k x, f.blocks[i]? = some b ∧ b.insts[k]? = some x ∧ keepI r x = true ∧ cq (keepI r) b.insts k = q ∧ z = mapI r x := by
 unfold AtI
 rw [num_blk]
 constructor
 ·rintro ⟨c, h1, h2⟩
  cases hb : f.blocks[i]? with
  | none => rw [hb] at h1; cases h1
  | some b =>
   rw [hb] at h1
   cases h1
   change ((b.insts.filter (keepI r)).map (mapI r))[q]? = some z at h2
   rw [qy] at h2
   cases hq : (b.insts.filter (keepI r))[q]? with
   | none => rw [hq] at h2; cases h2
   | some x =>
    rw [hq] at h2
    cases h2
    obtain ⟨k, h3, h4, h5⟩ := filt_at.1 hq
    exact ⟨b, k, x, rfl, h3, h4, h5, rfl⟩
 ·rintro ⟨b, k, x, h1, h3, h4, h5, rfl⟩
  refine ⟨numB r b, by rw [h1]; rfl, ?_⟩
  show ((b.insts.filter (keepI r)).map (mapI r))[q]? = some _
  rw [qy, filt_at.2 ⟨k, h3, h4, h5⟩]; rfl
structure OneM (f : PFunc) : Prop where
 inst : ∀ i k x j q y, AtI f i k x → AtI f j q y → 0 ≤ x.dst → x.dst = y.dst → i = j ∧ k = q
 phi : ∀ (i k : Nat) (x : PInst) (j : Nat) (b : PBlock) (p : PPhi), AtI f i k x → f.blocks[j]? = some b → p ∈ b.phis → 0 ≤ x.dst → p.dst ≠ x.dst
theorem oneM_of {f : PFunc} (ho : OnceP f) (hd : ∀ i k x, AtI f i k x → x.dst < f.vars.length) : OneM f := by
 have one : ∀ i k x, AtI f i k x → 0 ≤ x.dst → ∀ m ∈ makings f x.dst, m = ((i : Int), (k : Int)) := fun i k x hx h0 m hm => by
  have hl := (ho x.dst.toNat (by have := hd i k x hx; omega)).1
  rw [show ((x.dst.toNat : Nat) : Int) = x.dst by omega] at hl
  obtain ⟨b, h1, h2⟩ := hx
  have m1 : makerT f x.dst = ((i : Int), (k : Int)) := maker_eq hl (mem_makings.2 ⟨i, b, h1, mem_mkBlk.2 (.inr ⟨k, x, h2, rfl, rfl⟩)⟩)
  rw [← m1]; exact (maker_eq hl hm).symm
 refine ⟨fun i k x j q y hx hy h0 e => ?_, fun i k x j b p hx hb hp h0 e => ?_⟩
 ·obtain ⟨c, h1, h2⟩ := hy
  have := one i k x hx h0 ((j : Int), (q : Int)) (mem_makings.2 ⟨j, c, h1, mem_mkBlk.2 (.inr ⟨q, y, h2, e.symm, rfl⟩)⟩)
  simp only [Prod.mk.injEq] at this
  omega
 ·have := one i k x hx h0 ((j : Int), (-1 : Int)) (mem_makings.2 ⟨j, b, hb, mem_mkBlk.2 (.inl ⟨p, hp, e, rfl⟩)⟩)
  simp only [Prod.mk.injEq] at this
  omega
theorem num_maker {f : PFunc} (hO : OneM f) {r : Int → Int} {i q : Nat} {z : PInst} (h : AtI (numF f r) i q z) (h0 : 0 ≤ z.dst) : makerT (numF f r) z.dst = ((i : Int), (q : Int)) := by
 have hm : ((i : Int), (q : Int)) ∈ makings (numF f r) z.dst := by
  obtain ⟨b, h1, h2⟩ := h
  exact mem_makings.2 ⟨i, b, h1, mem_mkBlk.2 (.inr ⟨q, z, h2, rfl, rfl⟩)⟩
 have all : ∀ m ∈ makings (numF f r) z.dst, m = ((i : Int), (q : Int)) := fun m hm => by
  obtain ⟨b, k, x, e1, e2, e3, e4, rfl⟩ := num_at.1 h
  obtain ⟨j, c, h1, h2⟩ := mem_makings.1 hm
  rcases mem_mkBlk.1 h2 with ⟨p, hp, e, _⟩ | ⟨q2, y, hy, e, rfl⟩
  ·rw [num_blk] at h1
   cases hb : f.blocks[j]? with
   | none => rw [hb] at h1; cases h1
   | some d =>
    rw [hb] at h1
    cases h1
    obtain ⟨p0, hp0, rfl⟩ := List.mem_map.1 hp
    exact absurd e (hO.phi i k x j d p0 ⟨b, e1, e2⟩ hb hp0 h0)
  ·obtain ⟨b2, k2, x2, g1, g2, g3, g4, rfl⟩ := num_at.1 ⟨c, h1, hy⟩
   obtain ⟨rfl, rfl⟩ := hO.inst i k x j k2 x2 ⟨b, e1, e2⟩ ⟨b2, g1, g2⟩ h0 e.symm
   rw [e1] at g1
   cases g1
   rw [← e4, ← g4]
 unfold makerT
 cases hl : makings (numF f r) z.dst with
 | nil => rw [hl] at hm; cases hm
 | cons m l =>
  rw [List.head?_cons, Option.getD_some]
  exact all m (by rw [hl]; exact .head _)
theorem num_ahead {f : PFunc} {r : Int → Int} {i i' k k' : Nat} {b b' : PBlock} {x : PInst} (hb : f.blocks[i]? = some b) (hb' : f.blocks[i']? = some b') (hx : b'.insts[k']? = some x) (kx : keepI r x = true) :
  AheadP (numF f r) ((i' : Int), (cq (keepI r) b'.insts k' : Int)) i (cq (keepI r) b.insts k : Nat) ↔ AheadI f i' k' i k := by
 unfold AheadI AheadP
 rw [num_ends]
 refine or_congr Iff.rfl (or_congr ⟨fun ⟨h1, h2⟩ => ⟨h1, ?_⟩, fun ⟨h1, h2⟩ => ⟨h1, ?_⟩⟩ Iff.rfl)
 ·have e : i' = i := Int.ofNat.inj h1
  subst e
  rw [hb] at hb'
  cases hb'
  have := (cq_lt (b := k) hx kx).1 (by simpa using h2)
  simpa using this
 ·have e : i' = i := Int.ofNat.inj h1
  subst e
  rw [hb] at hb'
  cases hb'
  have := (cq_lt (p := keepI r) (b := k) hx kx).2 (by simpa using h2)
  simpa using this
def HitN (g : PFunc) (y x : PInst) : Prop := ∃ i k j q, AtI g i k y ∧ AtI g j q x ∧ 0 ≤ y.dst ∧ 0 ≤ x.dst ∧ x.dst ≠ y.dst ∧ sameI x y = true ∧ AheadP g (makerT g x.dst) i k
structure NumOk (f : PFunc) (rk : Nat → Nat → Nat) : Prop where
 hH : NumH f rk
 hO : OneM f
 hD : ∀ i k x, NumI f i k x → 0 ≤ x.dst ∧ x.dst < f.vars.length
theorem hit_of {f : PFunc} {rk : Nat → Nat → Nat} (hF : NumOk f rk) {r : Int → Int} {y x : PInst} (h : HitN (numF f r) y x) : ∃ i k y0 i' k' x0, NumI f i k y0 ∧ NumI f i' k' x0 ∧ AheadI f i' k' i k ∧ r x0.dst = x0.dst ∧ r y0.dst = y0.dst ∧ sameI (mapI r x0) (mapI r y0) = true ∧ y.dst = y0.dst ∧ x.dst = x0.dst := by
 obtain ⟨i, q, j, q', hy, hx, hy0, hx0, hne, hs, ha⟩ := h
 rw [num_maker hF.hO hx hx0] at ha
 obtain ⟨b, k, y0, e1, e2, e3, e4, rfl⟩ := num_at.1 hy
 obtain ⟨c, k', x0, g1, g2, g3, g4, rfl⟩ := num_at.1 hx
 obtain ⟨cx, ⟨eo, _⟩, _⟩ := sameI_iff.1 hs
 have cx : cntB x0.op = true := cx
 have eo : x0.op = y0.op := eo
 have cy : cntB y0.op = true := by rw [← eo]; exact cx
 rw [← e4, ← g4] at ha
 have ha := (num_ahead e1 g1 g2 g3).1 ha
 refine ⟨i, k, y0, j, k', x0, ⟨⟨b, e1, e2⟩, cy⟩, ⟨⟨c, g1, g2⟩, cx⟩, ha, ?_, ?_, hs, Z, Z⟩
 ·unfold keepI at g3; simpa [cx] using g3
 ·unfold keepI at e3; simpa [cy] using e3
theorem hit_to {f : PFunc} {rk : Nat → Nat → Nat} (hF : NumOk f rk) {r : Int → Int} {i k i' k' : Nat} {y x : PInst} (hy : NumI f i k y) (hx : NumI f i' k' x) (ha : AheadI f i' k' i k) (rx : r x.dst = x.dst) (ry : r y.dst = y.dst) (hs : sameI (mapI r x) (mapI r y) = true) : HitN (numF f r) (mapI r y) (mapI r x) := by
 obtain ⟨b, e1, e2⟩ := hy.1
 obtain ⟨c, g1, g2⟩ := hx.1
 have kx : keepI r x = true := by unfold keepI; simp [rx]
 have ky : keepI r y = true := by unfold keepI; simp [ry]
 have ay : AtI (numF f r) i (cq (keepI r) b.insts k) (mapI r y) := num_at.2 ⟨b, k, y, e1, e2, ky, rfl, rfl⟩
 have ax : AtI (numF f r) i' (cq (keepI r) c.insts k') (mapI r x) := num_at.2 ⟨c, k', x, g1, g2, kx, rfl, rfl⟩
 have x0 := (hF.hD _ _ _ hx).1
 refine ⟨i, _, i', _, ay, ax, (hF.hD _ _ _ hy).1, x0, fun e=>?_, hs, ?_⟩
 ·obtain ⟨rfl, rfl⟩ := hF.hH.made _ _ _ _ _ _ hy hx e
  have := hF.hH.less _ _ _ _ _ _ hy hx ha
  omega
 ·rw [num_maker hF.hO ax x0]
  exact (num_ahead e1 g1 g2 kx).2 ha
def fixN (n : Nat) (r : Int → Int) : Nat := (List.range n).countP fun (v : Nat) => decide (r (v : Int) = (v : Int))
theorem count_less {α : Type} {p q : α → Bool} : ∀ {l : List α}, (∀ x, q x = true → p x = true) → (∃ w ∈ l, p w = true ∧ q w = false) → l.countP q < l.countP p
 | [], _, h => by obtain ⟨w, hw, _⟩ := h; cases hw
 | y :: l, hq, h => by
  have hle : l.countP q ≤ l.countP p := List.countP_mono_left fun x _ hx => hq x hx
  rw [List.countP_cons, List.countP_cons]
  obtain ⟨w, hw, h1, h2⟩ := h
  rcases List.mem_cons.1 hw with rfl | hw
  ·rw [h1, h2]; simp; omega
  ·have := count_less hq ⟨w, hw, h1, h2⟩
   by_cases hy : q y = true
   ·rw [hy, hq y hy]; simp; omega
   ·have hy : q y = false := by simpa using hy
    rw [hy]; simp; omega
theorem fix_less {n : Nat} {r : Int → Int} {y x : Int} (h0 : 0 ≤ y) (hn : y < n) (ry : r y = y) (rx : r x = x) (hne : x ≠ y) : fixN n (fun v => putT y x (r v)) < fixN n r := by
 unfold fixN
 have hyn : y.toNat < n := by omega
 refine count_less (fun v hv => ?_) ⟨y.toNat, List.mem_range.2 hyn, ?_, ?_⟩
 ·have hv : putT y x (r (v : Int)) = (v : Int) := by simpa using hv
  unfold putT at hv
  refine w4 ?_
  split at hv
  ·rename_i e
   rw [← hv, rx] at e
   exact absurd e hne
  ·exact hv
 ·rw [show ((y.toNat : Nat) : Int) = y by omega]; exact w4 ry
 ·rw [show ((y.toNat : Nat) : Int) = y by omega]
  refine w5 ?_
  show ¬ putT y x (r y) = y
  rw [ry]
  unfold putT; rw [if_pos rfl]; exact hne
theorem half_put {f : PFunc} {rk : Nat → Nat → Nat} (hF : NumOk f rk) {r : Int → Int} (h : Half f r) {y x : PInst} (hit : HitN (numF f r) y x) :
  Half f (fun v => putT y.dst x.dst (r v)) ∧ putF (numF f r) y.dst x.dst = numF f (fun v => putT y.dst x.dst (r v)) ∧ fixN f.vars.length (fun v => putT y.dst x.dst (r v)) < fixN f.vars.length r := by
 obtain ⟨i, k, y0, i', k', x0, hy, hx, ha, rx, ry, hs, ey, ex⟩ := hit_of hF hit
 have hne : x0.dst ≠ y0.dst := fun e => by
  obtain ⟨rfl, rfl⟩ := hF.hH.made _ _ _ _ _ _ hy hx e
  have := hF.hH.less _ _ _ _ _ _ hy hx ha
  omega
 obtain ⟨y00, y01⟩ := hF.hD _ _ _ hy
 rw [ey, ex]
 refine ⟨h.step hF.hH hy hx ha rx ry hs, put_num rx ry hne (fun b hb p hp => ?_) (fun b hb z hz e => ?_), fix_less y00 y01 ry rx hne⟩
 ·obtain ⟨j, hj⟩ := List.getElem?_of_mem hb
  exact hF.hO.phi i k y0 j b p hy.1 hj hp y00
 ·obtain ⟨j, hj⟩ := List.getElem?_of_mem hb
  obtain ⟨q, hq⟩ := List.getElem?_of_mem hz
  obtain ⟨rfl, rfl⟩ := hF.hO.inst i k y0 j q z hy.1 ⟨b, hj, hq⟩ y00 e.symm
  have := hy.1.one ⟨b, hj, hq⟩
  rw [← this]; exact hy.2
theorem half_end {f : PFunc} {rk : Nat → Nat → Nat} (hF : NumOk f rk) {r : Int → Int} (h : Half f r) (hn : ∀ y x, ¬ HitN (numF f r) y x) : Roots f r :=
 ⟨h.id, h.rt, fun i k y i' k' x hy hx ha rx ry => by
  cases hs : sameI (mapI r x) (mapI r y) with
  | false => rfl
  | true => exact absurd (hit_to hF hy hx ha rx ry hs) (hn _ _)⟩
theorem roots_ex {f : PFunc} {rk : Nat → Nat → Nat} (hF : NumOk f rk) : ∃ r, Roots f r := by
 have go : ∀ n r, Half f r → fixN f.vars.length r ≤ n → ∃ r, Roots f r := by
  intro n
  induction n with
  | zero =>
   intro r hr hn
   by_cases hc : ∃ y x, HitN (numF f r) y x
   ·obtain ⟨y, x, hit⟩ := hc
    have := (half_put hF hr hit).2.2
    omega
   ·exact ⟨r, half_end hF hr fun y x h => hc ⟨y, x, h⟩⟩
  | succ n ih =>
   intro r hr hn
   by_cases hc : ∃ y x, HitN (numF f r) y x
   ·obtain ⟨y, x, hit⟩ := hc
    obtain ⟨h1, _, h3⟩ := half_put hF hr hit
    exact ih _ h1 (by omega)
   ·exact ⟨r, half_end hF hr fun y x h => hc ⟨y, x, h⟩⟩
 exact go _ _root_.id (Half.first f) (Nat.le_refl _)
end Go.Proofs.YtiojekbkamegdaaGreatDoor
namespace Go.Proofs.YtiojekbkamegdaaGreatDoor
open Go.Proofs.Tryz
theorem dom_anti {E : Int → List Int} {n : Nat} (hG : Grph E n) {a b : Int} (h : Dom E a b) (k : Dom E b a) : a = b := by
 have hb : b ∈ orderT E n := (order_mem hG.toEOk b).2 h.1
 have ha : a ∈ orderT E n := (order_mem hG.toEOk a).2 k.1
 have l1 := hG.lev_anc hb ((hG.dom_iff hb).1 h)
 have l2 := hG.lev_anc ha ((hG.dom_iff ha).1 k)
 exact l1.2.2 l2.2.1
def Av (f : PFunc) (b k : Int) (v : Int) : Prop := AheadP f (makerT f v) b k
section
variable {f : PFunc} (hE : EndsOk f)
include hE
theorem ahead_trans {m p : Plc} {b k : Int} (h1 : AheadP f m p.1 p.2) (h2 : AheadP f p b k) (g0 : 0 ≤ p.1) : AheadP f m b k := by
 rcases h1 with h1 | ⟨e1, l1⟩ | ⟨h0, n1, d1⟩
 ·exact .inl h1
 ·rcases h2 with h2 | ⟨e2, l2⟩ | ⟨_, n2, d2⟩
  ·omega
  ·exact .inr (.inl ⟨by omega, by omega⟩)
  ·exact .inr (.inr ⟨by omega, by omega, by rw [e1]; exact d2⟩)
 ·rcases h2 with h2 | ⟨e2, l2⟩ | ⟨_, n2, d2⟩
  ·omega
  ·exact .inr (.inr ⟨h0, by omega, by rw [← e2]; exact d1⟩)
  ·refine .inr (.inr ⟨h0, fun e=>?_, d1.trans d2⟩)
   have := dom_anti hE.grph d1 (by rw [e]; exact d2)
   exact n1 this
omit hE in
theorem ahead_le {m : Plc} {b k k' : Int} (h : AheadP f m b k) (hk : k ≤ k') : AheadP f m b k' := by
 rcases h with h | ⟨h1, h2⟩ | h
 ·exact .inl h
 ·exact .inr (.inl ⟨h1, by omega⟩)
 ·exact .inr (.inr h)
omit hE in
theorem ahead_next {m : Plc} {b k : Int} : AheadP f m b (k + 1) ↔ AheadP f m b k ∨ (m.1 = b ∧ m.2 = k) := by
 constructor
 ·rintro (h | ⟨h1, h2⟩ | h)
  ·exact .inl (.inl h)
  ·by_cases e : m.2 = k
   ·exact .inr ⟨h1, e⟩
   ·exact .inl (.inr (.inl ⟨h1, by omega⟩))
  ·exact .inl (.inr (.inr h))
 ·rintro (h | ⟨h1, h2⟩)
  ·exact ahead_le h (by omega)
  ·exact .inr (.inl ⟨h1, by omega⟩)
omit hE in
theorem ahead_pred {m : Plc} {b c : Int} (hb : Rch (EndsOf f) b) (hc : c ∈ EndsOf f b) {k : Int} (hk : k ≤ 0) (h : AheadP f m c k) (hL : m.1 = b → m.2 < lenAt f b) (hm : m.1 = c → k ≤ m.2) : AheadP f m b (lenAt f b) := by
 rcases h with h | ⟨h1, h2⟩ | ⟨h0, h1, h2⟩
 ·exact .inl h
 ·have := hm h1; omega
 ·have hd := h2.pred hb hc h1
  by_cases e : m.1 = b
  ·exact .inr (.inl ⟨e, hL e⟩)
  ·exact .inr (.inr ⟨h0, e, hd⟩)
end
theorem maker_shape {f : PFunc} {v : Int} (h : 0 ≤ (makerT f v).1) : ∃ (i : Nat) (b : PBlock), f.blocks[i]? = some b ∧ (makerT f v).1 = i ∧ ((∃ p ∈ b.phis, p.dst = v ∧ (makerT f v).2 = -1) ∨ ∃ (k : Nat) (x : PInst), b.insts[k]? = some x ∧ x.dst = v ∧ (makerT f v).2 = k) := by
 obtain ⟨i, b, h1, h2⟩ := maker_cases h
 refine ⟨i, b, h1, ?_, ?_⟩
 ·rcases h2 with ⟨p, _, _, e⟩ | ⟨k, x, _, _, e⟩ <;> rw [e]
 ·rcases h2 with ⟨p, h3, h4, e⟩ | ⟨k, x, h3, h4, e⟩
  ·exact .inl ⟨p, h3, h4, by rw [e]⟩
  ·exact .inr ⟨k, x, h3, h4, by rw [e]⟩
structure OneV (f : PFunc) : Prop where
 inst : ∀ (i k : Nat) (b : PBlock) (x : PInst), f.blocks[i]? = some b → b.insts[k]? = some x → 0 ≤ x.dst → makerT f x.dst = ((i : Int), (k : Int))
 phi : ∀ (i : Nat) (b : PBlock) (p : PPhi), f.blocks[i]? = some b → p ∈ b.phis → makerT f p.dst = ((i : Int), -1)
theorem oneV_of {f : PFunc} (ho : OnceP f) (hi : ∀ b ∈ f.blocks, ∀ x ∈ b.insts, x.dst < f.vars.length) (hp : ∀ b ∈ f.blocks, ∀ p ∈ b.phis, 0 ≤ p.dst ∧ p.dst < f.vars.length) : OneV f := by
 have len : ∀ d : Int, 0 ≤ d → d < f.vars.length → (makings f d).length ≤ 1 := fun d h0 h1 => by
  have := (ho d.toNat (by omega)).1
  rwa [show ((d.toNat : Nat) : Int) = d by omega] at this
 refine ⟨fun i k b x h1 h2 h0 => ?_, fun i b p h1 h2 => ?_⟩
 ·exact maker_eq (len _ h0 (hi b (w1 h1) x (w1 h2))) (mem_makings.2 ⟨i, b, h1, mem_mkBlk.2 (.inr ⟨k, x, h2, rfl, rfl⟩)⟩)
 ·obtain ⟨g0, g1⟩ := hp b (w1 h1) p h2
  exact maker_eq (len _ g0 g1) (mem_makings.2 ⟨i, b, h1, mem_mkBlk.2 (.inl ⟨p, h2, rfl, rfl⟩)⟩)
theorem lenAt_get {f : PFunc} {i : Nat} {b : PBlock} (h : f.blocks[i]? = some b) : lenAt f (i : Int) = b.insts.length := by
 unfold lenAt; rw [show ((i : Int)).toNat = i from rfl, h]; rfl
theorem av_enter {f : PFunc} {b c v : Int} (hb : Rch (EndsOf f) b) (hc : c ∈ EndsOf f b) (h : Av f c 0 v) : (makerT f v = (c, -1)) ∨ Av f b (lenAt f b) v := by
 by_cases h0 : 0 ≤ (makerT f v).1
 ·obtain ⟨i, B, h1, h2, h3⟩ := maker_shape h0
  have hL : (makerT f v).1 = b → (makerT f v).2 < lenAt f b := fun e => by
   rw [← e, h2, lenAt_get h1]
   rcases h3 with ⟨p, _, _, e3⟩ | ⟨k, x, g1, _, e3⟩
   ·omega
   ·have := (List.getElem?_eq_some_iff.1 g1).1; omega
  rcases h with h | ⟨e1, e2⟩ | h
  ·omega
  ·left
   rcases h3 with ⟨p, _, _, e3⟩ | ⟨k, x, _, _, e3⟩
   ·rw [← e1]; exact Prod.ext rfl e3
   ·omega
  ·by_cases e : (makerT f v).1 = c
   ·exact absurd e h.2.1
   ·exact .inr (ahead_pred hb hc (k := 0) (by omega) (.inr (.inr h)) hL (fun e' => absurd e' e))
 ·exact .inr (.inl (by omega))
theorem av_next {f : PFunc} (hO : OneV f) {i k : Nat} {b : PBlock} {x : PInst} (h1 : f.blocks[i]? = some b) (h2 : b.insts[k]? = some x) {v : Int} (h : Av f i (k + 1) v) : Av f i k v ∨ v = x.dst := by
 rcases ahead_next.1 h with h | ⟨e1, e2⟩
 ·exact .inl h
 ·right
  obtain ⟨j, B, g1, g2, g3⟩ := maker_shape (f := f) (v := v) (by omega)
  have hj : j = i := by omega
  subst hj
  rw [h1] at g1
  cases g1
  rcases g3 with ⟨p, _, _, e3⟩ | ⟨q, y, g4, g5, e3⟩
  ·omega
  ·have hq : q = k := by omega
   subst hq
   rw [h2] at g4
   cases g4
   exact g5.symm
end Go.Proofs.YtiojekbkamegdaaGreatDoor
namespace Go.Proofs.YtiojekbkamegdaaGreatDoor
open Go.Proofs.Tryz
structure NumW (f : PFunc) (r : Int → Int) (rk : Nat → Nat → Nat) : Prop where
 ok : NumOk f rk
 hr : Roots f r
 hK : KeyI f r
 hM : MkOk f
def Dk (V : Int → Bool) (i k : Nat) : Plc → Bool := fun m => V m.1 || (decide (m.1 = (i : Int)) && decide (m.2 < (k : Int)))
theorem root_eq {f : PFunc} {r : Int → Int} {rk : Nat → Nat → Nat} (h : NumW f r rk) {D D' : Plc → Bool} (e : ∀ j q y, NumI f j q y → r y.dst ≠ y.dst → D ((j : Int), (q : Int)) = D' ((j : Int), (q : Int))) : rootL f r D = rootL f r D' := by
 unfold rootL
 refine List.map_congr_left fun v _ => ?_
 by_cases hv : ∃ i k x, NumI f i k x ∧ x.dst = (v : Int)
 ·obtain ⟨i, k, x, hx, e2⟩ := hv
  by_cases hne : r x.dst = x.dst
  ·rw [e2] at hne; rw [hne]; simp
  ·rw [← e2, h.hM.made i k x hx, e i k x hx hne]
 ·have : r (v : Int) = v := h.hr.id v fun i k x hx e => hv ⟨i, k, x, hx, e⟩
  rw [this]; simp
theorem root_keep {f : PFunc} {r : Int → Int} {rk : Nat → Nat → Nat} (h : NumW f r rk) {V : Int → Bool} {i k : Nat} {x : PInst} (hx : AtI f i k x) (hk : keepI r x = true) : rootL f r (Dk V i (k + 1)) = rootL f r (Dk V i k) := root_eq h fun j q y hy hne => by
 unfold Dk
 by_cases e : j = i ∧ q = k
 ·obtain ⟨rfl, rfl⟩ := e
  have := hy.1.one hx
  subst this
  unfold keepI at hk
  simp [hy.2] at hk
  exact absurd hk hne
 ·congr 1
  by_cases e1 : (j : Int) = (i : Int)
  ·have : q ≠ k := fun e2 => e ⟨by omega, e2⟩
   simp only [e1, decide_true, Bool.true_and]
   rw [decide_eq_decide]; push_cast; omega
  ·simp [e1]
theorem root_drop {f : PFunc} {r : Int → Int} {rk : Nat → Nat → Nat} (h : NumW f r rk) {V : Int → Bool} {i k : Nat} {x : PInst} (hx : NumI f i k x) : (rootL f r (Dk V i k)).set x.dst.toNat (r x.dst) = rootL f r (Dk V i (k + 1)) := by
 rw [root_set h.hM h.hr.id hx]
 congr 1
 funext p
 unfold addD Dk
 obtain ⟨a, b⟩ := p
 dsimp only
 by_cases e1 : a = (i : Int)
 ·by_cases e2 : b = (k : Int)
  ·subst e1 e2; simp; right; omega
  ·simp only [e1, decide_true, Bool.true_and, Prod.mk.injEq, e2, and_false, decide_false, Bool.or_false]
   congr 1
   rw [decide_eq_decide]; push_cast; omega
 ·simp [e1]
theorem root_first {f : PFunc} {r : Int → Int} {rk : Nat → Nat → Nat} (h : NumW f r rk) (V : Int → Bool) (i : Nat) : rootL f r (fun m => V m.1) = rootL f r (Dk V i 0) := root_eq h fun j q y _ _ => by
 unfold Dk; dsimp only
 have h2 : decide ((q : Int) < ((0 : Nat) : Int)) = false := w5 (by omega)
 rw [h2, Bool.and_false, Bool.or_false]
theorem root_last {f : PFunc} {r : Int → Int} {rk : Nat → Nat → Nat} (h : NumW f r rk) (V : Int → Bool) {i : Nat} {b : PBlock} (hb : f.blocks[i]? = some b) : rootL f r (Dk V i b.insts.length) = rootL f r (fun m => V m.1 || decide (m.1 = (i : Int))) := root_eq h fun j q y hy _ => by
 unfold Dk; dsimp only
 by_cases e : (j : Int) = (i : Int)
 ·obtain ⟨c, h1, h2⟩ := hy.1
  have : j = i := by omega
  subst this
  rw [hb] at h1
  cases h1
  have := (List.getElem?_eq_some_iff.1 h2).1
  have : (q : Int) < (b.insts.length : Nat) := by omega
  simp [this]
 ·simp [e]
def VisB (f : PFunc) (V : Int → Bool) (i : Int) : Prop := (∀ j, Dom (EndsOf f) j i → j ≠ i → V j = true) ∧ ∀ j, Dom (EndsOf f) i j → V j = false
theorem root_at {f : PFunc} {r : Int → Int} {rk : Nat → Nat → Nat} (h : NumW f r rk) {V : Int → Bool} {i k : Nat} (hV : VisB f V i) {v : Int} (h0 : 0 ≤ v) (h1 : v < f.vars.length) (ha : Av f i k v) : (rootL f r (Dk V i k))[v.toNat]? = some (r v) := by
 rw [rootL_get (by omega), show ((v.toNat : Nat) : Int) = v by omega]
 congr 1
 by_cases hv : ∃ j q x, NumI f j q x ∧ x.dst = v
 ·obtain ⟨j, q, x, hx, e⟩ := hv
  have hm := h.hM.made j q x hx
  rw [e] at hm
  unfold Av at ha
  rw [hm] at ha ⊢
  rw [if_pos]
  unfold Dk
  rcases ha with ha | ⟨e1, e2⟩ | ⟨_, e1, e2⟩
  ·dsimp only at ha; omega
  ·dsimp only at e1 e2 ⊢; simp [e1, e2]
  ·dsimp only at e1 e2 ⊢; rw [hV.1 _ e2 e1]; rfl
 ·have : r v = v := h.hr.id v fun i k x hx e => hv ⟨i, k, x, hx, e⟩
  rw [this]; simp
section
variable {f : PFunc} (hG : Grph (EndsOf f) f.blocks.length) (hall : ∀ j : Int, 0 ≤ j → j < f.blocks.length → j ∈ orderT (EndsOf f) f.blocks.length)
def visK (f : PFunc) (V : Int → Bool) (i : Int) (l : List Int) : Int → Bool := fun j => (V j || decide (j = i)) || l.any fun c => domB (EndsOf f) f.blocks.length c j
include hG hall
theorem vis_kid {V : Int → Bool} {i : Int} (hi : 0 ≤ i) (hV : VisB f V i) {l : List Int} {q : Nat} (hq : q < l.length) (hk : ∀ c ∈ l, c ∈ kidsOf (EndsOf f) f.blocks.length i) (hn : l.Nodup) : VisB f (visK f V i (l.take q)) l[q] := by
 have hc := hk _ (qu hq)
 obtain ⟨h1, h2, h3, h4⟩ := kid_dom hG hall hi hc
 obtain ⟨g1, g2⟩ := kid_not hG hall hi hc
 refine ⟨fun j hj hne => ?_, fun j hj => ?_⟩
 ·unfold visK
  rcases (h1 j).1 hj with e | hd
  ·exact absurd e hne
  ·by_cases e : j = i
   ·simp [e]
   ·rw [hV.1 j hd e]; simp
 ·unfold visK
  have hi2 : Dom (EndsOf f) i l[q] := (h1 i).2 (.inr (.refl ((order_mem hG.toEOk i).1 h2)))
  have e1 : V j = false := hV.2 j (hi2.trans hj)
  have e2 : j ≠ i := fun e => g1 (by rw [← e]; exact hj)
  rw [e1]
  simp only [Bool.false_or, Bool.or_eq_false_iff, decide_eq_false_iff_not, List.any_eq_false]
  refine ⟨e2, fun c hcm hd => ?_⟩
  obtain ⟨p, hp, e⟩ := List.getElem_of_mem hcm
  rw [w3] at hp
  rw [List.getElem_take] at e
  have hne : c ≠ l[q] := fun e3 => by
   have := (List.getElem_inj hn).1 (e.trans e3)
   omega
  exact kid_apart hG hall hi (hk c (List.mem_of_mem_take hcm)) hc hne ((hG.domB_iff c j).1 hd) hj
omit hG hall in
theorem vis_next {V : Int → Bool} {i : Int} {l : List Int} {q : Nat} (hq : q < l.length) (j : Int) : (visK f V i (l.take q) j || domB (EndsOf f) f.blocks.length l[q] j) = visK f V i (l.take (q + 1)) j := by
 unfold visK
 rw [qr hq, List.any_append]; simp [Bool.or_assoc]
theorem vis_all {V : Int → Bool} {i : Int} (hi : 0 ≤ i) {j : Int} (h0 : 0 ≤ j) (h1 : j < f.blocks.length) : visK f V i (kidsOf (EndsOf f) f.blocks.length i) j = (V j || domB (EndsOf f) f.blocks.length i j) := by
 unfold visK
 rw [Bool.or_assoc]
 congr 1
 rw [qz, hG.domB_iff, dom_kids hG hall hi (hall j h0 h1)]
 simp only [Bool.or_eq_true, w9, List.any_eq_true]
 refine or_congr Iff.rfl ⟨fun ⟨c, h2, h3⟩ => ⟨c, h2, (hG.domB_iff c j).1 h3⟩, fun ⟨c, h2, h3⟩ => ⟨c, h2, (hG.domB_iff c j).2 h3⟩⟩
end
end Go.Proofs.YtiojekbkamegdaaGreatDoor
