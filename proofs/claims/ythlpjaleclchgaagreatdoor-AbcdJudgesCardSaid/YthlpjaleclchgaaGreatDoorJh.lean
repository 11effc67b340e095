/- Calls over what is known for ever, told once and used again. No conditions. -/
import Derived.Test.YthlpjaleclchgaaGreatDoorJg
set_option linter.unusedVariables false
set_option linter.unusedSimpArgs false
set_option linter.unusedSectionVars false
namespace Go.Proofs.YthlpjaleclchgaaGreatDoor
open Go.Proofs
def ClosedX (l : List Oper) (X : Nat → Bool) : Prop := ∀ i o, X i = true → l[i]? = some o → ∀ e ∈ o.after, Region.binds .any e = true → X e.on = true
def EdgeLt (l : List Oper) : Prop := ∀ i o, l[i]? = some o → ∀ e ∈ o.after, Region.binds .any e = true → e.on < i
def AncOk (l : List Oper) (X : Nat → Bool) (am : List Nat) : Prop :=
 ∀ (i m : Nat) (o : Oper), am[i]? = some m → l[i]? = some o → (∀ j, m.testBit j = true → j < i) ∧ ((∀ e ∈ o.after, Region.binds .any e = true → X e.on = true) → ∀ j, m.testBit j = true → X j = true)
theorem ancOf_bits {am : List Nat} {o : Oper} {j : Nat} (h : (ancOf am o).testBit j = true) : ∃ e ∈ o.after, Region.binds .any e = true ∧ (j = e.on ∨ ∃ m, am[e.on]? = some m ∧ m.testBit j = true) := by
 unfold ancOf at h
 have key : ∀ (es : List Edge) (m0 : Nat), (es.foldl (fun m e => bif Region.binds .any e then m ||| (2 ^ e.on ||| (am[e.on]?).getD 0) else m) m0).testBit j = true → m0.testBit j = true ∨ ∃ e ∈ es, Region.binds .any e = true ∧ (j = e.on ∨ ∃ m, am[e.on]? = some m ∧ m.testBit j = true) := by
  intro es
  induction es with
  | nil => intro m0 h; exact .inl h
  | cons e es ih =>
   intro m0 h
   rw [List.foldl_cons] at h
   rcases ih _ h with h1 | ⟨e', h1, h2⟩
   ·cases hb : Region.binds .any e with
    | false => rw [hb] at h1; exact .inl h1
    | true =>
     rw [hb] at h1
     simp only [cond_true, Nat.testBit_or, Bool.or_eq_true] at h1
     rcases h1 with h1 | h1 | h1
     ·exact .inl h1
     ·refine .inr ⟨e, .head _, hb, .inl ?_⟩
      rw [Nat.testBit_two_pow] at h1
      exact (of_decide_eq_true h1).symm
     ·refine .inr ⟨e, .head _, hb, .inr ?_⟩
      cases hm : am[e.on]? with
      | none => rw [hm] at h1; simp at h1
      | some m => rw [hm] at h1; exact ⟨m, rfl, h1⟩
   ·exact .inr ⟨e', .tail _ h1, h2⟩
 rcases key o.after.toList 0 h with h1 | ⟨e, h1, h2⟩
 ·simp at h1
 ·exact ⟨e, by simpa using h1, h2⟩
theorem ancs_ok {l : List Oper} {X : Nat → Bool} (hX : ClosedX l X) (hE : EdgeLt l) : ∀ (r : List Oper) (am : List Nat), l.drop am.length = r → AncOk l X am → AncOk l X (ancs r am)
 | [], am, _, h => h
 | o :: r, am, hd, h => by
  unfold ancs
  have ho : l[am.length]? = some o := by
   have := congrArg (·[0]?) hd
   simpa using this
  refine ancs_ok hX hE r _ (by rw [List.length_append, List.length_singleton]; have := congrArg (List.drop 1) hd; simpa [List.drop_drop] using this) fun i m o' hm ho' => ?_
  by_cases hi : i < am.length
  ·rw [List.getElem?_append_left hi] at hm
   exact h i m o' hm ho'
  ·have hlt := (List.getElem?_eq_some_iff.1 hm).1
   rw [List.length_append, List.length_singleton] at hlt
   have hie : i = am.length := by omega
   subst hie
   rw [ho] at ho'; cases ho'
   rw [List.getElem?_append_right (Nat.le_refl _), Nat.sub_self] at hm
   simp only [List.getElem?_cons_zero, Option.some.injEq] at hm
   subst hm
   constructor
   ·intro j hj
    obtain ⟨e, h1, h2, h3⟩ := ancOf_bits hj
    have hlt := hE _ o ho e h1 h2
    rcases h3 with rfl | ⟨m, hm, hmj⟩
    ·exact hlt
    ·have hle : e.on < l.length := Nat.lt_trans hlt (List.getElem?_eq_some_iff.1 ho).1
     have := (h e.on m _ hm (yr hle)).1 j hmj
     omega
   ·intro hall j hj
    obtain ⟨e, h1, h2, h3⟩ := ancOf_bits hj
    have hlt := hE _ o ho e h1 h2
    have hXe := hall e h1 h2
    rcases h3 with rfl | ⟨m, hm, hmj⟩
    ·exact hXe
    ·have hle : e.on < l.length := Nat.lt_trans hlt (List.getElem?_eq_some_iff.1 ho).1
     exact (h e.on m _ hm (yr hle)).2 (fun e' h1' h2' => hX e.on _ hXe (yr hle) e' h1' h2') j hmj
theorem ancs_get {l : List Oper} {X : Nat → Bool} (hX : ClosedX l X) (hE : EdgeLt l) : AncOk l X (ancs l []) := ancs_ok hX hE l [] rfl fun i m o h => by simp at h
section
variable {nx0 : Nat}
theorem needP_split {p q : Nat → Bool} : ∀ (R : List Rc) (a : Nat), (∀ j, q j = true → p j = true) → (needP nx0 p R a).Perm (needP nx0 q R a ++ needP nx0 (fun j => p j && !q j) R a)
 | [], _, _ => .refl _
 | .av x o :: R, a, h => by
  have ih := needP_split R (a + 1) h
  unfold needP
  cases hp : p a with
  | false =>
   have hq : q a = false := by cases hq : q a with
    | false => rfl
    | true => rw [h a hq] at hp; cases hp
   simp only [hq, cond_false, Bool.false_and]; exact ih
  | true =>
   cases hq : q a with
   | true => simp only [cond_true, Bool.not_true, Bool.and_false, cond_false, List.cons_append]; exact ih.cons _
   | false => simp only [cond_true, cond_false, Bool.not_false, Bool.and_true]; exact (ih.cons _).trans List.perm_middle.symm
 | .pv _ :: R, a, h => needP_split R (a + 1) h
 | .lv _ :: R, a, h => needP_split R (a + 1) h
 | .cv _ :: R, a, h => needP_split R (a + 1) h
theorem needP_congr {p q : Nat → Bool} : ∀ (R : List Rc) (a : Nat), (∀ j x o, R[j]? = some (.av x o) → p (a + j) = q (a + j)) → needP nx0 p R a = needP nx0 q R a
 | [], _, _ => rfl
 | r :: R, a, h => by
  have ih := needP_congr R (a + 1) fun j x o hj => (by omega : a + (j + 1) = a + 1 + j) ▸ h (j + 1) x o (by simpa using hj)
  cases r with
  | av x o =>
   unfold needP
   have := h 0 x o rfl
   rw [Nat.add_zero] at this
   rw [this, ih]
  | pv x => exact ih
  | lv x => exact ih
  | cv x => exact ih
theorem needP_app (p : Nat → Bool) : ∀ (R S : List Rc) (a : Nat), needP nx0 p (R ++ S) a = needP nx0 p R a ++ needP nx0 p S (a + R.length)
 | [], S, a => rfl
 | r :: R, S, a => by
  have ih := needP_app p R S (a + 1)
  rw [show a + 1 + R.length = a + (r :: R).length by rw [List.length_cons]; omega] at ih
  rw [List.cons_append]
  cases r with
  | av x o =>
   show (bif p a then (nx0 + a, o) :: needP nx0 p (R ++ S) (a + 1) else needP nx0 p (R ++ S) (a + 1)) = (bif p a then (nx0 + a, o) :: needP nx0 p R (a + 1) else needP nx0 p R (a + 1)) ++ needP nx0 p S (a + (Rc.av x o :: R).length)
   rw [ih]
   cases p a <;> rfl
  | pv x => exact ih
  | lv x => exact ih
  | cv x => exact ih
theorem needP_none {p : Nat → Bool} : ∀ (R : List Rc) (a : Nat), (∀ j, a ≤ j → p j = false) → needP nx0 p R a = []
 | [], _, _ => rfl
 | r :: R, a, h => by
  have ih := needP_none R (a + 1) fun j hj => h j (by omega)
  cases r with
  | av x o => unfold needP; rw [h a (Nat.le_refl _)]; exact ih
  | pv x => exact ih
  | lv x => exact ih
  | cv x => exact ih
end
section
variable {φ : Phi} {I : Ghost} {H H' : Hp} {nx k : Nat} {F A : List (Nat × Obj)} {E w : World} {o : VO}
theorem Rel.take (h : Rel I φ H nx (A ++ F) E w) (hb : RepB I φ k o A) (hk : H.get k = none) : Rel I φ (H.set k (some o)) nx F E w := by
 obtain ⟨M, L, hn, hm, hr, hS⟩ := h.ex
 refine yp (A := A) (L := L) ⟨M, hn, fun j o' => ?_, hr⟩ hb (hS.perm ?_) h.top
 ·rw [hm j o']
  exact ⟨fun hj => ⟨fun e => (by subst e; rw [hk] at hj; cases hj), hj⟩, fun hj => hj.2⟩
 ·rw [← List.append_assoc, ← List.append_assoc]
  exact List.perm_append_comm.append_right F
theorem Rel.takeAll : ∀ {M : List (Nat × VO)} {L : List (Nat × Obj)} {H H' : Hp}, RepM I φ M L → addA M H = some H' → Rel I φ H nx (L ++ F) E w → Rel I φ H' nx F E w
 | [], L, H, H', h1, h2, h3 => by
  have h1 : L = [] := h1
  subst h1; cases h2; exact h3
 | (k, o) :: M, L, H, H', ⟨A, B, e, h1, h1'⟩, h2, h3 => by
  subst e
  unfold addA at h2
  split at h2
  ·rename_i hk
   rw [List.append_assoc] at h3
   exact Rel.takeAll h1' h2 (h3.take h1 hk)
  ·cases h2
theorem RepM.app : ∀ {M N : List (Nat × VO)} {L : List (Nat × Obj)}, RepM I φ (M ++ N) L → ∃ A B, L = A ++ B ∧ RepM I φ M A ∧ RepM I φ N B
 | [], N, L, h => ⟨[], L, rfl, rfl, h⟩
 | x :: M, N, L, ⟨A, B, e, h1, h2⟩ => by
  obtain ⟨C, D, e2, h3, h4⟩ := RepM.app h2
  exact ⟨A ++ C, D, by rw [e, e2, List.append_assoc], ⟨A, C, rfl, h1, h3⟩, h4⟩
theorem Rel.permF {F' : List (Nat × Obj)} (h : Rel I φ H nx F E w) (hp : F'.Perm F) : Rel I φ H nx F' E w := by
 obtain ⟨M, L, hn, hm, hr, hS⟩ := h.ex
 exact ⟨h.top, M, L, hn, hm, hr, hS.perm (hp.append_left L)⟩
end
theorem msk_congr {lk : List Nat} {G G' : Tr EV} (h : ∀ t ∈ lk, gt G t = gt G' t) : msk lk G = msk lk G' := by
 funext t
 unfold msk
 cases hm : memN t lk with
 | false => rfl
 | true => exact h t (memN_iff.1 hm)
noncomputable def evK_e (T : TT) (call : CallE) (g : Nat → EV) (H : Hp) (k nx : Nat) (op : Op) : Option (EV × Hp × Nat) :=
 match evC T g H k op with
 | some (x, H') => some (x, H', nx)
 | none => evCl call g H nx op
def FactP (T : TT) (call : CallE) (l : List Oper) (am : List Nat) (nx0 : Nat) (R : List Rc) (GF : Tr EV) (S : List Stg) (i : Nat) (o : Oper) (r : Rc) : Prop :=
 ∃ t, wantE l (msk (lkE l o) GF) o = some t ∧ (t = false → r = .pv (.tu [])) ∧ (t = true → match r with
  | .pv x => evP T (msk (lkE l o) GF) o.op = some x
  | .av x vo => evA T (msk (lkE l o) GF) (nx0 + i) o.op = some (x, vo)
  | .lv _ => True
  | .cv x => ∃ H nx fl H1 H' nx', S[cpos R i]? = some (H, nx, fl) ∧ S[cpos R i + 1]? = some (H', nx', fl ||| (am[i]?).getD 0) ∧ addA (needP nx0 (qA fl ((am[i]?).getD 0)) (R.take i) 0) H = some H1 ∧
    evK_e T call (msk (lkE l o) GF) H1 (nx0 + i) nx o.op = some (x, H', nx') ∧ (cpos R i = 0 ∨ ∃ c y, R[c]? = some (.cv y) ∧ cpos R c + 1 = cpos R i ∧ ((am[i]?).getD 0).testBit c = true))
def PassOk (T : TT) (call : CallE) (l : List Oper) (am : List Nat) (nx0 : Nat) (i : Nat) (rs : List Rc) (G : Tr EV) (S : List Stg) (R : List Rc) (GF : Tr EV) (SF : List Stg) : Prop :=
 (∃ rr, R = rs ++ rr ∧ rr.length + i = l.length) ∧ (∃ ss, SF = S ++ ss) ∧ SF.length = (R.filter isCv).length + 1 ∧ (∀ t, (∀ j o, i ≤ j → l[j]? = some o → o.dst ≠ some t) → gt GF t = gt G t) ∧
  ∀ j o, i ≤ j → l[j]? = some o → ∃ r, R[j]? = some r ∧ FactP T call l am nx0 R GF SF j o r ∧ ∀ d, o.dst = some d → gt GF d = r.x
theorem gt_setO (G : Tr EV) (d : Option Nat) (x : EV) (t : Nat) : gt (setO G d x) t = if d = some t then x else gt G t := by
 cases d with
 | none => rw [if_neg (by simp)]; rfl
 | some d =>
  unfold gt setO
  rw [Tr.get_set]
  by_cases e : t = d
  ·rw [if_pos e, if_pos (by rw [e])]; rfl
  ·rw [if_neg e, if_neg (fun h => e (Option.some.inj h).symm)]
theorem pass_step {T : TT} {call : CallE} {l : List Oper} {am : List Nat} {nx0 : Nat} (hD : ∀ (i j : Nat) (o o' : Oper) d, l[i]? = some o → l[j]? = some o' → o.dst = some d → o'.dst = some d → i = j) (hW : ∀ (i : Nat) (o : Oper) t, l[i]? = some o → t ∈ lkE l o → ∀ (j : Nat) (o' : Oper), l[j]? = some o' → o'.dst = some t → j < i)
  {i : Nat} {o : Oper} {rs : List Rc} {G : Tr EV} {S S' : List Stg} {R : List Rc} {GF : Tr EV} {SF : List Stg} {r : Rc} (ho : l[i]? = some o) (hrs : rs.length = i) (hS : ∃ ss, S' = S ++ ss) (h : PassOk T call l am nx0 (i + 1) (rs ++ [r]) (setO G o.dst r.x) S' R GF SF)
  (hf : (∃ rr, R = rs ++ (r :: rr)) → (∃ ss, SF = S' ++ ss) → msk (lkE l o) GF = msk (lkE l o) G → FactP T call l am nx0 R GF SF i o r) : PassOk T call l am nx0 i rs G S R GF SF := by
 obtain ⟨⟨rr, h1, h1'⟩, ⟨ss, h2⟩, h3, h4, h5⟩ := h
 obtain ⟨s0, hs0⟩ := hS
 have hR : R = rs ++ (r :: rr) := by rw [h1]; simp
 have hget : R[i]? = some r := by rw [hR, List.getElem?_append_right (by omega), hrs, Nat.sub_self]; rfl
 refine ⟨⟨r :: rr, hR, by rw [List.length_cons]; omega⟩, ⟨s0 ++ ss, by rw [h2, hs0, List.append_assoc]⟩, h3, fun t ht => ?_, fun j o' hj ho' => ?_⟩
 ·rw [h4 t fun j o' hj ho' => ht j o' (by omega) ho', gt_setO, if_neg (ht i o (Nat.le_refl _) ho)]
 ·by_cases e : j = i
  ·subst e
   rw [ho] at ho'; cases ho'
   refine ⟨r, hget, hf ⟨rr, hR⟩ ⟨ss, h2⟩ (msk_congr fun t ht => ?_), fun d hd => ?_⟩
   ·rw [h4 t fun j' o' hj' ho2 e2 => by have := hW j o t ho ht j' o' ho2 e2; omega, gt_setO, if_neg fun e2 => by have := hW j o t ho ht j o ho e2; omega]
   ·rw [h4 d fun j' o' hj' ho2 e2 => by have := hD j j' o o' d ho ho2 hd e2; omega, gt_setO, if_pos hd]
  ·exact h5 j o' (by omega) ho'
theorem cpos_app {rs rr : List Rc} {c : Nat} (h : c ≤ rs.length) : cpos (rs ++ rr) c = cpos rs c := by
 unfold cpos; rw [List.take_append_of_le_length h]
theorem cpos_len (rs rr : List Rc) : cpos (rs ++ rr) rs.length = (rs.filter isCv).length := by
 unfold cpos; rw [List.take_left]
theorem pass_ok {T : TT} {call : CallE} {l : List Oper} {am : List Nat} {nx0 : Nat} (hD : ∀ (i j : Nat) (o o' : Oper) d, l[i]? = some o → l[j]? = some o' → o.dst = some d → o'.dst = some d → i = j) (hW : ∀ (i : Nat) (o : Oper) t, l[i]? = some o → t ∈ lkE l o → ∀ (j : Nat) (o' : Oper), l[j]? = some o' → o'.dst = some t → j < i) :
  ∀ (rest : List Oper) (i : Nat) (rs : List Rc) (G : Tr EV) (S : List Stg) (H : Hp) (nx fl : Nat) (last : Option Nat) (R : List Rc) (GF : Tr EV) (SF : List Stg), l.drop i = rest → i ≤ l.length → rs.length = i → S.length = (rs.filter isCv).length + 1 → S[(rs.filter isCv).length]? = some (H, nx, fl) →
   (∀ c, last = some c → (∃ y, rs[c]? = some (.cv y)) ∧ cpos rs c + 1 = (rs.filter isCv).length) → (last = none → (rs.filter isCv).length = 0) → pass T call l am nx0 rest i rs G S H nx fl last = some (R, GF, SF) → PassOk T call l am nx0 i rs G S R GF SF
 | [], i, rs, G, S, H, nx, fl, last, R, GF, SF, hd, hi, hrs, hS, hSl, hl1, hl2, h => by
  cases h
  have : i = l.length := by
   have := congrArg List.length hd
   simp at this; omega
  refine ⟨⟨[], by simp, by simpa using this⟩, ⟨[], by simp⟩, hS, fun _ _ => Z, fun j o hj ho => ?_⟩
  have := (List.getElem?_eq_some_iff.1 ho).1
  omega
 | o :: rest, i, rs, G, S, H, nx, fl, last, R, GF, SF, hd, hi, hrs, hS, hSl, hl1, hl2, h => by
  have ho : l[i]? = some o := by
   have := congrArg (·[0]?) hd
   simpa using this
  have hlt : i < l.length := (List.getElem?_eq_some_iff.1 ho).1
  have hd2 : l.drop (i + 1) = rest := by have := congrArg (List.drop 1) hd; simpa [List.drop_drop] using this
  have hcv : ∀ r : Rc, isCv r = false → ((rs ++ [r]).filter isCv).length = (rs.filter isCv).length := fun r hr => by
   rw [List.filter_append]; simp [hr]
  have hlast : ∀ r : Rc, isCv r = false → ∀ c, last = some c → (∃ y, (rs ++ [r])[c]? = some (.cv y)) ∧ cpos (rs ++ [r]) c + 1 = ((rs ++ [r]).filter isCv).length := fun r hr c hc => by
   obtain ⟨⟨y, hy⟩, h2⟩ := hl1 c hc
   have hcl := (List.getElem?_eq_some_iff.1 hy).1
   exact ⟨⟨y, by rw [List.getElem?_append_left hcl]; exact hy⟩, by rw [cpos_app (Nat.le_of_lt hcl), hcv r hr]; exact h2⟩
  have go : ∀ (r : Rc), isCv r = false → pass T call l am nx0 rest (i + 1) (rs ++ [r]) (setO G o.dst r.x) S H nx fl last = some (R, GF, SF) → PassOk T call l am nx0 (i + 1) (rs ++ [r]) (setO G o.dst r.x) S R GF SF := fun r hr hp =>
   pass_ok hD hW rest (i + 1) (rs ++ [r]) _ S H nx fl last R GF SF hd2 hlt (by simp [hrs]) (by rw [hcv r hr]; exact hS) (by rw [hcv r hr]; exact hSl) (hlast r hr) (fun e => by rw [hcv r hr]; exact hl2 e) hp
  unfold pass at h
  dsimp only at h
  split at h
  ·cases h
  ·rename_i t ht
   cases t with
   | false =>
    simp only [cond_false] at h
    exact pass_step hD hW ho hrs ⟨[], by simp⟩ (go (.pv (.tu [])) rfl h) fun _ _ hg => ⟨false, by rw [hg]; exact ht, fun _ => rfl, fun e => by cases e⟩
   | true =>
    simp only [cond_true] at h
    split at h
    ·rename_i x hx
     exact pass_step hD hW ho hrs ⟨[], by simp⟩ (go (.pv x) rfl h) fun _ _ hg => ⟨true, by rw [hg]; exact ht, fun e => (by cases e), fun _ => by rw [hg]; exact hx⟩
    ·split at h
     ·rename_i x vo hx
      exact pass_step hD hW ho hrs ⟨[], by simp⟩ (go (.av x vo) rfl h) fun _ _ hg => ⟨true, by rw [hg]; exact ht, fun e => (by cases e), fun _ => by rw [hg]; exact hx⟩
     ·split at h
      ·cases h
      ·rename_i H1 hH1
       split at h
       ·rename_i x hx
        exact pass_step hD hW ho hrs ⟨[], by simp⟩ (go (.lv x) rfl h) fun _ _ hg => ⟨true, by rw [hg]; exact ht, fun e => (by cases e), fun _ => trivial⟩
       ·split at h
        ·cases h
        ·rename_i x H' nx' hx
         cases hb : last.elim true (fun c => ((am[i]?).getD 0).testBit c) with
         | false => rw [hb] at h; cases h
         | true =>
          rw [hb] at h
          simp only [cond_true] at h
          have hcv1 : ((rs ++ [Rc.cv x]).filter isCv).length = (rs.filter isCv).length + 1 := by rw [List.filter_append, List.length_append]; rfl
          have hrec := pass_ok hD hW rest (i + 1) (rs ++ [.cv x]) (setO G o.dst x) (S ++ [(H', nx', fl ||| (am[i]?).getD 0)]) H' nx' (fl ||| (am[i]?).getD 0) (some i) R GF SF hd2 hlt (by simp [hrs]) (by rw [hcv1, List.length_append, hS]; rfl) (by rw [hcv1, List.getElem?_append_right (by omega), hS, Nat.sub_self]; rfl)
           (fun c hc => by
            cases hc
            exact ⟨⟨x, by rw [List.getElem?_append_right (by omega), hrs, Nat.sub_self]; rfl⟩, by rw [hcv1, ← hrs, cpos_len]⟩) (fun e => by cases e) h
          refine pass_step hD hW ho hrs ⟨_, rfl⟩ hrec fun ⟨rr, hR⟩ ⟨ss, hSF⟩ hg => ⟨true, by rw [hg]; exact ht, fun e => (by cases e), fun _=>?_⟩
          have hcp : cpos R i = (rs.filter isCv).length := by rw [hR, ← hrs, cpos_len]
          refine ⟨H, nx, fl, H1, H', nx', ?_, ?_, ?_, by rw [hg]; exact hx, ?_⟩
          ·rw [hcp, hSF, List.append_assoc, List.getElem?_append_left (by omega)]; exact hSl
          ·rw [hcp, hSF, List.getElem?_append_left (by rw [List.length_append, hS]; simp), List.getElem?_append_right (by omega), hS, Nat.sub_self]; rfl
          ·rw [hR, ← hrs, List.take_left, hrs]; exact hH1
          ·cases last with
           | none => left; rw [hcp]; exact hl2 rfl
           | some c =>
            right
            obtain ⟨⟨y, hy⟩, h2⟩ := hl1 c rfl
            have hcl := (List.getElem?_eq_some_iff.1 hy).1
            exact ⟨c, y, by rw [hR, List.getElem?_append_left hcl]; exact hy, by rw [hcp, hR, cpos_app (Nat.le_of_lt hcl)]; exact h2, hb⟩
def stX (listed : Array Bool) (i : Nat) : Bool := listed.getD i false
theorem stX_set {listed : Array Bool} {i j : Nat} (h : i < listed.size) : stX (listed.setIfInBounds i true) j = (stX listed j || Nat.beq j i) := by
 unfold stX
 by_cases e : i = j
 ·subst e
  rw [show Nat.beq i i = true from Nat.beq_refl i, Bool.or_true]
  simp [h]
 ·rw [getD_set_ne false e]
  have : Nat.beq j i = false := by cases hb : Nat.beq j i with
   | false => rfl
   | true => exact absurd (Nat.eq_of_beq_eq_true hb).symm e
  rw [this, Bool.or_false]
theorem stOk_spec {l : List Oper} {am : List Nat} (h : stOk l am = true) : EdgeLt l ∧ (∀ (i : Nat) (o : Oper) t, l[i]? = some o → t ∈ lkE l o → ∀ (j : Nat) (o' : Oper), l[j]? = some o' → o'.dst = some t → ((am[i]?).getD 0).testBit j = true) ∧
  ∀ (i j : Nat) (o o' : Oper) d, l[i]? = some o → l[j]? = some o' → o.dst = some d → o'.dst = some d → i = j := by
 have key : ∀ i o, l[i]? = some o → (o.after.toList.all (fun e => !Region.binds .any e || Nat.blt e.on i) &&
    (List.range l.length).all fun j => match (l[j]?).bind (·.dst) with
     | some d => (!memN d (lkE l o) || ((am[i]?).getD 0).testBit j) && (Nat.beq i j || !(match o.dst with
      | some d' => Nat.beq d d'
      | none => false))
     | none => true) = true := fun i o ho => by
  unfold stOk at h
  have := List.all_eq_true.1 h i (List.mem_range.2 (List.getElem?_eq_some_iff.1 ho).1)
  rw [ho] at this
  exact this
 have key2 : ∀ (i j : Nat) (o o' : Oper) d, l[i]? = some o → l[j]? = some o' → o'.dst = some d → (memN d (lkE l o) = true → ((am[i]?).getD 0).testBit j = true) ∧ (o.dst = some d → i = j) := fun i j o o' d ho ho' hd => by
  have h1 := key i o ho
  simp only [yt] at h1
  have h2 := List.all_eq_true.1 h1.2 j (List.mem_range.2 (List.getElem?_eq_some_iff.1 ho').1)
  rw [ho'] at h2
  simp only [Option.bind_some, hd, yt, Bool.or_eq_true, Bool.not_eq_true'] at h2
  refine ⟨fun hm => h2.1.resolve_left (by rw [hm]; decide), fun hod=>?_⟩
  rcases h2.2 with h3 | h3
  ·exact Nat.eq_of_beq_eq_true h3
  ·rw [hod] at h3
   simp only at h3
   rw [show Nat.beq d d = true from Nat.beq_refl d] at h3; cases h3
 refine ⟨fun i o ho e he hb => ?_, fun i o t ho ht j o' ho' hd => (key2 i j o o' t ho ho' hd).1 (memN_iff.2 ht), fun i j o o' d ho ho' hd hd' => (key2 i j o o' d ho ho' hd').2 hd⟩
 have h1 := key i o ho
 simp only [yt] at h1
 have h2 := List.all_eq_true.1 h1.1 e (by simpa using he)
 rw [hb] at h2
 have h2 : Nat.blt e.on i = true := by simpa using h2
 exact Nat.le_of_ble_eq_true h2
structure DInv_e (φ0 : Phi) (I0 : Ghost) (F : List (Nat × Obj)) (E : World) (nx0 : Nat) (l : List Oper) (R : List Rc) (GF : Tr EV) (S : List Stg) (X : Nat → Bool) (j : Nat) (φ : Phi) (I : Ghost) (H : Hp) (nx fl : Nat) (ρ : Env) (w : World) : Prop where
 closed : ClosedX l X
 stage : S[j]? = some (H, nx, fl)
 chain : ∀ i y, R[i]? = some (.cv y) → (X i = true ↔ cpos R i < j)
 flX : ∀ a, fl.testBit a = true → X a = true
 slots : ∀ t, (∀ (i : Nat) (o : Oper), l[i]? = some o → o.dst = some t → X i = true) → RelV φ (gt GF t) (ρ t)
 free : ∀ i, i < l.length → X i = false → φ (nx0 + i) = none
 le : φ0.le φ
 leI : I0.le I
 keep : ∀ t, t < nx0 → φ t = φ0 t
 top : nx0 + l.length ≤ nx
 mem : ∃ Lx, RepM I φ (needP nx0 (fun a => X a && !fl.testBit a) R 0) Lx ∧ Rel I φ H nx (Lx ++ F) E w
section
variable {φ0 φ : Phi} {I0 I : Ghost} {F : List (Nat × Obj)} {E w : World} {nx0 : Nat} {l : List Oper} {R : List Rc} {GF : Tr EV} {S : List Stg} {X : Nat → Bool} {j : Nat} {H : Hp} {nx fl : Nat} {ρ : Env}
theorem DInv_e.closed' (h : DInv_e φ0 I0 F E nx0 l R GF S X j φ I H nx fl ρ w) {i : Nat} {o : Oper} (ho : l[i]? = some o) (hr : ∀ e ∈ o.after, Region.binds .any e = true → X e.on = true) : ClosedX l (fun a => X a || Nat.beq a i) := fun a o' ha ho' e he hb => by
 simp only [Bool.or_eq_true] at ha ⊢
 rcases ha with ha | ha
 ·exact .inl (h.closed a o' ha ho' e he hb)
 ·have := Nat.eq_of_beq_eq_true ha
  subst this
  rw [ho] at ho'; cases ho'
  exact .inl (hr e he hb)
theorem DInv_e.slots' (h : DInv_e φ0 I0 F E nx0 l R GF S X j φ I H nx fl ρ w) {i : Nat} {o : Oper} (ho : l[i]? = some o) {x : EV} {v : Value} {ψ : Phi} (hle : φ.le ψ) (hx : RelV ψ x v) (hd : ∀ d, o.dst = some d → gt GF d = x) :
  ∀ t, (∀ (i' : Nat) (o' : Oper), l[i']? = some o' → o'.dst = some t → (X i' || Nat.beq i' i) = true) → RelV ψ (gt GF t) (updO ρ o.dst v t) := fun t ht => by
 by_cases e : o.dst = some t
 ·rw [hd t e, e]
  show RelV ψ x (upd ρ t v t)
  rw [upd_same]; exact hx
 ·have : updO ρ o.dst v t = ρ t := by
   cases hdd : o.dst with
   | none => rfl
   | some d => exact upd_other _ _ fun e2 => e (by rw [hdd, e2])
  rw [this]
  refine (h.slots t fun i' o' ho' hd' => ?_).mono hle
  have := ht i' o' ho' hd'
  simp only [Bool.or_eq_true] at this
  rcases this with h1 | h1
  ·exact h1
  ·have := Nat.eq_of_beq_eq_true h1
   subst this
   rw [ho] at ho'; cases ho'
   exact absurd hd' e
theorem DInv_e.quiet (h : DInv_e φ0 I0 F E nx0 l R GF S X j φ I H nx fl ρ w) {i : Nat} {o : Oper} (ho : l[i]? = some o) (hr : ∀ e ∈ o.after, Region.binds .any e = true → X e.on = true) {r : Rc} (hR : R[i]? = some r) (hcv : isCv r = false) (hav : ∀ x vo, r ≠ .av x vo) {v : Value} (hx : RelV φ r.x v) (hd : ∀ d, o.dst = some d → gt GF d = r.x) :
  DInv_e φ0 I0 F E nx0 l R GF S (fun a => X a || Nat.beq a i) j φ I H nx fl (updO ρ o.dst v) w := by
 refine ⟨h.closed' ho hr, h.stage, fun i' y hy => ?_, fun a ha => by rw [h.flX a ha]; rfl, h.slots' ho (.refl _) hx hd, fun i' hi' hx' => h.free i' hi' ?_, h.le, h.leI, h.keep, h.top, ?_⟩
 ·rw [← h.chain i' y hy]
  have : Nat.beq i' i = false := by cases hb : Nat.beq i' i with
   | false => rfl
   | true =>
    have := Nat.eq_of_beq_eq_true hb
    subst this
    rw [hR] at hy; cases hy; cases hcv
  rw [this, Bool.or_false]
 ·cases hX : X i' with
  | false => rfl
  | true => rw [hX] at hx'; cases hx'
 ·obtain ⟨Lx, h1, h2⟩ := h.mem
  refine ⟨Lx, ?_, h2⟩
  rw [needP_congr (q := fun a => X a && !fl.testBit a) R 0 fun a x vo ha => ?_]
  ·exact h1
  ·rw [Nat.zero_add]
   have : Nat.beq a i = false := by cases hb : Nat.beq a i with
    | false => rfl
    | true =>
     have := Nat.eq_of_beq_eq_true hb
     subst this
     rw [hR] at ha; cases ha; exact absurd rfl (hav x vo)
   simp only [this, Bool.or_false]
end
theorem needP_one {nx0 i : Nat} {R : List Rc} {x : EV} {vo : VO} (h : R[i]? = some (.av x vo)) : needP nx0 (fun a => Nat.beq a i) R 0 = [(nx0 + i, vo)] := by
 obtain ⟨hlt, he⟩ := List.getElem?_eq_some_iff.1 h
 have hR : R = R.take i ++ (.av x vo :: R.drop (i + 1)) := by
  rw [← he, ← List.drop_eq_getElem_cons hlt, List.take_append_drop]
 have hb : ∀ a, a ≠ i → Nat.beq a i = false := fun a ha => by
  cases hb : Nat.beq a i with
  | false => rfl
  | true => exact absurd (Nat.eq_of_beq_eq_true hb) ha
 have hl : (R.take i).length = i := by rw [List.length_take]; omega
 rw [hR, needP_app, hl, Nat.zero_add]
 have h1 : needP nx0 (fun a => Nat.beq a i) (R.take i) 0 = [] := by
  rw [needP_congr (q := fun _ => false) (R.take i) 0 fun j y o hj => ?_]
  ·exact needP_none _ _ fun _ _ => rfl
  ·have := (List.getElem?_eq_some_iff.1 hj).1
   rw [hl] at this
   exact hb _ (by omega)
 have h2 : needP nx0 (fun a => Nat.beq a i) (R.drop (i + 1)) (i + 1) = [] := needP_none _ _ fun a ha => hb a (by omega)
 rw [h1, List.nil_append]
 show (bif Nat.beq i i then (nx0 + i, vo) :: needP nx0 (fun a => Nat.beq a i) (R.drop (i + 1)) (i + 1) else needP nx0 (fun a => Nat.beq a i) (R.drop (i + 1)) (i + 1)) = _
 rw [show Nat.beq i i = true from Nat.beq_refl i, h2]; rfl
section
variable {P : Program} {T : TT} {φ0 φ : Phi} {I0 I : Ghost} {F : List (Nat × Obj)} {E w : World} {nx0 : Nat} {l : List Oper} {R : List Rc} {GF : Tr EV} {S : List Stg} {X : Nat → Bool} {j : Nat} {H : Hp} {nx fl : Nat} {ρ : Env}
theorem DInv_e.make (hT : TTok P T) (h : DInv_e φ0 I0 F E nx0 l R GF S X j φ I H nx fl ρ w) {i : Nat} {o : Oper} (ho : l[i]? = some o) (hXi : X i = false) (hr : ∀ e ∈ o.after, Region.binds .any e = true → X e.on = true) {x : EV} {vo : VO} (hR : R[i]? = some (.av x vo)) {g : Nat → EV} (hg : RelE φ g ρ) (hx : evA T g (nx0 + i) o.op = some (x, vo)) (hd : ∀ d, o.dst = some d → gt GF d = x) :
  OpW P o ρ w fun v w' => ∃ φ', DInv_e φ0 I0 F E nx0 l R GF S (fun a => X a || Nat.beq a i) j φ' I H nx fl (updO ρ o.dst v) w' := by
 have hil : i < l.length := (List.getElem?_eq_some_iff.1 ho).1
 have hk := h.free i hil hXi
 have hkx : nx0 + i < nx := by have := h.top; omega
 obtain ⟨Lx, hm, hRel⟩ := h.mem
 obtain ⟨M, L, hn, hM, hrep, hS⟩ := hRel.ex
 obtain ⟨v, w', q, A, h1, h2, h3, h4⟩ := evA_ok (P := P) hT hg hx hk hS
 have hle := yk hk q
 refine OpW.val h1 ⟨φ.put (nx0 + i) q, h.closed' ho hr, h.stage, fun i' y hy => ?_, fun a ha => by rw [h.flX a ha]; rfl, h.slots' ho hle h2 hd, fun i' hi' hx' => ?_, h.le.trans hle, h.leI, fun t ht => by rw [put_ne φ q (by omega)]; exact h.keep t ht, h.top, ?_⟩
 ·rw [← h.chain i' y hy]
  have : Nat.beq i' i = false := by cases hb : Nat.beq i' i with
   | false => rfl
   | true =>
    have := Nat.eq_of_beq_eq_true hb
    subst this
    rw [hR] at hy; cases hy
  rw [this, Bool.or_false]
 ·simp only [Bool.or_eq_false_iff] at hx'
  have : i' ≠ i := fun e => by rw [e, show Nat.beq i i = true from Nat.beq_refl i] at hx'; cases hx'.2
  rw [put_ne φ q (by omega)]; exact h.free i' hi' hx'.1
 ·have hfi : fl.testBit i = false := by cases hb : fl.testBit i with
   | false => rfl
   | true => rw [h.flX i hb] at hXi; cases hXi
  have hp : (needP nx0 (fun a => (X a || Nat.beq a i) && !fl.testBit a) R 0).Perm ((nx0 + i, vo) :: needP nx0 (fun a => X a && !fl.testBit a) R 0) := by
   have hs := needP_split (nx0 := nx0) (p := fun a => (X a || Nat.beq a i) && !fl.testBit a) (q := fun a => Nat.beq a i) R 0 fun a ha => by
    have := Nat.eq_of_beq_eq_true ha
    subst this
    simp [hfi]
   have e3 : needP nx0 (fun a => (X a || Nat.beq a i) && !fl.testBit a && !Nat.beq a i) R 0 = needP nx0 (fun a => X a && !fl.testBit a) R 0 := needP_congr R 0 fun a y o' ha => by
    rw [Nat.zero_add]
    cases hb : Nat.beq a i with
    | false => simp
    | true =>
     have := Nat.eq_of_beq_eq_true hb
     subst this
     simp [hXi]
   rw [needP_one hR, e3] at hs
   exact hs
  obtain ⟨L', h5, h6⟩ := RepM.perm hp.symm (L := A ++ Lx) ⟨A, Lx, rfl, h3, hm.mono (.refl _) hle⟩
  refine ⟨L', h5, put_top hRel.top hkx q, M, L, hn, hM, hrep.mono (.refl _) hle, h4.perm ?_⟩
  refine ((h6.symm.append_right F).append_left L).trans ?_
  rw [List.append_assoc, ← List.append_assoc, ← List.append_assoc A]
  exact List.perm_append_comm.append_right _
end
theorem cpos_lt {R : List Rc} {i i' : Nat} {y : EV} (h : i < i') (hi : R[i]? = some (.cv y)) : cpos R i < cpos R i' := by
 have hlt := (List.getElem?_eq_some_iff.1 hi).1
 have h1 : cpos R (i + 1) = cpos R i + 1 := by
  unfold cpos
  obtain ⟨_, he⟩ := List.getElem?_eq_some_iff.1 hi
  rw [List.take_succ_eq_append_getElem hlt, he, List.filter_append, List.length_append]; rfl
 have h2 : cpos R (i + 1) ≤ cpos R i' := by
  unfold cpos
  exact ((List.take_sublist_take_left (l := R) (show i + 1 ≤ i' from h)).filter isCv).length_le
 omega
section
variable {P : Program} {T : TT} {call : CallE} {φ0 φ : Phi} {I0 I : Ghost} {F : List (Nat × Obj)} {E w : World} {nx0 : Nat} {l : List Oper} {R : List Rc} {GF : Tr EV} {S : List Stg} {X : Nat → Bool} {j : Nat} {H : Hp} {nx fl : Nat} {ρ : Env}
theorem DInv_e.heap (h : DInv_e φ0 I0 F E nx0 l R GF S X j φ I H nx fl ρ w) {i m : Nat} (hi : i ≤ R.length) (hb : ∀ a, m.testBit a = true → a < i ∧ X a = true) {H1 : Hp} (ha : addA (needP nx0 (qA fl m) (R.take i) 0) H = some H1) :
  ∃ B, RepM I φ (needP nx0 (fun a => (X a && !fl.testBit a) && !qA fl m a) R 0) B ∧ Rel I φ H1 nx (B ++ F) E w := by
 obtain ⟨Lx, hm, hR⟩ := h.mem
 have hq : ∀ a, qA fl m a = true → (fun a => X a && !fl.testBit a) a = true := fun a hq => by
  unfold qA at hq
  simp only [yt] at hq ⊢
  exact ⟨(hb a hq.1).2, hq.2⟩
 have hs := needP_split (nx0 := nx0) R 0 hq
 have hpre : needP nx0 (qA fl m) R 0 = needP nx0 (qA fl m) (R.take i) 0 := by
  have e : needP nx0 (qA fl m) (R.take i ++ R.drop i) 0 = needP nx0 (qA fl m) (R.take i) 0 ++ needP nx0 (qA fl m) (R.drop i) (0 + (R.take i).length) := needP_app _ _ _ _
  rw [List.take_append_drop] at e
  rw [e, needP_none (R.drop i) _ fun a ha => ?_, List.append_nil]
  rw [List.length_take] at ha
  unfold qA
  cases hbit : m.testBit a with
  | false => rfl
  | true => have := (hb a hbit).1; omega
 obtain ⟨L', h1, h2⟩ := hm.perm hs
 obtain ⟨A, B, rfl, h3, h4⟩ := RepM.app h1
 rw [hpre] at h3
 exact ⟨B, h4, Rel.takeAll h3 ha (by rw [← List.append_assoc]; exact hR.permF (h2.symm.append_right F))⟩
theorem DInv_e.write (hT : TTok P T) (hC : CallOk P E call) (h : DInv_e φ0 I0 F E nx0 l R GF S X j φ I H nx fl ρ w) {i m : Nat} {o : Oper} (ho : l[i]? = some o) (hil : i < R.length) (hXi : X i = false) (hr : ∀ e ∈ o.after, Region.binds .any e = true → X e.on = true) (hb : ∀ a, m.testBit a = true → a < i ∧ X a = true) {x : EV} (hR : R[i]? = some (.cv x)) (hj : cpos R i = j)
  {H1 H' : Hp} {nx' : Nat} (hS : S[j + 1]? = some (H', nx', fl ||| m)) (ha : addA (needP nx0 (qA fl m) (R.take i) 0) H = some H1) {g : Nat → EV} (hg : RelE φ g ρ) (hx : evK_e T call g H1 (nx0 + i) nx o.op = some (x, H', nx')) (hd : ∀ d, o.dst = some d → gt GF d = x) :
  OpW P o ρ w fun v w' => ∃ φ' I', DInv_e φ0 I0 F E nx0 l R GF S (fun a => X a || Nat.beq a i) (j + 1) φ' I' H' nx' (fl ||| m) (updO ρ o.dst v) w' := by
 have hil2 : i < l.length := (List.getElem?_eq_some_iff.1 ho).1
 have hk := h.free i hil2 hXi
 have hkx : nx0 + i < nx := by have := h.top; omega
 obtain ⟨B, hB, hRel⟩ := h.heap (Nat.le_of_lt hil) hb ha
 have hop : OpW P o ρ w (PostN φ I (B ++ F) E (nx0 + i) nx x H' nx') := by
  unfold evK_e at hx
  split at hx
  ·rename_i y H2 hc
   cases hx
   exact evC_ok hT hg hRel hk hkx hc
  ·exact evCl_ok hC hg hRel hx
 refine hop.mono fun v w' ⟨J, ψ, a, b, c, d, e, f⟩ => ⟨ψ, J, h.closed' ho hr, hS, fun i' y hy => ?_, fun t ht => ?_, h.slots' ho b e hd, fun i' hi' hx' => ?_, h.le.trans b, h.leI.trans a, fun t ht => by rw [c t (by have := h.top; omega) (by omega)]; exact h.keep t ht, by have := h.top; omega, B, ?_, f⟩
 ·by_cases e2 : i' = i
  ·subst e2
   rw [hj, show Nat.beq i' i' = true from Nat.beq_refl i', Bool.or_true]
   simp
  ·have hbq : Nat.beq i' i = false := by cases hb2 : Nat.beq i' i with
    | false => rfl
    | true => exact absurd (Nat.eq_of_beq_eq_true hb2) e2
   rw [hbq, Bool.or_false, h.chain i' y hy]
   have hne : cpos R i' ≠ j := fun e3 => by
    rcases Nat.lt_or_gt_of_ne e2 with h1 | h1
    ·have := cpos_lt h1 hy; omega
    ·have := cpos_lt h1 hR; omega
   omega
 ·rw [Nat.testBit_or, Bool.or_eq_true] at ht
  rcases ht with h1 | h1
  ·rw [h.flX t h1]; rfl
  ·rw [(hb t h1).2]; rfl
 ·simp only [Bool.or_eq_false_iff] at hx'
  have : i' ≠ i := fun e => by rw [e, show Nat.beq i i = true from Nat.beq_refl i] at hx'; cases hx'.2
  rw [c _ (by have := h.top; omega) (by omega)]; exact h.free i' hi' hx'.1
 ·rw [needP_congr (q := fun a => (X a && !fl.testBit a) && !qA fl m a) R 0 fun t y o' ht => ?_]
  ·exact hB.mono a b
  ·rw [Nat.zero_add]
   have hbq : Nat.beq t i = false := by cases hb2 : Nat.beq t i with
    | false => rfl
    | true =>
     have := Nat.eq_of_beq_eq_true hb2
     subst this
     rw [hR] at ht; cases ht
   simp only [hbq, Bool.or_false, qA, Nat.testBit_or]
   cases X t <;> cases fl.testBit t <;> cases m.testBit t <;> rfl
end
theorem eqE_ok : ∀ n, (∀ x y, chkL_e.eqE n x y = true → x = y) ∧ ∀ l m, chkL_e.eqL n l m = true → l = m
 | 0 => ⟨fun x y h => (by unfold chkL_e.eqE at h; cases h), fun l m h => (by unfold chkL_e.eqL at h; cases h)⟩
 | n + 1 => by
  obtain ⟨ih1, ih2⟩ := eqE_ok n
  have nb : ∀ {a b : Nat}, Nat.beq a b = true → a = b := fun h => Nat.eq_of_beq_eq_true h
  constructor
  ·intro x y h
   unfold chkL_e.eqE at h
   split at h
   case h_8 =>
    rename_i a b c d e a' b' c' d' e'
    simp only [yt] at h
    obtain ⟨⟨⟨⟨h1, h2⟩, h3⟩, h4⟩, h5⟩ := h
    rw [nb h1, nb h2, nb h3, nb h4]
    split at h5
    ·rw [nb h5]
    ·rfl
    ·rfl
    ·cases h5
   all_goals first
    | rfl
    | (cases h; done)
    | (simp only [yt, decide_eq_true_eq] at h; rw [h.1, h.2]; done)
    | (simp only [yt] at h; rw [nb h.1, nb h.2]; done)
    | (rw [ih2 _ _ h]; done)
    | (rw [nb h]; done)
    | (simp only [yt] at h; rw [nb h.1.1, ih2 _ _ h.1.2, ih2 _ _ h.2]; done)
    | (simp only [yt] at h; rw [nb h.1, ih1 _ _ h.2]; done)
    | (rw [beqS_eq] at h; rw [of_decide_eq_true h]; done)
    | (rw [beq_iff_eq.1 h]; done)
  ·intro l m h
   unfold chkL_e.eqL at h
   split at h
   ·cases ‹_ = 0›
   ·rfl
   ·simp only [yt] at h
    first
     | rw [ih1 _ _ h.1, ih2 _ _ h.2]
     | (rename_i e; cases e; rw [ih1 _ _ h.1, ih2 _ _ h.2])
   ·cases h
theorem anc_bits {l : List Oper} {X : Nat → Bool} (hX : ClosedX l X) (hE : EdgeLt l) {i : Nat} {o : Oper} (ho : l[i]? = some o) (hr : ∀ e ∈ o.after, Region.binds .any e = true → X e.on = true) : ∀ a, (((ancs l [])[i]?).getD 0).testBit a = true → a < i ∧ X a = true := fun a ha => by
 cases hm : (ancs l [])[i]? with
 | none => rw [hm] at ha; simp at ha
 | some m =>
  rw [hm] at ha
  obtain ⟨h1, h2⟩ := ancs_get hX hE i m o hm ho
  exact ⟨h1 a ha, h2 hr a ha⟩
theorem cnt_lt {p q : Nat → Bool} {i : Nat} (hp : p i = true) (hq : q i = false) (h : ∀ a, q a = true → p a = true) : ∀ l : List Nat, i ∈ l → (l.filter q).length < (l.filter p).length
 | [], hi => by cases hi
 | a :: l, hi => by
  have le : ∀ l : List Nat, (l.filter q).length ≤ (l.filter p).length := fun l => by
   induction l with
   | nil => exact Nat.le_refl _
   | cons b l ih =>
    rw [List.filter_cons, List.filter_cons]
    cases hb : q b with
    | true => rw [if_pos rfl, if_pos (h b hb)]; simpa using ih
    | false => rw [if_neg (by decide)]; split <;> (try rw [List.length_cons]) <;> omega
  rcases List.mem_cons.1 hi with rfl | hi
  ·rw [List.filter_cons, List.filter_cons, if_neg (by rw [hq]; decide), if_pos hp, List.length_cons]
   have := le l; omega
  ·have ih := cnt_lt hp hq h l hi
   rw [List.filter_cons, List.filter_cons]
   cases hb : q a with
   | true => rw [if_pos rfl, if_pos (h a hb)]; simpa using ih
   | false => rw [if_neg (by decide)]; split <;> (try rw [List.length_cons]) <;> omega
section
variable {P : Program} {T : TT} {call : CallE} {φ0 φ : Phi} {I0 I : Ghost} {F : List (Nat × Obj)} {E w : World} {nx0 : Nat} {l : List Oper} {R : List Rc} {GF G0 : Tr EV} {S S0 : List Stg} {X : Nat → Bool} {j : Nat} {H : Hp} {nx fl : Nat} {ρ : Env}
theorem DInv_e.step (hT : TTok P T) (hC : CallOk P E call) (hst : stOk l (ancs l []) = true) (hP : PassOk T call l (ancs l []) nx0 0 [] G0 S0 R GF S) (hL : chkL_e T l (ancs l []) nx0 R GF S = true) (h : DInv_e φ0 I0 F E nx0 l R GF S X j φ I H nx fl ρ w) {i : Nat} {o : Oper} (ho : l[i]? = some o) (hXi : X i = false) (hr : ∀ e ∈ o.after, Region.binds .any e = true → X e.on = true) :
  Ops P l.toArray (fun ρ' w' => ∃ j φ I H nx fl, DInv_e φ0 I0 F E nx0 l R GF S (fun a => X a || Nat.beq a i) j φ I H nx fl ρ' w') [o] ρ w := by
 obtain ⟨hE, hW, _⟩ := stOk_spec hst
 obtain ⟨⟨rr, hRR, hlen⟩, _, hSl, _, hall⟩ := hP
 obtain ⟨r, hRi, ⟨t, hw, hf, htr⟩, hd⟩ := hall i o (Nat.zero_le _) ho
 have hbits := anc_bits h.closed hE ho hr
 have hgm : RelE φ (msk (lkE l o) GF) ρ := fun t' => by
  unfold msk
  cases hm : memN t' (lkE l o) with
  | false => trivial
  | true => exact h.slots t' fun i' o' ho' hd' => (hbits i' (hW i o t' ho (memN_iff.1 hm) i' o' ho' hd')).2
 have hwt := want_ok hgm hw
 have hil : i < R.length := (List.getElem?_eq_some_iff.1 hRi).1
 unfold Ops
 rw [hwt]
 cases t with
 | false =>
  rw [if_neg (by decide)]
  have := hf rfl
  subst this
  exact ⟨j, φ, I, H, nx, fl, h.quiet ho hr hRi rfl (fun _ _ e => by cases e) (v := undef) ⟨[], rfl, rfl⟩ hd⟩
 | true =>
  rw [if_pos rfl]
  have htr := htr rfl
  cases r with
  | pv x =>
   obtain ⟨v, h1, h2⟩ := evP_ok (P := P) (w := w) hT hgm htr
   exact OpW.val h1 ⟨j, φ, I, H, nx, fl, h.quiet ho hr hRi rfl (fun _ _ e => by cases e) h2 hd⟩
  | av x vo => exact (h.make hT ho hXi hr hRi hgm htr hd).mono fun v w' ⟨φ', h'⟩ => ⟨j, φ', I, H, nx, fl, h'⟩
  | lv x =>
   have hmay : mayB_e R (ancs l []) i j = true := by
    unfold mayB_e
    refine List.all_eq_true.2 fun c hc => ?_
    have hcl := List.mem_range.1 hc
    split
    ·rename_i y hy
     have hcc := h.chain c y hy
     simp only [yt, Bool.or_eq_true, Bool.not_eq_true']
     constructor
     ·cases hb : (((ancs l [])[i]?).getD 0).testBit c with
      | false => exact .inl rfl
      | true => exact .inr (Nat.ble_eq_true_of_le (hcc.1 (hbits c hb).2))
     ·cases hb : (((ancs l [])[c]?).getD 0).testBit i with
      | false => exact .inl rfl
      | true =>
       refine .inr (Nat.ble_eq_true_of_le ?_)
       refine Nat.le_of_not_lt fun hlt=>?_
       have hXc := hcc.2 hlt
       have hcl2 : c < l.length := by rw [hRR, List.nil_append] at hcl; omega
       have := (anc_bits h.closed hE (yr hcl2) (fun e he hb => h.closed c _ hXc (yr hcl2) e he hb) i hb).2
       rw [hXi] at this; cases this
    ·rfl
   unfold chkL_e at hL
   have h1 := List.all_eq_true.1 hL i (List.mem_range.2 hil)
   rw [hRi, ho] at h1
   simp only at h1
   have hjl := (List.getElem?_eq_some_iff.1 h.stage).1
   have h2 := List.all_eq_true.1 h1 j (List.mem_range.2 hjl)
   rw [hmay, h.stage] at h2
   simp only [Bool.not_true, Bool.false_or] at h2
   split at h2
   ·rename_i H1 hadd
    split at h2
    ·rename_i y hy
     have hxy := (eqE_ok 40).1 x y h2
     subst hxy
     obtain ⟨B, hB, hRel⟩ := h.heap (Nat.le_of_lt hil) hbits hadd
     obtain ⟨v, h3, h4⟩ := evL_ok hT hgm hRel hy
     exact OpW.val h3 ⟨j, φ, I, H, nx, fl, h.quiet ho hr hRi rfl (fun _ _ e => by cases e) h4 hd⟩
    ·cases h2
   ·cases h2
  | cv x =>
   obtain ⟨H2, nx2, fl2, H1, H', nx', s1, s2, s3, s4, s5⟩ := htr
   have hge : ¬ cpos R i < j := fun hlt => by rw [(h.chain i x hRi).2 hlt] at hXi; cases hXi
   have hj : cpos R i = j := by
    rcases s5 with e | ⟨c, y, hc, e, hb⟩
    ·omega
    ·have := (h.chain c y hc).1 (hbits c hb).2
     omega
   rw [hj, h.stage] at s1
   cases s1
   rw [hj] at s2
   exact (h.write hT hC ho hil hXi hr hbits hRi hj s2 s3 hgm s4 hd).mono fun v w' ⟨φ', I', h'⟩ => ⟨j + 1, φ', I', H', nx', _, h'⟩
end
theorem last_cv : ∀ (R : List Rc), 0 < (R.filter isCv).length → ∃ c y, R[c]? = some (.cv y) ∧ cpos R c + 1 = (R.filter isCv).length
 | [], h => by simp at h
 | r :: R, h => by
  have hc : ∀ c, cpos (r :: R) (c + 1) = (if isCv r = true then 1 else 0) + cpos R c := fun c => by
   unfold cpos
   rw [List.take_succ_cons, List.filter_cons]
   split
   ·rw [List.length_cons]; omega
   ·omega
  have hf : ((r :: R).filter isCv).length = (if isCv r = true then 1 else 0) + (R.filter isCv).length := by
   rw [List.filter_cons]
   split
   ·rw [List.length_cons]; omega
   ·omega
  by_cases hR : 0 < (R.filter isCv).length
  ·obtain ⟨c, y, h1, h2⟩ := last_cv R hR
   exact ⟨c + 1, y, by simpa using h1, by rw [hc, hf]; omega⟩
  ·cases r with
   | cv y => exact ⟨0, y, rfl, by rw [hf]; show 0 + 1 = 1 + _; omega⟩
   | pv x => exact absurd h (by rw [hf, if_neg (fun e => by cases e)]; omega)
   | lv x => exact absurd h (by rw [hf, if_neg (fun e => by cases e)]; omega)
   | av x o => exact absurd h (by rw [hf, if_neg (fun e => by cases e)]; omega)
section
variable {P : Program} {φ : Phi} {ρ : Env} {w : World} {T : TT} {I : Ghost} {F : List (Nat × Obj)} {E : World} {call : CallE}
theorem evDraw_ok (hT : TTok P T) (hC : CallOk P E call) {l : List Oper} {G G' : Tr EV} {H H' : Hp} {nx nx' : Nat} (h : evDraw T call l G H nx = some (G', H', nx')) (hg : RelE φ (gt G) ρ) (hR : Rel I φ H nx F E w) {Q : Env → World → Prop} (hQ : ∀ ρ' w', PostS φ I F E nx G' H' nx' ρ' w' → Q ρ' w') :
  AnyV P l.toArray (fun _ => True) (fun _ => True) (fun _ => false) Q l.length (Array.replicate l.length false) ρ w := by
 unfold evDraw at h
 dsimp only at h
 cases hst : stOk l (ancs l []) with
 | false => rw [hst] at h; cases h
 | true =>
  rw [hst] at h
  simp only [cond_true] at h
  obtain ⟨hE, hW, hD⟩ := stOk_spec hst
  split at h
  ·rename_i R GF S hpass
   cases hL : chkL_e T l (ancs l []) nx R GF S with
   | false => rw [hL] at h; cases h
   | true =>
    rw [hL] at h
    simp only [cond_true] at h
    split at h
    ·rename_i Hm nm flm hlast
     split at h
     ·rename_i H2 hadd
      cases h
      have hP := pass_ok hD (fun i o t ho ht j o' ho' hd' => (anc_bits (X := fun _ => true) (fun _ _ _ _ _ _ _ => rfl) hE ho (fun _ _ _ => rfl) j (hW i o t ho ht j o' ho' hd')).1) l 0 [] G [(H, nx + l.length, 0)] H (nx + l.length) 0 none R G' S rfl (Nat.zero_le _) rfl rfl rfl (fun c hc => by cases hc) (fun _ => rfl) hpass
      obtain ⟨⟨rr, hRR, hlen⟩, ⟨ss, hSS⟩, hSl, hGF, _⟩ := id hP
      have hRl : R.length = l.length := by rw [hRR, List.nil_append]; omega
      have fin : ∀ (X : Nat → Bool) ρ' w', (∀ i, i < l.length → X i = true) → (∃ j ψ J H1 n1 fl, DInv_e φ I F E nx l R G' S X j ψ J H1 n1 fl ρ' w') → Q ρ' w' := fun X ρ' w' hall ⟨j, ψ, J, H1, n1, fl, hi⟩ => by
       have hjl := (List.getElem?_eq_some_iff.1 hi.stage).1
       have hj : j = (R.filter isCv).length := by
        by_cases h0 : 0 < (R.filter isCv).length
        ·obtain ⟨c, y, h1, h2⟩ := last_cv R h0
         have hc := (List.getElem?_eq_some_iff.1 h1).1
         have := (hi.chain c y h1).1 (hall c (by omega))
         omega
        ·omega
       rw [List.getLast?_eq_getElem?, hSl, Nat.add_sub_cancel, ← hj, hi.stage] at hlast
       cases hlast
       obtain ⟨Lx, h1, h2⟩ := hi.mem
       rw [needP_congr (q := fun a => !flm.testBit a) R 0 fun a y o ha => by
        have := (List.getElem?_eq_some_iff.1 ha).1
        rw [Nat.zero_add, hall a (by omega), Bool.true_and]] at h1
       exact hQ ρ' w' ⟨J, ψ, hi.leI, hi.le, hi.keep, by have := hi.top; omega, fun t => hi.slots t fun i' o' ho' _ => hall i' (List.getElem?_eq_some_iff.1 ho').1, Rel.takeAll h1 hadd h2⟩
      have main : ∀ (fuel : Nat) (listed : Array Bool) (ρ' : Env) (w' : World), listed.size = l.length → ((List.range l.length).filter fun i => !stX listed i).length ≤ fuel → (∃ j ψ J H1 n1 fl, DInv_e φ I F E nx l R G' S (stX listed) j ψ J H1 n1 fl ρ' w') → AnyV P l.toArray (fun _ => True) (fun _ => True) (fun _ => false) Q fuel listed ρ' w' := by
       have rdy : ∀ (listed : Array Bool), listed.size = l.length → Region.ready .any l.toArray listed = [] → ∀ i, i < l.length → stX listed i = true := fun listed hsz hre i => by
        induction i using Nat.strongRecOn with
        | _ i ih =>
         intro hi
         cases hX : stX listed i with
         | true => rfl
         | false =>
          have : i ∈ Region.ready .any l.toArray listed := mem_ready.2 ⟨by
           unfold stX at hX
           have : i < listed.size := by omega
           simp only [Array.getD_eq_getD_getElem?, Array.getElem?_eq_getElem this, Option.getD_some] at hX ⊢
           exact hX, l[i], by simp [hi], fun e he hb => by
           have := hE i l[i] (yr hi) e he hb
           exact ih e.on this (by omega)⟩
          rw [hre] at this; cases this
       intro fuel
       induction fuel with
       | zero =>
        intro listed ρ' w' hsz hc hi
        have hall : ∀ i, i < l.length → stX listed i = true := fun i hil => by
         cases hX : stX listed i with
         | true => rfl
         | false =>
          have h0 : (List.range l.length).filter (fun i => !stX listed i) = [] := List.eq_nil_of_length_eq_zero (by omega)
          have := List.filter_eq_nil_iff.1 h0 i (List.mem_range.2 hil)
          rw [hX] at this; exact absurd rfl this
        refine ⟨?_, fin _ _ _ hall hi⟩
        refine List.eq_nil_iff_forall_not_mem.2 fun i hir => ?_
        obtain ⟨h1, o, ho, _⟩ := mem_ready.1 hir
        have hil : i < l.length := by
         have := (Array.getElem?_eq_some_iff.1 ho).1
         simpa using this
        have h2 := hall i hil
        unfold stX at h2
        have : i < listed.size := by omega
        simp only [Array.getD_eq_getD_getElem?, Array.getElem?_eq_getElem this, Option.getD_some] at h1 h2
        rw [h1] at h2; cases h2
       | succ fuel ih =>
        intro listed ρ' w' hsz hc hi
        refine ⟨fun hre => fin _ _ _ (rdy listed hsz hre) hi, fun i hir o ho => ?_⟩
        obtain ⟨h1, o2, ho2, hedge⟩ := mem_ready.1 hir
        rw [ho] at ho2; cases ho2
        have ho : l[i]? = some o := by simpa using ho
        have hil := (List.getElem?_eq_some_iff.1 ho).1
        have hXi : stX listed i = false := by
         unfold stX
         have : i < listed.size := by omega
         simp only [Array.getD_eq_getD_getElem?, Array.getElem?_eq_getElem this, Option.getD_some] at h1 ⊢
         exact h1
        obtain ⟨j, ψ, J, H1, n1, fl, hi⟩ := hi
        refine yj (fun ρ2 w2 hi2 => ⟨⟨trivial, .inr trivial⟩, ih _ ρ2 w2 (by simpa using hsz) ?_ ?_⟩) _ _ _ (hi.step hT hC hst hP hL ho hXi hedge)
        ·have hX : ∀ a, stX (listed.setIfInBounds i true) a = (stX listed a || Nat.beq a i) := fun a => stX_set (by omega)
         have := cnt_lt (p := fun i => !stX listed i) (q := fun a => !stX (listed.setIfInBounds i true) a) (i := i) (by rw [hXi]; rfl) (by rw [hX, show Nat.beq i i = true from Nat.beq_refl i]; simp) (fun a ha => by rw [hX] at ha; simp at ha ⊢; exact ha.1) (List.range l.length) (List.mem_range.2 hil)
         omega
        ·have e : stX (listed.setIfInBounds i true) = fun a => stX listed a || Nat.beq a i := funext fun a => stX_set (by omega)
         rw [e]; exact hi2
      have hX0 : ∀ i, stX (Array.replicate l.length false) i = false := fun i => by
       unfold stX
       simp only [Array.getD_eq_getD_getElem?, Array.getElem?_replicate]
       split <;> rfl
      refine main l.length _ ρ w (by simp) (by have := List.length_filter_le (fun i => !stX (Array.replicate l.length false) i) (List.range l.length); simpa using this) ⟨0, φ, I, H, nx + l.length, 0, ?_⟩
      refine ⟨fun i o hx => (by rw [hX0] at hx; cases hx), by rw [hSS]; rfl, fun i y _ => (by rw [hX0]; simp), fun a ha => (by simp at ha), fun t ht => ?_, fun i _ _ => hR.top _ (by omega), .refl _, .refl _, fun _ _ => rfl, Nat.le_refl _, [], ?_, hR.mono (by omega)⟩
      ·rw [hGF t fun i o _ ho hd' => by have := ht i o ho hd'; rw [hX0] at this; cases this]
       exact hg t
      ·rw [needP_none R 0 fun a _ => by simp [hX0]]; rfl
     ·cases h
    ·cases h
  ·cases h
end
end Go.Proofs.YthlpjaleclchgaaGreatDoor
namespace Go.Proofs.YthlpjaleclchgaaGreatDoor
open Go.Proofs
structure ES where
 G : Tr EV
 H : Hp
 nx : Nat
inductive Ex where
 | nrm
 | ret
 | exit (i : Nat)
def Ex.to : Ex → Exit
 | .nrm => .normal
 | .ret => .ret
 | .exit i => .exit i
noncomputable def evLoop (f : ES → Option (Ex × ES)) : Nat → ES → Option (Ex × ES)
 | 0, _ => none
 | n + 1, s => match f s with
  | some (.nrm, s') => evLoop f n s'
  | r => r
noncomputable def evCode (T : TT) (call : CallE) (fuel : Nat) : Code → ES → Option (Ex × ES)
 | .skip, s => some (.nrm, s)
 | .ret, s => some (.ret, s)
 | .exit i, s => some (.exit i, s)
 | .seq a b, s => match evCode T call fuel a s with
  | some (.nrm, s') => evCode T call fuel b s'
  | r => r
 | .cond c a b, s => match evO (gt s.G) c with
  | some (.b t) => bif t then evCode T call fuel a s else evCode T call fuel b s
  | _ => none
 | .block id c, s => match evCode T call fuel c s with
  | some (.exit i, s') => bif Nat.beq i id then some (.nrm, s') else some (.exit i, s')
  | r => r
 | .loop c, s => evLoop (evCode T call fuel c) fuel s
 | .region _ ops d, s => match (bif d then evDraw T call ops.toList s.G s.H s.nx else evLit T call ops.toList ops.toList s.G s.H s.nx) with
  | some (G, H, nx) => some (.nrm, ⟨G, H, nx⟩)
  | none => none
 | _, _ => none
def codeOk (n : Nat) : Code → Bool
 | .skip | .ret | .exit _ => true
 | .seq a b => codeOk n a && codeOk n b
 | .cond _ a b => codeOk n a && codeOk n b
 | .block _ c => codeOk n c
 | .loop c => codeOk n c
 | .region _ ops _ => dstsOk n ops.toList
 | _ => false
section
variable {P : Program} {T : TT} {call : CallE} {F : List (Nat × Obj)} {E : World} {n : Nat}
theorem evCode_ok (hm : P.follows .mixedOrders = true) (hT : TTok P T) (hC : CallOk P E call) (fuel : Nat) : ∀ (c : Code) (s s' : ES) (ex : Ex), codeOk n c = true → evCode T call fuel c s = some (ex, s') →
  ∀ (φ : Phi) (I : Ghost) (ρ : Env) (w : World) (Q : Exit → Env → World → Prop), RelE φ (gt s.G) ρ → Rel I φ s.H s.nx F E w → (∀ ρ' w', PostS φ I F E s.nx s'.G s'.H s'.nx ρ' w' → Q ex.to ρ' w') → WP P n c Q ρ w := by
 intro c
 induction c with
 | skip => intro s s' ex _ h φ I ρ w Q hg hR hQ; cases h; exact WP.skip (hQ _ _ ⟨I, φ, .refl _, .refl _, fun _ _ => rfl, Nat.le_refl _, hg, hR⟩)
 | ret => intro s s' ex _ h φ I ρ w Q hg hR hQ; cases h; exact WP.ret (hQ _ _ ⟨I, φ, .refl _, .refl _, fun _ _ => rfl, Nat.le_refl _, hg, hR⟩)
 | exit i => intro s s' ex _ h φ I ρ w Q hg hR hQ; cases h; exact WP.exit (hQ _ _ ⟨I, φ, .refl _, .refl _, fun _ _ => rfl, Nat.le_refl _, hg, hR⟩)
 | seq a b iha ihb =>
  intro s s' ex ho h φ I ρ w Q hg hR hQ
  simp only [codeOk, yt] at ho
  simp only [evCode] at h
  refine WP.seq ?_
  split at h
  ·rename_i s1 h1
   refine iha s s1 .nrm ho.1 h1 φ I ρ w _ hg hR fun ρ' w' ⟨J, ψ, a, b, c, d, e, f⟩ => ?_
   exact ihb s1 s' ex ho.2 h ψ J ρ' w' Q e f fun ρ2 w2 hp => hQ _ _ (PostS.up a b c d hp)
  ·rename_i hne
   refine iha s s' ex ho.1 h φ I ρ w _ hg hR fun ρ' w' hp => ?_
   cases ex with
   | nrm => exact absurd h (hne s')
   | ret => exact hQ _ _ hp
   | exit i => exact hQ _ _ hp
 | cond c a b iha ihb =>
  intro s s' ex ho h φ I ρ w Q hg hR hQ
  simp only [codeOk, yt] at ho
  simp only [evCode] at h
  split at h
  ·rename_i t ht
   have hc : ev ρ c = .bool t := evO_ok hg ht
   refine WP.cond hc ?_
   cases t with
   | true => rw [if_pos rfl]; exact iha s s' ex ho.1 h φ I ρ w Q hg hR hQ
   | false => rw [if_neg (by decide)]; exact ihb s s' ex ho.2 h φ I ρ w Q hg hR hQ
  ·cases h
 | block id c ih =>
  intro s s' ex ho h φ I ρ w Q hg hR hQ
  simp only [codeOk] at ho
  simp only [evCode] at h
  refine WP.block ?_
  split at h
  ·rename_i i s1 h1
   refine ih s s1 (.exit i) ho h1 φ I ρ w _ hg hR fun ρ' w' hp => ?_
   show if i = id then Q .normal ρ' w' else Q (.exit i) ρ' w'
   cases hb : Nat.beq i id with
   | true =>
    rw [hb] at h; cases h
    rw [if_pos (Nat.eq_of_beq_eq_true hb)]; exact hQ _ _ hp
   | false =>
    rw [hb] at h; cases h
    rw [if_neg (fun e => by rw [e, show Nat.beq id id = true from Nat.beq_refl id] at hb; cases hb)]; exact hQ _ _ hp
  ·rename_i hne
   refine ih s s' ex ho h φ I ρ w _ hg hR fun ρ' w' hp => ?_
   cases ex with
   | nrm => exact hQ _ _ hp
   | ret => exact hQ _ _ hp
   | exit i => exact absurd h (hne i s')
 | loop c ih =>
  intro s s' ex ho h φ I ρ w Q hg hR hQ
  simp only [codeOk] at ho
  simp only [evCode] at h
  refine WP.loop (γ := Nat × ES) (fun g ρ' w' => evLoop (evCode T call fuel c) g.1 g.2 = some (ex, s') ∧ PostS φ I F E s.nx g.2.G g.2.H g.2.nx ρ' w') (fun g => g.1) (fuel, s) ⟨h, I, φ, .refl _, .refl _, fun _ _ => Z, Nat.le_refl _, hg, hR⟩ ?_
  rintro ⟨k, s1⟩ ρ1 w1 ⟨h1, J, ψ, a, b, c1, d, e, f⟩
  cases k with
  | zero => cases h1
  | succ k =>
   simp only [evLoop] at h1
   split at h1
   ·rename_i s2 h2
    refine ih s1 s2 .nrm ho h2 ψ J ρ1 w1 _ e f fun ρ2 w2 hp => ?_
    exact ⟨(k, s2), ⟨h1, PostS.up a b c1 d hp⟩, Nat.lt_succ_self k⟩
   ·rename_i hne
    refine ih s1 s' ex ho h1 ψ J ρ1 w1 _ e f fun ρ2 w2 hp => ?_
    cases ex with
    | nrm => exact absurd h1 (hne s')
    | ret => exact hQ _ _ (PostS.up a b c1 d hp)
    | exit i => exact hQ _ _ (PostS.up a b c1 d hp)
 | region id ops dr =>
  intro s s' ex ho h φ I ρ w Q hg hR hQ
  simp only [codeOk] at ho
  simp only [evCode] at h
  have eo : ops = ops.toList.toArray := by simp
  split at h
  ·rename_i G H nx hr
   cases h
   rw [eo]
   cases dr with
   | false =>
    simp only [cond_false] at hr
    exact WP.region ho (yj (fun ρ' w' hp => hQ ρ' w' hp) _ _ _ (evLit_ok hT hC _ _ _ _ _ _ _ hr φ I ρ w hg hR))
   | true =>
    simp only [cond_true] at hr
    exact WP.regionDraw (fun _ => True) (fun _ => True) (fun _ => false) hm ho fun w' hw => by
     subst hw
     exact evDraw_ok hT hC hr hg hR.drew fun ρ' w' hp => hQ ρ' w' hp
  ·cases h
 | _ => intro s s' ex ho; cases ho
noncomputable def putArgs : List EV → Nat → Tr EV → Tr EV
 | [], _, G => G
 | x :: l, i, G => putArgs l (i + 1) (G.set i (some x))
noncomputable def evRes (T : TT) (G : Tr EV) (H : Hp) : List ResultVar → Option (List EV)
 | [] => some []
 | .tmp t :: r => match evRes T G H r with
  | some l => some (gt G t :: l)
  | none => none
 | .cell a t :: r => match gt G a, evRes T G H r with
  | .p b off, some l => match evLoad T H t b off with
   | some x => some (x :: l)
   | none => none
  | _, _ => none
def oneR : List EV → EV
 | [x] => x
 | l => .tu l
inductive NR where
 | v (x : EV)
 | ss (l : List ByteArray)
abbrev NatE := Nat → List EV → Option NR
def noNumG (s : String) : Bool := !(s == "runtime.NumGoroutine")
noncomputable def evFn (P : Program) (T : TT) (C : CallE) (fuel : Nat) : Nat → CallE
 | 0 => fun _ _ _ _ => none
 | d + 1 => fun f ar H nx => match C f ar H nx with
  | some r => some r
  | none => match P.funcs[f]? with
   | some fn => match fn.body with
    | some c => bif Nat.ble ar.length fn.ntmps && codeOk fn.ntmps c && noNumG fn.name then
      match evCode T (evFn P T C fuel d) fuel c ⟨putArgs ar 0 .lf, H, nx⟩ with
      | some (.exit _, _) => none
      | some (_, s) => match evRes T s.G s.H fn.results.toList with
       | some l => some (oneR l, s.H, s.nx)
       | none => none
      | none => none
     else none
    | none => none
   | none => none
noncomputable def natE (N : NatE) : CallE := fun f ar H nx => match N f ar with
 | some (.v x) => some (x, H, nx)
 | some (.ss l) => bif l.isEmpty then none else some (.sl nx 0 l.length 1 .un, H.set nx (some (.kn (l.map EV.s))), nx + 1)
 | none => none
noncomputable def orE (C D : CallE) : CallE := fun f ar H nx => match C f ar H nx with
 | some r => some r
 | none => D f ar H nx
theorem orE_ok {P : Program} {E : World} {C D : CallE} (hC : CallOk P E C) (hD : CallOk P E D) : CallOk P E (orE C D) := fun f ar H nx x H' nx' h => by
 unfold orE at h
 split at h
 ·rename_i r hr
  cases h
  exact hC _ _ _ _ _ _ _ hr
 ·exact hD _ _ _ _ _ _ _ h
def NatOk (P : Program) (E : World) (N : NatE) : Prop :=
 (∀ f ar x, N f ar = some (.v x) → ∃ as' r, AFun P E f as' r ∧ (∀ φ vs, RelVs φ ar vs → ∀ I : G, RepL I as' vs) ∧ ∀ (I : G) v, RepV I r v → ∀ φ, RelV φ x v) ∧
 ∀ f ar l, N f ar = some (.ss l) → ∃ as', AFun P E f as' (.fro 1 (l.map fun s => [AV.str s])) ∧ ∀ φ vs, RelVs φ ar vs → ∀ I : G, RepL I as' vs
theorem putArgs_get : ∀ (l : List EV) (i : Nat) (G : Tr EV) (t : Nat), gt (putArgs l i G) t = if i ≤ t ∧ t < i + l.length then (l[t - i]?).getD .u else gt G t
 | [], i, G, t => by rw [if_neg (by simp <;> omega)]; rfl
 | x :: l, i, G, t => by
  unfold putArgs
  rw [putArgs_get l (i + 1) (G.set i (some x)) t]
  by_cases h : i + 1 ≤ t ∧ t < i + 1 + l.length
  ·rw [if_pos h, if_pos (by simp only [List.length_cons]; omega), show t - i = (t - (i + 1)) + 1 by omega, List.getElem?_cons_succ]
  ·rw [if_neg h]
   unfold gt
   rw [Tr.get_set]
   by_cases e : t = i
   ·rw [if_pos e, if_pos (by simp only [List.length_cons]; omega), e, Nat.sub_self]; rfl
   ·rw [if_neg e, if_neg (by simp only [List.length_cons]; omega)]
theorem args_rel {φ : Phi} {ar : List EV} {vs : List Value} (h : RelVs φ ar vs) : RelE φ (gt (putArgs ar 0 .lf)) (env0 vs.toArray) := by
 intro t
 rw [putArgs_get]
 by_cases ht : t < ar.length
 ·rw [if_pos (by omega), Nat.sub_zero, yr ht]
  obtain ⟨v, hv, hr⟩ := h.get (yr ht)
  have : env0 vs.toArray t = v := by unfold env0; simp [hv]
  rw [this]; exact hr
 ·rw [if_neg (by omega)]
  unfold gt
  rw [Tr.get_lf]; trivial
theorem evRes_ok {φ : Phi} {I : Ghost} {H : Hp} {nx : Nat} {w : World} {G : Tr EV} {ρ : Env} (hT : TTok P T) (hg : RelE φ (gt G) ρ) (hR : Rel I φ H nx F E w) : ∀ (rs : List ResultVar) (l : List EV), evRes T G H rs = some l →
  ∃ vs, RelVs φ l vs ∧ (rs.mapM (m := Sem) fun x => match x with
   | .tmp t => Pure.pure (ρ t)
   | .cell a t => do loadVar t (← asAddr (ρ a))).run P w = .ok vs w
 | [], l, h => by cases h; exact ⟨[], rfl, rfl⟩
 | .tmp t :: r, l, h => by
  unfold evRes at h
  split at h
  ·rename_i l' hl
   cases h
   obtain ⟨vs, h1, h2⟩ := evRes_ok hT hg hR r l' hl
   refine ⟨ρ t :: vs, ⟨_, _, Z, hg t, h1⟩, ?_⟩
   rw [List.mapM_cons]
   simp only [Sem.run_bind, Sem.run_pure, Result.andThen_ok, h2]
  ·cases h
 | .cell a t :: r, l, h => by
  unfold evRes at h
  split at h
  ·rename_i b off l' hp hl
   split at h
   ·rename_i x hx
    cases h
    obtain ⟨vs, h1, h2⟩ := evRes_ok hT hg hR r l' hl
    have ha := hg a
    rw [hp] at ha
    obtain ⟨v, h3, h4⟩ := evLoad_ok hT hR hx ha
    obtain ⟨q, hq, he⟩ := ha
    refine ⟨v :: vs, ⟨_, _, Z, h4, h1⟩, ?_⟩
    have h5 : (loadVar t ⟨q.r, q.sh + off, none⟩).run P w = .ok v w := by
     rw [he] at h3
     simpa [Instr.loadAt, Instr.sureAddr] using h3
    have h6 : (asAddr (ρ a)).run P w = .ok ⟨q.r, q.sh + off, none⟩ w := by rw [he]; rfl
    rw [List.mapM_cons]
    simp only [Sem.run_bind, h6, Sem.run_pure, Result.andThen_ok, h5, h2]
   ·cases h
  ·cases h
theorem natCall {N : NatE} (hN : NatOk P E N) {f : Nat} {ar : List EV} {x : EV} (h : N f ar = some (.v x)) {φ : Phi} {I : Ghost} {H : Hp} {nx : Nat} {w : World} {vs : List Value} (hR : Rel I φ H nx F E w) (hr : RelVs φ ar vs) : Fn P f vs.toArray w (PostN φ I F E nx nx x H nx) := by
 obtain ⟨as', r, hA, h1, h2⟩ := hN.1 f ar x h
 obtain ⟨M, L, hn, hm, hrep, hS⟩ := hR.ex
 refine (hA ⟨I, fun _ => none⟩ (L ++ F) w vs (h1 φ vs hr _) ⟨⟨0, fun _ _ => Z⟩, [], Z, hS⟩).mono fun v w' ⟨J, y, O', hJ, hy, ⟨_, L', hL', hS'⟩, he⟩ => ?_
 subst he
 exact ⟨J.k, φ, hJ.1, .refl _, fun _ _ _ => rfl, Nat.le_refl _, h2 J v hy φ, hR.top, M, L, hn, hm, hrep.mono hJ.1 (.refl _), hS'.dropAll⟩
theorem natCallS {N : NatE} (hN : NatOk P E N) {f : Nat} {ar : List EV} {l : List ByteArray} (h : N f ar = some (.ss l)) (hl : l.isEmpty = false) {φ : Phi} {I : Ghost} {H : Hp} {nx : Nat} {w : World} {vs : List Value} (hR : Rel I φ H nx F E w) (hr : RelVs φ ar vs) :
  Fn P f vs.toArray w (PostN φ I F E nx nx (.sl nx 0 l.length 1 .un) (H.set nx (some (.kn (l.map EV.s)))) (nx + 1)) := by
 obtain ⟨as', hA, h1⟩ := hN.2 f ar l h
 obtain ⟨L, hrest, hS⟩ := (hR.mono (Nat.le_succ nx)).freshN (hR.top nx (Nat.le_refl _))
 refine (hA ⟨I, fun _ => none⟩ (L ++ F) w vs (h1 φ vs hr _) ⟨⟨0, fun _ _ => Z⟩, [], Z, hS⟩).mono fun v w' ⟨J, y, O', hJ, hy, ⟨_, L', hL', hS'⟩, he⟩ => ?_
 subst he
 obtain ⟨a, n, cap, rfl, hn, hcap, _, hrr⟩ := hy
 rw [List.length_map] at hn
 subst hn
 obtain ⟨s0, l0, rfl⟩ : ∃ s0 l0, l = s0 :: l0 := by
  cases l with
  | nil => cases hl
  | cons s0 l0 => exact ⟨s0, l0, rfl⟩
 obtain ⟨b, off, _, rfl, _⟩ := hrr.get (j := 0) (r := [AV.str s0]) rfl
 have hk : φ nx = none := hR.top nx (Nat.le_refl _)
 have hat : ∀ (j : Nat) s, (s0 :: l0)[j]? = some s → KAt J.k b (off + j) (.string s) := fun j s hj => by
  obtain ⟨b2, off2, us, e, _, ⟨u, us2, rfl, h3, h4⟩, h5⟩ := hrr.get (j := j) (r := [AV.str s]) (by rw [List.getElem?_map, hj]; rfl)
  cases e
  have h3 : u = .string s := h3
  subst h3
  have := h5 0 _ rfl
  simpa using this
 refine ⟨J.k, φ.put nx ⟨b, off, 0⟩, hJ.1, yk hk _, fun j hj _ => put_ne φ _ (by omega), Nat.le_succ nx, ⟨_, off, cap, y8 _ _ _, rfl, hcap, fun _ => rfl, trivial⟩,
  yp (A := []) (hrest.mono hJ.1 (yk hk _)) ⟨⟨b, off, 0⟩, (s0 :: l0).map Value.string, y8 _ _ _, ?_, fun u hu => ?_, fun j u hj => ?_, rfl⟩ hS'.dropAll (put_top (nx := nx + 1) (fun j hj => hR.top j (by omega)) (Nat.lt_succ_self nx) _)⟩
 ·clear hat hrr hl h hS' hS hrest hr
  generalize s0 :: l0 = m
  induction m with
  | nil => rfl
  | cons x m ih => exact ⟨_, _, rfl, rfl, ih⟩
 ·obtain ⟨s, _, rfl⟩ := List.mem_map.1 hu; rfl
 ·rw [List.getElem?_map] at hj
  obtain ⟨s, hs, rfl⟩ := Option.map_eq_some_iff.1 hj
  exact hat j s hs
theorem natE_ok {N : NatE} (hN : NatOk P E N) : CallOk P E (natE N) := fun f ar H nx x H' nx' h φ I F w vs hR hr => by
 unfold natE at h
 split at h
 ·rename_i y hy
  cases h
  exact natCall hN hy hR hr
 ·rename_i l hy
  cases hl : l.isEmpty with
  | true => rw [hl] at h; cases h
  | false =>
   rw [hl] at h; cases h
   exact natCallS hN hy hl hR hr
 ·cases h
theorem evFn_ok (hm : P.follows .mixedOrders = true) (hT : TTok P T) {C : CallE} (hC : CallOk P E C) (fuel : Nat) : ∀ d, CallOk P E (evFn P T C fuel d)
 | 0 => fun f ar H nx x H' nx' h => by cases h
 | d + 1 => fun f ar H nx x H' nx' h φ I F w vs hR hr => by
  unfold evFn at h
  split at h
  ·rename_i r hy
   cases h
   exact hC _ _ _ _ _ _ _ hy φ I F w vs hR hr
  ·split at h
   ·rename_i fn h1
    split at h
    ·rename_i cd h2
     cases hb : (Nat.ble ar.length fn.ntmps && codeOk fn.ntmps cd && noNumG fn.name) with
     | false => rw [hb] at h; cases h
     | true =>
      rw [hb] at h
      simp only [cond_true] at h
      simp only [yt] at hb
      have h3 : fn.name ≠ "runtime.NumGoroutine" := fun e => by
       have := hb.2
       unfold noNumG at this
       rw [e] at this
       simp at this
      refine Fn.intro h1 h2 h3 (by rw [List.size_toArray, hr.length]; exact hb.1.1) ?_
      have fin : ∀ (s : ES), (match evRes T s.G s.H fn.results.toList with
        | some l => some (oneR l, s.H, s.nx)
        | none => none) = some (x, H', nx') → ∀ ρ' w', PostS φ I F E nx s.G s.H s.nx ρ' w' → ∃ v, resE fn.results ρ' P w' = .ok v w' ∧ PostN φ I F E nx nx x H' nx' v w' := fun s hs ρ' w' ⟨J, ψ, a, b, c, d', e', f'⟩ => by
       split at hs
       ·rename_i l hl
        cases hs
        obtain ⟨us, g1, g2⟩ := evRes_ok hT e' f' fn.results.toList l hl
        have g3 : (fn.results.mapM (m := Sem) fun x => match x with
          | .tmp t => Pure.pure (ρ' t)
          | .cell a t => do loadVar t (← asAddr (ρ' a))).run P w' = .ok us.toArray w' := by
         rw [Array.mapM_eq_mapM_toList, Sem.run_map]
         rw [g2]; rfl
        refine ⟨if h : us.toArray.size = 1 then us.toArray[0] else Value.tuple us.toArray, ?_, J, ψ, a, b, fun j hj _ => c j hj, d', ?_, f'⟩
        ·unfold resE
         rw [Sem.run_bind]
         exact (congrArg (fun r => Result.andThen r _) g3).trans rfl
        ·cases us with
         | nil =>
          have : l = [] := by have := g1.length; simpa using this.symm
          subst this
          exact ⟨[], rfl, rfl⟩
         | cons u us =>
          cases us with
          | nil =>
           obtain ⟨y, rfl⟩ : ∃ y, l = [y] := by
            have := g1.length
            match l, this with
            | [y], _ => exact ⟨y, rfl⟩
           exact g1.r1
          | cons u2 us =>
           have hl2 := g1.length
           match l, hl2, g1 with
           | x1 :: x2 :: l', _, g1 => exact ⟨u :: u2 :: us, by simp, g1⟩
       ·cases hs
      split at h
      ·cases h
      ·rename_i ex s hne hc
       refine evCode_ok hm hT (evFn_ok hm hT hC fuel d) fuel cd _ s ex hb.1.2 hc φ I _ w _ (args_rel hr) hR fun ρ' w' hp => ?_
       have := fin s h ρ' w' hp
       cases ex with
       | nrm => exact this
       | ret => exact this
       | exit i => exact (hne i rfl).elim
      ·cases h
    ·cases h
   ·cases h
def plainFs : TypeDesc → Bool
 | .struct fs => fs.toList.all fun f => !(f.name == "_")
 | _ => true
def tiOf (P : Program) (t : Nat) : Option TI :=
 match P.underlying t, P.info? t with
 | some d, some f => match f.zero with
  | some zv => match mpO (litE 5) zv.cells.toList, litE 6 zv with
   | some z, some v => bif z.all EV.cell && Nat.beq z.length f.size then some ⟨d, f.size, f.bytes, z, v, !(P.eqGuardType P.depth t), !(P.stoodInHeld t) && plainFs d⟩ else none
   | _, _ => none
  | none => none
 | _, _ => none
theorem tiOf_ok : TTok P (tiOf P) := fun t i h => by
 unfold tiOf at h
 split at h
 ·rename_i d f hd hf
  split at h
  ·rename_i zv hz
   split at h
   ·rename_i z v h1 h2
    cases hb : (z.all EV.cell && Nat.beq z.length f.size) with
    | false => rw [hb] at h; cases h
    | true =>
     rw [hb] at h; cases h
     simp only [yt] at hb
     exact ⟨hd, ⟨f, zv, hf, rfl, rfl, hz, fun φ => by simpa using mpO_rel (φ := φ) (g := id) (litE_ok 5) zv.cells.toList z h1, fun φ => litE_ok 6 zv v h2⟩, hb.1, Nat.eq_of_beq_eq_true hb.2, (fun h => by simpa using h), fun h => by
      simp only [yt] at h
      refine ⟨by simpa using h.1, fun fs e f hf => ?_⟩
      have h2 := h.2
      dsimp only at e
      subst e
      have h3 := List.all_eq_true.1 h2 f hf
      simpa using h3⟩
   ·cases h
  ·cases h
 ·cases h
theorem closed_true (hm : P.follows .mixedOrders = true) {C : CallE} (hC : CallOk P E C) {fuel d f : Nat} (h : (match evFn P (tiOf P) C fuel d f [] .lf 0 with
  | some (.b true, _, _) => true
  | _ => false) = true) : AFun P E f [] (.bool true) := fun I F w vs h1 h2 => by
 split at h
 ·rename_i H' nx' hx
  have h1 : vs = [] := h1
  subst h1
  obtain ⟨ht, L, hL, hS⟩ := h2
  have hL : L = [] := hL
  subst hL
  have hR : Rel I.k (fun _ => none) .lf 0 F E w := ⟨fun _ _ => rfl, [], [], List.nodup_nil, fun j o => by simp [Tr.get_lf], rfl, hS⟩
  refine (evFn_ok hm tiOf_ok hC fuel d f [] .lf 0 _ _ _ hx _ I.k F w [] hR Z).mono fun v w' ⟨J, ψ, a, b, c, d', e', f'⟩ => ?_
  exact ⟨⟨J, I.h⟩, .bool true, [], ⟨a, fun _ _ h => h⟩, e', ⟨ht, [], rfl, f'.sl⟩, rfl⟩
 ·cases h
end
end Go.Proofs.YthlpjaleclchgaaGreatDoor
namespace Go.Proofs.YthlpjaleclchgaaGreatDoor
open Go.Proofs
mutual
def EV.ren (ρ : Nat → Nat) : EV → EV
 | .u => .u
 | .b x => .b x
 | .i kd n => .i kd n
 | .s x => .s x
 | .np => .np
 | .p kb off => .p (ρ kb) off
 | .ns => .ns
 | .sl kb off len sz c => .sl (ρ kb) off len sz c
 | .ag l => .ag (EV.renL ρ l)
 | .tu l => .tu (EV.renL ρ l)
 | .fn fi a1 c1 => .fn fi (EV.renL ρ a1) (EV.renL ρ c1)
 | .nf => .nf
 | .ifc ty v => .ifc ty (EV.ren ρ v)
 | .ni => .ni
 | .m kb => .m (ρ kb)
 | .nm => .nm
def EV.renL (ρ : Nat → Nat) : List EV → List EV
 | [] => []
 | x :: l => EV.ren ρ x :: EV.renL ρ l
end
mutual
def EV.okN (pr : Nat → Bool) : EV → Bool
 | .p kb _ => pr kb
 | .sl kb _ _ _ _ => pr kb
 | .ag l => EV.okNL pr l
 | .tu l => EV.okNL pr l
 | .fn _ a1 c1 => EV.okNL pr a1 && EV.okNL pr c1
 | .ifc _ v => EV.okN pr v
 | .m kb => pr kb
 | .u => true
 | .b _ => true
 | .i _ _ => true
 | .s _ => true
 | .np => true
 | .ns => true
 | .nf => true
 | .ni => true
 | .nm => true
def EV.okNL (pr : Nat → Bool) : List EV → Bool
 | [] => true
 | x :: l => EV.okN pr x && EV.okNL pr l
end
section
variable {φ ψ : Phi} {ρ : Nat → Nat} {p : Nat → Bool}
mutual
theorem RelV.ren (h : ∀ b q, p b = true → ψ b = some q → φ (ρ b) = some q) : ∀ (x : EV) (v : Value), x.okN p = true → RelV ψ x v → RelV φ (x.ren ρ) v
 | .u, _, _, _ => trivial
 | .b _, _, _, e => e
 | .i _ _, _, _, e => e
 | .s _, _, _, e => e
 | .np, _, _, e => e
 | .p _ _, _, k, ⟨q, a, e⟩ => ⟨q, h _ _ k a, e⟩
 | .ns, _, _, e => e
 | .sl _ _ _ _ _, _, k, ⟨q, o, cap, a, e⟩ => ⟨q, o, cap, h _ _ k a, e⟩
 | .ag l, _, k, ⟨vs, e, k1⟩ => ⟨vs, e, RelVs.ren h l vs k k1⟩
 | .tu l, _, k, ⟨vs, e, k1⟩ => ⟨vs, e, RelVs.ren h l vs k k1⟩
 | .fn _ a c, _, k, ⟨vs, us, e, k1, k2⟩ => ⟨vs, us, e, RelVs.ren h a vs ((yt _ _).mp k).1 k1, RelVs.ren h c us ((yt _ _).mp k).2 k2⟩
 | .nf, _, _, e => e
 | .ifc _ x, _, k, ⟨u, e, k1⟩ => ⟨u, e, RelV.ren h x u k k1⟩
 | .ni, _, _, e => e
 | .m _, _, k, ⟨q, a, e⟩ => ⟨q, h _ _ k a, e⟩
 | .nm, _, _, e => e
theorem RelVs.ren (h : ∀ b q, p b = true → ψ b = some q → φ (ρ b) = some q) : ∀ (x : List EV) (v : List Value), EV.okNL p x = true → RelVs ψ x v → RelVs φ (EV.renL ρ x) v
 | [], _, _, e => e
 | x :: xs, _, k, ⟨v, us, e, h1, h2⟩ => ⟨v, us, e, RelV.ren h x v ((yt _ _).mp k).1 h1, RelVs.ren h xs us ((yt _ _).mp k).2 h2⟩
end
end
section
variable {I J : Ghost} {φ ψ : Phi} {H : Hp} {nx : Nat} {F : List (Nat × Obj)} {E w : World} {k : Nat}
theorem Rel.frz1 (h : Rel I φ H nx F E w) {cs : List EV} (hk : (H.get k).bind VO.cs? = some cs) : ∃ J, I.le J ∧ RepB J φ k (.kn cs) [] ∧ Rel J φ (H.set k (some (.kn cs))) nx F E w := by
 obtain ⟨o, ho, hc⟩ := Option.bind_eq_some_iff.1 hk
 obtain ⟨A, L, hb, hr, hS⟩ := h.pick ho
 cases o with
 | cells ex cs' =>
  cases hc
  obtain ⟨q, T, vs, junk, h1, h2, h3, h4, h5, h6, rfl⟩ := hb
  obtain ⟨J, j1, j2, j3⟩ := SL.freezeAllN hS
  have hj := j3 (q.r, .cells (vs ++ junk).toArray T (0, 0)) (.head _)
  have hB : RepB J φ k (.kn cs) [] := ⟨q, vs, h1, h3, fun u hu => h4 u (List.mem_append_left _ hu), fun j u hu => ⟨_, T, (0, 0), hj, by
   have hl := (List.getElem?_eq_some_iff.1 hu).1
   rw [h2, Nat.zero_add, List.getElem?_toArray, List.getElem?_append_left hl]; exact hu⟩, rfl⟩
  exact ⟨J, j1, hB, yp (A := []) (hr.mono j1 (.refl _)) hB j2 h.top⟩
 | kn cs' =>
  cases hc
  have hb' := hb
  obtain ⟨q, vs, h1, h3, h4, h5, rfl⟩ := hb
  exact ⟨I, .refl _, ⟨q, vs, h1, h3, h4, h5, rfl⟩, yp (A := []) hr ⟨q, vs, h1, h3, h4, h5, rfl⟩ hS h.top⟩
 | it s p => cases hc
 | mp es => cases hc
noncomputable def frzH : List (Nat × List EV) → Hp → Hp
 | [], H => H
 | q :: l, H => frzH l (H.set q.1 (some (.kn q.2)))
theorem Rel.frzL : ∀ (l : List (Nat × List EV)) {I : Ghost} {H : Hp}, Rel I φ H nx F E w → (∀ q ∈ l, (H.get q.1).bind VO.cs? = some q.2) → ∃ J, I.le J ∧ (∀ q ∈ l, RepB J φ q.1 (.kn q.2) []) ∧ Rel J φ (frzH l H) nx F E w
 | [], I, H, h, _ => ⟨I, .refl _, (fun _ hq => nomatch hq), h⟩
 | q :: l, I, H, h, hk => by
  obtain ⟨J, j1, j2, j3⟩ := h.frz1 (hk q (.head _))
  obtain ⟨K, k1, k2, k3⟩ := Rel.frzL l j3 fun r hr => by
   rw [Tr.get_set]
   by_cases e : r.1 = q.1
   ·rw [if_pos e]
    have h1 := hk q (.head _)
    have h2 := hk r (.tail _ hr)
    rw [e, h1] at h2
    exact h2
   ·rw [if_neg e]; exact hk r (.tail _ hr)
  refine ⟨K, j1.trans k1, fun r hr => ?_, k3⟩
  rcases List.mem_cons.1 hr with rfl | hr
  ·exact RepB.mono k1 (.refl _) j2
  ·exact k2 r hr
theorem Rel.addK (h : Rel I φ H nx F E w) {cs : List EV} (hk : H.get k = none) (hb : RepB I φ k (.kn cs) []) : Rel I φ (H.set k (some (.kn cs))) nx F E w := by
 obtain ⟨ht, M, L, hn, hm, hr, hS⟩ := h
 refine ⟨ht, (k, .kn cs) :: M, L, ?_, fun j o => ?_, ⟨[], L, Z, hb, hr⟩, hS⟩
 ·rw [List.map_cons, List.nodup_cons]
  refine ⟨fun hm2=>?_, hn⟩
  obtain ⟨x, hx, e⟩ := List.mem_map.1 hm2
  have e : x.1 = k := e
  have := (hm x.1 x.2).1 hx
  rw [e, hk] at this; cases this
 ·rw [Tr.get_set, List.mem_cons, hm j o]
  by_cases e : j = k
  ·rw [if_pos e]; subst e; rw [hk]; simp [eq_comm]
  ·rw [if_neg e]; simp [e]
end
structure MemE where
 f : Nat
 ar : List EV
 hin : List (Nat × List EV)
 x : EV
 hout : List (Nat × List EV)
 base : Nat
noncomputable def knH (l : List (Nat × List EV)) : Hp := frzH l .lf
def MemOk (P : Program) (E : World) (m : MemE) : Prop := ∀ φ I F w vs, (∀ q ∈ m.hin, RepB I φ q.1 (.kn q.2) []) → RelVs φ m.ar vs → SL I F E w → (∀ j, m.base ≤ j → φ j = none) →
 Go.Proofs.YthlpjaleclchgaaGreatDoor.Fn P m.f vs.toArray w (fun v w' => ∃ J ψ, I.le J ∧ (∀ j, j < m.base → ψ j = φ j) ∧ RelV ψ m.x v ∧ (∀ q ∈ m.hout, RepB J ψ q.1 (.kn q.2) []) ∧ SL J F E w')
noncomputable def sameL (x y : List EV) : Bool := chkL_e.eqL 2000 x y
noncomputable def hasC (H : Hp) (q : Nat × List EV) : Bool := match (H.get q.1).bind VO.cs? with
 | some cs => sameL cs q.2
 | none => false
theorem hasC_ok {H : Hp} {q : Nat × List EV} (h : hasC H q = true) : (H.get q.1).bind VO.cs? = some q.2 := by
 unfold hasC at h
 split at h
 ·rename_i cs hc
  rw [hc, (eqE_ok 2000).2 cs q.2 h]
 ·cases h
theorem knH_get : ∀ (l : List (Nat × List EV)) (H : Hp) (j : Nat) (o : VO), (l.map (·.1)).Nodup → (∀ q ∈ l, H.get q.1 = none) → ((frzH l H).get j = some o ↔ (∃ cs, (j, cs) ∈ l ∧ o = .kn cs) ∨ H.get j = some o)
 | [], H, j, o, _, _ => by simp [frzH]
 | q :: l, H, j, o, hn, hh => by
  rw [List.map_cons, List.nodup_cons] at hn
  have hq := hh q (.head _)
  have ih := knH_get l (H.set q.1 (some (.kn q.2))) j o hn.2 fun r hr => by
   have hne : ¬ r.1 = q.1 := fun e => hn.1 (List.mem_map.2 ⟨r, hr, e⟩)
   rw [Tr.get_set, if_neg hne]
   exact hh r (.tail _ hr)
  show (frzH l (H.set q.1 (some (.kn q.2)))).get j = some o ↔ _
  rw [ih, Tr.get_set]
  by_cases e : j = q.1
  ·rw [if_pos e]
   constructor
   ·rintro (⟨cs, h1, h2⟩ | h)
    ·exact .inl ⟨cs, .tail _ h1, h2⟩
    ·cases h; exact .inl ⟨q.2, by rw [e]; exact .head _, rfl⟩
   ·rintro (⟨cs, h1, h2⟩ | h)
    ·rcases List.mem_cons.1 h1 with h3 | h3
     ·exact .inr (by rw [h2, ← h3])
     ·exact .inl ⟨cs, h3, h2⟩
    ·rw [e, hq] at h; cases h
  ·rw [if_neg e]
   constructor
   ·rintro (⟨cs, h1, h2⟩ | h)
    ·exact .inl ⟨cs, .tail _ h1, h2⟩
    ·exact .inr h
   ·rintro (⟨cs, h1, h2⟩ | h)
    ·rcases List.mem_cons.1 h1 with h3 | h3
     ·exact absurd (by rw [← h3]) e
     ·exact .inl ⟨cs, h3, h2⟩
    ·exact .inr h
def nodN : List Nat → Bool
 | [] => true
 | x :: l => !memN x l && nodN l
theorem nodN_ok : ∀ {l : List Nat}, nodN l = true → l.Nodup
 | [], _ => List.nodup_nil
 | x :: l, h => by
  unfold nodN at h
  simp only [yt, Bool.not_eq_true', Bool.eq_false_iff] at h
  rw [List.nodup_cons]
  exact ⟨fun hm => h.1 (memN_iff.2 hm), nodN_ok h.2⟩
noncomputable def chkM (call : CallE) (m : MemE) : Bool :=
 nodN (m.hin.map (·.1)) && match call m.f m.ar (knH m.hin) m.base with
  | some (x, H', _) => sameL [x] [m.x] && m.hout.all (hasC H')
  | none => false
section
variable {P : Program} {E : World}
theorem memOk_of {call : CallE} (hC : CallOk P E call) {m : MemE} (h : chkM call m = true) : MemOk P E m := fun φ I F w vs hin hr hS ht => by
 unfold chkM at h
 rw [yt] at h
 obtain ⟨h1, h⟩ := h
 split at h
 ·rename_i x H' nx' hc
  rw [yt, List.all_eq_true] at h
  have hx : x = m.x := by have := (eqE_ok 2000).2 _ _ h.1; simpa using this
  subst hx
  have hnd := nodN_ok h1
  have hR : Rel I φ (knH m.hin) m.base F E w := by
   refine ⟨ht, m.hin.map fun q => (q.1, .kn q.2), [], ?_, fun j o => ?_, ?_, hS⟩
   ·rw [List.map_map]; exact hnd
   ·rw [show knH m.hin = frzH m.hin .lf from rfl, knH_get m.hin .lf j o hnd fun _ _ => Tr.get_lf _, Tr.get_lf, List.mem_map]
    constructor
    ·rintro ⟨q, hq, e⟩
     cases e
     exact .inl ⟨q.2, hq, rfl⟩
    ·rintro (⟨cs, h1, rfl⟩ | h)
     ·exact ⟨(j, cs), h1, rfl⟩
     ·cases h
   ·generalize m.hin = l at hin
    clear h1 hnd hc h hr
    induction l with
    | nil => rfl
    | cons q l ih => exact ⟨[], [], rfl, hin q (.head _), ih fun r hr => hin r (.tail _ hr)⟩
  refine (hC _ _ _ _ _ _ _ hc φ I F w vs hR hr).mono fun v w' ⟨J, ψ, a, b, c, d, e, f⟩ => ?_
  obtain ⟨K, k1, k2, k3⟩ := Rel.frzL m.hout f fun q hq => hasC_ok (h.2 q hq)
  exact ⟨K, ψ, a.trans k1, fun j hj => c j hj (Nat.ne_of_lt hj), e, k2, k3.sl⟩
 ·cases h
end
def posN (k : Nat) : List (Nat × List EV) → Nat → Nat
 | [], i => i
 | q :: l, i => bif Nat.beq q.1 k then i else posN k l (i + 1)
def useR (m : MemE) (nx : Nat) (k : Nat) : Nat := bif Nat.blt k m.base then k else nx + posN k m.hout 0
def okK (m : MemE) (k : Nat) : Bool := Nat.blt k m.base || memN k (m.hout.map (·.1))
noncomputable def putK (ρ : Nat → Nat) : List (Nat × List EV) → Nat → Hp → Hp
 | [], _, H => H
 | q :: l, k, H => putK ρ l (k + 1) (H.set k (some (.kn (EV.renL ρ q.2))))
noncomputable def memE (m : MemE) : CallE := fun f ar H nx =>
 bif Nat.beq f m.f && (Nat.ble nx m.base && sameL ar m.ar) && m.hin.all (hasC H) then
  bif m.x.okN (okK m) && m.hout.all (fun q => EV.okNL (okK m) q.2 && Nat.ble m.base q.1) && nodN (m.hout.map (·.1)) then
   some (m.x.ren (useR m nx), putK (useR m nx) m.hout nx (frzH m.hin H), nx + m.hout.length)
  else none
 else none
theorem posN_at : ∀ (l : List (Nat × List EV)) (i j : Nat) (q : Nat × List EV), (l.map (·.1)).Nodup → l[j]? = some q → posN q.1 l i = i + j
 | [], _, _, _, _, h => by simp at h
 | r :: l, i, 0, q, _, h => by
  simp at h; subst h
  unfold posN
  rw [show Nat.beq r.1 r.1 = true from Nat.beq_refl _]; rfl
 | r :: l, i, j + 1, q, hn, h => by
  rw [List.map_cons, List.nodup_cons] at hn
  have h : l[j]? = some q := by simpa using h
  have hne : r.1 ≠ q.1 := fun e => hn.1 (e ▸ List.mem_map_of_mem (List.mem_of_getElem? h))
  have hb : Nat.beq r.1 q.1 = false := by
   cases e : Nat.beq r.1 q.1 with
   | false => rfl
   | true => exact absurd (Nat.eq_of_beq_eq_true e) hne
  unfold posN
  rw [hb]
  show posN q.1 l (i + 1) = _
  rw [posN_at l (i + 1) j q hn.2 h]; omega
section
variable {P : Program} {E : World}
theorem putK_ok {I : Ghost} {φ : Phi} {n : Nat} {F : List (Nat × Obj)} {w : World} {ρ : Nat → Nat} : ∀ (l : List (Nat × List EV)) (k : Nat) (H : Hp), Rel I φ H n F E w → (∀ j, k ≤ j → H.get j = none) → (∀ (j : Nat) q, l[j]? = some q → RepB I φ (k + j) (.kn (EV.renL ρ q.2)) []) → Rel I φ (putK ρ l k H) n F E w
 | [], _, _, h, _, _ => h
 | q :: l, k, H, h, hn, hb => by
  refine putK_ok l (k + 1) _ (h.addK (hn k (Nat.le_refl _)) (hb 0 q Z)) (fun j hj => ?_) fun j r hr => ?_
  ·rw [Tr.get_set, if_neg (by omega)]; exact hn j (by omega)
  ·have := hb (j + 1) r (by simpa using hr)
   rwa [show k + (j + 1) = k + 1 + j by omega] at this
theorem memE_ok {m : MemE} (hM : MemOk P E m) : CallOk P E (memE m) := fun f ar H nx x H' nx' h φ I F w vs hR hr => by
 unfold memE at h
 cases hb : (Nat.beq f m.f && (Nat.ble nx m.base && sameL ar m.ar) && m.hin.all (hasC H)) with
 | false => rw [hb] at h; cases h
 | true =>
  rw [hb] at h
  simp only [cond_true] at h
  cases hb2 : (m.x.okN (okK m) && m.hout.all (fun q => EV.okNL (okK m) q.2 && Nat.ble m.base q.1) && nodN (m.hout.map (·.1))) with
  | false => rw [hb2] at h; cases h
  | true =>
   rw [hb2] at h
   simp only [cond_true, Option.some.injEq, Prod.mk.injEq] at h
   obtain ⟨rfl, rfl, rfl⟩ := h
   simp only [yt, List.all_eq_true] at hb hb2
   obtain ⟨⟨c1, c2, c3⟩, c4⟩ := hb
   obtain ⟨⟨d1, d2⟩, d3⟩ := hb2
   have c1 := Nat.eq_of_beq_eq_true c1
   have c2 := Nat.le_of_ble_eq_true c2
   have c3 := (eqE_ok 2000).2 _ _ c3
   subst c1 c3
   have d3 := nodN_ok d3
   obtain ⟨J, j1, j2, j3⟩ := Rel.frzL m.hin hR fun q hq => hasC_ok (c4 q hq)
   obtain ⟨ht, M, L, hn, hm, hrep, hS⟩ := j3
   refine (hM φ J (L ++ F) w vs j2 hr hS fun j hj => ht j (Nat.le_trans c2 hj)).mono fun v w' ⟨K, ψ, k1, k2, k3, k4, k5⟩ => ?_
   obtain ⟨χ, hχ⟩ : ∃ χ : Phi, χ = fun j => if j < nx then φ j else if nx ≤ j ∧ j < nx + m.hout.length then (m.hout[j - nx]?).bind fun q => ψ q.1 else none := ⟨_, rfl⟩
   have hle : φ.le χ := fun b q e => by
    rw [hχ]
    by_cases hb : b < nx
    ·simp only [if_pos hb]; exact e
    ·rw [ht b (by omega)] at e; cases e
   have hren : ∀ b q, okK m b = true → ψ b = some q → χ (useR m nx b) = some q := fun b q hk hq => by
    unfold useR
    by_cases hb : b < m.base
    ·rw [show Nat.blt b m.base = true from Nat.ble_eq_true_of_le hb]
     rw [k2 b hb] at hq
     exact hle b q hq
    ·rw [show Nat.blt b m.base = false from by
      cases e : Nat.blt b m.base with
      | false => rfl
      | true => exact absurd (Nat.le_of_ble_eq_true e) (by omega)]
     unfold okK at hk
     rw [Bool.or_eq_true] at hk
     have hk := hk.resolve_left fun e => hb (Nat.le_of_ble_eq_true e)
     obtain ⟨r, hr2, e⟩ := List.mem_map.1 (memN_iff.1 hk)
     obtain ⟨i, hi⟩ := List.getElem?_of_mem hr2
     have hil := (List.getElem?_eq_some_iff.1 hi).1
     have hp := posN_at m.hout 0 i r d3 hi
     have e : r.1 = b := e
     rw [e] at hp
     show χ (nx + posN b m.hout 0) = some q
     rw [hp, hχ]
     simp only
     rw [if_neg (by omega), if_pos (by omega), show nx + (0 + i) - nx = i by omega, hi]
     show ψ r.1 = some q
     rw [e]; exact hq
   have htop : ∀ j, nx + m.hout.length ≤ j → χ j = none := fun j hj => by
    rw [hχ]; simp only
    rw [if_neg (by omega), if_neg (by omega)]
   have hR2 : Rel K χ (frzH m.hin H) (nx + m.hout.length) F E w' := ⟨htop, M, L, hn, hm, hrep.mono k1 hle, k5⟩
   have hnone : ∀ j, nx ≤ j → (frzH m.hin H).get j = none := fun j hj => by
    cases ho : (frzH m.hin H).get j with
    | none => rfl
    | some o =>
     obtain ⟨q, hq⟩ := hrep.phi _ ((hm j o).2 ho)
     rw [ht j hj] at hq; cases hq
   refine ⟨K, χ, j1.trans k1, hle, fun j hj _ => by rw [hχ]; simp only; rw [if_pos hj], by omega, RelV.ren hren m.x v d1 k3, ?_⟩
   refine putK_ok m.hout nx _ hR2 hnone fun j q hq => ?_
   have hqm := List.mem_of_getElem? hq
   obtain ⟨p, us, p1, p2, p3, p4, _⟩ := k4 q hqm
   have hd := d2 q hqm
   have hpos := posN_at m.hout 0 j q d3 hq
   have hok : okK m q.1 = true := by
    unfold okK
    rw [Bool.or_eq_true]
    exact .inr (memN_iff.2 (List.mem_map_of_mem hqm))
   have hu : useR m nx q.1 = nx + j := by
    unfold useR
    rw [show Nat.blt q.1 m.base = false from by
     cases e : Nat.blt q.1 m.base with
     | false => rfl
     | true => exact absurd (Nat.le_of_ble_eq_true e) (by have := Nat.le_of_ble_eq_true hd.2; omega), hpos, Nat.zero_add]; rfl
   refine ⟨p, us, by rw [← hu]; exact hren _ _ hok p1, RelVs.ren hren _ _ hd.1 p2, p3, p4, rfl⟩
noncomputable def memT : List MemE → CallE
 | [] => fun _ _ _ _ => none
 | m :: l => orE (memE m) (memT l)
theorem memT_ok : ∀ {l : List MemE}, (∀ m ∈ l, MemOk P E m) → CallOk P E (memT l)
 | [], _ => fun f ar H nx x H' nx' h => by cases h
 | m :: l, h => orE_ok (memE_ok (h m (.head _))) (memT_ok fun r hr => h r (.tail _ hr))
end
end Go.Proofs.YthlpjaleclchgaaGreatDoor
