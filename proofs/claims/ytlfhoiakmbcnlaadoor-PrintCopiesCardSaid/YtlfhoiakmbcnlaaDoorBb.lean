/- Statements whose order is open; what stands in a cell known henceforth; calls that look at what is owned. No conditions but bounds. -/
import Derived.Test.YtlfhoiakmbcnlaaDoorBa
namespace Go.Proofs.YtlfhoiakmbcnlaaDoor

theorem AnyV.mono {P : Program} {ops : Array Oper} {S S' : World → Prop} {W : Nat → Bool} {Q Q' : Env → World → Prop} (hS : ∀ w, S w → S' w) (hQ : ∀ ρ w, Q ρ w → Q' ρ w) : ∀ (fuel : Nat) (listed : Array Bool) (ρ : Env) (w : World),
    AnyV P ops S W Q fuel listed ρ w → AnyV P ops S' W Q' fuel listed ρ w
  | 0, _, _, _, h => ⟨h.1, hQ _ _ h.2⟩
  | fuel + 1, _, _, _, h => ⟨fun h0 => hQ _ _ (h.1 h0), fun i hi o ho => Ops.mono (fun _ _ ⟨a, b⟩ => ⟨a.imp id (hS _), AnyV.mono hS hQ fuel _ _ _ b⟩) _ _ _ (h.2 i hi o ho)⟩

def stays (J0 : Ghost) (L : List (Nat × Obj)) (E : World) (w : World) : Prop := ∃ J L', J0.le J ∧ SL J L' E w ∧ ∀ y ∈ L, y ∈ L'

/-- Whatever order is drawn: what is owned is `Os`, which is only read meanwhile, and `Om`. -/
def AAny (P : Program) (E : World) (l : List Oper) (W : Nat → Bool) (Q : AEnv → OL → Prop) (fuel : Nat) (listed : Array Bool) (env : AEnv) (Os Om : OL) : Prop :=
  ∀ I F ρ w Ls, RepE I env ρ → RepOs I Os Ls → SLA I Om (Ls ++ F) E w → AnyV P l.toArray (stays I.k Ls E) W (postK I F E Q) fuel listed ρ w
/-- Only writes are left. -/
def AAnyW (P : Program) (E : World) (l : List Oper) (W : Nat → Bool) (Q : AEnv → OL → Prop) (fuel : Nat) (listed : Array Bool) (env : AEnv) (O : OL) : Prop :=
  ∀ I F ρ w, RepE I env ρ → SLA I O F E w → ∀ S, AnyV P l.toArray S W (postK I F E Q) fuel listed ρ w

theorem SLA.here {I : G} {Om : OL} {Ls F : List (Nat × Obj)} {E w : World} (h : SLA I Om (Ls ++ F) E w) : stays I.k Ls E w := by
  obtain ⟨_, L, _, hS⟩ := h
  exact ⟨I.k, _, .refl _, hS, fun y hy => by simp [hy]⟩
theorem SLA.together {I : G} {Os Om : OL} {Ls F : List (Nat × Obj)} {E w : World} (hs : RepOs I Os Ls) (h : SLA I Om (Ls ++ F) E w) : SLA I (Os ++ Om) F E w := by
  obtain ⟨ht, L, hL, hS⟩ := h
  refine ⟨ht, Ls ++ L, RepOs.append.2 ⟨Ls, L, rfl, hs, hL⟩, hS.perm ?_⟩
  rw [← List.append_assoc]
  exact (List.perm_append_comm).append_right F

section
variable {E : World} {P : Program} {n : Nat} {l : List Oper} {W : Nat → Bool} {Q : AEnv → OL → Prop} {fuel : Nat} {listed : Array Bool} {env : AEnv} {O Os Om : OL}
variable {d ty : Nat} {op : Op} {pos : String} {af : Array Edge}

theorem AWP.regionDraw (W : Nat → Bool) {Q : Exit → AEnv → OL → Prop} {id : Nat} (hm : P.follows .mixedOrders = true) (hd : dstsOk n l = true) (hO : O.Perm (Om ++ Os)) (h : AAny P E l W (Q .normal) l.length (Array.replicate l.length false) env Os Om) : AWP P E n (.region id l.toArray true) Q env O := fun I F ρ w h1 h2 => by
  obtain ⟨Ls, hLs, h3⟩ := h2.split hO
  refine WP.regionDraw (stays I.k Ls E) W hm hd fun w' hw => ?_
  subst hw
  refine h I F ρ _ Ls h1 hLs ?_
  obtain ⟨ht, L, hL, hS⟩ := h3
  exact ⟨ht, L, hL, hS.drew⟩

theorem AAny.take {i : Nat} {x : AV} (hi : l[i]? = some (Oper.mk (some d) op ty pos af none)) (hs : Region.noSelect l.toArray = true) (hf : Region.free .any l.toArray listed i = true)
    (hr : (Region.ready .any l.toArray listed).contains i = true) (hW : waitsB l i W = true) (hg : Gv P env Os (Oper.mk (some d) op ty pos af none) x)
    (h : AAny P E l W Q fuel (listed.setIfInBounds i true) (aupd env d x) Os Om) : AAny P E l W Q (fuel + 1) listed env Os Om := fun I F ρ w Ls h1 hLs h2 => by
  obtain ⟨v, hv, hrun⟩ := hg I Ls E ρ h1 hLs
  exact AnyV.take hi hs hf hr hW h2.here (fun w ⟨J, L', a, b, c⟩ => hrun w J L' a b c) (h I F _ w Ls (h1.upd d hv) hLs h2)
theorem AAny.takeT {i j s : Nat} {b t : Bool} {x : AV} (hi : l[i]? = some (Oper.mk (some d) op ty pos af (some (j, b)))) (hg0 : (l[j]?).bind (fun o : Oper => o.dst) = some s) (hv0 : env s = .bool t) (ht : t = b) (hs : Region.noSelect l.toArray = true) (hf : Region.free .any l.toArray listed i = true)
    (hr : (Region.ready .any l.toArray listed).contains i = true) (hW : waitsB l i W = true) (hg : Gv P env Os (Oper.mk (some d) op ty pos af none) x)
    (h : AAny P E l W Q fuel (listed.setIfInBounds i true) (aupd env d x) Os Om) : AAny P E l W Q (fuel + 1) listed env Os Om := fun I F ρ w Ls h1 hLs h2 => by
  obtain ⟨v, hv, hrun⟩ := hg I Ls E ρ h1 hLs
  exact AnyV.takeT hi hg0 (by have := h1 s; rw [hv0] at this; exact this) ht hs hf hr hW h2.here (fun w ⟨J, L', a, b, c⟩ => hrun w J L' a b c) (h I F _ w Ls (h1.upd d hv) hLs h2)
theorem AAny.takeF {i j s : Nat} {b t : Bool} (hi : l[i]? = some (Oper.mk (some d) op ty pos af (some (j, b)))) (hg0 : (l[j]?).bind (fun o : Oper => o.dst) = some s) (hv0 : env s = .bool t) (ht : t = !b) (hs : Region.noSelect l.toArray = true) (hf : Region.free .any l.toArray listed i = true)
    (hr : (Region.ready .any l.toArray listed).contains i = true) (hW : waitsB l i W = true)
    (h : AAny P E l W Q fuel (listed.setIfInBounds i true) (aupd env d (.raw undef)) Os Om) : AAny P E l W Q (fuel + 1) listed env Os Om := fun I F ρ w Ls h1 hLs h2 =>
  AnyV.takeF hi hg0 (by have := h1 s; rw [hv0] at this; exact this) ht hs hf hr hW h2.here (h I F _ w Ls (h1.upd d rfl) hLs h2)
theorem AAny.one {i : Nat} {o : Oper} (hi : l[i]? = some o) (hr : Region.ready .any l.toArray listed = [i])
    (h : AOps P E l.toArray (fun env' Om' => AAny P E l W Q fuel (listed.setIfInBounds i true) env' Os Om') [o] env Om) : AAny P E l W Q (fuel + 1) listed env Os Om := fun I F ρ w Ls h1 hLs h2 =>
  AnyV.one hi hr (Ops.mono (fun ρ' w' ⟨J, env', Om', a, b, c, d⟩ => by
    refine ⟨.inr ?_, AnyV.mono ?_ (fun _ _ => postK.up a) _ _ _ _ (d J F ρ' w' Ls b (hLs.mono a) c)⟩
    · obtain ⟨J', L', h3, h4, h5⟩ := c.here
      exact ⟨J', L', a.k.trans h3, h4, h5⟩
    · rintro w ⟨J', L', h3, h4⟩; exact ⟨J', L', a.k.trans h3, h4⟩) _ _ _ (h I (Ls ++ F) ρ w h1 h2))
theorem AAny.done (hr : Region.ready .any l.toArray listed = []) (h : Q env (Os ++ Om)) : AAny P E l W Q fuel listed env Os Om := fun I F ρ w Ls h1 hLs h2 =>
  AnyV.done hr ⟨I, env, Os ++ Om, .refl _, h1, SLA.together hLs h2, h⟩
theorem AAny.case {t : Bool} {s : Nat} (_ : env s = .bool t) (h1 : t = true → AAny P E l W Q fuel listed env Os Om) (h2 : t = false → AAny P E l W Q fuel listed env Os Om) : AAny P E l W Q fuel listed env Os Om := by
  cases t
  · exact h2 rfl
  · exact h1 rfl
theorem AAny.writes (h : AAnyW P E l W Q fuel listed env (Os ++ Om)) : AAny P E l W Q fuel listed env Os Om := fun I F ρ w Ls h1 hLs h2 => h I F ρ w h1 (SLA.together hLs h2) _
theorem AAnyW.one {i : Nat} {o : Oper} (hi : l[i]? = some o) (hr : Region.ready .any l.toArray listed = [i]) (hW : W i = true)
    (h : AOps P E l.toArray (fun env' O' => AAnyW P E l W Q fuel (listed.setIfInBounds i true) env' O') [o] env O) : AAnyW P E l W Q (fuel + 1) listed env O := fun I F ρ w h1 h2 S =>
  AnyV.one hi hr (Ops.mono (fun ρ' w' ⟨J, env', O', a, b, c, d⟩ => ⟨.inl hW, AnyV.mono (fun _ h => h) (fun _ _ => postK.up a) _ _ _ _ (d J F ρ' w' b c S)⟩) _ _ _ (h I F ρ w h1 h2))
theorem AAnyW.done (hr : Region.ready .any l.toArray listed = []) (h : Q env O) : AAnyW P E l W Q fuel listed env O := fun I F ρ w h1 h2 S =>
  AnyV.done hr ⟨I, env, O, .refl _, h1, h2, h⟩
end

/-! ### Cells -/
theorem RepL.same {I J : G} (hle : I.le J) : ∀ {cs : List AV} {vs : List Value}, RepL I cs vs → ∀ {off : Nat} {x y : AV}, cs[off]? = some x → (∀ v, RepV I x v → RepV J y v) → RepL J (cs.set off y) vs
  | [], _, _, _, _, _, h, _ => by simp at h
  | c :: cs, _, ⟨v, us, e, h1, h2⟩, off, x, y, h, hxy => by
    subst e
    cases off with
    | zero => simp at h; subst h; exact ⟨v, us, rfl, hxy v h1, RepL.mono hle _ _ h2⟩
    | succ off => exact ⟨v, us, rfl, RepV.mono hle _ _ h1, RepL.same hle h2 (by simpa using h) hxy⟩

section
variable {E : World} {P : Program} {n : Nat} {env : AEnv} {O O' O'' : OL}
theorem Put.same {I J : G} {F : List (Nat × Obj)} {E w : World} {j off : Nat} {T : TypeId} {cs : List AV} {x y : AV} (hle : I.le J) (hk : J.k = I.k ∨ True) (hp : Put O j (.cells T cs) (.cells T (cs.set off y)) O') (hc : cs[off]? = some x) (hxy : ∀ v, RepV I x v → RepV J y v)
    {L : List (Nat × Obj)} (hL : RepOs I O L) : ∃ L', RepOs J O' L' ∧ L.Perm L' := by
  obtain ⟨A, B, hp1, ⟨b, c, vs, e1, hvs, hvc, rfl⟩, hback⟩ := hp.rep hL
  obtain ⟨L', h1, h2⟩ := hback hle (A' := [(b, .cells vs.toArray T (0, 0))]) ⟨b, c, vs, hle.h _ _ e1, hvs.same hle hc hxy, hvc, rfl⟩
  exact ⟨L', h1, hp1.trans h2.symm⟩

/-- What a cell leads to is known henceforth. -/
theorem GStep.knowC {j off i k m : Nat} {T T' : TypeId} {cs : List AV} {rows : List (List AV)} (hO : Pick O i (.grow k T rows.flatten) O') (hP : Put O' j (.cells T' cs) (.cells T' (cs.set off (.fro k rows))) O'') (hc : cs[off]? = some (.own i m))
    (hk : ∀ r ∈ rows, r.length = k) (hk0 : 0 < k) (hm : rows.length = m) : GStep E env O env O'' := fun I F ρ w h1 h2 => by
  obtain ⟨J, hle, h3, h4⟩ := Go.Proofs.YtlfhoiakmbcnlaaDoor.know hO hk hk0 hm h2
  obtain ⟨ht, L, hL, hS⟩ := h3
  -- O' is told under I as well
  obtain ⟨_, L0, hL0, hS0⟩ := h2
  obtain ⟨A, B, hp, ⟨b, c, vs, e1, hvs, hvc, rfl⟩, hback⟩ := hP.rep hL
  obtain ⟨A0, B0, hp0, _, hB0⟩ := hO.rep hL0
  obtain ⟨A1, B1, hp1, ⟨b1, c1, vs1, e2, hvs1, hvc1, rfl⟩, _⟩ := hP.rep hB0
  have e3 := hle.h _ _ e2
  simp only at e1 e3
  rw [e1] at e3
  simp only [Option.some.injEq, Prod.mk.injEq] at e3
  obtain ⟨rfl, rfl⟩ := e3
  -- the world holds the very same cells
  have hS1 : SL I.k (A0 ++ (B0 ++ F)) E w := hS0.perm (by rw [← List.append_assoc]; exact (hp0.append_right F).symm)
  have hv1 := hS1.own (b, .cells vs1.toArray T' (0, 0)) (by simp; right; left; exact hp1.mem_iff.2 (by simp))
  have hv := hS.own (b, .cells vs.toArray T' (0, 0)) (by simp; left; exact hp.mem_iff.2 (by simp))
  simp only at hv hv1
  rw [hv] at hv1
  simp only [Option.some.injEq, Obj.cells.injEq] at hv1
  have hvv : vs = vs1 := by have := congrArg Array.toList hv1.1; simpa using this
  subst hvv
  obtain ⟨L', h5, h6⟩ := hback (G.le.refl J) (A' := [(b, .cells vs.toArray T' (0, 0))]) ⟨b, c, vs, e1, hvs1.same hle hc h4, hvc, rfl⟩
  exact ⟨J, hle, h1.mono hle, ht, L', h5, hS.perm (((h6.trans hp.symm).append_right F))⟩

theorem adoptC {j off k : Nat} {T T' : TypeId} {cs : List AV} {P' : Prop} {env' : AEnv} {G' : OL} (hc : cs[off]? = some (.raw (.slice none 0 0))) {f : Nat → OL} (hP : ∀ i, Put O j (.cells T' cs) (.cells T' (cs.set off (.own i 0))) (f i))
    (h : ∀ i, GStep E env ((i, .grow k T []) :: f i) env' G') : GStep E env O env' G' := fun I F ρ w h1 h2 => by
  obtain ⟨i, hi⟩ := h2.name
  obtain ⟨J, e1, hle, e2, htop⟩ := hi (none, 0)
  obtain ⟨_, L, hL, hS⟩ := h2
  obtain ⟨L', h3, h4⟩ := Put.same (F := F) (E := E) (w := w) hle (.inr trivial) (hP i) hc (fun v hv => ⟨none, 0, e2, hv⟩) hL
  obtain ⟨K, h5, h6⟩ := h i J F ρ w (h1.mono hle) ⟨htop, _, ⟨[], L', rfl, ⟨none, 0, 0, [], e2, rfl, by simp, OwnS.nil k T⟩, h3⟩, by rw [e1]; exact hS.perm (h4.symm.append_right F)⟩
  exact ⟨K, hle.trans h5, h6⟩
theorem adoptC_wp {j off k : Nat} {T T' : TypeId} {cs : List AV} {c : Code} {Q : Exit → AEnv → OL → Prop} {f : Nat → OL} (hP : ∀ i, Put O j (.cells T' cs) (.cells T' (cs.set off (.own i 0))) (f i)) (hc : cs[off]? = some (.raw (.slice none 0 0)))
    (h : ∀ i, AWP P E n c Q env ((i, .grow k T []) :: f i)) : AWP P E n c Q env O := fun I F ρ w h1 h2 => by
  obtain ⟨i, hi⟩ := h2.name
  obtain ⟨J, e1, hle, e2, htop⟩ := hi (none, 0)
  obtain ⟨_, L, hL, hS⟩ := h2
  obtain ⟨L', h3, h4⟩ := Put.same (F := F) (E := E) (w := w) hle (.inr trivial) (hP i) hc (fun v hv => ⟨none, 0, e2, hv⟩) hL
  exact (h i J F ρ w (h1.mono hle) ⟨htop, _, ⟨[], L', rfl, ⟨none, 0, 0, [], e2, rfl, by simp, OwnS.nil k T⟩, h3⟩, by rw [e1]; exact hS.perm (h4.symm.append_right F)⟩).mono fun _ _ _ => postE.up hle
end

/-! ### A look at what is owned, by a function that answers plainly -/
def AV.plain : AV → Bool
  | .bool _ | .int _ _ | .str _ => true
  | _ => false
theorem AV.plain_rep {I J : G} {x : AV} {v : Value} (hp : x.plain = true) (h : RepV I x v) : RepV J x v := by
  cases x <;> first | exact h | cases hp

theorem flat_len {k : Nat} {rows : List (List AV)} (hk : ∀ r ∈ rows, r.length = k) : rows.flatten.length = rows.length * k := by
  induction rows with
  | nil => simp
  | cons r rows ih => simp only [List.flatten_cons, List.length_append, List.length_cons, ih (fun r h => hk r (by simp [h])), hk r (by simp), Nat.add_mul]; omega
/-- While it looks, what is owned is as if it were known. -/
theorem look {E : World} {P : Program} {f : FuncId} {i k m : Nat} {T : TypeId} {rows : List (List AV)} {as bs : List AV} {r : AV} {O : OL} (hO : Has O i (.grow k T rows.flatten)) (hk : ∀ r ∈ rows, r.length = k) (hk0 : 0 < k) (hm : rows.length = m) (hr : r.plain = true)
    (hc : AFun P E f bs r) (hb : ∀ I J : G, I.le J → (∀ v, RepV I (.own i m) v → RepV J (.fro k rows) v) → ∀ vs, RepL I as vs → RepL J bs vs) : ACall P E f as O (fun x O' => x = r ∧ O' = O) := fun I F w vs h1 h2 => by
  obtain ⟨O', hO⟩ := hO
  obtain ⟨J, hle, h3, h4⟩ := know hO hk hk0 hm h2
  obtain ⟨ht, L, hL, hS⟩ := id h2
  obtain ⟨htJ, L', hL', hS'⟩ := h3
  -- what is owned goes into the frame, real as it is
  obtain ⟨A, B, hp, hA, hB⟩ := hO.rep hL
  have hSp : SL I.k (A ++ (B ++ F)) E w := hS.perm (by rw [← List.append_assoc]; exact (hp.append_right F).symm)
  -- the callee sees the block among what is known
  obtain ⟨b, c, n, us, e1, hus, huc, h5, h6, h7⟩ := hA
  rcases h7 with ⟨ea, rfl, rfl⟩ | ⟨b', junk, ea, rfl, hj⟩
  · -- nothing is there
    have hbs := hb I J hle h4 vs h1
    have hbs' : RepL I bs vs := by
      refine hb I I (.refl _) (fun v hv => ?_) vs h1
      obtain ⟨b2, c2, e2, rfl⟩ := hv
      simp only at e1
      rw [e1] at e2
      simp only [Option.some.injEq, Prod.mk.injEq] at e2
      obtain ⟨rfl, rfl⟩ := e2
      have hn0 : n = 0 := by omega
      subst hn0
      have hl := hus.length
      have hfl : rows = [] := by
        cases rows with
        | nil => rfl
        | cons r rows => have := hk r (by simp); simp at hl; omega
      subst hfl
      simp at hm
      subst hm
      exact ⟨adr b, 0, 0, rfl, rfl, Nat.le_refl _, fun _ => rfl, trivial⟩
    refine (hc I (L ++ F) w vs hbs' ⟨ht, [], rfl, by simpa using hS⟩).mono ?_
    rintro v w' ⟨K, x, O2, hl2, hx, h8, rfl⟩
    exact ⟨K, x, O, hl2, hx, ⟨h8.1, L, hL.mono hl2, h8.drops⟩, rfl, rfl⟩
  · cases b with
    | none => simp [adr] at ea
    | some b =>
      simp [adr] at ea
      subst ea
      obtain ⟨hl, hS3⟩ := SL.freeze (by simpa using hSp : SL I.k ((b, .cells (us ++ junk).toArray T (0, 0)) :: (B ++ F)) E w)
      let J' : G := ⟨I.k.put b (.cells (us ++ junk).toArray T (0, 0)), I.h⟩
      have hle' : I.le J' := ⟨hl, fun _ _ h => h⟩
      have hbk : J'.k b = some (.cells (us ++ junk).toArray T (0, 0)) := Ghost.put_same _ _ _
      have hflat := flat_len hk
      have hnm : n = m := by
        have h61 := hus.length
        rw [flat_len hk] at h61
        have : n * k = m * k := by rw [← hm]; omega
        exact Nat.eq_of_mul_eq_mul_right hk0 this
      subst hnm
      have hbs := hb I J' hle' (fun v hv => by
        obtain ⟨b2, c2, e2, rfl⟩ := hv
        simp only at e1
        rw [e1] at e2
        simp only [Option.some.injEq, Prod.mk.injEq] at e2
        obtain ⟨rfl, rfl⟩ := e2
        refine ⟨adr (some b), n, c, rfl, hm.symm, h6, fun h => by simp [adr] at h, RepR.of_flat hbk rows us 0 hk (RepL.mono hle' _ _ hus) fun i u hu => ?_⟩
        rw [Nat.zero_mul, Nat.zero_add, List.getElem?_toArray, List.getElem?_append_left (List.getElem?_eq_some_iff.1 hu).1]
        exact hu) vs h1
      refine (hc J' (B ++ F) w vs hbs ⟨ht, [], rfl, by simpa using hS3⟩).mono ?_
      rintro v w' ⟨K, x, O2, hl2, hx, h8, rfl⟩
      -- back to what was known
      have h9 := h8.drops
      refine ⟨I, x, O, .refl _, AV.plain_rep hr hx, ⟨ht, L, hL, ?_⟩, rfl, rfl⟩
      have hw : SL I.k ((b, .cells (us ++ junk).toArray T (0, 0)) :: (B ++ F)) E w' := by
        refine ⟨h9.os, h9.output, h9.tape, fun q o hq => h9.pers q o (hl2.k _ _ (hle'.k _ _ hq)), ?_, hSp.nodup, hSp.apart, hSp.base, hSp.flat, hSp.oflat⟩
        intro q hq
        rcases List.mem_cons.1 hq with rfl | hq
        · exact h9.pers _ _ (hl2.k _ _ hbk)
        · exact h9.own q hq
      exact hw.perm (by
        have : (L ++ F).Perm ([(b, Obj.cells (us ++ junk).toArray T (0, 0))] ++ (B ++ F)) := by rw [← List.append_assoc]; exact hp.append_right F
        simpa using this)
end Go.Proofs.YtlfhoiakmbcnlaaDoor
