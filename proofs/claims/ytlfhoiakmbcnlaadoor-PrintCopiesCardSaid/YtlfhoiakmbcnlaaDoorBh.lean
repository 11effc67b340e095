/- What is new and shared with nobody: known by its own memory alone; a look at it; what becomes of it when it is changed. No conditions but bounds. -/
import Derived.Test.YtlfhoiakmbcnlaaDoorBg
namespace Go.Proofs.YtlfhoiakmbcnlaaDoor

/-! ### New memory -/
/-- What is known beside what was there at first. -/
def gdiff (J : Ghost) (E : World) : Ghost := fun b => match E.heap[b]? with
  | none => J b
  | some _ => none
theorem gdiff_some {J : Ghost} {E : World} {b : Nat} {o : Obj} (h : gdiff J E b = some o) : E.heap[b]? = none ∧ J b = some o := by
  unfold gdiff at h
  cases hE : E.heap[b]? with
  | none => rw [hE] at h; exact ⟨rfl, h⟩
  | some x => rw [hE] at h; cases h
theorem gdiff_le {I J : Ghost} (E : World) (h : I.le J) : (gdiff I E).le (gdiff J E) := fun b o hb => by
  obtain ⟨h1, h2⟩ := gdiff_some hb
  unfold gdiff
  rw [h1]; exact h _ _ h2
def GD (J : Ghost) (E : World) : G := ⟨gdiff J E, fun _ => none⟩
theorem GD.le {I J : Ghost} (E : World) (h : I.le J) : (GD I E).le (GD J E) := ⟨gdiff_le E h, fun _ _ h => by cases h⟩
/-- It stands in memory that was not there at first. -/
def newv (E : World) (x : AV) : AV := .ext fun J v => RepV (GD J E) x v
theorem newv_mk {I : G} {E : World} {x : AV} {v : Value} (hc : v.oneCell' = true) (h : RepV (GD I.k E) x v) : RepV I (newv E x) v := ⟨hc, fun _ hJ => RepV.mono (GD.le E hJ) _ _ h⟩
theorem newv_rep {I : G} {E : World} {x : AV} {v : Value} (h : RepV I (newv E x) v) : RepV (GD I.k E) x v := h.2 _ (.refl _)

/-- What is told by the one is told of new memory by the other. -/
def Up (E : World) (xs ys : List AV) : Prop := ∀ (I : G) vs, RepL I xs vs → RepL (GD I.k E) ys vs
theorem Up.nil {E : World} : Up E [] [] := fun _ _ h => h
theorem Up.int {E : World} {k : IntKind} {n : Int} {xs ys : List AV} (h : Up E xs ys) : Up E (.int k n :: xs) (.int k n :: ys) := fun I _ ⟨v, us, e, h1, h2⟩ => ⟨v, us, e, h1, h I us h2⟩
theorem Up.str {E : World} {s : ByteArray} {xs ys : List AV} (h : Up E xs ys) : Up E (.str s :: xs) (.str s :: ys) := fun I _ ⟨v, us, e, h1, h2⟩ => ⟨v, us, e, h1, h I us h2⟩
theorem Up.new {E : World} {x : AV} {xs ys : List AV} (h : Up E xs ys) : Up E (newv E x :: xs) (x :: ys) := fun I _ ⟨v, us, e, h1, h2⟩ => ⟨v, us, e, newv_rep h1, h I us h2⟩
theorem Up.append {E : World} {a b c d : List AV} (h1 : Up E a c) (h2 : Up E b d) : Up E (a ++ b) (c ++ d) := fun I vs h => by
  have e1 := h.take a.length
  have e2 := h.drop a.length
  rw [List.take_left] at e1
  rw [List.drop_left] at e2
  have := (h1 I _ e1).append (h2 I _ e2)
  rwa [List.take_append_drop] at this
theorem Up.map {E : World} {α : Type} {enc enc' : α → List AV} (h : ∀ x, Up E (enc x) (enc' x)) : ∀ l : List α, Up E (l.map enc).flatten (l.map enc').flatten
  | [] => Up.nil
  | x :: l => by simpa using (h x).append (Up.map h l)

section
variable {E : World} {P : Program} {n : Nat} {env : AEnv} {O O' O'' : OL} {i k m : Nat} {T : TypeId} {rows rows' : List (List AV)}
/-- What one owns is known henceforth, as new. -/
theorem knowN {I : G} {F : List (Nat × Obj)} {w : World} (hO : Pick O i (.grow k T rows.flatten) O') (hk : ∀ r ∈ rows, r.length = k) (hk' : ∀ r ∈ rows', r.length = k) (hk0 : 0 < k) (hm : rows.length = m) (hm' : rows'.length = m) (hu : Up E rows.flatten rows'.flatten) (h : SLA I O F E w) :
    ∃ J, I.le J ∧ SLA J O' F E w ∧ ∀ v, RepV I (.own i m) v → RepV J (newv E (.fro k rows')) v := by
  obtain ⟨ht, L, hL, hS⟩ := h
  obtain ⟨A, B, hp, ⟨b, c, n, vs, e1, hvs, hvc, hown⟩, hB⟩ := hO.rep hL
  simp only at e1
  have hS2 : SL I.k (A ++ (B ++ F)) E w := hS.perm (by rw [← List.append_assoc]; exact (hp.append_right F).symm)
  have hflat := flat_len hk
  have hnm : n = m := by
    have h5 := hown.1
    have h6 := hvs.length
    have : n * k = m * k := by rw [← hm]; omega
    exact Nat.eq_of_mul_eq_mul_right hk0 this
  subst hnm
  obtain ⟨h5, h6, h7⟩ := hown
  rcases h7 with ⟨ea, rfl, rfl⟩ | ⟨b', junk, ea, rfl, hj⟩
  · refine ⟨I, .refl _, ⟨ht, B, hB, by simpa using hS2⟩, ?_⟩
    rintro v ⟨b2, c2, e2, rfl⟩
    rw [e1] at e2
    simp only [Option.some.injEq, Prod.mk.injEq] at e2
    obtain ⟨rfl, rfl⟩ := e2
    have h0 : rows' = [] := List.eq_nil_of_length_eq_zero (by omega)
    subst h0
    exact newv_mk rfl ⟨adr b, n, 0, rfl, hm'.symm, h6, fun _ => rfl, trivial⟩
  · cases b with
    | none => simp [adr] at ea
    | some b =>
      simp [adr] at ea
      subst ea
      have hS2' : SL I.k ((b, .cells (vs ++ junk).toArray T (0, 0)) :: (B ++ F)) E w := by simpa using hS2
      obtain ⟨hl, hS3⟩ := SL.freeze hS2'
      let J : G := ⟨I.k.put b (.cells (vs ++ junk).toArray T (0, 0)), I.h⟩
      have hle : I.le J := ⟨hl, fun _ _ h => h⟩
      have hE : E.heap[b]? = none := by
        cases hEb : E.heap[b]? with
        | none => rfl
        | some o =>
          have h8 := hS2'.base _ _ hEb
          have h9 := hS2'.apart _ (.head _)
          simp only at h9
          rw [h9] at h8; cases h8
      have hb : (GD J.k E).k b = some (.cells (vs ++ junk).toArray T (0, 0)) := by
        show gdiff _ E b = _
        unfold gdiff; rw [hE]; exact Ghost.put_same _ _ _
      refine ⟨J, hle, ⟨ht, B, hB.mono hle, hS3⟩, ?_⟩
      rintro v ⟨b2, c2, e2, rfl⟩
      rw [e1] at e2
      simp only [Option.some.injEq, Prod.mk.injEq] at e2
      obtain ⟨rfl, rfl⟩ := e2
      refine newv_mk rfl ⟨adr (some b), n, c, rfl, hm'.symm, h6, fun h => by simp [adr] at h, RepR.of_flat hb rows' vs 0 hk' (hu J _ (RepL.mono hle _ _ hvs)) fun i u hu => ?_⟩
      rw [Nat.zero_mul, Nat.zero_add, List.getElem?_toArray, List.getElem?_append_left (List.getElem?_eq_some_iff.1 hu).1]
      exact hu
theorem ACall.frozenN {f : FuncId} {us : List AV} (h : ACall P E f us [] (fun y O' => ∃ i : Nat, y = .own i m ∧ Left O' [(i, .grow k T rows.flatten)] ∧ True)) (hk : ∀ r ∈ rows, r.length = k) (hk' : ∀ r ∈ rows', r.length = k) (hk0 : 0 < k) (hm : rows.length = m) (hm' : rows'.length = m) (hu : Up E rows.flatten rows'.flatten) : AFun P E f us (newv E (.fro k rows')) :=
  h.know fun I F w v y O' ⟨i, e, hl, _⟩ h1 h2 => by
    subst e
    obtain ⟨J, h3, h4, h5⟩ := Go.Proofs.YtlfhoiakmbcnlaaDoor.knowN .head hk hk' hk0 hm hm' hu (hl.sla h2)
    exact ⟨J, _, [], h3, h5 _ h1, h4, rfl⟩
/-- What a cell leads to is known henceforth, as new. -/
theorem GStep.knowCN {j off : Nat} {T' : TypeId} {cs : List AV} (hO : Pick O i (.grow k T rows.flatten) O') (hP : Put O' j (.cells T' cs) (.cells T' (cs.set off (newv E (.fro k rows')))) O'') (hc : cs[off]? = some (.own i m))
    (hk : ∀ r ∈ rows, r.length = k) (hk' : ∀ r ∈ rows', r.length = k) (hk0 : 0 < k) (hm : rows.length = m) (hm' : rows'.length = m) (hu : Up E rows.flatten rows'.flatten) : GStep E env O env O'' := fun I F ρ w h1 h2 => by
  obtain ⟨J, hle, h3, h4⟩ := Go.Proofs.YtlfhoiakmbcnlaaDoor.knowN hO hk hk' hk0 hm hm' hu h2
  obtain ⟨ht, L, hL, hS⟩ := h3
  obtain ⟨_, L0, hL0, hS0⟩ := h2
  obtain ⟨A, B, hp, ⟨b, c, vs, e1, hvs, hvc, rfl⟩, hback⟩ := hP.rep hL
  obtain ⟨A0, B0, hp0, _, hB0⟩ := hO.rep hL0
  obtain ⟨A1, B1, hp1, ⟨b1, c1, vs1, e2, hvs1, hvc1, rfl⟩, _⟩ := hP.rep hB0
  have e3 := hle.h _ _ e2
  simp only at e1 e3
  rw [e1] at e3
  simp only [Option.some.injEq, Prod.mk.injEq] at e3
  obtain ⟨rfl, rfl⟩ := e3
  have hS1 : SL I.k (A0 ++ (B0 ++ F)) E w := hS0.perm (by rw [← List.append_assoc]; exact (hp0.append_right F).symm)
  have hv1 := hS1.own (b, .cells vs1.toArray T' (0, 0)) (by simp; right; left; exact hp1.mem_iff.2 (by simp))
  have hv := hS.own (b, .cells vs.toArray T' (0, 0)) (by simp; left; exact hp.mem_iff.2 (by simp))
  simp only at hv hv1
  rw [hv] at hv1
  simp only [Option.some.injEq, Obj.cells.injEq] at hv1
  have hvv : vs = vs1 := by have := congrArg Array.toList hv1.1; simpa using this
  subst hvv
  obtain ⟨L', h5, h6⟩ := hback (G.le.refl J) (A' := [(b, .cells vs.toArray T' (0, 0))]) ⟨b, c, vs, e1, hvs1.same hle hc h4, hvc, rfl⟩
  exact ⟨J, hle, h1.mono hle, ht, L', h5, hS.perm (((h6.trans hp.symm).append_right F))⟩
end

/-! ### A pool: memory that is one's own, whole -/
def LG (L : List (Nat × Obj)) : G := ⟨fun b => L.lookup b, fun _ => none⟩
/-- It stands in just this memory. -/
def inp (L : List (Nat × Obj)) (x : AV) : AV := .ext fun _ v => RepV (LG L) x v
theorem inp_rep {I : G} {L : List (Nat × Obj)} {x : AV} {v : Value} (h : RepV I (inp L x) v) : RepV (LG L) x v := h.2 _ (.refl _)
theorem inp_mk {I : G} {L : List (Nat × Obj)} {x : AV} {v : Value} (hc : v.oneCell' = true) (h : RepV (LG L) x v) : RepV I (inp L x) v := ⟨hc, fun _ _ => h⟩

theorem RepOs.heap1 {I : G} {i : Nat} {p : List (Nat × Obj) → Prop} {L : List (Nat × Obj)} (h : p L) : RepOs I [(i, .heap p)] L := by
  show ∃ A B, L = A ++ B ∧ RepO I (i, .heap p) A ∧ RepOs I [] B
  exact ⟨L, [], by simp, h, rfl⟩
theorem lookup_mem {L : List (Nat × Obj)} {b : Nat} {o : Obj} (h : L.lookup b = some o) : (b, o) ∈ L := by
  induction L with
  | nil => cases h
  | cons x L ih =>
    obtain ⟨c, p⟩ := x
    rw [List.lookup_cons] at h
    cases hb : b == c with
    | true => rw [hb] at h; cases h; have : b = c := by simpa using hb
              subst this; exact .head _
    | false => rw [hb] at h; exact .tail _ (ih h)
theorem lookup_of_mem {L : List (Nat × Obj)} (hn : (L.map (·.1)).Nodup) {b : Nat} {o : Obj} (h : (b, o) ∈ L) : L.lookup b = some o := by
  induction L with
  | nil => cases h
  | cons x L ih =>
    obtain ⟨c, p⟩ := x
    simp only [List.map_cons, List.nodup_cons] at hn
    rw [List.lookup_cons]
    rcases List.mem_cons.1 h with h | h
    · cases h; simp
    · have : ¬ b = c := fun e => hn.1 (e ▸ List.mem_map.2 ⟨_, h, rfl⟩)
      have : (b == c) = false := by simpa using this
      rw [this]; exact ih hn.2 h

def poolOf (J : Ghost) (E w : World) : List (Nat × Obj) := (List.range w.heap.size).filterMap fun b => (gdiff J E b).map fun o => (b, o)
theorem mem_pool {J : Ghost} {E w : World} {b : Nat} {o : Obj} : (b, o) ∈ poolOf J E w ↔ b < w.heap.size ∧ gdiff J E b = some o := by
  unfold poolOf
  simp only [List.mem_filterMap, List.mem_range, Option.map_eq_some_iff, Prod.mk.injEq]
  constructor
  · rintro ⟨a, h1, p, h2, rfl, rfl⟩; exact ⟨h1, h2⟩
  · rintro ⟨h1, h2⟩; exact ⟨b, h1, o, h2, rfl, rfl⟩
theorem keys_sub (g : Nat → Option Obj) : ∀ l : List Nat, ((l.filterMap fun b => (g b).map fun o => (b, o)).map (·.1)).Sublist l
  | [] => .slnil
  | a :: l => by
    rw [List.filterMap_cons]
    cases g a with
    | none => exact (keys_sub g l).cons _
    | some o => exact (keys_sub g l).cons_cons _
theorem pool_nodup (J : Ghost) (E w : World) : ((poolOf J E w).map (·.1)).Nodup := (keys_sub _ _).nodup List.nodup_range

section
variable {E : World} {P : Program} {f : FuncId} {us bs : List AV} {r : AV}
theorem RepL.imp {I J : G} {g h : AV → AV} (hi : ∀ c v, RepV I (g c) v → RepV J (h c) v) : ∀ (cs : List AV) (vs : List Value), RepL I (cs.map g) vs → RepL J (cs.map h) vs
  | [], _, e => e
  | _ :: cs, _, ⟨v, us, e, h1, h2⟩ => ⟨v, us, e, hi _ _ h1, RepL.imp hi cs us h2⟩

/-- What is made new, whatever was there, is a pool of one's own. -/
theorem ACall.pool {cs : List AV} (h : ∀ E', AFun P E' f us (.agg (cs.map (newv E')))) : ACall P E f us [] (fun x O' => ∃ L, x = .agg (cs.map (inp L)) ∧ O' = [(0, .heap (fun L' => L' = L))]) := fun I F w vs h1 h2 => by
  obtain ⟨ht, L0, hL0, hS⟩ := h2
  have hL0 : L0 = [] := hL0
  subst hL0
  have hS : SL I.k F E w := by simpa using hS
  have hle : I.le ⟨full w, I.h⟩ := ⟨hS.pers, fun _ _ h => h⟩
  refine (h w ⟨full w, I.h⟩ [] w vs (RepL.mono hle _ _ h1) ⟨ht, [], rfl, by simpa using full_sl w⟩).mono ?_
  rintro v w' ⟨J, x, O2, hl, hx, hJ, rfl⟩
  have hJ2 : SL J.k [] w w' := by
    obtain ⟨_, L2, _, h5⟩ := hJ
    exact h5.sub (List.nil_sublist _)
  have hF : ∀ y ∈ F, w.heap[y.1]? = some y.2 := hS.own
  have hSL : SL I.k (poolOf J.k w w' ++ F) E w' := by
    refine ⟨hJ2.os.trans hS.os, hJ2.output.trans hS.output, hJ2.tape.trans hS.tape, fun b o hb => hJ2.pers _ _ (hl.k _ _ (hS.pers _ _ hb)), ?_, ?_, ?_, hS.base, hS.flat, ?_⟩
    · rintro ⟨b, o⟩ hy
      rcases List.mem_append.1 hy with hy | hy
      · exact hJ2.pers _ _ (gdiff_some (mem_pool.1 hy).2).2
      · exact hJ2.pers _ _ (hl.k _ _ (hF _ hy))
    · rw [List.map_append, List.nodup_append]
      refine ⟨pool_nodup _ _ _, hS.nodup, ?_⟩
      intro a ha b hb e
      subst e
      obtain ⟨⟨a1, o⟩, h3, rfl⟩ := List.mem_map.1 ha
      obtain ⟨y, h4, h5⟩ := List.mem_map.1 hb
      have h6 := (gdiff_some (mem_pool.1 h3).2).1
      have h7 := hF _ h4
      rw [h5] at h7
      simp only at h7
      rw [h6] at h7; cases h7
    · rintro ⟨b, o⟩ hy
      rcases List.mem_append.1 hy with hy | hy
      · have h6 := (gdiff_some (mem_pool.1 hy).2).1
        cases hI : I.k b with
        | none => rfl
        | some o' => have := hS.pers _ _ hI; rw [h6] at this; cases this
      · exact hS.apart _ hy
    · rintro ⟨b, o⟩ hy
      rcases List.mem_append.1 hy with hy | hy
      · have h6 := gdiff_some (mem_pool.1 hy).2
        exact hJ2.flat _ _ h6.2 h6.1
      · exact hS.oflat _ hy
  obtain ⟨us, e, hus⟩ := hx
  have hG : (GD J.k w).le (LG (poolOf J.k w w')) := ⟨fun b o hb => lookup_of_mem (pool_nodup _ _ _) (mem_pool.2 ⟨lt_of_some (hJ2.pers _ _ (gdiff_some hb).2), hb⟩), fun _ _ h => by cases h⟩
  refine ⟨I, .agg (cs.map (inp (poolOf J.k w w'))), [(0, .heap (fun L' => L' = poolOf J.k w w'))], .refl _, ⟨us, e, RepL.imp (fun c v (hv : RepV J (newv w c) v) => inp_mk hv.1 (RepV.mono hG _ _ (newv_rep hv))) cs us hus⟩, ⟨ht, poolOf J.k w w', ?_, hSL⟩, _, rfl, rfl⟩
  exact RepOs.heap1 rfl

/-- What is known, and this memory. -/
def gplus (J : Ghost) (L : List (Nat × Obj)) : Ghost := fun b => match L.lookup b with
  | some o => some o
  | none => J b
theorem SL.freezeAll {I : Ghost} {L F : List (Nat × Obj)} {w : World} (h : SL I (L ++ F) E w) : I.le (gplus I L) ∧ SL (gplus I L) F E w := by
  have hn := h.nodup
  rw [List.map_append, List.nodup_append] at hn
  obtain ⟨n1, n2, n3⟩ := hn
  have key : ∀ b o, I b = some o → gplus I L b = some o := fun b o hb => by
    unfold gplus
    cases hL : L.lookup b with
    | none => exact hb
    | some o' =>
      have := h.apart _ (List.mem_append_left _ (lookup_mem hL))
      simp only at this
      rw [this] at hb; cases hb
  have inv : ∀ b o, gplus I L b = some o → (b, o) ∈ L ∨ I b = some o := fun b o hb => by
    unfold gplus at hb
    cases hL : L.lookup b with
    | none => rw [hL] at hb; exact .inr hb
    | some o' => rw [hL] at hb; cases hb; exact .inl (lookup_mem hL)
  refine ⟨key, h.os, h.output, h.tape, fun b o hb => ?_, fun x hx => h.own x (List.mem_append_right _ hx), n2, fun x hx => ?_, fun b o hb => key _ _ (h.base _ _ hb), fun b o hb he => ?_, fun x hx => h.oflat x (List.mem_append_right _ hx)⟩
  · rcases inv _ _ hb with hb | hb
    · exact h.own _ (List.mem_append_left _ hb)
    · exact h.pers _ _ hb
  · cases hg : gplus I L x.1 with
    | none => rfl
    | some o =>
      rcases inv _ _ hg with hb | hb
      · exact absurd rfl (n3 _ (List.mem_map.2 ⟨_, hb, rfl⟩) _ (List.mem_map.2 ⟨x, hx, rfl⟩))
      · rw [h.apart x (List.mem_append_right _ hx)] at hb; cases hb
  · rcases inv _ _ hb with hb | hb
    · exact h.oflat _ (List.mem_append_left _ hb)
    · exact h.flat _ _ hb he

/-- A look into a pool, by a function that answers plainly. -/
theorem ACall.lookL {L : List (Nat × Obj)} (hc : AFun P E f bs r) (hr : r.plain = true) (hb : ∀ (I J : G) vs, I.le J → (LG L).le J → RepL I us vs → RepL J bs vs) :
    ACall P E f us [(0, .heap (fun L' => L' = L))] (fun x O' => x = r ∧ O' = [(0, .heap (fun L' => L' = L))]) := fun I F w vs h1 h2 => by
  obtain ⟨ht, L0, ⟨A, B, hA, hA1, hB1⟩, hS⟩ := id h2
  have hA1 : A = L := hA1
  have hB1 : B = [] := hB1
  subst hA hA1 hB1
  have hS : SL I.k (A ++ F) E w := by simpa using hS
  obtain ⟨hl, hS3⟩ := hS.freezeAll
  have hn := hS.nodup
  rw [List.map_append, List.nodup_append] at hn
  let J : G := ⟨gplus I.k A, I.h⟩
  have hle : I.le J := ⟨hl, fun _ _ h => h⟩
  have hLJ : (LG A).le J := ⟨fun b o hb => by
    show gplus I.k A b = _
    unfold gplus
    rw [show A.lookup b = some o from hb], fun _ _ h => by cases h⟩
  refine (hc J F w vs (hb I J vs hle hLJ h1) ⟨ht, [], rfl, by simpa using hS3⟩).mono ?_
  rintro v w' ⟨K, x, O2, hl2, hx, h8, rfl⟩
  have h9 : SL K.k F E w' := by
    obtain ⟨_, L2, _, h5⟩ := h8
    exact h5.sub (List.sublist_append_right _ _)
  refine ⟨I, x, [(0, .heap (fun L' => L' = A))], .refl _, AV.plain_rep hr hx, ⟨ht, A ++ [], by rw [List.append_nil]; exact RepOs.heap1 rfl, ?_⟩, rfl, rfl⟩
  have : SL I.k (A ++ F) E w' := by
    refine ⟨h9.os, h9.output, h9.tape, fun q o hq => h9.pers q o (hl2.k _ _ (hl _ _ hq)), fun y hy => ?_, hS.nodup, hS.apart, hS.base, hS.flat, hS.oflat⟩
    rcases List.mem_append.1 hy with hy | hy
    · exact h9.pers _ _ (hl2.k _ _ (hLJ.k _ _ (lookup_of_mem hn.1 hy)))
    · exact h9.own y hy
  simpa using this
theorem ACall.lookL1 {L : List (Nat × Obj)} {cs xs : List AV} (hc : AFun P E f (.agg cs :: xs) r) (hr : r.plain = true) : ACall P E f (.agg (cs.map (inp L)) :: xs) [(0, .heap (fun L' => L' = L))] (fun x O' => x = r ∧ O' = [(0, .heap (fun L' => L' = L))]) :=
  ACall.lookL hc hr fun I J vs hIJ hLJ ⟨v, us, e, ⟨ws, e2, h1⟩, h2⟩ => ⟨v, us, e, ⟨ws, e2, by
    have := RepL.imp (J := J) (h := id) (fun c v (hv : RepV I (inp L c) v) => RepV.mono hLJ _ _ (inp_rep hv)) cs ws h1
    rwa [List.map_id] at this⟩, RepL.mono hIJ _ _ h2⟩
end

/-! ### A pool that is changed: numbers change, texts grow, what leads on stays -/
def TurnV (B : Nat) : Value → Value → Prop
  | .int k _, v' => ∃ n, v' = .int k n
  | .string s, v' => ∃ s', v' = .string s' ∧ s'.size ≤ s.size + B
  | v, v' => v' = v
def TurnO (B : Nat) : Obj → Obj → Prop
  | .cells c T _, o' => ∃ c' : Array Value, o' = .cells c' T (0, 0) ∧ c'.size = c.size ∧ ∀ (i : Nat) v, c[i]? = some v → ∃ v', c'[i]? = some v' ∧ TurnV B v v'
  | o, o' => o' = o
def Turned (B : Nat) : List (Nat × Obj) → List (Nat × Obj) → Prop
  | [], L' => L' = []
  | (b, o) :: L, L' => ∃ o' R, L' = (b, o') :: R ∧ TurnO B o o' ∧ Turned B L R
theorem TurnV.refl (B : Nat) (v : Value) : TurnV B v v := by
  cases v <;> first | exact rfl | exact ⟨_, rfl⟩ | exact ⟨_, rfl, Nat.le_add_right _ _⟩
theorem TurnV.more {B B' : Nat} (h : B ≤ B') {v v' : Value} (hv : TurnV B v v') : TurnV B' v v' := by
  cases v <;> first | exact hv | (obtain ⟨s', e, hs⟩ := hv; exact ⟨s', e, by omega⟩)
theorem TurnO.more {B B' : Nat} (h : B ≤ B') {v v' : Obj} (hv : TurnO B v v') : TurnO B' v v' := by
  cases v <;> first | exact hv | (obtain ⟨s', e, hs, h2⟩ := hv; exact ⟨s', e, hs, fun i v hi => let ⟨v', a, b⟩ := h2 i v hi; ⟨v', a, b.more h⟩⟩)
theorem Turned.more {B B' : Nat} (h : B ≤ B') : ∀ {L L' : List (Nat × Obj)}, Turned B L L' → Turned B' L L'
  | [], _, e => e
  | _ :: _, _, ⟨o', R, e, h1, h2⟩ => ⟨o', R, e, h1.more h, Turned.more h h2⟩
theorem Turned.refl (B : Nat) : ∀ {L : List (Nat × Obj)}, (∀ y ∈ L, flatO y.2) → Turned B L L
  | [], _ => rfl
  | (b, o) :: L, h => ⟨o, L, rfl, by
      have := h (b, o) (.head _)
      cases o <;> first | exact rfl | (have this : _ = (0, 0) := this; subst this; exact ⟨_, rfl, rfl, fun i v hv => ⟨v, hv, .refl _ _⟩⟩), Turned.refl B fun y hy => h y (.tail _ hy)⟩
theorem Turned.at {B : Nat} {b : Nat} {c : Array Value} {T : TypeId} {fz : Nat × Nat} : ∀ {L L' : List (Nat × Obj)}, Turned B L L' → L.lookup b = some (.cells c T fz) →
    ∃ c' X Y, L' = X ++ (b, .cells c' T (0, 0)) :: Y ∧ c'.size = c.size ∧ (∀ (i : Nat) v, c[i]? = some v → ∃ v', c'[i]? = some v' ∧ TurnV B v v') ∧
      ∀ B' (c'' : Array Value), B ≤ B' → c''.size = c.size → (∀ (i : Nat) v, c[i]? = some v → ∃ v', c''[i]? = some v' ∧ TurnV B' v v') → Turned B' L (X ++ (b, .cells c'' T (0, 0)) :: Y)
  | [], _, _, h => by cases h
  | (a, o) :: L, L', ⟨o', R, e, h1, h2⟩, h => by
    rw [List.lookup_cons] at h
    cases hb : b == a with
    | true =>
      rw [hb] at h
      cases h
      have hba : b = a := by simpa using hb
      subst hba
      obtain ⟨c', rfl, hs, hc⟩ := h1
      exact ⟨c', [], R, e, hs, hc, fun B' c'' hB hs' hc' => ⟨_, R, rfl, ⟨c'', rfl, hs', hc'⟩, h2.more hB⟩⟩
    | false =>
      rw [hb] at h
      obtain ⟨c', X, Y, rfl, hs, hc, hk⟩ := Turned.at h2 h
      exact ⟨c', (a, o') :: X, Y, e, hs, hc, fun B' c'' hB hs' hc' => ⟨o', _, rfl, h1.more hB, hk B' c'' hB hs' hc'⟩⟩

section
variable {E : World} {P : Program} {n : Nat} {ops : Array Oper} {K : AEnv → OL → Prop} {env : AEnv} {O O' : OL} {rest : List Oper}
variable {d ty : Nat} {pos : String} {af : Array Edge} {t e : TypeId} {x y : Operand} {L : List (Nat × Obj)}
theorem GStep.turn (hP : Put O 0 (.heap (fun L' => L' = L)) (.heap (Turned 0 L)) O') : GStep E env O env O' := fun I F ρ w h1 ⟨ht, L0, hL, hS⟩ => by
  obtain ⟨A, B, hp, hA, hback⟩ := hP.rep hL
  have hA : A = L := hA
  subst hA
  obtain ⟨L', h3, h4⟩ := hback (G.le.refl I) (A' := A) (Turned.refl 0 fun y hy => hS.oflat y (List.mem_append_left _ (hp.mem_iff.2 (List.mem_append_left _ hy))))
  exact ⟨I, .refl _, h1, ht, L', h3, hS.perm ((h4.trans hp.symm).append_right F)⟩

theorem Gv.lenX {α : Type} {enc : α → List AV} {xs : List α} {k : Nat} (ht : P.underlying t = some (.slice e)) (hx : aev env x = inp L (.fro k (xs.map enc))) : Gv P env O (Oper.mk (some d) (.call { callee := .builtin .len, args := #[x], argTypes := #[t] }) ty pos af none) (.int .i64 xs.length) := Gv.ofEv fun I ρ h => by
  have h2 := h.ev x
  rw [hx] at h2
  obtain ⟨a, n, c, e, hn, _⟩ := inp_rep h2
  rw [List.length_map] at hn
  subst hn
  exact ⟨_, rfl, fun _ => Run.lenS ht e⟩
theorem Gv.nilCheckX {cs : List AV} (hx : aev env x = inp L (.pf cs)) : Gv P env O (Oper.mk (some d) (.nilCheck x) ty pos af none) (inp L (.pf cs)) := Gv.ofEv fun I ρ h => by
  have h2 := h.ev x
  rw [hx] at h2
  obtain ⟨b, off, vs, e, h3⟩ := inp_rep h2
  rw [e] at h2
  exact ⟨_, h2, fun _ => Run.nilCheck e⟩
theorem Gv.fieldX {fs : Array Field} {f : Field} {i sz : Nat} {cs cs' : List AV} (ht : P.underlying t = some (.struct fs)) (hf : fs[i]? = some f) (hs : ∀ w, (sizeOf f.type).run P w = .ok sz w) (hz : sz ≠ 0)
    (hx : aev env x = inp L (.pf cs)) (hr : cs.drop f.offset = cs') : Gv P env O (Oper.mk (some d) (.fieldAddr t x i) ty pos af none) (inp L (.pf cs')) := fun I L' E ρ h1 _ => by
  have h2 := h1.ev x
  rw [hx] at h2
  obtain ⟨b, off, vs, e, h3, h5⟩ := inp_rep h2
  refine ⟨.pointer (some ⟨b, off + f.offset, none⟩), inp_mk rfl ⟨b, _, vs.drop f.offset, rfl, hr ▸ h3.drop _, fun j u hj => ?_⟩, fun w J L' _ _ _ => Run.field ht hf hs hz e rfl⟩
  rw [List.getElem?_drop] at hj
  have := h5 _ _ hj
  rwa [← Nat.add_assoc] at this
theorem Gv.idxX {α : Type} {enc : α → List AV} {xs : List α} {k j : Nat} {i : Int} {v : α} (ht : P.underlying t = some (.slice e)) (hs : ∀ w, (sizeOf e).run P w = .ok k w) (hx : aev env x = inp L (.fro k (xs.map enc))) (hy : aev env y = .int .i64 i) (hi : i = (j : Int)) (hj : xs[j]? = some v) :
    Gv P env O (Oper.mk (some d) (.indexAddr t x y) ty pos af none) (inp L (.pf (enc v))) := fun I L' E ρ h1 _ => by
  have h2 := h1.ev x
  rw [hx] at h2
  obtain ⟨a, n, c, ex, hn, _, _, h3⟩ := inp_rep h2
  obtain ⟨b, off, vs, rfl, h4, h5, h6⟩ := h3.get (r := enc v) (j := j) (by rw [List.getElem?_map, hj]; rfl)
  have hlt : j < n := by rw [hn, List.length_map]; exact (List.getElem?_eq_some_iff.1 hj).1
  refine ⟨.pointer (some ⟨b, off + j * k, none⟩), inp_mk rfl ⟨b, _, vs, rfl, h5, fun i u hu => ?_⟩, fun w J L' _ _ _ => Run.idx ht hs ex (evI h1 hy) hi hlt⟩
  have := h6 i u hu
  rwa [Nat.zero_add] at this

/-- A cell of a pool, as it stands now. -/
theorem pool_cell {I : G} {B : Nat} {c : AV} {cs : List AV} {v : Value} {L0 : List (Nat × Obj)} (hO : Has O 0 (.heap (Turned B L))) (hL : RepOs I O L0) (hx : RepV (LG L) (.pf (c :: cs)) v) :
    ∃ b off v0 v1, v = .pointer (some ⟨b, off, none⟩) ∧ RepV (LG L) c v0 ∧ TurnV B v0 v1 ∧ ∃ c' T, (b, Obj.cells c' T (0, 0)) ∈ L0 ∧ c'[off]? = some v1 := by
  obtain ⟨b, off, vs, e, ⟨v0, us, e2, h3, h4⟩, h5⟩ := hx
  subst e2
  obtain ⟨cc, T, fz, hb, hv⟩ := h5 0 v0 rfl
  obtain ⟨O', hO⟩ := hO
  obtain ⟨A, B', hp, hA, _⟩ := hO.rep hL
  obtain ⟨c', X, Y, hE, hs, hc, _⟩ := Turned.at (hA : Turned B L A) hb
  obtain ⟨v1, h6, h7⟩ := hc _ _ hv
  exact ⟨b, off, v0, v1, e, h3, h7, c', T, hp.mem_iff.2 (List.mem_append_left _ (by rw [hE]; simp)), h6⟩
theorem Gv.loadX {B k : Nat} {rows : List (List AV)} {cs : List AV} (ha : ∀ w, (isAgg t).run P w = .ok false w) (hx : aev env x = inp L (.pf (.fro k rows :: cs))) (hO : Has O 0 (.heap (Turned B L))) : Gv P env O (Oper.mk (some d) (.load t x) ty pos af none) (inp L (.fro k rows)) := fun I L0 E ρ h1 hL => by
  have h2 := h1.ev x
  rw [hx] at h2
  obtain ⟨b, off, v0, v1, e, h3, h4, c', T, h5, h6⟩ := pool_cell hO hL (inp_rep h2)
  obtain ⟨a, m, c, e1, _⟩ := id h3
  subst e1
  have h4 : v1 = _ := h4
  subst h4
  exact ⟨_, inp_mk rfl h3, fun w J L' hl hS hm => Run.load1 ha hS e (.inr ⟨_, _, _, hm _ h5, h6⟩)⟩
theorem AOps.loadXI {B : Nat} {kk : IntKind} {n0 : Int} {cs : List AV} (ha : ∀ w, (isAgg t).run P w = .ok false w) (hx : aev env x = inp L (.pf (.int kk n0 :: cs))) (hO : Has O 0 (.heap (Turned B L))) (k : ∀ m, AOps P E ops K rest (aupd env d (.int kk m)) O) :
    AOps P E ops K (Oper.mk (some d) (.load t x) ty pos af none :: rest) env O := fun I F ρ w h1 h2 => by
  obtain ⟨ht, L0, hL, hS⟩ := id h2
  have h3 := h1.ev x
  rw [hx] at h3
  obtain ⟨b, off, v0, v1, e, h3, h4, c', T, h5, h6⟩ := pool_cell hO hL (inp_rep h3)
  have h3 : v0 = _ := h3
  subst h3
  obtain ⟨m, rfl⟩ := h4
  exact Ops.val (Run.load1 ha hS e (.inr ⟨_, _, _, List.mem_append_left _ h5, h6⟩)) (k m I F _ w (h1.upd d rfl) h2)
theorem AOps.loadXS {B : Nat} {s : ByteArray} {cs : List AV} (ha : ∀ w, (isAgg t).run P w = .ok false w) (hx : aev env x = inp L (.pf (.str s :: cs))) (hO : Has O 0 (.heap (Turned B L))) (k : ∀ s' : ByteArray, s'.size ≤ s.size + B → AOps P E ops K rest (aupd env d (.str s')) O) :
    AOps P E ops K (Oper.mk (some d) (.load t x) ty pos af none :: rest) env O := fun I F ρ w h1 h2 => by
  obtain ⟨ht, L0, hL, hS⟩ := id h2
  have h3 := h1.ev x
  rw [hx] at h3
  obtain ⟨b, off, v0, v1, e, h3, h4, c', T, h5, h6⟩ := pool_cell hO hL (inp_rep h3)
  have h3 : v0 = _ := h3
  subst h3
  obtain ⟨m, rfl, hm⟩ := h4
  exact Ops.val (Run.load1 ha hS e (.inr ⟨_, _, _, List.mem_append_left _ h5, h6⟩)) (k m hm I F _ w (h1.upd d rfl) h2)
/-- A store into a pool. -/
theorem AOps.storeX {B B' : Nat} {c v : AV} {cs : List AV} (hs : ∀ w, (sizeOf t).run P w = .ok 1 w) (hx : aev env x = inp L (.pf (c :: cs))) (hy : aev env y = v) (hO : Put O 0 (.heap (Turned B L)) (.heap (Turned B' L)) O') (hB : B ≤ B')
    (hv : ∀ I v0 v1, RepV (LG L) c v0 → RepV I v v1 → v1.cells = #[v1] ∧ v1.oneCell' = true ∧ TurnV B' v0 v1) (k : AOps P E ops K rest env O') : AOps P E ops K (Oper.mk none (.store t x y) ty pos af none :: rest) env O := fun I F ρ w h1 h2 => by
  obtain ⟨htop, L0, hL, hS⟩ := h2
  have h3 := h1.ev x
  rw [hx] at h3
  have h4 := h1.ev y
  rw [hy] at h4
  obtain ⟨b, off, vs, ex, ⟨v0, us, e2, h5, _⟩, h6⟩ := inp_rep h3
  subst e2
  obtain ⟨cc, T, fz, hb, hcv⟩ := h6 0 v0 rfl
  rw [Nat.add_zero] at hcv
  obtain ⟨q1, q2, q3⟩ := hv _ _ _ h5 h4
  obtain ⟨A, R, hp, hA, hback⟩ := hO.rep hL
  obtain ⟨c', X, Y, rfl, hcs, hc, hnew⟩ := Turned.at (hA : Turned B L A) hb
  have hoff : off < cc.size := (Array.getElem?_eq_some_iff.1 hcv).1
  have hS2 : SL I.k ((b, .cells c'.toList.toArray T (0, 0)) :: (X ++ Y ++ (R ++ F))) E w := hS.perm (by
    refine List.Perm.trans ?_ (hp.append_right F).symm
    simp only [List.append_assoc, List.cons_append]
    exact (List.perm_middle).symm)
  have hrun := run_storeAt (P := P) (t := t) (b := b) (off := off) (v := Go.Proofs.YtlfhoiakmbcnlaaDoor.ev ρ y) (vs := [Go.Proofs.YtlfhoiakmbcnlaaDoor.ev ρ y]) (old := c'.toList) (w := w) hs (by rw [q1]) rfl (by simpa using q2) (by simp; omega) (hS2.own _ (.head _))
  refine Ops.step rfl ?_
  unfold OpW
  have : (execOp (Go.Proofs.YtlfhoiakmbcnlaaDoor.ev ρ) (Oper.mk none (.store t x y) ty pos af none)).run P w = .ok .skip (w.setRow b (c'.toList.take off ++ [Go.Proofs.YtlfhoiakmbcnlaaDoor.ev ρ y] ++ c'.toList.drop (off + 1)).toArray) := by
    simp only [execOp, ex]
    rw [Sem.run_bind, hrun]; rfl
  rw [this]
  have hlen : c'.toList.length = cc.size := by simpa using hcs
  have hset : c'.toList.take off ++ [Go.Proofs.YtlfhoiakmbcnlaaDoor.ev ρ y] ++ c'.toList.drop (off + 1) = c'.toList.set off (Go.Proofs.YtlfhoiakmbcnlaaDoor.ev ρ y) := by
    rw [List.set_eq_take_append_cons_drop, if_pos (by omega)]; simp
  rw [hset]
  obtain ⟨L', h7, h8⟩ := hback (G.le.refl I) (A' := X ++ (b, .cells (c'.toList.set off (Go.Proofs.YtlfhoiakmbcnlaaDoor.ev ρ y)).toArray T (0, 0)) :: Y) (hnew B' _ hB (by simp [hcs]) fun i u hu => by
    by_cases hi : i = off
    · subst hi
      rw [hcv] at hu
      cases hu
      refine ⟨Go.Proofs.YtlfhoiakmbcnlaaDoor.ev ρ y, ?_, q3⟩
      rw [List.getElem?_toArray, List.getElem?_set_self (by omega)]
    · obtain ⟨v', g1, g2⟩ := hc i u hu
      refine ⟨v', ?_, g2.more hB⟩
      rw [List.getElem?_toArray, List.getElem?_set_ne (fun e => hi e.symm), Array.getElem?_toList]; exact g1)
  refine k I F ρ _ h1 ⟨htop, L', h7, (hS2.turn1).perm ?_⟩
  refine (h8.append_right F).trans ?_
  simp only [List.append_assoc, List.cons_append]
  exact List.perm_middle
theorem AOps.storeXI {B : Nat} {kk : IntKind} {n0 m : Int} {cs : List AV} (hs : ∀ w, (sizeOf t).run P w = .ok 1 w) (hx : aev env x = inp L (.pf (.int kk n0 :: cs))) (hy : aev env y = .int kk m) (hO : Put O 0 (.heap (Turned B L)) (.heap (Turned B L)) O')
    (k : AOps P E ops K rest env O') : AOps P E ops K (Oper.mk none (.store t x y) ty pos af none :: rest) env O :=
  AOps.storeX hs hx hy hO (Nat.le_refl _) (fun I v0 v1 h0 h1 => by
    have h0 : v0 = _ := h0
    have h1 : v1 = _ := h1
    subst h0 h1
    exact ⟨rfl, rfl, _, rfl⟩) k
theorem AOps.storeXS {B : Nat} {s s' : ByteArray} {cs : List AV} (hs : ∀ w, (sizeOf t).run P w = .ok 1 w) (hx : aev env x = inp L (.pf (.str s :: cs))) (hy : aev env y = .str s') (hl : s'.size ≤ s.size + (B + 1)) (hO : Put O 0 (.heap (Turned B L)) (.heap (Turned (B + 1) L)) O')
    (k : AOps P E ops K rest env O') : AOps P E ops K (Oper.mk none (.store t x y) ty pos af none :: rest) env O :=
  AOps.storeX hs hx hy hO (Nat.le_succ _) (fun I v0 v1 h0 h1 => by
    have h0 : v0 = _ := h0
    have h1 : v1 = _ := h1
    subst h0 h1
    exact ⟨rfl, rfl, s', rfl, hl⟩) k
end
end Go.Proofs.YtlfhoiakmbcnlaaDoor
