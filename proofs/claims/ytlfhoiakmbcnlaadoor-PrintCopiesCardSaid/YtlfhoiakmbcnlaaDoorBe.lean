/- More operations on numbers, bytes. No conditions. -/
import Derived.Test.YtlfhoiakmbcnlaaDoorBd
import Derived.Laws.BytesArg
namespace Go.Proofs.YtlfhoiakmbcnlaaDoor
section
variable {E : World} {P : Program} {env : AEnv} {O : OL} {d ty : Nat} {pos : String} {af : Array Edge} {x y : Operand} {t u e : TypeId}
theorem Gv.rem {k : IntKind} {a b : Int} (hx : aev env x = .int k a) (hy : aev env y = .int k b) (hb : b ≠ 0) : Gv P env O (Oper.mk (some d) (.binOp .rem t x y u) ty pos af none) (.int k (a.tmod b)) := Gv.ofEv fun I ρ h => ⟨_, rfl, fun w => by
  rw [run_bin_int (evI h hx) (evI h hy) (by decide) (by decide)]; simp [binOp, Op.intDiv, hb]⟩
theorem Gv.quo {k : IntKind} {a b : Int} (hx : aev env x = .int k a) (hy : aev env y = .int k b) (hb : b ≠ 0) : Gv P env O (Oper.mk (some d) (.binOp .quo t x y u) ty pos af none) (.int k (k.wrap (a.tdiv b))) := Gv.ofEv fun I ρ h => ⟨_, rfl, fun w => by
  rw [run_bin_int (evI h hx) (evI h hy) (by decide) (by decide)]; simp [binOp, Op.intDiv, hb]⟩
theorem Gv.neg {k : IntKind} {a : Int} (hx : aev env x = .int k a) : Gv P env O (Oper.mk (some d) (.unOp .neg t x) ty pos af none) (.int k (k.wrap (0 - a))) := Gv.ofEv fun I ρ h => ⟨_, rfl, fun w => by
  simp [execOp, evI h hx, Op.unary, Op.intArith]⟩
theorem Gv.conv {k k' : IntKind} {a : Int} {ds : TypeDesc} {src dst : TypeId} (hs : P.underlying src = some ds) (hd : P.underlying dst = some (.int k')) (hx : aev env x = .int k a) : Gv P env O (Oper.mk (some d) (.convert src dst x) ty pos af none) (.int k' (k'.wrap a)) := Gv.ofEv fun I ρ h => ⟨_, rfl, fun w => by
  simp only [execOp, evI h hx]
  cases ds <;> simp [convert, run_underlying hs, run_underlying hd, Conv.intToInt]⟩
def encU (n : Int) : List AV := [.int .u8 n]
theorem Gv.convBytes {ns : List Int} {src dst e : TypeId} (hs : P.underlying src = some (.slice e)) (he : P.underlying e = some (.int .u8)) (hd : P.underlying dst = some .string) (hx : aev env x = .fro 1 (ns.map encU)) :
    Gv P env O (Oper.mk (some d) (.convert src dst x) ty pos af none) (.str (strOfNums ns)) := fun I L E ρ h1 _ => by
  have h2 := h1.ev x
  rw [hx] at h2
  obtain ⟨a, n, c, e1, hn, hnc, hnil, hr⟩ := h2
  rw [List.length_map] at hn
  refine ⟨_, rfl, fun w J L' hl hS _ => ?_⟩
  simp only [execOp, e1]
  cases a with
  | none =>
    have hc := hnil rfl
    have : ns = [] := List.eq_nil_of_length_eq_zero (by omega)
    subst this
    have := run_convert_bytes_nil (P := P) w src e hs he n c dst hd
    rw [Sem.run_bind, this]; rfl
  | some p =>
    cases ns with
    | nil =>
      simp at hn; subst hn
      have h := run_convert_bytes_string (P := P) w src dst e (some p) 0 c hs he hd
      have h2 := run_bytesToString (P := P) w p 0 c [] (by simp [loadCells, loadCellsFrom])
      rw [Sem.run_bind, h, h2]; rfl
    | cons m ms =>
      obtain ⟨b, off, _, ep, _⟩ := hr.get (j := 0) (r := encU m) rfl
      cases ep
      have := run_convert_bytes_arg (P := P) w src e hs he b off n c (m :: ms) hn.symm (fun i hi => by
        obtain ⟨b', off', l, ep, hk, hl2, hat⟩ := hr.get (j := i) (r := encU ((m :: ms).getD i 0)) (by
          rw [List.getElem?_map, List.getElem?_eq_getElem (by omega)]
          simp [List.getD_eq_getElem?_getD, List.getElem?_eq_getElem (show i < (m :: ms).length by omega)])
        cases ep
        obtain ⟨v, us, rfl, hv, _⟩ := hl2
        have hv : v = .int .u8 ((m :: ms).getD i 0) := hv
        subst hv
        have := hS.at_ (((hat 0 _ rfl).mono hl).at_ _)
        simpa using this) dst hd
      rw [Sem.run_bind, this]; rfl
end
end Go.Proofs.YtlfhoiakmbcnlaaDoor
namespace Go.Proofs.YtlfhoiakmbcnlaaDoor
section
variable {E : World} {P : Program} {n : Nat} {l : List Oper} {W : Nat → Bool} {Q : AEnv → OL → Prop} {fuel : Nat} {listed : Array Bool} {env : AEnv} {O Os Om : OL}
theorem AAny.two {i j : Nat} {o o' : Oper} (hi : l[i]? = some o) (hj : l[j]? = some o') (hr : Region.ready .any l.toArray listed = [i, j])
    (h : AOps P E l.toArray (fun env' Om' => AAny P E l W Q fuel (listed.setIfInBounds i true) env' Os Om') [o] env Om)
    (h' : AOps P E l.toArray (fun env' Om' => AAny P E l W Q fuel (listed.setIfInBounds j true) env' Os Om') [o'] env Om) : AAny P E l W Q (fuel + 1) listed env Os Om := fun I F ρ w Ls h1 hLs h2 => by
  have key : ∀ k ok, AOps P E l.toArray (fun env' Om' => AAny P E l W Q fuel (listed.setIfInBounds k true) env' Os Om') [ok] env Om →
      Ops P l.toArray (fun ρ' w' => (W k = true ∨ stays I.k Ls E w') ∧ AnyV P l.toArray (stays I.k Ls E) W (postK I F E Q) fuel (listed.setIfInBounds k true) ρ' w') [ok] ρ w := fun k ok h =>
    Ops.mono (fun ρ' w' ⟨J, env', Om', a, b, c, d⟩ => by
      refine ⟨.inr ?_, AnyV.mono ?_ (fun _ _ => postK.up a) _ _ _ _ (d J F ρ' w' Ls b (hLs.mono a) c)⟩
      · obtain ⟨J', L', h3, h4, h5⟩ := c.here
        exact ⟨J', L', a.k.trans h3, h4, h5⟩
      · rintro w ⟨J', L', h3, h4⟩; exact ⟨J', L', a.k.trans h3, h4⟩) _ _ _ (h I (Ls ++ F) ρ w h1 h2)
  refine ⟨fun h0 => (by rw [hr] at h0; cases h0), fun k hk o2 ho2 => ?_⟩
  rw [hr] at hk
  simp only [List.mem_cons, List.not_mem_nil, or_false] at hk
  rw [List.getElem?_toArray] at ho2
  rcases hk with rfl | rfl
  · rw [hi] at ho2; cases ho2; exact key _ _ h
  · rw [hj] at ho2; cases ho2; exact key _ _ h'
end
end Go.Proofs.YtlfhoiakmbcnlaaDoor
namespace Go.Proofs.YtlfhoiakmbcnlaaDoor
section
variable {E : World} {P : Program} {n : Nat} {l : List Oper} {W : Nat → Bool} {Q : AEnv → OL → Prop} {fuel : Nat} {listed : Array Bool} {env : AEnv} {O Os Om : OL}
theorem AAny.three {i j m : Nat} {o o' o'' : Oper} (hi : l[i]? = some o) (hj : l[j]? = some o') (hm : l[m]? = some o'') (hr : Region.ready .any l.toArray listed = [i, j, m])
    (h : AOps P E l.toArray (fun env' Om' => AAny P E l W Q fuel (listed.setIfInBounds i true) env' Os Om') [o] env Om)
    (h' : AOps P E l.toArray (fun env' Om' => AAny P E l W Q fuel (listed.setIfInBounds j true) env' Os Om') [o'] env Om)
    (h'' : AOps P E l.toArray (fun env' Om' => AAny P E l W Q fuel (listed.setIfInBounds m true) env' Os Om') [o''] env Om) : AAny P E l W Q (fuel + 1) listed env Os Om := fun I F ρ w Ls h1 hLs h2 => by
  have key : ∀ k ok, AOps P E l.toArray (fun env' Om' => AAny P E l W Q fuel (listed.setIfInBounds k true) env' Os Om') [ok] env Om →
      Ops P l.toArray (fun ρ' w' => (W k = true ∨ stays I.k Ls E w') ∧ AnyV P l.toArray (stays I.k Ls E) W (postK I F E Q) fuel (listed.setIfInBounds k true) ρ' w') [ok] ρ w := fun k ok h =>
    Ops.mono (fun ρ' w' ⟨J, env', Om', a, b, c, d⟩ => by
      refine ⟨.inr ?_, AnyV.mono ?_ (fun _ _ => postK.up a) _ _ _ _ (d J F ρ' w' Ls b (hLs.mono a) c)⟩
      · obtain ⟨J', L', h3, h4, h5⟩ := c.here
        exact ⟨J', L', a.k.trans h3, h4, h5⟩
      · rintro w ⟨J', L', h3, h4⟩; exact ⟨J', L', a.k.trans h3, h4⟩) _ _ _ (h I (Ls ++ F) ρ w h1 h2)
  refine ⟨fun h0 => (by rw [hr] at h0; cases h0), fun k hk o2 ho2 => ?_⟩
  rw [hr] at hk
  simp only [List.mem_cons, List.not_mem_nil, or_false] at hk
  rw [List.getElem?_toArray] at ho2
  rcases hk with rfl | rfl | rfl
  · rw [hi] at ho2; cases ho2; exact key _ _ h
  · rw [hj] at ho2; cases ho2; exact key _ _ h'
  · rw [hm] at ho2; cases ho2; exact key _ _ h''
end
/-- What a function hands back may be known henceforth. -/
theorem ACall.know {E : World} {P : Program} {f : FuncId} {as : List AV} {O : OL} {R R' : AV → OL → Prop} (h : ACall P E f as O R) (hr : ∀ I F w v x O', R x O' → RepV I x v → SLA I O' F E w → ∃ J y O'', I.le J ∧ RepV J y v ∧ SLA J O'' F E w ∧ R' y O'') : ACall P E f as O R' := fun I F w vs h1 h2 =>
  (h I F w vs h1 h2).mono fun v w' ⟨J, x, O', a, b, c, d⟩ => by
    obtain ⟨K, y, O'', e1, e2, e3, e4⟩ := hr J F w' v x O' d b c
    exact ⟨K, y, O'', a.trans e1, e2, e3, e4⟩
theorem Put.appR {O O' : OL} {i : Nat} {o o' : AObj} (h : Put O i o o' O') : ∀ X : OL, Put (X ++ O) i o o' (X ++ O')
  | [] => h
  | _ :: X => .tail (Put.appR h X)
theorem Put.appL {O O' : OL} {i : Nat} {o o' : AObj} (h : Put O i o o' O') (Y : OL) : Put (O ++ Y) i o o' (O' ++ Y) := by
  induction h with
  | head => exact .head
  | tail _ ih => exact .tail ih
theorem Put.has {O O' : OL} {i : Nat} {o o' : AObj} (h : Put O i o o' O') : Has O i o := by
  induction h with
  | head => exact .head
  | tail _ ih => exact ih.tail
end Go.Proofs.YtlfhoiakmbcnlaaDoor
