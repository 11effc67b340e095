/- The document's own functions: names, the table, digits, what is the same, what has a text. No conditions but bounds. -/
import Derived.Test.YtdkhlgiohpdihaaGreatDoorZb
import Derived.Laws.BytesArg
import Derived.Test.YtdkhlgiohpdihaaGreatDoorZc
set_option linter.unusedVariables false
set_option linter.unusedSimpArgs false
set_option linter.unusedSectionVars false
namespace Go.Proofs.YtdkhlgiohpdihaaGreatDoor
section
variable {E : World} {P : Program} {env : AEnv} {O : OL} {d ty : Nat} {pos : String} {af : Array Edge} {x y : Operand} {t u e : TypeId}
theorem Gv.rem {k : IntKind} {a b : Int} (hx : aev env x = .int k a) (hy : aev env y = .int k b) (hb : b ≠ 0) : Gv P env O (Oper.mk (some d) (.binOp .rem t x y u) ty pos af none) (.int k (a.tmod b)) := Gv.ofEv fun I ρ h => ⟨_, rfl, fun w => by
  rw [run_bin_int (evI h hx) (evI h hy) (by decide) (by decide)]; simp [binOp, Op.intDiv, hb]⟩
theorem Gv.quo {k : IntKind} {a b : Int} (hx : aev env x = .int k a) (hy : aev env y = .int k b) (hb : b ≠ 0) : Gv P env O (Oper.mk (some d) (.binOp .quo t x y u) ty pos af none) (.int k (k.wrap (a.tdiv b))) := Gv.ofEv fun I ρ h => ⟨_, rfl, fun w => by
  rw [run_bin_int (evI h hx) (evI h hy) (by decide) (by decide)]; simp [binOp, Op.intDiv, hb]⟩
theorem Gv.neg {k : IntKind} {a : Int} (hx : aev env x = .int k a) : Gv P env O (Oper.mk (some d) (.unOp .neg t x) ty pos af none) (.int k (k.wrap (0 - a))) := Gv.ofEv fun I ρ h => ⟨_, rfl, fun w => by
  simp [execOp, evI h hx, Op.unary, Op.intArith]⟩
theorem Gv.conv {k k' : IntKind} {a : Int} {ds : TypeDesc} {src dst : TypeId} (hs : P.underlying src = some ds) (hd : P.underlying dst = some (.int k')) (hx : aev env x = .int k a) : Gv P env O (Oper.mk (some d) (.convert src dst x) ty pos af none) (.int k' (k'.wrap a)) := Gv.ofEv fun I ρ h => ⟨_, rfl, fun w => by
  simp only [execOp, evI h hx]
  cases ds <;> simp [convert, run_underlying hs, run_underlying hd, Conv.intToInt]⟩
def encU (n : Int) : List AV := [.int .u8 n]
theorem Gv.convBytes {ns : List Int} {src dst e : TypeId} (hs : P.underlying src = some (.slice e)) (he : P.underlying e = some (.int .u8)) (hd : P.underlying dst = some .string) (hx : aev env x = .fro 1 (ns.map encU)) :
    Gv P env O (Oper.mk (some d) (.convert src dst x) ty pos af none) (.str (strOfNums ns)) := fun I L E ρ h1 _ => by
  have h2 := h1.ev x
  rw [hx] at h2
  obtain ⟨a, n, c, e1, hn, hnc, hnil, hr⟩ := h2
  rw [List.length_map] at hn
  refine ⟨_, rfl, fun w J L' hl hS _ => ?_⟩
  simp only [execOp, e1]
  cases a with
  | none =>
    have hc := hnil rfl
    have : ns = [] := List.eq_nil_of_length_eq_zero (by omega)
    subst this
    have := run_convert_bytes_nil (P := P) w src e hs he n c dst hd
    rw [Sem.run_bind, this]; rfl
  | some p =>
    cases ns with
    | nil =>
      simp at hn; subst hn
      have h := run_convert_bytes_string (P := P) w src dst e (some p) 0 c hs he hd
      have h2 := run_bytesToString (P := P) w p 0 c [] (by simp [loadCells, loadCellsFrom])
      rw [Sem.run_bind, h, h2]; rfl
    | cons m ms =>
      obtain ⟨b, off, _, ep, _⟩ := hr.get (j := 0) (r := encU m) rfl
      cases ep
      have := run_convert_bytes_arg (P := P) w src e hs he b off n c (m :: ms) hn.symm (fun i hi => by
        obtain ⟨b', off', l, ep, hk, hl2, hat⟩ := hr.get (j := i) (r := encU ((m :: ms).getD i 0)) (by
          rw [List.getElem?_map, List.getElem?_eq_getElem (by omega)]
          simp [List.getD_eq_getElem?_getD, List.getElem?_eq_getElem (show i < (m :: ms).length by omega)])
        cases ep
        obtain ⟨v, us, rfl, hv, _⟩ := hl2
        have hv : v = .int .u8 ((m :: ms).getD i 0) := hv
        subst hv
        have := hS.at_ (((hat 0 _ rfl).mono hl).at_ _)
        simpa using this) dst hd
      rw [Sem.run_bind, this]; rfl
end
end Go.Proofs.YtdkhlgiohpdihaaGreatDoor
namespace Go.Proofs.YtdkhlgiohpdihaaGreatDoor
section
variable {E : World} {P : Program} {n : Nat} {l : List Oper} {W : Nat → Bool} {Q : AEnv → OL → Prop} {fuel : Nat} {listed : Array Bool} {env : AEnv} {O Os Om : OL}
theorem AAny.two {i j : Nat} {o o' : Oper} (hi : l[i]? = some o) (hj : l[j]? = some o') (hr : Region.ready .any l.toArray listed = [i, j])
    (h : AOps P E l.toArray (fun env' Om' => AAny P E l W Q fuel (listed.setIfInBounds i true) env' Os Om') [o] env Om)
    (h' : AOps P E l.toArray (fun env' Om' => AAny P E l W Q fuel (listed.setIfInBounds j true) env' Os Om') [o'] env Om) : AAny P E l W Q (fuel + 1) listed env Os Om := fun I F ρ w Ls h1 hLs h2 => by
  have key : ∀ k ok, AOps P E l.toArray (fun env' Om' => AAny P E l W Q fuel (listed.setIfInBounds k true) env' Os Om') [ok] env Om →
      Ops P l.toArray (fun ρ' w' => (stays I.k [] E w' ∧ (dirty W (listed.setIfInBounds k true) ∨ stays I.k Ls E w')) ∧ AnyV P l.toArray (stays I.k [] E) (stays I.k Ls E) W (postK I F E Q) fuel (listed.setIfInBounds k true) ρ' w') [ok] ρ w := fun k ok h =>
    Ops.mono (fun ρ' w' ⟨J, env', Om', a, b, c, d⟩ => by
      have hst : stays I.k Ls E w' := by
        obtain ⟨J', L', h3, h4, h5⟩ := c.here
        exact ⟨J', L', a.k.trans h3, h4, h5⟩
      refine ⟨⟨hst.less, .inr hst⟩, AnyV.mono ?_ ?_ (fun _ _ => postK.up a) _ _ _ _ (d J F ρ' w' Ls b (hLs.mono a) c)⟩
      · rintro w ⟨J', L', h3, h4⟩; exact ⟨J', L', a.k.trans h3, h4⟩
      · rintro w ⟨J', L', h3, h4⟩; exact ⟨J', L', a.k.trans h3, h4⟩) _ _ _ (h I (Ls ++ F) ρ w h1 h2)
  refine ⟨fun h0 => (by rw [hr] at h0; cases h0), fun k hk o2 ho2 => ?_⟩
  rw [hr] at hk
  simp only [List.mem_cons, List.not_mem_nil, or_false] at hk
  rw [List.getElem?_toArray] at ho2
  rcases hk with rfl | rfl
  · rw [hi] at ho2; cases ho2; exact key _ _ h
  · rw [hj] at ho2; cases ho2; exact key _ _ h'
end
end Go.Proofs.YtdkhlgiohpdihaaGreatDoor
namespace Go.Proofs.YtdkhlgiohpdihaaGreatDoor
section
variable {E : World} {P : Program} {n : Nat} {l : List Oper} {W : Nat → Bool} {Q : AEnv → OL → Prop} {fuel : Nat} {listed : Array Bool} {env : AEnv} {O Os Om : OL}
end
theorem ACall.know {E : World} {P : Program} {f : FuncId} {as0 : List AV} {O : OL} {R R' : AV → OL → Prop} (h : ACall P E f as0 O R) (hr : ∀ I F w v x O', R x O' → RepV I x v → SLA I O' F E w → ∃ J y O'', I.le J ∧ RepV J y v ∧ SLA J O'' F E w ∧ R' y O'') : ACall P E f as0 O R' := fun I F w vs h1 h2 =>
  (h I F w vs h1 h2).mono fun v w' ⟨J, x, O', a, b, c, d⟩ => by
    obtain ⟨K, y, O'', e1, e2, e3, e4⟩ := hr J F w' v x O' d b c
    exact ⟨K, y, O'', a.trans e1, e2, e3, e4⟩
theorem Put.has {O O' : OL} {i : Nat} {o o' : AObj} (h : Put O i o o' O') : Has O i o := by
  induction h with
  | head => exact .head
  | tail _ ih => exact ih.tail
end Go.Proofs.YtdkhlgiohpdihaaGreatDoor
namespace Go.Proofs.YtdkhlgiohpdihaaGreatDoor
open Go.Proofs Go.Lib Go.Shelf Go.RowKit
theorem pl116 : Places Tryz.prog 116 #[(0, 1), (1, 1), (2, 1)] [.str ⟨#[]⟩, .str ⟨#[]⟩, .str ⟨#[]⟩] := ⟨_, _, Tryz.underlying116, Tryz.zeroValue116, fun w => by kernel_rfl, rfl⟩
theorem ps117_27 : PlacesS Tryz.prog 117 116 27 3 [.str ⟨#[]⟩, .str ⟨#[]⟩, .str ⟨#[]⟩, .str ⟨#[]⟩, .str ⟨#[]⟩, .str ⟨#[]⟩, .str ⟨#[]⟩, .str ⟨#[]⟩, .str ⟨#[]⟩, .str ⟨#[]⟩, .str ⟨#[]⟩, .str ⟨#[]⟩, .str ⟨#[]⟩, .str ⟨#[]⟩, .str ⟨#[]⟩, .str ⟨#[]⟩, .str ⟨#[]⟩, .str ⟨#[]⟩, .str ⟨#[]⟩, .str ⟨#[]⟩, .str ⟨#[]⟩, .str ⟨#[]⟩, .str ⟨#[]⟩, .str ⟨#[]⟩, .str ⟨#[]⟩, .str ⟨#[]⟩, .str ⟨#[]⟩, .str ⟨#[]⟩, .str ⟨#[]⟩, .str ⟨#[]⟩, .str ⟨#[]⟩, .str ⟨#[]⟩, .str ⟨#[]⟩, .str ⟨#[]⟩, .str ⟨#[]⟩, .str ⟨#[]⟩, .str ⟨#[]⟩, .str ⟨#[]⟩, .str ⟨#[]⟩, .str ⟨#[]⟩, .str ⟨#[]⟩, .str ⟨#[]⟩, .str ⟨#[]⟩, .str ⟨#[]⟩, .str ⟨#[]⟩, .str ⟨#[]⟩, .str ⟨#[]⟩, .str ⟨#[]⟩, .str ⟨#[]⟩, .str ⟨#[]⟩, .str ⟨#[]⟩, .str ⟨#[]⟩, .str ⟨#[]⟩, .str ⟨#[]⟩, .str ⟨#[]⟩, .str ⟨#[]⟩, .str ⟨#[]⟩, .str ⟨#[]⟩, .str ⟨#[]⟩, .str ⟨#[]⟩, .str ⟨#[]⟩, .str ⟨#[]⟩, .str ⟨#[]⟩, .str ⟨#[]⟩, .str ⟨#[]⟩, .str ⟨#[]⟩, .str ⟨#[]⟩, .str ⟨#[]⟩, .str ⟨#[]⟩, .str ⟨#[]⟩, .str ⟨#[]⟩, .str ⟨#[]⟩, .str ⟨#[]⟩, .str ⟨#[]⟩, .str ⟨#[]⟩, .str ⟨#[]⟩, .str ⟨#[]⟩, .str ⟨#[]⟩, .str ⟨#[]⟩, .str ⟨#[]⟩, .str ⟨#[]⟩] := ⟨_, Tryz.underlying117, Tryz.sizeOf116, Tryz.zeroValue116, by decide, by decide, by kernel_rfl⟩
theorem ps75_1 : PlacesS Tryz.prog 75 5 1 1 [.int .u8 0] := ⟨_, Tryz.underlying75, Tryz.sizeOf5, Tryz.zeroValue5, by decide, by decide, by kernel_rfl⟩
set_option maxRecDepth 20000
variable {E : World}
def Letters (E : World) : Prop := Lib.TabIs Tryz.prog E "unicode.properties" .u8 Lib.propertiesTab ∧ RVar 3 letterT E
theorem letter_spec (c : Int) (h1 : -2147483648 ≤ c) (h2 : c ≤ 2147483647) (hL : Letters E) : AFun Tryz.prog E 84 [.int .i32 c] (.bool (isLetterU c)) :=
  AFun.ofBelow (vs := [.int .i32 c]) (r := .bool (isLetterU c)) Tryz.func84 rfl (by decide) rfl fun w hw => Tryz.unicode_IsLetter_all c w h1 h2 (TabIs_below (g := 2) (by kernel_rfl) hL.1 hw) (RVar_below hL.2 hw)
theorem decode_ok (s : ByteArray) (p : Nat) : 1 ≤ (Utf8.decode s p).2 ∧ (Utf8.decode s p).1 ≤ 2097151 := by
  have h256 : ∀ k, (s.get! k).toNat < 256 := fun k => (s.get! k).toNat_lt
  unfold Utf8.decode
  dsimp only
  constructor
  · repeat' split
    all_goals simp
  · have h0 := h256 (p + 0)
    have h1 := h256 (p + 1)
    have h2 := h256 (p + 2)
    have h3 := h256 (p + 3)
    repeat' split
    all_goals (simp only [Utf8.runeError]; omega)
def okRune (c : Int) (n : Nat) : Bool := (isLetterU c && !decide (c = 65533)) || (!decide ((n : Int) = 0) && ((decide (48 ≤ c) && decide (c ≤ 57)) || decide (c = 46) || decide (c = 95)))
def nameFrom (s : ByteArray) (p n : Nat) : Bool :=
  if h : p < s.size then (if okRune (Utf8.decode s p).1 n then nameFrom s (p + (Utf8.decode s p).2) (n + 1) else false) else decide ((1 : Int) ≤ n) && decide ((n : Int) ≤ 16)
termination_by s.size - p
decreasing_by have := (decode_ok s p).1; omega
def nameB (s : ByteArray) : Bool := nameFrom s 0 0
theorem name_spec (s : ByteArray) (hs : s.size ≤ 140737488355328) (hL : Letters E) : AFun Tryz.prog E 53 [.str s] (.bool (nameB s)) := by
  refine ACall.intro Tryz.func53 rfl (by decide) rfl ?_
  refine AWP.seq ?_
  refine AWP.region rfl ?_
  refine AOps.val (Gv.assign (v := .bool _) rfl) ?_
  refine AOps.nil ?_
  refine AWP.seq ?_
  refine AWP.region rfl ?_
  refine AOps.val (Gv.assign (v := .int _ _) rfl) ?_
  refine AOps.nil ?_
  refine AWP.seq ?_
  refine AWP.seq ?_
  refine AWP.region rfl ?_
  refine AOps.val (Gv.move (v := .str _) rfl) ?_
  refine AOps.rangeT Tryz.underlying9 rfl ?_
  intro i8
  refine AOps.nil ?_
  refine AWP.block ?_
  refine AWP.loop (γ := Nat × Nat) [8] (fun g => [(3, .int .i64 g.2)]) (fun g => [(i8, .iter s g.1)]) (fun g => nameFrom s g.1 g.2 = nameB s ∧ g.2 ≤ g.1 ∧ g.2 ≤ s.size) (fun g => s.size - g.1) (0, 0) ⟨rfl, trivial⟩ ⟨_, (.refl _), rfl⟩ (⟨rfl, Nat.le_refl _, Nat.zero_le _⟩) ?_
  rintro ⟨p, n⟩ ⟨hp, hn, hn2⟩
  try dsimp only at *
  by_cases hlt : p < s.size
  · skip
    obtain ⟨hd1, hd2⟩ := decode_ok s p
    have hstep := hp
    rw [nameFrom, dif_pos hlt] at hstep
    refine AWP.seq ?_
    refine AWP.region rfl ?_
    refine AOps.nextT rfl .head hlt ?_
    refine AOps.val (Gv.extract (v := .bool _) rfl rfl) ?_
    refine AOps.nil ?_
    refine AWP.seq ?_
    refine AWP.condT rfl rfl ?_
    refine AWP.skip ?_
    refine AWP.block ?_
    refine AWP.seq ?_
    refine AWP.region rfl ?_
    refine AOps.val (Gv.extract (v := .int _ _) rfl rfl) ?_
    refine AOps.val (Gv.assign (v := .int _ _) rfl) ?_
    refine AOps.nil ?_
    refine AWP.seq ?_
    refine AWP.region rfl ?_
    refine AOps.val (Gv.move (v := .int _ _) rfl) ?_
    refine AOps.callP (letter_spec _ (by omega) (by omega) hL) rfl ?_
    refine AOps.val (Gv.move (v := .bool _) rfl) ?_
    refine AOps.case (s := 14) rfl (fun c1 => ?_) (fun c1 => ?_)
    · skip
      refine AOps.guardT rfl rfl c1 ?_
      refine AOps.val (Gv.move (v := .int _ _) rfl) ?_
      refine AOps.guardT rfl rfl c1 ?_
      refine AOps.val (Gv.neqI rfl rfl) ?_
      refine AOps.val (Gv.pickT (v := .bool _) rfl c1 rfl) ?_
      refine AOps.val (Gv.assign (v := .bool _) rfl) ?_
      refine AOps.nil ?_
      refine AWP.seq ?_
      refine AWP.seq ?_
      refine AWP.region rfl ?_
      refine AOps.val (Gv.move (v := .bool _) rfl) ?_
      refine AOps.val (Gv.not rfl) ?_
      refine AOps.val (Gv.move (v := .bool _) rfl) ?_
      refine AOps.case (s := 20) rfl (fun c2 => ?_) (fun c2 => ?_)
      · skip
        refine AOps.guardT rfl rfl c2 ?_
        refine AOps.val (Gv.move (v := .int _ _) rfl) ?_
        refine AOps.guardT rfl rfl c2 ?_
        refine AOps.val (Gv.eqlI rfl rfl) ?_
        refine AOps.guardT rfl rfl c2 ?_
        refine AOps.val (Gv.move (v := .bool _) rfl) ?_
        refine AOps.case (s := 23) rfl (fun c3 => ?_) (fun c3 => ?_)
        · skip
          refine AOps.guardFd rfl rfl c3 ?_
          refine AOps.guardFd rfl rfl c3 ?_
          refine AOps.guardFd rfl rfl c3 ?_
          refine AOps.guardUd rfl rfl ?_
          refine AOps.guardUd rfl rfl ?_
          refine AOps.guardFd rfl rfl c3 ?_
          refine AOps.guardFd rfl rfl c3 ?_
          refine AOps.guardFd rfl rfl c3 ?_
          refine AOps.guardUd rfl rfl ?_
          refine AOps.guardUd rfl rfl ?_
          refine AOps.guardFd rfl rfl c3 ?_
          refine AOps.guardFd rfl rfl c3 ?_
          refine AOps.guardUd rfl rfl ?_
          refine AOps.guardUd rfl rfl ?_
          refine AOps.guardFd rfl rfl c3 ?_
          refine AOps.guardT rfl rfl c2 ?_
          refine AOps.val (Gv.pickT (v := .bool _) rfl c3 rfl) ?_
          refine AOps.val (Gv.pickT (v := .bool _) rfl c2 rfl) ?_
          refine AOps.nil ?_
          refine AWP.condT rfl rfl ?_
          refine AWP.seq ?_
          refine AWP.region rfl ?_
          refine AOps.val (Gv.assign (v := .bool _) rfl) ?_
          refine AOps.nil ?_
          refine AWP.ret ?_
          repeat (first | refine aseqQ_ret ?_ | refine ablockQ_ret ?_)
          refine afin.t1 (x := .bool _) rfl ?_
          rw [if_neg (by simp_all [okRune] <;> omega)] at hstep; exact jb hstep
        · skip
          refine AOps.guardT rfl rfl c3 ?_
          refine AOps.val (Gv.move (v := .int _ _) rfl) ?_
          refine AOps.guardT rfl rfl c3 ?_
          refine AOps.val (Gv.geq rfl rfl) ?_
          refine AOps.guardT rfl rfl c3 ?_
          refine AOps.val (Gv.move (v := .bool _) rfl) ?_
          refine AOps.case (s := 26) rfl (fun c4 => ?_) (fun c4 => ?_)
          · skip
            refine AOps.guardT rfl rfl c4 ?_
            refine AOps.val (Gv.move (v := .int _ _) rfl) ?_
            refine AOps.guardT rfl rfl c4 ?_
            refine AOps.val (Gv.leq rfl rfl) ?_
            refine AOps.guardT rfl rfl c3 ?_
            refine AOps.val (Gv.pickT (v := .bool _) rfl c4 rfl) ?_
            refine AOps.guardT rfl rfl c3 ?_
            refine AOps.val (Gv.not rfl) ?_
            refine AOps.guardT rfl rfl c3 ?_
            refine AOps.val (Gv.move (v := .bool _) rfl) ?_
            refine AOps.case (s := 31) rfl (fun c5 => ?_) (fun c5 => ?_)
            · skip
              refine AOps.guardT rfl rfl c5 ?_
              refine AOps.val (Gv.move (v := .int _ _) rfl) ?_
              refine AOps.guardT rfl rfl c5 ?_
              refine AOps.val (Gv.neqI rfl rfl) ?_
              refine AOps.guardT rfl rfl c3 ?_
              refine AOps.val (Gv.pickT (v := .bool _) rfl c5 rfl) ?_
              refine AOps.guardT rfl rfl c3 ?_
              refine AOps.val (Gv.move (v := .bool _) rfl) ?_
              refine AOps.case (s := 35) rfl (fun c6 => ?_) (fun c6 => ?_)
              · skip
                refine AOps.guardT rfl rfl c6 ?_
                refine AOps.val (Gv.move (v := .int _ _) rfl) ?_
                refine AOps.guardT rfl rfl c6 ?_
                refine AOps.val (Gv.neqI rfl rfl) ?_
                refine AOps.guardT rfl rfl c3 ?_
                refine AOps.val (Gv.pickT (v := .bool _) rfl c6 rfl) ?_
                refine AOps.guardT rfl rfl c2 ?_
                refine AOps.val (Gv.pickF (v := .bool _) rfl c3 rfl) ?_
                refine AOps.val (Gv.pickT (v := .bool _) rfl c2 rfl) ?_
                refine AOps.nil ?_
                refine AWP.cond rfl (fun c7 => ?_) (fun c7 => ?_)
                · skip
                  refine AWP.seq ?_
                  refine AWP.region rfl ?_
                  refine AOps.val (Gv.assign (v := .bool _) rfl) ?_
                  refine AOps.nil ?_
                  refine AWP.ret ?_
                  repeat (first | refine aseqQ_ret ?_ | refine ablockQ_ret ?_)
                  refine afin.t1 (x := .bool _) rfl ?_
                  rw [if_neg (by simp_all [okRune] <;> omega)] at hstep; exact jb hstep
                · skip
                  refine AWP.skip ?_
                  refine AWP.region rfl ?_
                  refine AOps.val (Gv.move (v := .int _ _) rfl) ?_
                  refine AOps.val (Gv.add rfl rfl (by unfold I64; omega)) ?_
                  refine AOps.val (Gv.assign (v := .int _ _) rfl) ?_
                  refine AOps.nil ?_
                  exact ⟨(p + (Utf8.decode s p).2, n + 1), ⟨rfl, trivial⟩, ⟨rfl, trivial⟩, ⟨_, (.refl _), rfl⟩, ⟨by rw [if_pos (by simp_all [okRune] <;> omega)] at hstep; exact hstep, by dsimp only; omega, by dsimp only; omega⟩, by dsimp only; omega⟩
              · skip
                refine AOps.guardFd rfl rfl c6 ?_
                refine AOps.guardFd rfl rfl c6 ?_
                refine AOps.guardT rfl rfl c3 ?_
                refine AOps.val (Gv.pickF (v := .bool _) rfl c6 rfl) ?_
                refine AOps.guardT rfl rfl c2 ?_
                refine AOps.val (Gv.pickF (v := .bool _) rfl c3 rfl) ?_
                refine AOps.val (Gv.pickT (v := .bool _) rfl c2 rfl) ?_
                refine AOps.nil ?_
                refine AWP.condF rfl rfl ?_
                refine AWP.skip ?_
                refine AWP.region rfl ?_
                refine AOps.val (Gv.move (v := .int _ _) rfl) ?_
                refine AOps.val (Gv.add rfl rfl (by unfold I64; omega)) ?_
                refine AOps.val (Gv.assign (v := .int _ _) rfl) ?_
                refine AOps.nil ?_
                exact ⟨(p + (Utf8.decode s p).2, n + 1), ⟨rfl, trivial⟩, ⟨rfl, trivial⟩, ⟨_, (.refl _), rfl⟩, ⟨by rw [if_pos (by simp_all [okRune] <;> omega)] at hstep; exact hstep, by dsimp only; omega, by dsimp only; omega⟩, by dsimp only; omega⟩
            · skip
              refine AOps.guardFd rfl rfl c5 ?_
              refine AOps.guardFd rfl rfl c5 ?_
              refine AOps.guardT rfl rfl c3 ?_
              refine AOps.val (Gv.pickF (v := .bool _) rfl c5 rfl) ?_
              refine AOps.guardT rfl rfl c3 ?_
              refine AOps.val (Gv.move (v := .bool _) rfl) ?_
              refine AOps.guardFd rfl rfl rfl ?_
              refine AOps.guardFd rfl rfl rfl ?_
              refine AOps.guardT rfl rfl c3 ?_
              refine AOps.val (Gv.pickF (v := .bool _) rfl rfl rfl) ?_
              refine AOps.guardT rfl rfl c2 ?_
              refine AOps.val (Gv.pickF (v := .bool _) rfl c3 rfl) ?_
              refine AOps.val (Gv.pickT (v := .bool _) rfl c2 rfl) ?_
              refine AOps.nil ?_
              refine AWP.condF rfl rfl ?_
              refine AWP.skip ?_
              refine AWP.region rfl ?_
              refine AOps.val (Gv.move (v := .int _ _) rfl) ?_
              refine AOps.val (Gv.add rfl rfl (by unfold I64; omega)) ?_
              refine AOps.val (Gv.assign (v := .int _ _) rfl) ?_
              refine AOps.nil ?_
              exact ⟨(p + (Utf8.decode s p).2, n + 1), ⟨rfl, trivial⟩, ⟨rfl, trivial⟩, ⟨_, (.refl _), rfl⟩, ⟨by rw [if_pos (by simp_all [okRune] <;> omega)] at hstep; exact hstep, by dsimp only; omega, by dsimp only; omega⟩, by dsimp only; omega⟩
          · skip
            refine AOps.guardFd rfl rfl c4 ?_
            refine AOps.guardFd rfl rfl c4 ?_
            refine AOps.guardT rfl rfl c3 ?_
            refine AOps.val (Gv.pickF (v := .bool _) rfl c4 rfl) ?_
            refine AOps.guardT rfl rfl c3 ?_
            refine AOps.val (Gv.not rfl) ?_
            refine AOps.guardT rfl rfl c3 ?_
            refine AOps.val (Gv.move (v := .bool _) rfl) ?_
            refine AOps.guardT rfl rfl rfl ?_
            refine AOps.val (Gv.move (v := .int _ _) rfl) ?_
            refine AOps.guardT rfl rfl rfl ?_
            refine AOps.val (Gv.neqI rfl rfl) ?_
            refine AOps.guardT rfl rfl c3 ?_
            refine AOps.val (Gv.pickT (v := .bool _) rfl rfl rfl) ?_
            refine AOps.guardT rfl rfl c3 ?_
            refine AOps.val (Gv.move (v := .bool _) rfl) ?_
            refine AOps.case (s := 35) rfl (fun c8 => ?_) (fun c8 => ?_)
            · skip
              refine AOps.guardT rfl rfl c8 ?_
              refine AOps.val (Gv.move (v := .int _ _) rfl) ?_
              refine AOps.guardT rfl rfl c8 ?_
              refine AOps.val (Gv.neqI rfl rfl) ?_
              refine AOps.guardT rfl rfl c3 ?_
              refine AOps.val (Gv.pickT (v := .bool _) rfl c8 rfl) ?_
              refine AOps.guardT rfl rfl c2 ?_
              refine AOps.val (Gv.pickF (v := .bool _) rfl c3 rfl) ?_
              refine AOps.val (Gv.pickT (v := .bool _) rfl c2 rfl) ?_
              refine AOps.nil ?_
              refine AWP.cond rfl (fun c9 => ?_) (fun c9 => ?_)
              · skip
                refine AWP.seq ?_
                refine AWP.region rfl ?_
                refine AOps.val (Gv.assign (v := .bool _) rfl) ?_
                refine AOps.nil ?_
                refine AWP.ret ?_
                repeat (first | refine aseqQ_ret ?_ | refine ablockQ_ret ?_)
                refine afin.t1 (x := .bool _) rfl ?_
                rw [if_neg (by simp_all [okRune] <;> omega)] at hstep; exact jb hstep
              · skip
                refine AWP.skip ?_
                refine AWP.region rfl ?_
                refine AOps.val (Gv.move (v := .int _ _) rfl) ?_
                refine AOps.val (Gv.add rfl rfl (by unfold I64; omega)) ?_
                refine AOps.val (Gv.assign (v := .int _ _) rfl) ?_
                refine AOps.nil ?_
                exact ⟨(p + (Utf8.decode s p).2, n + 1), ⟨rfl, trivial⟩, ⟨rfl, trivial⟩, ⟨_, (.refl _), rfl⟩, ⟨by rw [if_pos (by simp_all [okRune] <;> omega)] at hstep; exact hstep, by dsimp only; omega, by dsimp only; omega⟩, by dsimp only; omega⟩
            · skip
              refine AOps.guardFd rfl rfl c8 ?_
              refine AOps.guardFd rfl rfl c8 ?_
              refine AOps.guardT rfl rfl c3 ?_
              refine AOps.val (Gv.pickF (v := .bool _) rfl c8 rfl) ?_
              refine AOps.guardT rfl rfl c2 ?_
              refine AOps.val (Gv.pickF (v := .bool _) rfl c3 rfl) ?_
              refine AOps.val (Gv.pickT (v := .bool _) rfl c2 rfl) ?_
              refine AOps.nil ?_
              refine AWP.condF rfl rfl ?_
              refine AWP.skip ?_
              refine AWP.region rfl ?_
              refine AOps.val (Gv.move (v := .int _ _) rfl) ?_
              refine AOps.val (Gv.add rfl rfl (by unfold I64; omega)) ?_
              refine AOps.val (Gv.assign (v := .int _ _) rfl) ?_
              refine AOps.nil ?_
              exact ⟨(p + (Utf8.decode s p).2, n + 1), ⟨rfl, trivial⟩, ⟨rfl, trivial⟩, ⟨_, (.refl _), rfl⟩, ⟨by rw [if_pos (by simp_all [okRune] <;> omega)] at hstep; exact hstep, by dsimp only; omega, by dsimp only; omega⟩, by dsimp only; omega⟩
      · skip
        refine AOps.guardFd rfl rfl c2 ?_
        refine AOps.guardFd rfl rfl c2 ?_
        refine AOps.guardFd rfl rfl c2 ?_
        refine AOps.guardUd rfl rfl ?_
        refine AOps.guardUd rfl rfl ?_
        refine AOps.guardUd rfl rfl ?_
        refine AOps.guardUd rfl rfl ?_
        refine AOps.guardUd rfl rfl ?_
        refine AOps.guardUd rfl rfl ?_
        refine AOps.guardUd rfl rfl ?_
        refine AOps.guardUd rfl rfl ?_
        refine AOps.guardUd rfl rfl ?_
        refine AOps.guardUd rfl rfl ?_
        refine AOps.guardUd rfl rfl ?_
        refine AOps.guardUd rfl rfl ?_
        refine AOps.guardUd rfl rfl ?_
        refine AOps.guardUd rfl rfl ?_
        refine AOps.guardUd rfl rfl ?_
        refine AOps.guardFd rfl rfl c2 ?_
        refine AOps.val (Gv.pickF (v := .bool _) rfl c2 rfl) ?_
        refine AOps.nil ?_
        refine AWP.condF rfl rfl ?_
        refine AWP.skip ?_
        refine AWP.region rfl ?_
        refine AOps.val (Gv.move (v := .int _ _) rfl) ?_
        refine AOps.val (Gv.add rfl rfl (by unfold I64; omega)) ?_
        refine AOps.val (Gv.assign (v := .int _ _) rfl) ?_
        refine AOps.nil ?_
        exact ⟨(p + (Utf8.decode s p).2, n + 1), ⟨rfl, trivial⟩, ⟨rfl, trivial⟩, ⟨_, (.refl _), rfl⟩, ⟨by rw [if_pos (by simp_all [okRune] <;> omega)] at hstep; exact hstep, by dsimp only; omega, by dsimp only; omega⟩, by dsimp only; omega⟩
    · skip
      refine AOps.guardFd rfl rfl c1 ?_
      refine AOps.guardFd rfl rfl c1 ?_
      refine AOps.val (Gv.pickF (v := .bool _) rfl c1 rfl) ?_
      refine AOps.val (Gv.assign (v := .bool _) rfl) ?_
      refine AOps.nil ?_
      refine AWP.seq ?_
      refine AWP.seq ?_
      refine AWP.region rfl ?_
      refine AOps.val (Gv.move (v := .bool _) rfl) ?_
      refine AOps.val (Gv.not rfl) ?_
      refine AOps.val (Gv.move (v := .bool _) rfl) ?_
      refine AOps.guardT rfl rfl rfl ?_
      refine AOps.val (Gv.move (v := .int _ _) rfl) ?_
      refine AOps.guardT rfl rfl rfl ?_
      refine AOps.val (Gv.eqlI rfl rfl) ?_
      refine AOps.guardT rfl rfl rfl ?_
      refine AOps.val (Gv.move (v := .bool _) rfl) ?_
      refine AOps.case (s := 23) rfl (fun c10 => ?_) (fun c10 => ?_)
      · skip
        refine AOps.guardFd rfl rfl c10 ?_
        refine AOps.guardFd rfl rfl c10 ?_
        refine AOps.guardFd rfl rfl c10 ?_
        refine AOps.guardUd rfl rfl ?_
        refine AOps.guardUd rfl rfl ?_
        refine AOps.guardFd rfl rfl c10 ?_
        refine AOps.guardFd rfl rfl c10 ?_
        refine AOps.guardFd rfl rfl c10 ?_
        refine AOps.guardUd rfl rfl ?_
        refine AOps.guardUd rfl rfl ?_
        refine AOps.guardFd rfl rfl c10 ?_
        refine AOps.guardFd rfl rfl c10 ?_
        refine AOps.guardUd rfl rfl ?_
        refine AOps.guardUd rfl rfl ?_
        refine AOps.guardFd rfl rfl c10 ?_
        refine AOps.guardT rfl rfl rfl ?_
        refine AOps.val (Gv.pickT (v := .bool _) rfl c10 rfl) ?_
        refine AOps.val (Gv.pickT (v := .bool _) rfl rfl rfl) ?_
        refine AOps.nil ?_
        refine AWP.condT rfl rfl ?_
        refine AWP.seq ?_
        refine AWP.region rfl ?_
        refine AOps.val (Gv.assign (v := .bool _) rfl) ?_
        refine AOps.nil ?_
        refine AWP.ret ?_
        repeat (first | refine aseqQ_ret ?_ | refine ablockQ_ret ?_)
        refine afin.t1 (x := .bool _) rfl ?_
        rw [if_neg (by simp_all [okRune] <;> omega)] at hstep; exact jb hstep
      · skip
        refine AOps.guardT rfl rfl c10 ?_
        refine AOps.val (Gv.move (v := .int _ _) rfl) ?_
        refine AOps.guardT rfl rfl c10 ?_
        refine AOps.val (Gv.geq rfl rfl) ?_
        refine AOps.guardT rfl rfl c10 ?_
        refine AOps.val (Gv.move (v := .bool _) rfl) ?_
        refine AOps.case (s := 26) rfl (fun c11 => ?_) (fun c11 => ?_)
        · skip
          refine AOps.guardT rfl rfl c11 ?_
          refine AOps.val (Gv.move (v := .int _ _) rfl) ?_
          refine AOps.guardT rfl rfl c11 ?_
          refine AOps.val (Gv.leq rfl rfl) ?_
          refine AOps.guardT rfl rfl c10 ?_
          refine AOps.val (Gv.pickT (v := .bool _) rfl c11 rfl) ?_
          refine AOps.guardT rfl rfl c10 ?_
          refine AOps.val (Gv.not rfl) ?_
          refine AOps.guardT rfl rfl c10 ?_
          refine AOps.val (Gv.move (v := .bool _) rfl) ?_
          refine AOps.case (s := 31) rfl (fun c12 => ?_) (fun c12 => ?_)
          · skip
            refine AOps.guardT rfl rfl c12 ?_
            refine AOps.val (Gv.move (v := .int _ _) rfl) ?_
            refine AOps.guardT rfl rfl c12 ?_
            refine AOps.val (Gv.neqI rfl rfl) ?_
            refine AOps.guardT rfl rfl c10 ?_
            refine AOps.val (Gv.pickT (v := .bool _) rfl c12 rfl) ?_
            refine AOps.guardT rfl rfl c10 ?_
            refine AOps.val (Gv.move (v := .bool _) rfl) ?_
            refine AOps.case (s := 35) rfl (fun c13 => ?_) (fun c13 => ?_)
            · skip
              refine AOps.guardT rfl rfl c13 ?_
              refine AOps.val (Gv.move (v := .int _ _) rfl) ?_
              refine AOps.guardT rfl rfl c13 ?_
              refine AOps.val (Gv.neqI rfl rfl) ?_
              refine AOps.guardT rfl rfl c10 ?_
              refine AOps.val (Gv.pickT (v := .bool _) rfl c13 rfl) ?_
              refine AOps.guardT rfl rfl rfl ?_
              refine AOps.val (Gv.pickF (v := .bool _) rfl c10 rfl) ?_
              refine AOps.val (Gv.pickT (v := .bool _) rfl rfl rfl) ?_
              refine AOps.nil ?_
              refine AWP.cond rfl (fun c14 => ?_) (fun c14 => ?_)
              · skip
                refine AWP.seq ?_
                refine AWP.region rfl ?_
                refine AOps.val (Gv.assign (v := .bool _) rfl) ?_
                refine AOps.nil ?_
                refine AWP.ret ?_
                repeat (first | refine aseqQ_ret ?_ | refine ablockQ_ret ?_)
                refine afin.t1 (x := .bool _) rfl ?_
                rw [if_neg (by simp_all [okRune] <;> omega)] at hstep; exact jb hstep
              · skip
                refine AWP.skip ?_
                refine AWP.region rfl ?_
                refine AOps.val (Gv.move (v := .int _ _) rfl) ?_
                refine AOps.val (Gv.add rfl rfl (by unfold I64; omega)) ?_
                refine AOps.val (Gv.assign (v := .int _ _) rfl) ?_
                refine AOps.nil ?_
                exact ⟨(p + (Utf8.decode s p).2, n + 1), ⟨rfl, trivial⟩, ⟨rfl, trivial⟩, ⟨_, (.refl _), rfl⟩, ⟨by rw [if_pos (by simp_all [okRune] <;> omega)] at hstep; exact hstep, by dsimp only; omega, by dsimp only; omega⟩, by dsimp only; omega⟩
            · skip
              refine AOps.guardFd rfl rfl c13 ?_
              refine AOps.guardFd rfl rfl c13 ?_
              refine AOps.guardT rfl rfl c10 ?_
              refine AOps.val (Gv.pickF (v := .bool _) rfl c13 rfl) ?_
              refine AOps.guardT rfl rfl rfl ?_
              refine AOps.val (Gv.pickF (v := .bool _) rfl c10 rfl) ?_
              refine AOps.val (Gv.pickT (v := .bool _) rfl rfl rfl) ?_
              refine AOps.nil ?_
              refine AWP.condF rfl rfl ?_
              refine AWP.skip ?_
              refine AWP.region rfl ?_
              refine AOps.val (Gv.move (v := .int _ _) rfl) ?_
              refine AOps.val (Gv.add rfl rfl (by unfold I64; omega)) ?_
              refine AOps.val (Gv.assign (v := .int _ _) rfl) ?_
              refine AOps.nil ?_
              exact ⟨(p + (Utf8.decode s p).2, n + 1), ⟨rfl, trivial⟩, ⟨rfl, trivial⟩, ⟨_, (.refl _), rfl⟩, ⟨by rw [if_pos (by simp_all [okRune] <;> omega)] at hstep; exact hstep, by dsimp only; omega, by dsimp only; omega⟩, by dsimp only; omega⟩
          · skip
            refine AOps.guardFd rfl rfl c12 ?_
            refine AOps.guardFd rfl rfl c12 ?_
            refine AOps.guardT rfl rfl c10 ?_
            refine AOps.val (Gv.pickF (v := .bool _) rfl c12 rfl) ?_
            refine AOps.guardT rfl rfl c10 ?_
            refine AOps.val (Gv.move (v := .bool _) rfl) ?_
            refine AOps.guardFd rfl rfl rfl ?_
            refine AOps.guardFd rfl rfl rfl ?_
            refine AOps.guardT rfl rfl c10 ?_
            refine AOps.val (Gv.pickF (v := .bool _) rfl rfl rfl) ?_
            refine AOps.guardT rfl rfl rfl ?_
            refine AOps.val (Gv.pickF (v := .bool _) rfl c10 rfl) ?_
            refine AOps.val (Gv.pickT (v := .bool _) rfl rfl rfl) ?_
            refine AOps.nil ?_
            refine AWP.condF rfl rfl ?_
            refine AWP.skip ?_
            refine AWP.region rfl ?_
            refine AOps.val (Gv.move (v := .int _ _) rfl) ?_
            refine AOps.val (Gv.add rfl rfl (by unfold I64; omega)) ?_
            refine AOps.val (Gv.assign (v := .int _ _) rfl) ?_
            refine AOps.nil ?_
            exact ⟨(p + (Utf8.decode s p).2, n + 1), ⟨rfl, trivial⟩, ⟨rfl, trivial⟩, ⟨_, (.refl _), rfl⟩, ⟨by rw [if_pos (by simp_all [okRune] <;> omega)] at hstep; exact hstep, by dsimp only; omega, by dsimp only; omega⟩, by dsimp only; omega⟩
        · skip
          refine AOps.guardFd rfl rfl c11 ?_
          refine AOps.guardFd rfl rfl c11 ?_
          refine AOps.guardT rfl rfl c10 ?_
          refine AOps.val (Gv.pickF (v := .bool _) rfl c11 rfl) ?_
          refine AOps.guardT rfl rfl c10 ?_
          refine AOps.val (Gv.not rfl) ?_
          refine AOps.guardT rfl rfl c10 ?_
          refine AOps.val (Gv.move (v := .bool _) rfl) ?_
          refine AOps.guardT rfl rfl rfl ?_
          refine AOps.val (Gv.move (v := .int _ _) rfl) ?_
          refine AOps.guardT rfl rfl rfl ?_
          refine AOps.val (Gv.neqI rfl rfl) ?_
          refine AOps.guardT rfl rfl c10 ?_
          refine AOps.val (Gv.pickT (v := .bool _) rfl rfl rfl) ?_
          refine AOps.guardT rfl rfl c10 ?_
          refine AOps.val (Gv.move (v := .bool _) rfl) ?_
          refine AOps.case (s := 35) rfl (fun c15 => ?_) (fun c15 => ?_)
          · skip
            refine AOps.guardT rfl rfl c15 ?_
            refine AOps.val (Gv.move (v := .int _ _) rfl) ?_
            refine AOps.guardT rfl rfl c15 ?_
            refine AOps.val (Gv.neqI rfl rfl) ?_
            refine AOps.guardT rfl rfl c10 ?_
            refine AOps.val (Gv.pickT (v := .bool _) rfl c15 rfl) ?_
            refine AOps.guardT rfl rfl rfl ?_
            refine AOps.val (Gv.pickF (v := .bool _) rfl c10 rfl) ?_
            refine AOps.val (Gv.pickT (v := .bool _) rfl rfl rfl) ?_
            refine AOps.nil ?_
            refine AWP.cond rfl (fun c16 => ?_) (fun c16 => ?_)
            · skip
              refine AWP.seq ?_
              refine AWP.region rfl ?_
              refine AOps.val (Gv.assign (v := .bool _) rfl) ?_
              refine AOps.nil ?_
              refine AWP.ret ?_
              repeat (first | refine aseqQ_ret ?_ | refine ablockQ_ret ?_)
              refine afin.t1 (x := .bool _) rfl ?_
              rw [if_neg (by simp_all [okRune] <;> omega)] at hstep; exact jb hstep
            · skip
              refine AWP.skip ?_
              refine AWP.region rfl ?_
              refine AOps.val (Gv.move (v := .int _ _) rfl) ?_
              refine AOps.val (Gv.add rfl rfl (by unfold I64; omega)) ?_
              refine AOps.val (Gv.assign (v := .int _ _) rfl) ?_
              refine AOps.nil ?_
              exact ⟨(p + (Utf8.decode s p).2, n + 1), ⟨rfl, trivial⟩, ⟨rfl, trivial⟩, ⟨_, (.refl _), rfl⟩, ⟨by rw [if_pos (by simp_all [okRune] <;> omega)] at hstep; exact hstep, by dsimp only; omega, by dsimp only; omega⟩, by dsimp only; omega⟩
          · skip
            refine AOps.guardFd rfl rfl c15 ?_
            refine AOps.guardFd rfl rfl c15 ?_
            refine AOps.guardT rfl rfl c10 ?_
            refine AOps.val (Gv.pickF (v := .bool _) rfl c15 rfl) ?_
            refine AOps.guardT rfl rfl rfl ?_
            refine AOps.val (Gv.pickF (v := .bool _) rfl c10 rfl) ?_
            refine AOps.val (Gv.pickT (v := .bool _) rfl rfl rfl) ?_
            refine AOps.nil ?_
            refine AWP.condF rfl rfl ?_
            refine AWP.skip ?_
            refine AWP.region rfl ?_
            refine AOps.val (Gv.move (v := .int _ _) rfl) ?_
            refine AOps.val (Gv.add rfl rfl (by unfold I64; omega)) ?_
            refine AOps.val (Gv.assign (v := .int _ _) rfl) ?_
            refine AOps.nil ?_
            exact ⟨(p + (Utf8.decode s p).2, n + 1), ⟨rfl, trivial⟩, ⟨rfl, trivial⟩, ⟨_, (.refl _), rfl⟩, ⟨by rw [if_pos (by simp_all [okRune] <;> omega)] at hstep; exact hstep, by dsimp only; omega, by dsimp only; omega⟩, by dsimp only; omega⟩
  · skip
    rw [nameFrom, dif_neg hlt] at hp
    refine AWP.seq ?_
    refine AWP.region rfl ?_
    refine AOps.nextTover rfl .head hlt ?_
    refine AOps.val (Gv.extract (v := .bool _) rfl rfl) ?_
    refine AOps.nil ?_
    refine AWP.seq ?_
    refine AWP.condF rfl rfl ?_
    refine AWP.exit ?_
    refine AWP.seq ?_
    refine AWP.region rfl ?_
    refine AOps.val (Gv.move (v := .int _ _) rfl) ?_
    refine AOps.val (Gv.geq rfl rfl) ?_
    refine AOps.val (Gv.move (v := .bool _) rfl) ?_
    refine AOps.case (s := 45) rfl (fun c17 => ?_) (fun c17 => ?_)
    · skip
      refine AOps.guardT rfl rfl c17 ?_
      refine AOps.val (Gv.move (v := .int _ _) rfl) ?_
      refine AOps.guardT rfl rfl c17 ?_
      refine AOps.val (Gv.leq rfl rfl) ?_
      refine AOps.val (Gv.pickT (v := .bool _) rfl c17 rfl) ?_
      refine AOps.val (Gv.assign (v := .bool _) rfl) ?_
      refine AOps.nil ?_
      refine AWP.ret ?_
      repeat (first | refine aseqQ_ret ?_ | refine ablockQ_ret ?_)
      refine afin.t1 (x := .bool _) rfl ?_
      rw [← hp]; exact jb (by simp_all <;> (intros; omega))
    · skip
      refine AOps.guardFd rfl rfl c17 ?_
      refine AOps.guardFd rfl rfl c17 ?_
      refine AOps.val (Gv.pickF (v := .bool _) rfl c17 rfl) ?_
      refine AOps.val (Gv.assign (v := .bool _) rfl) ?_
      refine AOps.nil ?_
      refine AWP.ret ?_
      repeat (first | refine aseqQ_ret ?_ | refine ablockQ_ret ?_)
      refine afin.t1 (x := .bool _) rfl ?_
      rw [← hp]; exact jb (by simp_all <;> (intros; omega))
theorem rows_spec : AFun Tryz.prog E 55 [] (.fro 3 (kindT.map encK)) := by
  refine ACall.intro Tryz.func55 rfl (by decide) rfl ?_
  refine AWP.seq ?_
  refine AWP.region rfl ?_
  refine AOps.val (Gv.assign (v := .raw _) rfl) ?_
  refine AOps.nil ?_
  refine AWP.seq ?_
  refine AWP.region rfl ?_
  refine AOps.val (Gv.build (cps := [(0, [_]), (1, [_]), (2, [_])]) (rs := [_, _, _]) pl116 rfl rfl rfl) ?_
  refine AOps.val (Gv.build (cps := [(0, [_]), (1, [_]), (2, [_])]) (rs := [_, _, _]) pl116 rfl rfl rfl) ?_
  refine AOps.val (Gv.build (cps := [(0, [_]), (1, [_]), (2, [_])]) (rs := [_, _, _]) pl116 rfl rfl rfl) ?_
  refine AOps.val (Gv.build (cps := [(0, [_]), (1, [_]), (2, [_])]) (rs := [_, _, _]) pl116 rfl rfl rfl) ?_
  refine AOps.val (Gv.build (cps := [(0, [_]), (1, [_]), (2, [_])]) (rs := [_, _, _]) pl116 rfl rfl rfl) ?_
  refine AOps.val (Gv.build (cps := [(0, [_]), (1, [_]), (2, [_])]) (rs := [_, _, _]) pl116 rfl rfl rfl) ?_
  refine AOps.val (Gv.build (cps := [(0, [_]), (1, [_]), (2, [_])]) (rs := [_, _, _]) pl116 rfl rfl rfl) ?_
  refine AOps.val (Gv.build (cps := [(0, [_]), (1, [_]), (2, [_])]) (rs := [_, _, _]) pl116 rfl rfl rfl) ?_
  refine AOps.val (Gv.build (cps := [(0, [_]), (1, [_]), (2, [_])]) (rs := [_, _, _]) pl116 rfl rfl rfl) ?_
  refine AOps.val (Gv.build (cps := [(0, [_]), (1, [_]), (2, [_])]) (rs := [_, _, _]) pl116 rfl rfl rfl) ?_
  refine AOps.val (Gv.build (cps := [(0, [_]), (1, [_]), (2, [_])]) (rs := [_, _, _]) pl116 rfl rfl rfl) ?_
  refine AOps.val (Gv.build (cps := [(0, [_]), (1, [_]), (2, [_])]) (rs := [_, _, _]) pl116 rfl rfl rfl) ?_
  refine AOps.val (Gv.build (cps := [(0, [_]), (1, [_]), (2, [_])]) (rs := [_, _, _]) pl116 rfl rfl rfl) ?_
  refine AOps.val (Gv.build (cps := [(0, [_]), (1, [_]), (2, [_])]) (rs := [_, _, _]) pl116 rfl rfl rfl) ?_
  refine AOps.val (Gv.build (cps := [(0, [_]), (1, [_]), (2, [_])]) (rs := [_, _, _]) pl116 rfl rfl rfl) ?_
  refine AOps.val (Gv.build (cps := [(0, [_]), (1, [_]), (2, [_])]) (rs := [_, _, _]) pl116 rfl rfl rfl) ?_
  refine AOps.val (Gv.build (cps := [(0, [_]), (1, [_]), (2, [_])]) (rs := [_, _, _]) pl116 rfl rfl rfl) ?_
  refine AOps.val (Gv.build (cps := [(0, [_]), (1, [_]), (2, [_])]) (rs := [_, _, _]) pl116 rfl rfl rfl) ?_
  refine AOps.val (Gv.build (cps := [(0, [_]), (1, [_]), (2, [_])]) (rs := [_, _, _]) pl116 rfl rfl rfl) ?_
  refine AOps.val (Gv.build (cps := [(0, [_]), (1, [_]), (2, [_])]) (rs := [_, _, _]) pl116 rfl rfl rfl) ?_
  refine AOps.val (Gv.build (cps := [(0, [_]), (1, [_]), (2, [_])]) (rs := [_, _, _]) pl116 rfl rfl rfl) ?_
  refine AOps.val (Gv.build (cps := [(0, [_]), (1, [_]), (2, [_])]) (rs := [_, _, _]) pl116 rfl rfl rfl) ?_
  refine AOps.val (Gv.build (cps := [(0, [_]), (1, [_]), (2, [_])]) (rs := [_, _, _]) pl116 rfl rfl rfl) ?_
  refine AOps.val (Gv.build (cps := [(0, [_]), (1, [_]), (2, [_])]) (rs := [_, _, _]) pl116 rfl rfl rfl) ?_
  refine AOps.val (Gv.build (cps := [(0, [_]), (1, [_]), (2, [_])]) (rs := [_, _, _]) pl116 rfl rfl rfl) ?_
  refine AOps.val (Gv.build (cps := [(0, [_]), (1, [_]), (2, [_])]) (rs := [_, _, _]) pl116 rfl rfl rfl) ?_
  refine AOps.val (Gv.build (cps := [(0, [_]), (1, [_]), (2, [_])]) (rs := [_, _, _]) pl116 rfl rfl rfl) ?_
  refine AOps.buildSliceFF (rows := [[_, _, _], [_, _, _], [_, _, _], [_, _, _], [_, _, _], [_, _, _], [_, _, _], [_, _, _], [_, _, _], [_, _, _], [_, _, _], [_, _, _], [_, _, _], [_, _, _], [_, _, _], [_, _, _], [_, _, _], [_, _, _], [_, _, _], [_, _, _], [_, _, _], [_, _, _], [_, _, _], [_, _, _], [_, _, _], [_, _, _], [_, _, _]]) ps117_27 rfl rfl rfl rfl rfl ?_
  refine AOps.val (Gv.assign (v := .fro _ _) rfl) ?_
  refine AOps.nil ?_
  refine AWP.ret ?_
  repeat (first | refine aseqQ_ret ?_ | refine ablockQ_ret ?_)
  refine afin.t1 (x := .fro _ _) rfl ?_
  rfl
theorem in_spec (k n : Int) : AFun Tryz.prog E 54 [.int .i64 k, .int .i64 n] (.bool (decide (0 ≤ k) && decide (k < n))) := by
  refine ACall.intro Tryz.func54 rfl (by decide) rfl ?_
  refine AWP.seq ?_
  refine AWP.region rfl ?_
  refine AOps.val (Gv.assign (v := .bool _) rfl) ?_
  refine AOps.nil ?_
  refine AWP.seq ?_
  refine AWP.region rfl ?_
  refine AOps.val (Gv.move (v := .int _ _) rfl) ?_
  refine AOps.val (Gv.geq rfl rfl) ?_
  refine AOps.val (Gv.move (v := .bool _) rfl) ?_
  refine AOps.case (s := 7) rfl (fun c18 => ?_) (fun c18 => ?_)
  · skip
    refine AOps.guardT rfl rfl c18 ?_
    refine AOps.val (Gv.move (v := .int _ _) rfl) ?_
    refine AOps.guardT rfl rfl c18 ?_
    refine AOps.val (Gv.move (v := .int _ _) rfl) ?_
    refine AOps.guardT rfl rfl c18 ?_
    refine AOps.val (Gv.lss rfl rfl) ?_
    refine AOps.val (Gv.pickT (v := .bool _) rfl c18 rfl) ?_
    refine AOps.val (Gv.assign (v := .bool _) rfl) ?_
    refine AOps.nil ?_
    refine AWP.ret ?_
    repeat (first | refine aseqQ_ret ?_ | refine ablockQ_ret ?_)
    refine afin.t1 (x := .bool _) rfl ?_
    exact jb (by simp_all <;> omega)
  · skip
    refine AOps.guardFd rfl rfl c18 ?_
    refine AOps.guardFd rfl rfl c18 ?_
    refine AOps.guardFd rfl rfl c18 ?_
    refine AOps.val (Gv.pickF (v := .bool _) rfl c18 rfl) ?_
    refine AOps.val (Gv.assign (v := .bool _) rfl) ?_
    refine AOps.nil ?_
    refine AWP.ret ?_
    repeat (first | refine aseqQ_ret ?_ | refine ablockQ_ret ?_)
    refine afin.t1 (x := .bool _) rfl ?_
    exact jb (by simp_all <;> omega)
def strL (l : List UInt8) : ByteArray := ⟨l.toArray⟩
theorem strL_app (a b : List UInt8) : strL a ++ strL b = strL (a ++ b) := by
  apply ByteArray.ext
  simp [strL, ByteArray.data_append]
theorem strL_size (a : List UInt8) : (strL a).size = a.length := by show (List.toArray a).size = _; simp
theorem digit_wrap (x : Nat) (h : x < 18446744073709551616) : IntKind.u8.wrap (IntKind.u64.wrap (48 + (x : Int).tmod 10)) = ((48 + x % 10 : Nat) : Int) := by
  have h1 : (x : Int).tmod 10 = ((x % 10 : Nat) : Int) := by rw [Int.tmod_eq_emod_of_nonneg (by omega)]; rfl
  rw [h1]
  have h2 : IntKind.u64.wrap (48 + ((x % 10 : Nat) : Int)) = 48 + ((x % 10 : Nat) : Int) := by
    unfold IntKind.wrap; simp [IntKind.bits, IntKind.signed]; omega
  rw [h2]
  unfold IntKind.wrap; simp [IntKind.bits, IntKind.signed]; omega
theorem digit_str (x : Nat) (h : x < 18446744073709551616) : strOfNums [IntKind.u8.wrap (IntKind.u64.wrap (48 + (x : Int).tmod 10))] = strL [UInt8.ofNat (48 + x % 10)] := by
  rw [digit_wrap x h]; rfl
theorem quo_wrap (x : Nat) (h : x < 18446744073709551616) : IntKind.u64.wrap ((x : Int).tdiv 10) = ((x / 10 : Nat) : Int) := by
  have h1 : (x : Int).tdiv 10 = ((x / 10 : Nat) : Int) := by rw [Int.tdiv_eq_ediv_of_nonneg (by omega)]; rfl
  rw [h1]
  unfold IntKind.wrap; simp [IntKind.bits, IntKind.signed]; omega
def ten (y : Nat) (acc : List UInt8) : List UInt8 := if y = 0 then acc else decDigits y ++ acc
theorem ten_step {y : Nat} (acc : List UInt8) (h : 0 < y) : ten (y / 10) (UInt8.ofNat (48 + y % 10) :: acc) = ten y acc := by
  unfold ten
  rw [if_neg (by omega : ¬ y = 0)]
  split
  · rename_i h0
    rw [decDigits, dif_pos (by omega), Nat.mod_eq_of_lt (by omega)]; rfl
  · rename_i h0
    rw [decDigits.eq_1 y, dif_neg (by omega)]; simp
theorem decD_step (x : Nat) : ten (x / 10) [UInt8.ofNat (48 + x % 10)] = decDigits x := by
  by_cases h : x = 0
  · subst h; rw [decDigits, dif_pos (by omega)]; rfl
  · rw [ten_step [] (by omega)]; unfold ten; rw [if_neg h]; simp
theorem decD_len (x : Nat) (h : x < 18446744073709551616) : (decDigits x).length ≤ 40 := by
  have : ∀ (k y : Nat), y < 10 ^ (k + 1) → (decDigits y).length ≤ k + 1 := by
    intro k
    induction k with
    | zero => intro y hy; rw [decDigits, dif_pos (by simpa using hy)]; simp
    | succ k ih =>
      intro y hy
      rw [decDigits]
      split
      · simp
      · rw [List.length_append]
        have := ih (y / 10) (by rw [Nat.pow_succ] at hy; omega)
        simp; omega
  exact this 39 x (by omega)
theorem plain_spec (x : Nat) (hx : x < 18446744073709551616) : AFun Tryz.prog E 85 [.int .u64 x] (.str (strL (decDigits x))) := by
  have hlen := decD_len x hx
  refine ACall.intro Tryz.func85 rfl (by decide) rfl ?_
  refine AWP.seq ?_
  refine AWP.region rfl ?_
  refine AOps.val (Gv.assign (v := .str _) rfl) ?_
  refine AOps.nil ?_
  refine AWP.seq ?_
  refine AWP.region rfl ?_
  refine AOps.val (Gv.move (v := .int _ _) rfl) ?_
  refine AOps.val (Gv.rem rfl rfl (by decide)) ?_
  refine AOps.val (Gv.addW rfl rfl) ?_
  refine AOps.val (Gv.conv Tryz.underlying155 Tryz.underlying5 rfl) ?_
  refine AOps.buildSliceFF (rows := [[_]]) ps75_1 rfl rfl rfl rfl rfl ?_
  refine AOps.val (Gv.convBytes (ns := [_]) Tryz.underlying75 Tryz.underlying5 Tryz.underlying9 rfl) ?_
  refine AOps.val (Gv.assign (v := .str _) rfl) ?_
  refine AOps.nil ?_
  refine AWP.seq ?_
  refine AWP.seq ?_
  refine AWP.region rfl ?_
  refine AOps.val (Gv.move (v := .int _ _) rfl) ?_
  refine AOps.val (Gv.quo rfl rfl (by decide)) ?_
  refine AOps.val (Gv.assign (v := .int _ _) rfl) ?_
  refine AOps.nil ?_
  refine AWP.block ?_
  refine AWP.loop (γ := Nat × List UInt8) [] (fun g => [(0, .int .u64 g.1), (3, .str (strL g.2))]) (fun g => []) (fun g => ten g.1 g.2 = decDigits x ∧ g.1 < 18446744073709551616) (fun g => g.1) (x / 10, [UInt8.ofNat (48 + x % 10)]) ⟨(congrArg (AV.int .u64) (quo_wrap x hx)), (congrArg AV.str (digit_str x hx)), trivial⟩ ⟨_, (.refl _), rfl⟩ (⟨decD_step x, by dsimp only; omega⟩) ?_
  rintro ⟨y, acc⟩ ⟨hy, hlt⟩
  try dsimp only at *
  refine AWP.seq ?_
  refine AWP.seq ?_
  refine AWP.region rfl ?_
  refine AOps.val (Gv.move (v := .int _ _) rfl) ?_
  refine AOps.val (Gv.gtr rfl rfl) ?_
  refine AOps.nil ?_
  refine AWP.condP rfl (fun cy => ?_) (fun cy => ?_)
  · skip
    have hy0 : 0 < y := by omega
    have hal : acc.length ≤ 40 := by
      have := congrArg List.length hy
      unfold ten at this; split at this <;> (try simp at this) <;> omega
    refine AWP.skip ?_
    refine AWP.seq ?_
    refine AWP.block ?_
    refine AWP.region rfl ?_
    refine AOps.val (Gv.move (v := .int _ _) rfl) ?_
    refine AOps.val (Gv.rem rfl rfl (by decide)) ?_
    refine AOps.val (Gv.addW rfl rfl) ?_
    refine AOps.val (Gv.conv Tryz.underlying155 Tryz.underlying5 rfl) ?_
    refine AOps.buildSliceFF (rows := [[_]]) ps75_1 rfl rfl rfl rfl rfl ?_
    refine AOps.val (Gv.convBytes (ns := [_]) Tryz.underlying75 Tryz.underlying5 Tryz.underlying9 rfl) ?_
    refine AOps.val (Gv.move (v := .str _) rfl) ?_
    refine AOps.val (Gv.addT rfl rfl (by rw [digit_str y hlt, strL_size, strL_size]; simp; omega)) ?_
    refine AOps.val (Gv.assign (v := .str _) rfl) ?_
    refine AOps.nil ?_
    refine AWP.region rfl ?_
    refine AOps.val (Gv.move (v := .int _ _) rfl) ?_
    refine AOps.val (Gv.quo rfl rfl (by decide)) ?_
    refine AOps.val (Gv.assign (v := .int _ _) rfl) ?_
    refine AOps.nil ?_
    exact ⟨(y / 10, UInt8.ofNat (48 + y % 10) :: acc), trivial, ⟨congrArg (AV.int .u64) (quo_wrap y hlt), congrArg AV.str (by rw [digit_str y hlt, strL_app]; rfl), trivial⟩, ⟨_, (.refl _), rfl⟩, ⟨by dsimp only; rw [ten_step acc hy0]; exact hy, by dsimp only; omega⟩, by dsimp only; omega⟩
  · skip
    have hy0 : y = 0 := by omega
    subst hy0
    refine AWP.exit ?_
    refine AWP.seq ?_
    refine AWP.region rfl ?_
    refine AOps.val (Gv.move (v := .str _) rfl) ?_
    refine AOps.val (Gv.assign (v := .str _) rfl) ?_
    refine AOps.nil ?_
    refine AWP.ret ?_
    repeat (first | refine aseqQ_ret ?_ | refine ablockQ_ret ?_)
    refine afin.t1 (x := .str _) rfl ?_
    rw [← hy]; rfl
theorem neg_wrap (n : Int) (h : -9223372036854775808 ≤ n) (h0 : n < 0) : IntKind.u64.wrap (0 - IntKind.u64.wrap n) = ((n.natAbs : Nat) : Int) := by
  unfold IntKind.wrap; simp [IntKind.bits, IntKind.signed]; omega
theorem pos_wrap (n : Int) (h : n ≤ 9223372036854775807) (h0 : 0 ≤ n) : IntKind.u64.wrap n = ((n.toNat : Nat) : Int) := by
  unfold IntKind.wrap; simp [IntKind.bits, IntKind.signed]; omega
theorem digits_spec (n : Int) (hn : -9223372036854775808 ≤ n ∧ n ≤ 9223372036854775807) : AFun Tryz.prog E 56 [.int .i64 n] (.str (strL (itoa n))) := by
  refine ACall.intro Tryz.func56 rfl (by decide) rfl ?_
  refine AWP.seq ?_
  refine AWP.region rfl ?_
  refine AOps.val (Gv.assign (v := .str _) rfl) ?_
  refine AOps.nil ?_
  refine AWP.seq ?_
  refine AWP.seq ?_
  refine AWP.region rfl ?_
  refine AOps.val (Gv.move (v := .int _ _) rfl) ?_
  refine AOps.val (Gv.lss rfl rfl) ?_
  refine AOps.nil ?_
  refine AWP.condP rfl (fun c => ?_) (fun c => ?_)
  · skip
    have e := neg_wrap n hn.1 c
    have hl := decD_len n.natAbs (by omega)
    have hp := plain_spec (E := E) n.natAbs (by omega)
    rw [← e] at hp
    refine AWP.seq ?_
    refine AWP.region rfl ?_
    refine AOps.val (Gv.move (v := .int _ _) rfl) ?_
    refine AOps.val (Gv.conv Tryz.underlying2 Tryz.underlying155 rfl) ?_
    refine AOps.val (Gv.neg rfl) ?_
    refine AOps.val (Gv.assign (v := .int _ _) rfl) ?_
    refine AOps.nil ?_
    refine AWP.seq ?_
    refine AWP.region rfl ?_
    refine AOps.val (Gv.move (v := .int _ _) rfl) ?_
    refine AOps.callP (hp) rfl ?_
    refine AOps.val (Gv.addT rfl rfl (by rw [strL_size]; show 1 + _ ≤ _; omega)) ?_
    refine AOps.val (Gv.assign (v := .str _) rfl) ?_
    refine AOps.nil ?_
    refine AWP.ret ?_
    repeat (first | refine aseqQ_ret ?_ | refine ablockQ_ret ?_)
    refine afin.t1 (x := .str _) rfl ?_
    unfold itoa; rw [if_pos c]; exact congrArg AV.str (strL_app [45] _)
  · skip
    have e := pos_wrap n hn.2 (by omega)
    have hp := plain_spec (E := E) n.toNat (by omega)
    rw [← e] at hp
    refine AWP.skip ?_
    refine AWP.seq ?_
    refine AWP.region rfl ?_
    refine AOps.val (Gv.move (v := .int _ _) rfl) ?_
    refine AOps.val (Gv.conv Tryz.underlying2 Tryz.underlying155 rfl) ?_
    refine AOps.callP (hp) rfl ?_
    refine AOps.val (Gv.assign (v := .str _) rfl) ?_
    refine AOps.nil ?_
    refine AWP.ret ?_
    repeat (first | refine aseqQ_ret ?_ | refine ablockQ_ret ?_)
    refine afin.t1 (x := .str _) rfl ?_
    unfold itoa; rw [if_neg c]
end Go.Proofs.YtdkhlgiohpdihaaGreatDoor
