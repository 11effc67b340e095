/- The heap's functions: contracts. -/
import Derived.Test.YtjgcokmgngdkeaaDraw
import Derived.Test.YtjgcokmgngdkeaaProg
namespace Go.Proofs.Ytjgcokmgngdkeaa
open Go.Proofs
theorem bld48_0S (w : World) (a0 : Option Addr) (n0 c0 : Nat) : (Instr.build 48 #[(0, .slice a0 n0 c0)]).run Try.prog w = .ok (.agg #[.slice a0 n0 c0]) w := by kernel_rfl
variable {I : Ghost} {O : List (Nat × Obj)} {E w : World}

/-- A row of numbers in memory of its own. -/
structure Row where
  a : Option Addr
  cap : Nat
  l : List Int
  A : Own
def Row.ok (r : Row) : Prop := OwnS 1 2 r.a r.l.length r.cap (r.l.map (Value.int .i64)) r.A
def Row.v (r : Row) : Value := .slice r.a r.l.length r.cap
/-- Rows, in a slice of its own. -/
def Tab (a : Option Addr) (cap : Nat) (L : List (List Int)) (X : Own) : Prop :=
  ∃ (A : Own) (rs : List Row), rs.map (·.l) = L ∧ OwnS 1 25 a rs.length cap (rs.map Row.v) A ∧ (∀ r ∈ rs, r.ok) ∧ X = A ++ rs.flatMap Row.A

theorem Tab.nil : Tab none 0 [] [] := ⟨[], [], rfl, OwnS.nil _ _, by simp, by simp⟩

theorem flatten_map_singleton {α : Type} (l : List α) : (l.map fun x => [x]).flatten = l := by
  induction l with
  | nil => rfl
  | cons x l ih => simp [ih]

theorem Row.ints {r : Row} (h : r.ok) (hO : ∀ x ∈ r.A, x ∈ O) : Ints I O r.a r.l.length r.cap r.l := by
  refine OwnS.sl (A := r.A) (ls := r.l.map fun x => [Value.int .i64 x]) (e := 2) ?_ ?_ (by simp) hO ⟨by simp, ?_⟩
  · have : (r.l.map fun x => [Value.int .i64 x]).flatten = r.l.map (Value.int .i64) := by
      have := flatten_map_singleton (r.l.map (Value.int .i64))
      rwa [List.map_map] at this
    rw [this]; exact h
  · intro l hl; obtain ⟨x, _, rfl⟩ := List.mem_map.1 hl; rfl
  · intro j l x h1 h2
    rw [List.getElem?_map, h2] at h1
    cases h1
    rfl

theorem Tab.sl {a : Option Addr} {cap : Nat} {L : List (List Int)} {X : Own} (h : Tab a cap L X) (hO : ∀ x ∈ X, x ∈ O) : Sl 1 RInts I O a L.length cap L := by
  obtain ⟨A, rs, rfl, hA, hok, rfl⟩ := h
  refine OwnS.sl (A := A) (ls := rs.map fun r => [Row.v r]) (e := 25) ?_ ?_ (by simp) (fun x hx => hO x (by simp [hx])) ⟨by simp, ?_⟩
  · have := flatten_map_singleton (rs.map Row.v)
    rw [List.map_map] at this
    simp only [List.length_map]
    have e : (rs.map fun r => [Row.v r]).flatten = rs.map Row.v := this
    rw [e]; exact hA
  · intro l hl; obtain ⟨x, _, rfl⟩ := List.mem_map.1 hl; rfl
  · intro j l x h1 h2
    rw [List.getElem?_map] at h1 h2
    obtain ⟨r, hr, rfl⟩ := Option.map_eq_some_iff.1 h1
    rw [hr] at h2
    cases h2
    have hm := List.mem_of_getElem? hr
    exact ⟨_, _, _, rfl, Row.ints (hok r hm) (fun y hy => hO y (by simp only [List.mem_append, List.mem_flatMap]; exact .inr ⟨r, hm, hy⟩))⟩

/-- The row that is put behind. -/
theorem Tab.push {a' : Option Addr} {cap' : Nat} {A' : Own} {rs : List Row} {r : Row} (hA : OwnS 1 25 a' (rs.length + 1) cap' (rs.map Row.v ++ [r.v]) A') (hok : ∀ r ∈ rs, r.ok) (hr : r.ok) :
    Tab a' cap' (rs.map (·.l) ++ [r.l]) (A' ++ (rs ++ [r]).flatMap Row.A) :=
  ⟨A', rs ++ [r], by simp, by simpa using hA, by
    intro x hx
    rcases List.mem_append.1 hx with h | h
    · exact hok x h
    · rw [List.mem_singleton.1 h]; exact hr, rfl⟩

def Bd (L : List (List Int)) : Prop := L.length ≤ 1048576 ∧ ∀ l ∈ L, l.length ≤ 1048576

theorem clone_spec {a : Option Addr} {n cap : Nat} {L : List (List Int)} (hS : SL I O E w) (hl : Sl 1 RInts I O a n cap L) (hB : Bd L) :
    Fn Try.prog 17 #[.slice a n cap] w (fun v w' => ∃ J X a' cap', I.le J ∧ SL J (X ++ O) E w' ∧ Tab a' cap' L X ∧ v = .slice a' L.length cap') := by
  obtain ⟨hB1, hB2⟩ := hB
  have hn := hl.1
  have hl0 : ∀ J O', I.le J → (∀ x ∈ O, x ∈ O') → Sl 1 RInts J O' a n cap L := fun J O' h1 h2 => Sl.mono' RInts.stays h1 h2 hl
  refine Fn.intro Try.func17 rfl (by decide) rfl ?_
  have hle := Ghost.le.refl I
  refine WP.seq ?_
  refine WP.region rfl ?_
  refine Ops.assignS rfl ?_
  refine Ops.nil ?_
  refine WP.seq ?_
  refine WP.region rfl ?_
  refine Ops.assignS rfl ?_
  refine Ops.nil ?_
  refine WP.seq ?_
  refine WP.seq ?_
  refine WP.region rfl ?_
  refine Ops.moveS rfl ?_
  refine Ops.lenS Try.underlying22 rfl ?_
  refine Ops.moveI rfl ?_
  refine Ops.nil ?_
  refine WP.block ?_
  refine WP.env (fun ρ hρ => ?_)
  obtain ⟨v3, e3, hv3⟩ := nm hρ 3
  obtain ⟨v6, e6, hv6⟩ := nm hρ 6
  obtain ⟨v7, e7, hv7⟩ := nm hρ 7
  obtain ⟨v8, e8, hv8⟩ := nm hρ 8
  clear hρ
  refine WP.loop (fun (k : Nat) ρ2 w2 => ∃ J : Ghost, ∃ (ao : Option Addr) (co : Nat) (X : Own), I.le J ∧ SL J (X ++ O) E w2 ∧ ρ2 8 = .int .i64 k ∧ ρ2 3 = .slice ao k co ∧ ρ2 6 = v6 ∧ ρ2 7 = v7 ∧ (k ≤ L.length ∧ Tab ao co (L.take k) X)) (fun k => L.length - k) 0 ?_ ?_
  · skip
    exact ⟨I, none, 0, [], Ghost.le.refl _, hS, (e8.trans hv8), (e3.trans hv3), e6, e7, ⟨Nat.zero_le _, by simpa using Tab.nil⟩⟩
  · skip
    rintro k ρ w ⟨I, ao, co, X, hI, hS, e8, e3, e6, e7, ⟨hk, hT⟩⟩
    have hz1 := hI
    replace hle := hle.trans hI
    have hh1 := Ghost.le.refl I
    refine WP.seq ?_
    refine WP.region rfl ?_
    refine Ops.lss e8 (e7.trans hv7) ?_
    refine Ops.nil ?_
    refine WP.seq ?_
    refine WP.condP rfl (fun c => ?_) (fun c => ?_)
    · skip
      have hk2 : k < L.length := by omega
      have hLk : L[k]? = some L[k] := List.getElem?_eq_getElem hk2
      have hb2 := hB2 _ (List.mem_of_getElem? hLk)
      have hll := hl0 I (X ++ O) hle (fun x hx => by simp [hx])
      obtain ⟨A, rs, hrs, hA, hok, rfl⟩ := hT
      have hlen : rs.length = k := by have := congrArg List.length hrs; simp at this; omega
      refine WP.skip ?_
      refine WP.seq ?_
      refine WP.block ?_
      refine WP.seq ?_
      refine WP.region rfl ?_
      refine Ops.elem1 (j := k) Try.underlying22 Try.sizeOf25 Try.isAgg25 hS (e6.trans hv6) e8 (by first | rfl | omega | simp) (hLk) hll ?_
      rintro p10 l10 hl10 ⟨ar, nr, cr, e, hr⟩
      cases e
      have hrn := hr.1
      refine Ops.assignS rfl ?_
      refine Ops.nil ?_
      refine WP.region rfl ?_
      refine Ops.moveS e3 ?_
      refine Ops.buildSlice0 Try.underlying25 Try.type2 hS ?_
      intro b13 w hS
      refine Ops.moveS rfl ?_
      refine Ops.append Try.underlying25 Try.type2 rfl rfl rfl rfl rfl hS (OwnS.made (cs := []) (n := 0) rfl) (Ints.src (Sl.mono' RInt.stays (Ghost.le.refl _) (fun x hx => List.mem_cons_of_mem _ hx) hr)) (by show (_ + _) * 8 ≤ _; omega) (by omega) ?_
      rintro a15 c15 A15 w hA15 hS hN15
      have hS := hS.swap.assoc
      rw [hlen] at hA
      refine Ops.buildSlice1S Try.underlying22 Try.type25 rfl (by decide) (by decide) rfl hS rfl rfl ?_
      intro b16 w I hI hb16 hS
      replace hh1 := Ghost.le.trans' hI hh1
      replace hle := hle.trans hI
      refine Ops.append Try.underlying22 Try.type25 rfl rfl rfl rfl rfl hS hA (Src.one hb16 rfl) (by show (_ + _) * 24 ≤ _; omega) (by omega) ?_
      rintro a17 c17 A17 w hA17 hS hN17
      have hS : SL I ((A17 ++ (rs ++ [Row.mk a15 c15 L[k] A15]).flatMap Row.A) ++ O) E w := by
        simpa [List.flatMap_append, List.append_assoc] using hS
      have hrow : Row.ok (Row.mk a15 c15 L[k] A15) := by
        unfold Row.ok; simp only [List.nil_append, Nat.zero_add, hrn] at hA15; exact hA15
      have hT := Tab.push (r := Row.mk a15 c15 L[k] A15) (by
        unfold Row.v; rw [hrn, Nat.zero_add] at hA17; rw [hlen]; exact hA17) hok hrow
      rw [hrs, ← List.take_succ_eq_append_getElem hk2] at hT
      refine Ops.assignS rfl ?_
      refine Ops.nil ?_
      refine WP.region rfl ?_
      refine Ops.add e8 rfl (by unfold I64; omega) ?_
      refine Ops.moveI rfl ?_
      refine Ops.nil ?_
      refine ⟨k + 1, ⟨_, a17, c17, A17 ++ (rs ++ [Row.mk a15 c15 L[k] A15]).flatMap Row.A, hz1.trans hh1, hS, rfl, rfl, e6, e7, ⟨hk2, hT⟩⟩, by omega⟩
    · skip
      have hkn : k = L.length := by omega
      subst hkn
      rw [List.take_length] at hT
      refine WP.exit ?_
      refine WP.seq ?_
      refine WP.region rfl ?_
      refine Ops.moveS e3 ?_
      refine Ops.assignS rfl ?_
      refine Ops.nil ?_
      refine WP.ret ?_
      repeat (first | refine seqQ_ret ?_ | refine blockQ_ret ?_)
      refine fin1 (v := .slice _ _ _) rfl ?_
      exact ⟨I, X, ao, co, hle, hS, hT, rfl⟩

theorem size_spec (hS : SL I O E w) (n : Int) : Fn Try.prog 7 #[.int .i64 n] w (Post I O E fun _ v => v = .bool (decide (0 ≤ n ∧ n ≤ 64))) := by
  refine Fn.intro Try.func7 rfl (by decide) rfl ?_
  have hle := Ghost.le.refl I
  refine WP.seq ?_
  refine WP.region rfl ?_
  refine Ops.assignB rfl ?_
  refine Ops.nil ?_
  refine WP.seq ?_
  refine WP.region rfl ?_
  refine Ops.moveI rfl ?_
  refine Ops.geq rfl rfl ?_
  refine Ops.moveB rfl ?_
  refine Ops.cutF (fun ρ2 w2 => w2 = w ∧ ρ2 2 = .bool (decide (0 ≤ n ∧ n ≤ 64))) ?_ ?_
  · skip
    refine Ops.case (s := 5) rfl (fun g5 => ?_) (fun g5 => ?_)
    · skip
      refine Ops.guardT rfl rfl g5 ?_
      refine Ops.moveI rfl ?_
      refine Ops.guardT rfl rfl g5 ?_
      refine Ops.leq rfl rfl ?_
      refine Ops.pickTB rfl g5 rfl ?_
      refine Ops.assignB rfl ?_
      refine Ops.nil ?_
      exact ⟨rfl, joinB rfl (by simp_all <;> omega)⟩
    · skip
      refine Ops.guardFd rfl rfl g5 ?_
      refine Ops.guardFd rfl rfl g5 ?_
      refine Ops.pickFB rfl g5 rfl ?_
      refine Ops.assignB rfl ?_
      refine Ops.nil ?_
      exact ⟨rfl, joinB rfl (by simp_all <;> omega)⟩
  · rintro ρ2 w2 ⟨rfl, k2⟩ hfr
    refine WP.ret ?_
    repeat (first | refine seqQ_ret ?_ | refine blockQ_ret ?_)
    refine fin1 (v := .bool _) k2 ?_
    exact ⟨I, hle, hS, rfl⟩

theorem has_nil (hS : SL I O E w) (i : Int) : Fn Try.prog 18 #[.pointer none, .int .i64 i] w (Post I O E fun _ v => v = .bool false) := by
  refine Fn.intro Try.func18 rfl (by decide) rfl ?_
  have hle := Ghost.le.refl I
  refine WP.seq ?_
  refine WP.region rfl ?_
  refine Ops.assignB rfl ?_
  refine Ops.nil ?_
  refine WP.seq ?_
  refine WP.region rfl ?_
  refine Ops.moveP rfl ?_
  refine Ops.neNilP Try.underlying26 rfl rfl ?_
  refine Ops.moveB rfl ?_
  refine Ops.guardFd rfl rfl rfl ?_
  refine Ops.guardFd rfl rfl rfl ?_
  refine Ops.pickFB rfl rfl rfl ?_
  refine Ops.moveB rfl ?_
  refine Ops.guardFd rfl rfl rfl ?_
  refine Ops.guardFd rfl rfl rfl ?_
  refine Ops.guardFd rfl rfl rfl ?_
  refine Ops.guardFd rfl rfl rfl ?_
  refine Ops.guardFd rfl rfl rfl ?_
  refine Ops.guardFd rfl rfl rfl ?_
  refine Ops.guardFd rfl rfl rfl ?_
  refine Ops.pickFB rfl rfl rfl ?_
  refine Ops.assignB rfl ?_
  refine Ops.nil ?_
  refine WP.ret ?_
  repeat (first | refine seqQ_ret ?_ | refine blockQ_ret ?_)
  refine fin1 (v := .bool _) rfl ?_
  exact ⟨I, hle, hS, rfl⟩

theorem has_some {b n c : Nat} {a : Option Addr} (hS : SL I O E w) (hm : (b, Obj.cells [.slice a n c].toArray 48 (0, 0)) ∈ O) (i : Int) :
    Fn Try.prog 18 #[.pointer (some ⟨b, 0, none⟩), .int .i64 i] w (Post I O E fun _ v => v = .bool (decide (0 ≤ i ∧ i < n))) := by
  refine Fn.intro Try.func18 rfl (by decide) rfl ?_
  have hle := Ghost.le.refl I
  refine WP.seq ?_
  refine WP.region rfl ?_
  refine Ops.assignB rfl ?_
  refine Ops.nil ?_
  refine WP.seq ?_
  refine WP.region rfl ?_
  refine Ops.moveP rfl ?_
  refine Ops.neNilP Try.underlying26 rfl rfl ?_
  refine Ops.moveB rfl ?_
  refine Ops.cutF (fun ρ2 w2 => w2 = w ∧ ρ2 4 = .bool (decide (0 ≤ i ∧ i < n))) ?_ ?_
  · skip
    refine Ops.guardT rfl rfl rfl ?_
    refine Ops.moveI rfl ?_
    refine Ops.guardT rfl rfl rfl ?_
    refine Ops.geq rfl rfl ?_
    refine Ops.pickTB rfl rfl rfl ?_
    refine Ops.moveB rfl ?_
    refine Ops.case (s := 11) rfl (fun g11 => ?_) (fun g11 => ?_)
    · skip
      refine Ops.guardT rfl rfl g11 ?_
      refine Ops.moveI rfl ?_
      refine Ops.guardT rfl rfl g11 ?_
      refine Ops.moveP rfl ?_
      refine Ops.guardT rfl rfl g11 ?_
      refine Ops.nilCheck rfl ?_
      refine Ops.guardT rfl rfl g11 ?_
      refine Ops.field (r := 0) Try.underlying48 rfl Try.sizeOf22 (by decide) rfl rfl ?_
      refine Ops.guardT rfl rfl g11 ?_
      refine Ops.load1O Try.isAgg22 hS rfl hm rfl ?_
      refine Ops.guardT rfl rfl g11 ?_
      refine Ops.lenS Try.underlying22 rfl ?_
      refine Ops.guardT rfl rfl g11 ?_
      refine Ops.lss rfl rfl ?_
      refine Ops.pickTB rfl g11 rfl ?_
      refine Ops.assignB rfl ?_
      refine Ops.nil ?_
      exact ⟨rfl, joinB rfl (by simp_all <;> omega)⟩
    · skip
      refine Ops.guardFd rfl rfl g11 ?_
      refine Ops.guardFd rfl rfl g11 ?_
      refine Ops.guardFd rfl rfl g11 ?_
      refine Ops.guardFd rfl rfl g11 ?_
      refine Ops.guardFd rfl rfl g11 ?_
      refine Ops.guardFd rfl rfl g11 ?_
      refine Ops.guardFd rfl rfl g11 ?_
      refine Ops.pickFB rfl g11 rfl ?_
      refine Ops.assignB rfl ?_
      refine Ops.nil ?_
      exact ⟨rfl, joinB rfl (by simp_all <;> omega)⟩
  · rintro ρ2 w2 ⟨rfl, k4⟩ hfr
    refine WP.ret ?_
    repeat (first | refine seqQ_ret ?_ | refine blockQ_ret ?_)
    refine fin1 (v := .bool _) k4 ?_
    exact ⟨I, hle, hS, rfl⟩

/-- The heap at `b` holds the arrays `L`, in `X`. -/
def HeapAt (b : Nat) (L : List (List Int)) (X : Own) : Prop := ∃ a cap Y, Tab a cap L Y ∧ X = [(b, Obj.cells [.slice a L.length cap].toArray 48 (0, 0))] ++ Y

def rowL (L : List (List Int)) (i : Int) : List Int := L[i.toNat]?.getD []
def thereL (L : List (List Int)) (i : Int) : Bool := decide (0 ≤ i ∧ i < L.length)
def inL (L : List (List Int)) (a i : Int) : Bool := thereL L a && decide (0 ≤ i ∧ i < (rowL L a).length)
def getL (L : List (List Int)) (a i : Int) : Int := ((rowL L a)[i.toNat]?).getD 0

theorem len_nil (hS : SL I O E w) (i : Int) : Fn Try.prog 13 #[.pointer none, .int .i64 i] w (Post I O E fun _ v => v = .tuple #[.int .i64 0, .bool false]) := by
  refine Fn.intro Try.func13 rfl (by decide) rfl ?_
  have hle := Ghost.le.refl I
  refine WP.seq ?_
  refine WP.region rfl ?_
  refine Ops.assignI rfl ?_
  refine Ops.assignB rfl ?_
  refine Ops.nil ?_
  refine WP.seq ?_
  refine WP.seq ?_
  refine WP.region rfl ?_
  refine Ops.moveP rfl ?_
  refine Ops.moveI rfl ?_
  refine Ops.callF (has_nil hS i) ?_
  rintro v8 w ⟨I, hI, hS, rfl⟩
  replace hle := hle.trans hI
  refine Ops.not rfl ?_
  refine Ops.nil ?_
  refine WP.condIsT rfl rfl ?_
  refine WP.seq ?_
  refine WP.region rfl ?_
  refine Ops.assignI rfl ?_
  refine Ops.assignB rfl ?_
  refine Ops.nil ?_
  refine WP.ret ?_
  repeat (first | refine seqQ_ret ?_ | refine blockQ_ret ?_)
  refine fin2 (v := .int _ _) (v' := .bool _) rfl rfl ?_
  exact ⟨I, hle, hS, rfl⟩

theorem len_spec {b : Nat} {L : List (List Int)} {X : Own} (hS : SL I O E w) (hH : HeapAt b L X) (hX : ∀ x ∈ X, x ∈ O) (i : Int) :
    Fn Try.prog 13 #[.pointer (some ⟨b, 0, none⟩), .int .i64 i] w (Post I O E fun _ v => v = .tuple #[.int .i64 (if thereL L i then (rowL L i).length else 0), .bool (thereL L i)]) := by
  obtain ⟨a, cap, Y, hT, rfl⟩ := hH
  have hm := hX _ (.head _)
  refine Fn.intro Try.func13 rfl (by decide) rfl ?_
  have hle := Ghost.le.refl I
  refine WP.seq ?_
  refine WP.region rfl ?_
  refine Ops.assignI rfl ?_
  refine Ops.assignB rfl ?_
  refine Ops.nil ?_
  refine WP.seq ?_
  refine WP.seq ?_
  refine WP.region rfl ?_
  refine Ops.moveP rfl ?_
  refine Ops.moveI rfl ?_
  refine Ops.callF (has_some hS hm i) ?_
  rintro v8 w ⟨I, hI, hS, rfl⟩
  replace hle := hle.trans hI
  refine Ops.not rfl ?_
  refine Ops.nil ?_
  refine WP.condB rfl (fun c => ?_) (fun c => ?_)
  · skip
    have hc : thereL L i = false := notT c
    refine WP.seq ?_
    refine WP.region rfl ?_
    refine Ops.assignI rfl ?_
    refine Ops.assignB rfl ?_
    refine Ops.nil ?_
    refine WP.ret ?_
    repeat (first | refine seqQ_ret ?_ | refine blockQ_ret ?_)
    refine fin2 (v := .int _ _) (v' := .bool _) rfl rfl ?_
    exact ⟨I, hle, hS, by simp [hc]⟩
  · skip
    have hc : thereL L i = true := notF c
    have hc2 : 0 ≤ i ∧ i < L.length := by simpa [thereL] using hc
    have hlt : i.toNat < L.length := by omega
    refine WP.skip ?_
    refine WP.seq ?_
    refine WP.region rfl ?_
    refine Ops.moveP rfl ?_
    refine Ops.nilCheck rfl ?_
    refine Ops.field (r := 0) Try.underlying48 rfl Try.sizeOf22 (by decide) rfl rfl ?_
    refine Ops.load1O Try.isAgg22 hS rfl hm rfl ?_
    refine Ops.moveI rfl ?_
    refine Ops.elem1 (j := i.toNat) Try.underlying22 Try.sizeOf25 Try.isAgg25 hS rfl rfl (by first | rfl | omega | simp) ((List.getElem?_eq_getElem hlt)) (Tab.sl hT (fun x hx => hX x (List.mem_append_right _ hx))) ?_
    rintro p15 l15 hl15 ⟨ar, nr, cr, e, hr⟩
    cases e
    have hrow : rowL L i = L[i.toNat] := by unfold rowL; simp [hlt]
    have hn : (nr : Int) = ((rowL L i).length : Int) := by rw [hrow, hr.1]
    refine Ops.lenS Try.underlying25 rfl ?_
    refine Ops.assignI rfl ?_
    refine Ops.assignB rfl ?_
    refine Ops.nil ?_
    refine WP.ret ?_
    repeat (first | refine seqQ_ret ?_ | refine blockQ_ret ?_)
    refine fin2 (v := .int _ _) (v' := .bool _) rfl rfl ?_
    exact ⟨I, hle, hS, by rw [if_pos hc, hc, hn]⟩

theorem in_nil (hS : SL I O E w) (a i : Int) : Fn Try.prog 10 #[.pointer none, .int .i64 a, .int .i64 i] w (Post I O E fun _ v => v = .bool false) := by
  refine Fn.intro Try.func10 rfl (by decide) rfl ?_
  have hle := Ghost.le.refl I
  refine WP.seq ?_
  refine WP.region rfl ?_
  refine Ops.assignB rfl ?_
  refine Ops.nil ?_
  refine WP.seq ?_
  refine WP.region rfl ?_
  refine Ops.moveP rfl ?_
  refine Ops.moveI rfl ?_
  refine Ops.callF (len_nil hS a) ?_
  rintro v12 w ⟨I, hI, hS, rfl⟩
  replace hle := hle.trans hI
  refine Ops.moveU rfl ?_
  refine Ops.extract0 rfl ?_
  refine Ops.extract1 rfl ?_
  refine Ops.assignI rfl ?_
  refine Ops.assignB rfl ?_
  refine Ops.nil ?_
  refine WP.seq ?_
  refine WP.region rfl ?_
  refine Ops.moveB rfl ?_
  refine Ops.moveB rfl ?_
  refine Ops.guardFd rfl rfl rfl ?_
  refine Ops.guardFd rfl rfl rfl ?_
  refine Ops.pickFB rfl rfl rfl ?_
  refine Ops.moveB rfl ?_
  refine Ops.guardFd rfl rfl rfl ?_
  refine Ops.guardFd rfl rfl rfl ?_
  refine Ops.guardFd rfl rfl rfl ?_
  refine Ops.pickFB rfl rfl rfl ?_
  refine Ops.assignB rfl ?_
  refine Ops.nil ?_
  refine WP.ret ?_
  repeat (first | refine seqQ_ret ?_ | refine blockQ_ret ?_)
  refine fin1 (v := .bool _) rfl ?_
  exact ⟨I, hle, hS, rfl⟩

theorem in_spec {b : Nat} {L : List (List Int)} {X : Own} (hS : SL I O E w) (hH : HeapAt b L X) (hX : ∀ x ∈ X, x ∈ O) (a i : Int) :
    Fn Try.prog 10 #[.pointer (some ⟨b, 0, none⟩), .int .i64 a, .int .i64 i] w (Post I O E fun _ v => v = .bool (inL L a i)) := by
  refine Fn.intro Try.func10 rfl (by decide) rfl ?_
  have hle := Ghost.le.refl I
  refine WP.seq ?_
  refine WP.region rfl ?_
  refine Ops.assignB rfl ?_
  refine Ops.nil ?_
  refine WP.seq ?_
  refine WP.region rfl ?_
  refine Ops.moveP rfl ?_
  refine Ops.moveI rfl ?_
  refine Ops.callF (len_spec hS hH hX a) ?_
  rintro v12 w ⟨I, hI, hS, rfl⟩
  replace hle := hle.trans hI
  refine Ops.moveU rfl ?_
  refine Ops.extract0 rfl ?_
  refine Ops.extract1 rfl ?_
  refine Ops.assignI rfl ?_
  refine Ops.assignB rfl ?_
  refine Ops.nil ?_
  refine WP.seq ?_
  refine WP.region rfl ?_
  refine Ops.moveB rfl ?_
  refine Ops.moveB rfl ?_
  refine Ops.cutF (fun ρ2 w2 => w2 = w ∧ ρ2 6 = .bool (inL L a i)) ?_ ?_
  · skip
    refine Ops.case (s := 16) rfl (fun g16 => ?_) (fun g16 => ?_)
    · skip
      refine Ops.guardT rfl rfl g16 ?_
      refine Ops.moveI rfl ?_
      refine Ops.guardT rfl rfl g16 ?_
      refine Ops.geq rfl rfl ?_
      refine Ops.pickTB rfl g16 rfl ?_
      refine Ops.moveB rfl ?_
      refine Ops.case (s := 20) rfl (fun g20 => ?_) (fun g20 => ?_)
      · skip
        refine Ops.guardT rfl rfl g20 ?_
        refine Ops.moveI rfl ?_
        refine Ops.guardT rfl rfl g20 ?_
        refine Ops.moveI rfl ?_
        refine Ops.guardT rfl rfl g20 ?_
        refine Ops.lss rfl rfl ?_
        refine Ops.pickTB rfl g20 rfl ?_
        refine Ops.assignB rfl ?_
        refine Ops.nil ?_
        exact ⟨rfl, joinB rfl (by unfold inL; simp_all <;> omega)⟩
      · skip
        refine Ops.guardFd rfl rfl g20 ?_
        refine Ops.guardFd rfl rfl g20 ?_
        refine Ops.guardFd rfl rfl g20 ?_
        refine Ops.pickFB rfl g20 rfl ?_
        refine Ops.assignB rfl ?_
        refine Ops.nil ?_
        exact ⟨rfl, joinB rfl (by unfold inL; simp_all <;> omega)⟩
    · skip
      refine Ops.guardFd rfl rfl g16 ?_
      refine Ops.guardFd rfl rfl g16 ?_
      refine Ops.pickFB rfl g16 rfl ?_
      refine Ops.moveB rfl ?_
      refine Ops.guardFd rfl rfl rfl ?_
      refine Ops.guardFd rfl rfl rfl ?_
      refine Ops.guardFd rfl rfl rfl ?_
      refine Ops.pickFB rfl rfl rfl ?_
      refine Ops.assignB rfl ?_
      refine Ops.nil ?_
      exact ⟨rfl, joinB rfl (by unfold inL; simp_all <;> omega)⟩
  · rintro ρ2 w2 ⟨rfl, k6⟩ hfr
    refine WP.ret ?_
    repeat (first | refine seqQ_ret ?_ | refine blockQ_ret ?_)
    refine fin1 (v := .bool _) k6 ?_
    exact ⟨I, hle, hS, rfl⟩

theorem load_spec {b : Nat} {L : List (List Int)} {X : Own} (hS : SL I O E w) (hH : HeapAt b L X) (hX : ∀ x ∈ X, x ∈ O) (a i : Int) :
    Fn Try.prog 9 #[.pointer (some ⟨b, 0, none⟩), .int .i64 a, .int .i64 i] w (Post I O E fun _ v => v = .tuple #[.int .i64 (if inL L a i then getL L a i else 0), .bool (inL L a i)]) := by
  have hH0 := hH
  obtain ⟨sa, cap, Y, hT, rfl⟩ := hH
  have hm := hX _ (.head _)
  refine Fn.intro Try.func9 rfl (by decide) rfl ?_
  have hle := Ghost.le.refl I
  refine WP.seq ?_
  refine WP.region rfl ?_
  refine Ops.assignI rfl ?_
  refine Ops.assignB rfl ?_
  refine Ops.nil ?_
  refine WP.seq ?_
  refine WP.seq ?_
  refine WP.region rfl ?_
  refine Ops.moveP rfl ?_
  refine Ops.moveI rfl ?_
  refine Ops.moveI rfl ?_
  refine Ops.callF (in_spec hS hH0 hX a i) ?_
  rintro v11 w ⟨I, hI, hS, rfl⟩
  replace hle := hle.trans hI
  refine Ops.not rfl ?_
  refine Ops.nil ?_
  refine WP.condB rfl (fun c => ?_) (fun c => ?_)
  · skip
    have hc : inL L a i = false := notT c
    refine WP.seq ?_
    refine WP.region rfl ?_
    refine Ops.assignI rfl ?_
    refine Ops.assignB rfl ?_
    refine Ops.nil ?_
    refine WP.ret ?_
    repeat (first | refine seqQ_ret ?_ | refine blockQ_ret ?_)
    refine fin2 (v := .int _ _) (v' := .bool _) rfl rfl ?_
    exact ⟨I, hle, hS, by simp [hc]⟩
  · skip
    have hc : inL L a i = true := notF c
    have hc2 : (0 ≤ a ∧ a < L.length) ∧ (0 ≤ i ∧ i < (rowL L a).length) := by simpa [inL, thereL] using hc
    have hlt : a.toNat < L.length := by omega
    have hrow : rowL L a = L[a.toNat] := by unfold rowL; simp [hlt]
    rw [hrow] at hc2
    have hlt2 : i.toNat < L[a.toNat].length := by omega
    refine WP.skip ?_
    refine WP.seq ?_
    refine WP.region rfl ?_
    refine Ops.moveP rfl ?_
    refine Ops.nilCheck rfl ?_
    refine Ops.field (r := 0) Try.underlying48 rfl Try.sizeOf22 (by decide) rfl rfl ?_
    refine Ops.load1O Try.isAgg22 hS rfl hm rfl ?_
    refine Ops.moveI rfl ?_
    refine Ops.elem1 (j := a.toNat) Try.underlying22 Try.sizeOf25 Try.isAgg25 hS rfl rfl (by first | rfl | omega | simp) ((List.getElem?_eq_getElem hlt)) (Tab.sl hT (fun x hx => hX x (List.mem_append_right _ hx))) ?_
    rintro p18 l18 hl18 ⟨ar, nr, cr, e, hr⟩
    cases e
    refine Ops.moveI rfl ?_
    refine Ops.elem1 (j := i.toNat) Try.underlying25 Try.sizeOf2 Try.isAgg2 hS rfl rfl (by first | rfl | omega | simp) ((List.getElem?_eq_getElem hlt2)) hr ?_
    rintro p21 l21 hl21 e
    cases e
    have hg : getL L a i = L[a.toNat][i.toNat] := by unfold getL; rw [hrow]; simp [hlt2]
    refine Ops.assignI rfl ?_
    refine Ops.assignB rfl ?_
    refine Ops.nil ?_
    refine WP.ret ?_
    repeat (first | refine seqQ_ret ?_ | refine blockQ_ret ?_)
    refine fin2 (v := .int _ _) (v' := .bool _) rfl rfl ?_
    exact ⟨I, hle, hS, by rw [if_pos hc, hc, hg]⟩

theorem count_spec {b : Nat} {L : List (List Int)} {X : Own} (hS : SL I O E w) (hH : HeapAt b L X) (hX : ∀ x ∈ X, x ∈ O) :
    Fn Try.prog 14 #[.pointer (some ⟨b, 0, none⟩)] w (Post I O E fun _ v => v = .int .i64 L.length) := by
  obtain ⟨sa, cap, Y, hT, rfl⟩ := hH
  have hm := hX _ (.head _)
  refine Fn.intro Try.func14 rfl (by decide) rfl ?_
  have hle := Ghost.le.refl I
  refine WP.seq ?_
  refine WP.region rfl ?_
  refine Ops.assignI rfl ?_
  refine Ops.nil ?_
  refine WP.seq ?_
  refine WP.seq ?_
  refine WP.region rfl ?_
  refine Ops.moveP rfl ?_
  refine Ops.eqNilP Try.underlying26 rfl rfl ?_
  refine Ops.nil ?_
  refine WP.condIsF rfl rfl ?_
  refine WP.skip ?_
  refine WP.seq ?_
  refine WP.region rfl ?_
  refine Ops.moveP rfl ?_
  refine Ops.nilCheck rfl ?_
  refine Ops.field (r := 0) Try.underlying48 rfl Try.sizeOf22 (by decide) rfl rfl ?_
  refine Ops.load1O Try.isAgg22 hS rfl hm rfl ?_
  refine Ops.lenS Try.underlying22 rfl ?_
  refine Ops.assignI rfl ?_
  refine Ops.nil ?_
  refine WP.ret ?_
  repeat (first | refine seqQ_ret ?_ | refine blockQ_ret ?_)
  refine fin1 (v := .int _ _) rfl ?_
  exact ⟨I, hle, hS, rfl⟩
theorem count_nil (hS : SL I O E w) : Fn Try.prog 14 #[.pointer none] w (Post I O E fun _ v => v = .int .i64 0) := by
  refine Fn.intro Try.func14 rfl (by decide) rfl ?_
  have hle := Ghost.le.refl I
  refine WP.seq ?_
  refine WP.region rfl ?_
  refine Ops.assignI rfl ?_
  refine Ops.nil ?_
  refine WP.seq ?_
  refine WP.seq ?_
  refine WP.region rfl ?_
  refine Ops.moveP rfl ?_
  refine Ops.eqNilP Try.underlying26 rfl rfl ?_
  refine Ops.nil ?_
  refine WP.condIsT rfl rfl ?_
  refine WP.seq ?_
  refine WP.region rfl ?_
  refine Ops.assignI rfl ?_
  refine Ops.nil ?_
  refine WP.ret ?_
  repeat (first | refine seqQ_ret ?_ | refine blockQ_ret ?_)
  refine fin1 (v := .int _ _) rfl ?_
  exact ⟨I, hle, hS, rfl⟩

theorem all_spec {b : Nat} {L : List (List Int)} {X : Own} (hS : SL I O E w) (hH : HeapAt b L X) (hX : ∀ x ∈ X, x ∈ O) (hB : Bd L) :
    Fn Try.prog 12 #[.pointer (some ⟨b, 0, none⟩)] w (fun v w' => ∃ J Z a' cap', I.le J ∧ SL J (Z ++ O) E w' ∧ Tab a' cap' L Z ∧ v = .slice a' L.length cap') := by
  obtain ⟨sa, cap, Y, hT, rfl⟩ := hH
  have hm := hX _ (.head _)
  refine Fn.intro Try.func12 rfl (by decide) rfl ?_
  have hle := Ghost.le.refl I
  refine WP.seq ?_
  refine WP.region rfl ?_
  refine Ops.assignS rfl ?_
  refine Ops.nil ?_
  refine WP.seq ?_
  refine WP.seq ?_
  refine WP.region rfl ?_
  refine Ops.moveP rfl ?_
  refine Ops.eqNilP Try.underlying26 rfl rfl ?_
  refine Ops.nil ?_
  refine WP.condIsF rfl rfl ?_
  refine WP.skip ?_
  refine WP.seq ?_
  refine WP.region rfl ?_
  refine Ops.moveP rfl ?_
  refine Ops.nilCheck rfl ?_
  refine Ops.field (r := 0) Try.underlying48 rfl Try.sizeOf22 (by decide) rfl rfl ?_
  refine Ops.load1O Try.isAgg22 hS rfl hm rfl ?_
  refine Ops.callF (clone_spec hS (Tab.sl hT (fun x hx => hX x (List.mem_append_right _ hx))) hB) ?_
  rintro v9 w ⟨I, Z, a9, c9, hI, hS, hT9, rfl⟩
  replace hle := hle.trans hI
  refine Ops.assignS rfl ?_
  refine Ops.nil ?_
  refine WP.ret ?_
  repeat (first | refine seqQ_ret ?_ | refine blockQ_ret ?_)
  refine fin1 (v := .slice _ _ _) rfl ?_
  exact ⟨I, Z, a9, c9, hle, hS, hT9, rfl⟩
theorem all_nil (hS : SL I O E w) : Fn Try.prog 12 #[.pointer none] w (Post I O E fun _ v => v = .slice none 0 0) := by
  refine Fn.intro Try.func12 rfl (by decide) rfl ?_
  have hle := Ghost.le.refl I
  refine WP.seq ?_
  refine WP.region rfl ?_
  refine Ops.assignS rfl ?_
  refine Ops.nil ?_
  refine WP.seq ?_
  refine WP.seq ?_
  refine WP.region rfl ?_
  refine Ops.moveP rfl ?_
  refine Ops.eqNilP Try.underlying26 rfl rfl ?_
  refine Ops.nil ?_
  refine WP.condIsT rfl rfl ?_
  refine WP.seq ?_
  refine WP.region rfl ?_
  refine Ops.assignS rfl ?_
  refine Ops.nil ?_
  refine WP.ret ?_
  repeat (first | refine seqQ_ret ?_ | refine blockQ_ret ?_)
  refine fin1 (v := .slice _ _ _) rfl ?_
  exact ⟨I, hle, hS, rfl⟩

theorem copy_spec {b : Nat} {L : List (List Int)} {X : Own} (hS : SL I O E w) (hH : HeapAt b L X) (hX : ∀ x ∈ X, x ∈ O) (hB : Bd L) :
    Fn Try.prog 11 #[.pointer (some ⟨b, 0, none⟩)] w (fun v w' => ∃ J Z b', I.le J ∧ SL J (Z ++ O) E w' ∧ HeapAt b' L Z ∧ v = .pointer (some ⟨b', 0, none⟩)) := by
  obtain ⟨sa, cap, Y, hT, rfl⟩ := hH
  have hm := hX _ (.head _)
  refine Fn.intro Try.func11 rfl (by decide) rfl ?_
  have hle := Ghost.le.refl I
  refine WP.seq ?_
  refine WP.region rfl ?_
  refine Ops.assignP rfl ?_
  refine Ops.nil ?_
  refine WP.seq ?_
  refine WP.seq ?_
  refine WP.region rfl ?_
  refine Ops.moveP rfl ?_
  refine Ops.eqNilP Try.underlying26 rfl rfl ?_
  refine Ops.nil ?_
  refine WP.condIsF rfl rfl ?_
  refine WP.skip ?_
  refine WP.seq ?_
  refine WP.region rfl ?_
  refine Ops.moveP rfl ?_
  refine Ops.nilCheck rfl ?_
  refine Ops.field (r := 0) Try.underlying48 rfl Try.sizeOf22 (by decide) rfl rfl ?_
  refine Ops.load1O Try.isAgg22 hS rfl hm rfl ?_
  refine Ops.callF (clone_spec hS (Tab.sl hT (fun x hx => hX x (List.mem_append_right _ hx))) hB) ?_
  rintro v9 w ⟨I, Z, a9, c9, hI, hS, hT9, rfl⟩
  replace hle := hle.trans hI
  refine Ops.build (bld48_0S w _ _ _) rfl ?_
  refine Ops.boxO hS rfl ?_
  intro b11 w hS
  refine Ops.assignP rfl ?_
  refine Ops.nil ?_
  refine WP.ret ?_
  repeat (first | refine seqQ_ret ?_ | refine blockQ_ret ?_)
  refine fin1 (v := .pointer _) rfl ?_
  exact ⟨I, _, b11, hle, hS.assoc', ⟨a9, c9, Z, hT9, rfl⟩, rfl⟩
theorem copy_nil (hS : SL I O E w) : Fn Try.prog 11 #[.pointer none] w (Post I O E fun _ v => v = .pointer none) := by
  refine Fn.intro Try.func11 rfl (by decide) rfl ?_
  have hle := Ghost.le.refl I
  refine WP.seq ?_
  refine WP.region rfl ?_
  refine Ops.assignP rfl ?_
  refine Ops.nil ?_
  refine WP.seq ?_
  refine WP.seq ?_
  refine WP.region rfl ?_
  refine Ops.moveP rfl ?_
  refine Ops.eqNilP Try.underlying26 rfl rfl ?_
  refine Ops.nil ?_
  refine WP.condIsT rfl rfl ?_
  refine WP.seq ?_
  refine WP.region rfl ?_
  refine Ops.assignP rfl ?_
  refine Ops.nil ?_
  refine WP.ret ?_
  repeat (first | refine seqQ_ret ?_ | refine blockQ_ret ?_)
  refine fin1 (v := .pointer _) rfl ?_
  exact ⟨I, hle, hS, rfl⟩

def makeL (L : List (List Int)) (n : Int) : List (List Int) × Int × Int :=
  if n < 0 ∨ 64 < n then (L, 0, 1) else if 32 ≤ L.length then (L, 0, 4) else (L ++ [List.replicate n.toNat 0], (L.length : Int), 0)

theorem make_nil (hS : SL I O E w) (n : Int) : Fn Try.prog 6 #[.pointer none, .int .i64 n] w (Post I O E fun _ v => v = .tuple #[.int .i64 0, .int .i64 1]) := by
  refine Fn.intro Try.func6 rfl (by decide) rfl ?_
  have hle := Ghost.le.refl I
  refine WP.seq ?_
  refine WP.region rfl ?_
  refine Ops.assignI rfl ?_
  refine Ops.assignI rfl ?_
  refine Ops.nil ?_
  refine WP.seq ?_
  refine WP.block ?_
  refine WP.seq ?_
  refine WP.region rfl ?_
  refine Ops.moveP rfl ?_
  refine Ops.eqNilP Try.underlying26 rfl rfl ?_
  refine Ops.moveB rfl ?_
  refine Ops.guardFd rfl rfl rfl ?_
  refine Ops.guardFd rfl rfl rfl ?_
  refine Ops.guardFd rfl rfl rfl ?_
  refine Ops.pickTB rfl rfl rfl ?_
  refine Ops.assignB rfl ?_
  refine Ops.nil ?_
  refine WP.condIsT rfl rfl ?_
  refine WP.seq ?_
  refine WP.region rfl ?_
  refine Ops.assignI rfl ?_
  refine Ops.assignI rfl ?_
  refine Ops.nil ?_
  refine WP.ret ?_
  repeat (first | refine seqQ_ret ?_ | refine blockQ_ret ?_)
  refine fin2 (v := .int _ _) (v' := .int _ _) rfl rfl ?_
  exact ⟨I, hle, hS, rfl⟩

set_option maxHeartbeats 400000 in
theorem make_spec {b : Nat} {L : List (List Int)} {X : Own} (hS : SL I (X ++ O) E w) (hH : HeapAt b L X) (hB : Bd L) (n : Int) :
    Fn Try.prog 6 #[.pointer (some ⟨b, 0, none⟩), .int .i64 n] w (fun v w' => ∃ J X', I.le J ∧ SL J (X' ++ O) E w' ∧ HeapAt b (makeL L n).1 X' ∧ v = .tuple #[.int .i64 (makeL L n).2.1, .int .i64 (makeL L n).2.2]) := by
  obtain ⟨hB1, hB2⟩ := hB
  have hH0 := hH
  obtain ⟨a, cap, Y, ⟨A, rs, hrs, hA, hok, rfl⟩, rfl⟩ := hH
  refine Fn.intro Try.func6 rfl (by decide) rfl ?_
  have hle := Ghost.le.refl I
  refine WP.seq ?_
  refine WP.region rfl ?_
  refine Ops.assignI rfl ?_
  refine Ops.assignI rfl ?_
  refine Ops.nil ?_
  refine WP.seq ?_
  refine WP.block ?_
  refine WP.seq ?_
  refine WP.region rfl ?_
  refine Ops.moveP rfl ?_
  refine Ops.eqNilP Try.underlying26 rfl rfl ?_
  refine Ops.moveB rfl ?_
  refine Ops.guardT rfl rfl rfl ?_
  refine Ops.moveI rfl ?_
  refine Ops.guardT rfl rfl rfl ?_
  refine Ops.callF (size_spec hS n) ?_
  rintro v11 w ⟨I, hI, hS, rfl⟩
  replace hle := hle.trans hI
  refine Ops.guardT rfl rfl rfl ?_
  refine Ops.not rfl ?_
  refine Ops.pickFB rfl rfl rfl ?_
  refine Ops.assignB rfl ?_
  refine Ops.nil ?_
  refine WP.condB rfl (fun c => ?_) (fun c => ?_)
  · skip
    have hc : n < 0 ∨ 64 < n := by simp at c; omega
    have hmk : makeL L n = (L, 0, 1) := by unfold makeL; rw [if_pos hc]
    refine WP.seq ?_
    refine WP.region rfl ?_
    refine Ops.assignI rfl ?_
    refine Ops.assignI rfl ?_
    refine Ops.nil ?_
    refine WP.ret ?_
    repeat (first | refine seqQ_ret ?_ | refine blockQ_ret ?_)
    refine fin2 (v := .int _ _) (v' := .int _ _) rfl rfl ?_
    exact ⟨I, _, hle, hS, by rw [hmk]; exact hH0, by rw [hmk]⟩
  · skip
    have hc : ¬ (n < 0 ∨ 64 < n) := by simp at c; omega
    refine WP.seq ?_
    refine WP.region rfl ?_
    refine Ops.moveP rfl ?_
    refine Ops.nilCheck rfl ?_
    refine Ops.field (r := 0) Try.underlying48 rfl Try.sizeOf22 (by decide) rfl rfl ?_
    refine Ops.load1O Try.isAgg22 hS rfl (.head _) rfl ?_
    refine Ops.lenS Try.underlying22 rfl ?_
    refine Ops.geq rfl rfl ?_
    refine Ops.assignB rfl ?_
    refine Ops.nil ?_
    refine WP.condP rfl (fun c2 => ?_) (fun c2 => ?_)
    · skip
      have hmk : makeL L n = (L, 0, 4) := by unfold makeL; rw [if_neg hc, if_pos (by omega)]
      refine WP.seq ?_
      refine WP.region rfl ?_
      refine Ops.assignI rfl ?_
      refine Ops.assignI rfl ?_
      refine Ops.nil ?_
      refine WP.ret ?_
      repeat (first | refine seqQ_ret ?_ | refine blockQ_ret ?_)
      refine fin2 (v := .int _ _) (v' := .int _ _) rfl rfl ?_
      exact ⟨I, _, hle, hS, by rw [hmk]; exact hH0, by rw [hmk]⟩
    · skip
      have hmk : makeL L n = (L ++ [List.replicate n.toNat 0], (L.length : Int), 0) := by unfold makeL; rw [if_neg hc, if_neg (by omega)]
      have hlen : L.length = rs.length := by rw [← hrs]; simp
      refine WP.skip ?_
      refine WP.seq ?_
      have hd := Ghost.le.refl I
      refine WP.regionDraw (fun w2 => ∃ J O2, I.le J ∧ SL J O2 E w2 ∧ ((b, Obj.cells [.slice a L.length cap].toArray 48 (0, 0)) ∈ O2)) (fun j => j == 11) (by kernel_rfl) rfl ?_
      intro w hw
      have hS := (hw ▸ hS.drew : SL I _ E w)
      refine AnyV.take (i := 0) rfl (by kernel_rfl) (by kernel_rfl) (by kernel_rfl) (by kernel_rfl) ⟨I, _, hd, hS, .head _⟩ (fun w hW => Run.moveP rfl) ?_
      refine AnyV.take (i := 1) rfl (by kernel_rfl) (by kernel_rfl) (by kernel_rfl) (by kernel_rfl) ⟨I, _, hd, hS, .head _⟩ (fun w hW => Run.moveP rfl) ?_
      refine AnyV.take (i := 2) rfl (by kernel_rfl) (by kernel_rfl) (by kernel_rfl) (by kernel_rfl) ⟨I, _, hd, hS, .head _⟩ (fun w hW => Run.nilCheck rfl) ?_
      refine AnyV.take (i := 3) rfl (by kernel_rfl) (by kernel_rfl) (by kernel_rfl) (by kernel_rfl) ⟨I, _, hd, hS, .head _⟩ (fun w hW => Run.field (r := 0) Try.underlying48 rfl Try.sizeOf22 (by decide) rfl rfl) ?_
      refine AnyV.take (i := 4) rfl (by kernel_rfl) (by kernel_rfl) (by kernel_rfl) (by kernel_rfl) ⟨I, _, hd, hS, .head _⟩ (fun w hW => by obtain ⟨J, O2, hJ, hS, hM0⟩ := hW; exact Run.load1O Try.isAgg22 hS rfl hM0 rfl) ?_
      refine AnyV.one (i := 5) rfl (by kernel_rfl) ?_
      refine Ops.moveI rfl ?_
      refine Ops.nil ?_
      refine ⟨.inr ⟨I, _, hd, hS, .head _⟩, ?_⟩
      refine AnyV.one (i := 6) rfl (by kernel_rfl) ?_
      refine Ops.make1 (m := n.toNat) Try.underlying25 Try.type2 rfl rfl rfl rfl rfl (by omega) (by omega) (by show ((8 : Nat) : Int) * _ ≤ _; omega) (by omega) hS ?_
      intro b27 w hS
      rw [← hlen] at hA
      have hS := (by simpa only [List.append_assoc] using hS : SL I (_ ++ (_ ++ (_ ++ (_ ++ O)))) E w).swap2.swap
      refine Ops.nil ?_
      refine ⟨.inr ⟨I, _, hd, hS, (by simp)⟩, ?_⟩
      refine AnyV.one (i := 7) rfl (by kernel_rfl) ?_
      refine Ops.buildSlice1S Try.underlying22 Try.type25 rfl (by decide) (by decide) rfl hS rfl rfl ?_
      intro b28 w I hI hb28 hS
      replace hd := Ghost.le.trans' hI hd
      replace hle := hle.trans hI
      refine Ops.nil ?_
      refine ⟨.inr ⟨I, _, hd, hS, (by simp)⟩, ?_⟩
      refine AnyV.one (i := 8) rfl (by kernel_rfl) ?_
      refine Ops.append Try.underlying22 Try.type25 rfl rfl rfl rfl rfl hS hA (Src.one hb28 rfl) (by show (_ + _) * 24 ≤ _; omega) (by omega) ?_
      rintro a29 c29 A29 w hA29 hS hN29
      have hS := hS.swap2.swap
      refine Ops.nil ?_
      refine ⟨.inr ⟨I, _, hd, hS, (by simp)⟩, ?_⟩
      refine AnyV.one (i := 9) rfl (by kernel_rfl) ?_
      refine Ops.nilCheck rfl ?_
      refine Ops.nil ?_
      refine ⟨.inr ⟨I, _, hd, hS, (by simp)⟩, ?_⟩
      refine AnyV.one (i := 10) rfl (by kernel_rfl) ?_
      refine Ops.field (r := 0) Try.underlying48 rfl Try.sizeOf22 (by decide) rfl rfl ?_
      refine Ops.nil ?_
      refine ⟨.inr ⟨I, _, hd, hS, (by simp)⟩, ?_⟩
      refine AnyV.one (i := 11) rfl (by kernel_rfl) ?_
      refine Ops.store1 (v := .slice a29 (L.length + 1) c29) Try.sizeOf22 rfl rfl rfl (by simp) hS ?_
      intro w hS
      have hS := hS.swap3
      refine Ops.nil ?_
      refine ⟨.inl rfl, ?_⟩
      refine AnyV.done (by kernel_rfl) ?_
      refine WP.seq ?_
      refine WP.region rfl ?_
      refine Ops.moveP rfl ?_
      refine Ops.nilCheck rfl ?_
      refine Ops.field (r := 0) Try.underlying48 rfl Try.sizeOf22 (by decide) rfl rfl ?_
      refine Ops.load1O Try.isAgg22 hS rfl (.head _) rfl ?_
      refine Ops.lenS Try.underlying22 rfl ?_
      refine Ops.sub rfl rfl (by unfold I64; omega) ?_
      refine Ops.assignI rfl ?_
      refine Ops.assignI rfl ?_
      refine Ops.nil ?_
      refine WP.ret ?_
      have hrow : Row.ok (Row.mk (some ⟨b27, 0, none⟩) n.toNat (List.replicate n.toNat 0) [(b27, .cells (List.replicate n.toNat (Value.int .i64 0)).toArray 2 (0, 0))]) := by
        unfold Row.ok; simp only [List.map_replicate, List.length_replicate]; exact OwnS.made (by simp)
      have hT := Tab.push (a' := a29) (cap' := c29) (A' := A29) (r := Row.mk (some ⟨b27, 0, none⟩) n.toNat (List.replicate n.toNat 0) [(b27, .cells (List.replicate n.toNat (Value.int .i64 0)).toArray 2 (0, 0))]) (rs := rs) (by
        unfold Row.v; simp only [List.length_replicate]; rw [← hlen]; exact hA29) hok hrow
      rw [hrs] at hT
      have hH2 : HeapAt b (L ++ [List.replicate n.toNat 0]) ([(b, Obj.cells [.slice a29 (L.length + 1) c29].toArray 48 (0, 0))] ++ (A29 ++ (rs ++ [Row.mk (some ⟨b27, 0, none⟩) n.toNat (List.replicate n.toNat 0) [(b27, .cells (List.replicate n.toNat (Value.int .i64 0)).toArray 2 (0, 0))]]).flatMap Row.A)) :=
        ⟨a29, c29, _, hT, by simp⟩
      repeat (first | refine seqQ_ret ?_ | refine blockQ_ret ?_)
      refine fin2 (v := .int _ _) (v' := .int _ _) rfl rfl ?_
      refine ⟨I, _, hle, ?_, by rw [hmk]; exact hH2, ?_⟩
      · simpa [List.flatMap_append, List.append_assoc] using hS
      · rw [hmk]; simp

/-- What a store makes of the arrays. -/
def setL (L : List (List Int)) (a i v : Int) : List (List Int) := if inL L a i then L.set a.toNat ((rowL L a).set i.toNat v) else L

theorem split_at {α : Type} (l : List α) (i : Nat) (h : i < l.length) : l = l.take i ++ l[i] :: l.drop (i + 1) := by
  rw [List.getElem_cons_drop]; exact (List.take_append_drop i l).symm

theorem Tab.vals {a : Option Addr} {cap : Nat} {L : List (List Int)} {X : Own} (h : Tab a cap L X) {j i : Nat} (hj : j < L.length) (hi : i < L[j].length) : ∃ (VS : List Value) (b cj : Nat) (l : List Value) (T1 T2 : Own),
    (∀ (I : Ghost) (O : Own), (∀ x ∈ X, x ∈ O) → Sl 1 RVal I O a L.length cap VS) ∧ VS[j]? = some (.slice (some ⟨b, 0, none⟩) L[j].length cj) ∧ X = T1 ++ ([(b, Obj.cells l.toArray 2 (0, 0))] ++ T2) ∧
    i < l.length ∧ l[i]? = some (.int .i64 L[j][i]) ∧ ∀ v, Tab a cap (L.set j (L[j].set i v)) (T1 ++ ([(b, Obj.cells (l.set i (.int .i64 v)).toArray 2 (0, 0))] ++ T2)) := by
  obtain ⟨A, rs, rfl, hA, hok, rfl⟩ := h
  have hj' : j < rs.length := by simpa using hj
  simp only [List.getElem_map] at hi
  have hr := hok rs[j] (List.getElem_mem _)
  have hrow := hr
  obtain ⟨h1, h2, h3⟩ := hr
  rcases h3 with ⟨_, hc, _⟩ | ⟨b, junk, ha, hAr, hjl⟩
  · omega
  refine ⟨rs.map Row.v, b, rs[j].cap, (rs[j].l.map (Value.int .i64) ++ junk), A ++ (rs.take j).flatMap Row.A, (rs.drop (j + 1)).flatMap Row.A, fun I O hO => ?_, ?_, ?_, by simp; omega, by rw [List.getElem?_append_left (by simpa using hi)]; simp [hi], fun v => ?_⟩
  · refine OwnS.sl (A := A) (ls := rs.map fun r => [Row.v r]) (e := 25) ?_ ?_ (by simp) (fun x hx => hO x (by simp [hx])) ⟨by simp, ?_⟩
    · have := flatten_map_singleton (rs.map Row.v)
      rw [List.map_map] at this
      simp only [List.length_map]
      have e : (rs.map fun r => [Row.v r]).flatten = rs.map Row.v := this
      rw [e]; exact hA
    · intro l hl; obtain ⟨x, _, rfl⟩ := List.mem_map.1 hl; rfl
    · intro j l x h1 h2
      rw [List.getElem?_map] at h1 h2
      obtain ⟨r, hr, rfl⟩ := Option.map_eq_some_iff.1 h1
      rw [hr] at h2
      cases h2
      rfl
  · rw [List.getElem?_map, List.getElem?_eq_getElem hj']; simp [Row.v, ha]
  · have hsp := congrArg (List.flatMap Row.A) (split_at rs j hj')
    rw [List.flatMap_append, List.flatMap_cons, hAr] at hsp
    conv => lhs; rw [hsp]
    simp only [List.append_assoc]
  · refine ⟨A, rs.set j ⟨rs[j].a, rs[j].cap, rs[j].l.set i v, [(b, Obj.cells ((rs[j].l.map (Value.int .i64) ++ junk).set i (.int .i64 v)).toArray 2 (0, 0))]⟩, ?_, ?_, ?_, ?_⟩
    · simp [List.map_set]
    · have : (rs.set j ⟨rs[j].a, rs[j].cap, rs[j].l.set i v, [(b, Obj.cells ((rs[j].l.map (Value.int .i64) ++ junk).set i (.int .i64 v)).toArray 2 (0, 0))]⟩).map Row.v = rs.map Row.v := by
        apply List.ext_getElem
        · simp
        · intro k h1 h2
          simp only [List.getElem_map, List.getElem_set]
          split
          · rename_i e; subst e; simp [Row.v]
          · rfl
      rw [this, List.length_set]; exact hA
    · intro r hr
      rcases List.mem_or_eq_of_mem_set hr with h | rfl
      · exact hok r h
      · refine ⟨by simp, by simpa using h2, .inr ⟨b, junk, ha, ?_, by simpa using hjl⟩⟩
        have hi2 : i < (rs[j].l.map (Value.int .i64)).length := by simpa using hi
        rw [List.set_append_left _ _ hi2, ← List.map_set]
    · have hse : ∀ r' : Row, rs.set j r' = rs.take j ++ r' :: rs.drop (j + 1) := fun r' => by rw [List.set_eq_take_append_cons_drop, if_pos hj']
      rw [hse, List.flatMap_append, List.flatMap_cons]
      simp only [List.append_assoc]

theorem store_nil (hS : SL I O E w) (a i v : Int) : Fn Try.prog 8 #[.pointer none, .int .i64 a, .int .i64 i, .int .i64 v] w (Post I O E fun _ u => u = .bool false) := by
  refine Fn.intro Try.func8 rfl (by decide) rfl ?_
  have hle := Ghost.le.refl I
  refine WP.seq ?_
  refine WP.region rfl ?_
  refine Ops.assignB rfl ?_
  refine Ops.nil ?_
  refine WP.seq ?_
  refine WP.seq ?_
  refine WP.region rfl ?_
  refine Ops.moveP rfl ?_
  refine Ops.moveI rfl ?_
  refine Ops.moveI rfl ?_
  refine Ops.callF (in_nil hS a i) ?_
  rintro v12 w ⟨I, hI, hS, rfl⟩
  replace hle := hle.trans hI
  refine Ops.not rfl ?_
  refine Ops.nil ?_
  refine WP.condIsT rfl rfl ?_
  refine WP.seq ?_
  refine WP.region rfl ?_
  refine Ops.assignB rfl ?_
  refine Ops.nil ?_
  refine WP.ret ?_
  repeat (first | refine seqQ_ret ?_ | refine blockQ_ret ?_)
  refine fin1 (v := .bool _) rfl ?_
  exact ⟨I, hle, hS, rfl⟩

theorem store_spec {b : Nat} {L : List (List Int)} {X : Own} (hS : SL I (X ++ O) E w) (hH : HeapAt b L X) (a i v : Int) :
    Fn Try.prog 8 #[.pointer (some ⟨b, 0, none⟩), .int .i64 a, .int .i64 i, .int .i64 v] w (fun u w' => ∃ J X', I.le J ∧ SL J (X' ++ O) E w' ∧ HeapAt b (setL L a i v) X' ∧ u = .bool (inL L a i)) := by
  have hH0 := hH
  obtain ⟨sa, cap, Y, hT, rfl⟩ := hH
  refine Fn.intro Try.func8 rfl (by decide) rfl ?_
  have hle := Ghost.le.refl I
  refine WP.seq ?_
  refine WP.region rfl ?_
  refine Ops.assignB rfl ?_
  refine Ops.nil ?_
  refine WP.seq ?_
  refine WP.seq ?_
  refine WP.region rfl ?_
  refine Ops.moveP rfl ?_
  refine Ops.moveI rfl ?_
  refine Ops.moveI rfl ?_
  refine Ops.callF (in_spec hS hH0 (fun x hx => List.mem_append_left _ hx) a i) ?_
  rintro v12 w ⟨I, hI, hS, rfl⟩
  replace hle := hle.trans hI
  refine Ops.not rfl ?_
  refine Ops.nil ?_
  refine WP.condB rfl (fun c => ?_) (fun c => ?_)
  · skip
    have hc : inL L a i = false := notT c
    have hs : setL L a i v = L := by unfold setL; rw [hc]; rfl
    refine WP.seq ?_
    refine WP.region rfl ?_
    refine Ops.assignB rfl ?_
    refine Ops.nil ?_
    refine WP.ret ?_
    repeat (first | refine seqQ_ret ?_ | refine blockQ_ret ?_)
    refine fin1 (v := .bool _) rfl ?_
    exact ⟨I, _, hle, hS, by rw [hs]; exact hH0, by rw [hc]⟩
  · skip
    have hc : inL L a i = true := notF c
    have hc2 : (0 ≤ a ∧ a < L.length) ∧ (0 ≤ i ∧ i < (rowL L a).length) := by simpa [inL, thereL] using hc
    have hlt : a.toNat < L.length := by omega
    have hrow : rowL L a = L[a.toNat] := by unfold rowL; simp [hlt]
    have hs : setL L a i v = L.set a.toNat (L[a.toNat].set i.toNat v) := by unfold setL; rw [if_pos hc, hrow]
    rw [hrow] at hc2
    have hlt2 : i.toNat < L[a.toNat].length := by omega
    obtain ⟨VS, bj, cj, l, T1, T2, hVS, hVj, rfl, hil, _, hset⟩ := Tab.vals hT hlt hlt2
    refine WP.skip ?_
    refine WP.seq ?_
    refine WP.region rfl ?_
    refine Ops.moveP rfl ?_
    refine Ops.nilCheck rfl ?_
    refine Ops.field (r := 0) Try.underlying48 rfl Try.sizeOf22 (by decide) rfl rfl ?_
    refine Ops.load1O Try.isAgg22 hS rfl (.head _) rfl ?_
    refine Ops.moveI rfl ?_
    refine Ops.elem1 (j := a.toNat) Try.underlying22 Try.sizeOf25 Try.isAgg25 hS rfl rfl (by first | rfl | omega | simp) (hVj) (hVS _ _ (fun x hx => List.mem_append_left _ (List.mem_append_right _ hx))) ?_
    rintro p19 l19 hl19 e
    cases e
    refine Ops.moveI rfl ?_
    refine Ops.moveI rfl ?_
    refine Ops.idx (j := i.toNat) (k := 1) Try.underlying25 Try.sizeOf2 rfl rfl (by omega) hlt2 ?_
    have hS := (by simpa only [List.append_assoc] using hS : SL I (_ ++ (T1 ++ ([(bj, _)] ++ (T2 ++ O)))) E w).swap2.swap
    refine Ops.store1 (v := .int .i64 v) (off := 0 + i.toNat * 1) Try.sizeOf2 rfl rfl rfl (by omega) hS ?_
    intro w hS
    have hS := hS.swap.swap2
    have hoff : 0 + i.toNat * 1 = i.toNat := by omega
    rw [hoff] at hS
    refine Ops.nil ?_
    refine WP.seq ?_
    refine WP.region rfl ?_
    refine Ops.assignB rfl ?_
    refine Ops.nil ?_
    refine WP.ret ?_
    repeat (first | refine seqQ_ret ?_ | refine blockQ_ret ?_)
    refine fin1 (v := .bool _) rfl ?_
    refine ⟨I, _, hle, ?_, ⟨sa, cap, _, hs ▸ hset v, rfl⟩, by rw [hc]⟩
    rw [hs]
    simpa only [List.append_assoc, List.length_set] using hS

theorem new1_spec (hS : SL I O E w) (a : Option Addr) (n c : Nat) : Fn Try.prog 16 #[.slice a n c] w (Post I O E fun _ v => v = .bool (decide (64 < n))) := by
  refine Fn.intro Try.func16 rfl (by decide) rfl ?_
  have hle := Ghost.le.refl I
  refine WP.seq ?_
  refine WP.region rfl ?_
  refine Ops.assignB rfl ?_
  refine Ops.nil ?_
  refine WP.seq ?_
  refine WP.region rfl ?_
  refine Ops.moveS rfl ?_
  refine Ops.lenS Try.underlying25 rfl ?_
  refine Ops.gtr rfl rfl ?_
  refine Ops.assignB rfl ?_
  refine Ops.nil ?_
  refine WP.ret ?_
  repeat (first | refine seqQ_ret ?_ | refine blockQ_ret ?_)
  refine fin1 (v := .bool _) rfl ?_
  exact ⟨I, hle, hS, by rw [show decide ((64 : Int) < (n : Int)) = decide (64 < n) from decide_eq_decide.2 (by omega)]⟩

theorem index_spec {a : Option Addr} {n cap : Nat} {L : List (List Int)} (hS : SL I O E w) (hl : Sl 1 RInts I O a n cap L) (hn1 : L.length ≤ 1048576) :
    Fn Try.prog 19 #[.slice a n cap, .func (.func 16) #[] #[]] w (Post I O E fun _ v => ∃ i : Int, v = .int .i64 i ∧ (0 ≤ i ↔ ∃ l ∈ L, 64 < l.length)) := by
  have hn := hl.1
  refine Fn.intro Try.func19 rfl (by decide) rfl ?_
  have hle := Ghost.le.refl I
  refine WP.seq ?_
  refine WP.region rfl ?_
  refine Ops.assignI rfl ?_
  refine Ops.nil ?_
  refine WP.seq ?_
  refine WP.seq ?_
  refine WP.region rfl ?_
  refine Ops.moveS rfl ?_
  refine Ops.lenS Try.underlying22 rfl ?_
  refine Ops.moveI rfl ?_
  refine Ops.nil ?_
  refine WP.block ?_
  refine WP.env (fun ρ hρ => ?_)
  obtain ⟨v0, e0, hv0⟩ := nm hρ 0
  obtain ⟨v1, e1, hv1⟩ := nm hρ 1
  obtain ⟨v7, e7, hv7⟩ := nm hρ 7
  obtain ⟨v8, e8, hv8⟩ := nm hρ 8
  clear hρ
  refine WP.loop (fun (k : Nat) ρ2 w2 => ∃ J : Ghost, I.le J ∧ SL J (O) E w2 ∧ ρ2 8 = .int .i64 k ∧ ρ2 0 = v0 ∧ ρ2 1 = v1 ∧ ρ2 7 = v7 ∧ (k ≤ L.length ∧ ∀ l ∈ L.take k, l.length ≤ 64)) (fun k => L.length - k) 0 ?_ ?_
  · skip
    exact ⟨I, Ghost.le.refl _, hS, (e8.trans hv8), e0, e1, e7, ⟨Nat.zero_le _, by simp⟩⟩
  · skip
    rintro k ρ w ⟨I, hI, hS, e8, e0, e1, e7, ⟨hk, hno⟩⟩
    have hz2 := hI
    replace hle := hle.trans hI
    have hh2 := Ghost.le.refl I
    refine WP.seq ?_
    refine WP.region rfl ?_
    refine Ops.lss e8 (e7.trans hv7) ?_
    refine Ops.nil ?_
    refine WP.seq ?_
    refine WP.condP rfl (fun c => ?_) (fun c => ?_)
    · skip
      have hk2 : k < L.length := by omega
      refine WP.skip ?_
      refine WP.seq ?_
      refine WP.block ?_
      refine WP.seq ?_
      refine WP.region rfl ?_
      refine Ops.moveI e8 ?_
      refine Ops.assignI rfl ?_
      refine Ops.nil ?_
      refine WP.seq ?_
      refine WP.region rfl ?_
      refine Ops.moveF (e1.trans hv1) ?_
      refine Ops.moveS (e0.trans hv0) ?_
      refine Ops.moveI rfl ?_
      refine Ops.elem1 (j := k) Try.underlying22 Try.sizeOf25 Try.isAgg25 hS rfl rfl (by first | rfl | omega | simp) ((List.getElem?_eq_getElem hk2)) (Sl.mono' RInts.stays hle (fun _ h => h) hl) ?_
      rintro p14 l14 hl14 ⟨ar, nr, cr, e, hr⟩
      cases e
      have hrn := hr.1
      refine Ops.callV rfl (new1_spec hS ar nr cr) ?_
      rintro v16 w ⟨I, hI, hS, rfl⟩
      replace hh2 := Ghost.le.trans' hI hh2
      replace hle := hle.trans hI
      refine Ops.nil ?_
      refine WP.condP rfl (fun c2 => ?_) (fun c2 => ?_)
      · skip
        refine WP.seq ?_
        refine WP.region rfl ?_
        refine Ops.moveI rfl ?_
        refine Ops.assignI rfl ?_
        refine Ops.nil ?_
        refine WP.ret ?_
        repeat (first | refine seqQ_ret ?_ | refine blockQ_ret ?_)
        refine fin1 (v := .int _ _) rfl ?_
        exact ⟨I, hle, hS, k, rfl, ⟨fun _ => ⟨L[k], List.getElem_mem _, by omega⟩, fun _ => by omega⟩⟩
      · skip
        refine WP.skip ?_
        refine WP.region rfl ?_
        refine Ops.add e8 rfl (by unfold I64; omega) ?_
        refine Ops.moveI rfl ?_
        refine Ops.nil ?_
        refine ⟨k + 1, ⟨_, hz2.trans hh2, hS, rfl, e0, e1, e7, ⟨hk2, fun l hl => ?_⟩⟩, by omega⟩
        rw [List.take_succ_eq_append_getElem hk2, List.mem_append, List.mem_singleton] at hl
        rcases hl with hl | rfl
        · exact hno l hl
        · omega
    · skip
      have hkn : k = L.length := by omega
      subst hkn
      rw [List.take_length] at hno
      refine WP.exit ?_
      refine WP.seq ?_
      refine WP.region rfl ?_
      refine Ops.assignI rfl ?_
      refine Ops.nil ?_
      refine WP.ret ?_
      repeat (first | refine seqQ_ret ?_ | refine blockQ_ret ?_)
      refine fin1 (v := .int _ _) rfl ?_
      exact ⟨I, hle, hS, -1, rfl, ⟨fun h => by omega, fun ⟨l, h1, h2⟩ => by have := hno l h1; omega⟩⟩

theorem contains_spec {a : Option Addr} {n cap : Nat} {L : List (List Int)} (hS : SL I O E w) (hl : Sl 1 RInts I O a n cap L) (hn1 : L.length ≤ 1048576) :
    Fn Try.prog 15 #[.slice a n cap, .func (.func 16) #[] #[]] w (Post I O E fun _ v => v = .bool (decide (∃ l ∈ L, 64 < l.length))) := by
  refine Fn.intro Try.func15 rfl (by decide) rfl ?_
  have hle := Ghost.le.refl I
  refine WP.seq ?_
  refine WP.region rfl ?_
  refine Ops.assignB rfl ?_
  refine Ops.nil ?_
  refine WP.seq ?_
  refine WP.region rfl ?_
  refine Ops.moveS rfl ?_
  refine Ops.moveF rfl ?_
  refine Ops.callF (index_spec hS hl hn1) ?_
  rintro v7 w ⟨I, hI, hS, ⟨i, rfl, hi⟩⟩
  replace hle := hle.trans hI
  refine Ops.geq rfl rfl ?_
  refine Ops.assignB rfl ?_
  refine Ops.nil ?_
  refine WP.ret ?_
  repeat (first | refine seqQ_ret ?_ | refine blockQ_ret ?_)
  refine fin1 (v := .bool _) rfl ?_
  exact ⟨I, hle, hS, by simp only [hi]⟩

def tooBig (L : List (List Int)) : Bool := decide (32 < L.length ∨ ∃ l ∈ L, 64 < l.length)
theorem new_big {a : Option Addr} {n cap : Nat} {L : List (List Int)} (hS : SL I O E w) (hl : Sl 1 RInts I O a n cap L) (hn1 : L.length ≤ 1048576) (hb : tooBig L = true) :
    Fn Try.prog 5 #[.slice a n cap] w (Post I O E fun _ v => v = .tuple #[.pointer none, .int .i64 4]) := by
  have hn := hl.1
  have hb' : 32 < L.length ∨ ∃ l ∈ L, 64 < l.length := of_decide_eq_true hb
  refine Fn.intro Try.func5 rfl (by decide) rfl ?_
  have hle := Ghost.le.refl I
  refine WP.seq ?_
  refine WP.region rfl ?_
  refine Ops.assignP rfl ?_
  refine Ops.assignI rfl ?_
  refine Ops.nil ?_
  refine WP.seq ?_
  refine WP.seq ?_
  refine WP.region rfl ?_
  refine Ops.moveS rfl ?_
  refine Ops.lenS Try.underlying22 rfl ?_
  refine Ops.gtr rfl rfl ?_
  refine Ops.moveB rfl ?_
  refine Ops.case (s := 7) rfl (fun g => ?_) (fun g => ?_)
  · skip
    refine Ops.guardFd rfl rfl g ?_
    refine Ops.guardFd rfl rfl g ?_
    refine Ops.pickTB rfl g rfl ?_
    refine Ops.nil ?_
    refine WP.condIsT rfl rfl ?_
    refine WP.seq ?_
    refine WP.region rfl ?_
    refine Ops.assignP rfl ?_
    refine Ops.assignI rfl ?_
    refine Ops.nil ?_
    refine WP.ret ?_
    repeat (first | refine seqQ_ret ?_ | refine blockQ_ret ?_)
    refine fin2 (v := .pointer _) (v' := .int _ _) rfl rfl ?_
    exact ⟨I, hle, hS, rfl⟩
  · skip
    have g2 : ¬ (32 : Int) < n := of_decide_eq_false g
    refine Ops.guardT rfl rfl g ?_
    refine Ops.moveS rfl ?_
    refine Ops.guardT rfl rfl g ?_
    refine Ops.callF (contains_spec hS hl hn1) ?_
    rintro v9 w ⟨I, hI, hS, rfl⟩
    replace hle := hle.trans hI
    refine Ops.pickFB rfl g rfl ?_
    refine Ops.nil ?_
    refine WP.condIsT rfl (decide_eq_true (hb'.resolve_left (by omega))) ?_
    refine WP.seq ?_
    refine WP.region rfl ?_
    refine Ops.assignP rfl ?_
    refine Ops.assignI rfl ?_
    refine Ops.nil ?_
    refine WP.ret ?_
    repeat (first | refine seqQ_ret ?_ | refine blockQ_ret ?_)
    refine fin2 (v := .pointer _) (v' := .int _ _) rfl rfl ?_
    exact ⟨I, hle, hS, rfl⟩
theorem new_spec {a : Option Addr} {n cap : Nat} {L : List (List Int)} (hS : SL I O E w) (hl : Sl 1 RInts I O a n cap L) (hb : tooBig L = false) :
    Fn Try.prog 5 #[.slice a n cap] w (fun v w' => ∃ J X b, I.le J ∧ SL J (X ++ O) E w' ∧ HeapAt b L X ∧ v = .tuple #[.pointer (some ⟨b, 0, none⟩), .int .i64 0]) := by
  have hn := hl.1
  have hb' : ¬ (32 < L.length ∨ ∃ l ∈ L, 64 < l.length) := of_decide_eq_false hb
  have hB : Bd L := ⟨by omega, fun l hl => by
    have : ¬ 64 < l.length := fun h => hb' (.inr ⟨l, hl, h⟩)
    omega⟩
  refine Fn.intro Try.func5 rfl (by decide) rfl ?_
  have hle := Ghost.le.refl I
  refine WP.seq ?_
  refine WP.region rfl ?_
  refine Ops.assignP rfl ?_
  refine Ops.assignI rfl ?_
  refine Ops.nil ?_
  refine WP.seq ?_
  refine WP.seq ?_
  refine WP.region rfl ?_
  refine Ops.moveS rfl ?_
  refine Ops.lenS Try.underlying22 rfl ?_
  refine Ops.gtr rfl rfl ?_
  refine Ops.moveB rfl ?_
  refine Ops.guardT rfl rfl (decide_eq_false (by omega)) ?_
  refine Ops.moveS rfl ?_
  refine Ops.guardT rfl rfl (decide_eq_false (by omega)) ?_
  refine Ops.callF (contains_spec hS hl (by omega)) ?_
  rintro v9 w ⟨I, hI, hS, rfl⟩
  replace hle := hle.trans hI
  refine Ops.pickFB rfl (decide_eq_false (by omega)) rfl ?_
  refine Ops.nil ?_
  refine WP.condIsF rfl (decide_eq_false fun h => hb' (.inr h)) ?_
  refine WP.skip ?_
  refine WP.seq ?_
  refine WP.region rfl ?_
  refine Ops.moveS rfl ?_
  refine Ops.callF (clone_spec hS (Sl.mono' RInts.stays hle (fun _ h => h) hl) hB) ?_
  rintro v12 w ⟨I, Z, a12, c12, hI, hS, hT, rfl⟩
  replace hle := hle.trans hI
  refine Ops.build (bld48_0S w _ _ _) rfl ?_
  refine Ops.boxO hS rfl ?_
  intro b14 w hS
  refine Ops.assignP rfl ?_
  refine Ops.assignI rfl ?_
  refine Ops.nil ?_
  refine WP.ret ?_
  repeat (first | refine seqQ_ret ?_ | refine blockQ_ret ?_)
  refine fin2 (v := .pointer _) (v' := .int _ _) rfl rfl ?_
  exact ⟨I, _, b14, hle, hS.assoc', ⟨a12, c12, Z, hT, rfl⟩, rfl⟩

end Go.Proofs.Ytjgcokmgngdkeaa
