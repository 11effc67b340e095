/- The law HeapPlays: its walk. -/
import Derived.Test.YtjgcokmgngdkeaaHeap
namespace Go.Proofs.Ytjgcokmgngdkeaa
open Go.Proofs

variable {I : Ghost} {O : List (Nat × Obj)} {E w : World}

theorem nil_sl : Sl 1 RInts I O none 0 0 [] := ⟨rfl, Nat.le_refl _, fun _ => rfl, fun j x hj => by simp at hj⟩

theorem lives_spec (hS : SL I O E w) : Fn Try.prog 4 #[] w (Post I O E fun _ v => v = .bool true) := by
  have hB0 : Bd [] := ⟨by simp, by simp⟩
  refine Fn.intro Try.func4 rfl (by decide) rfl ?_
  have hle := Ghost.le.refl I
  refine WP.seq ?_
  refine WP.region rfl ?_
  refine Ops.assignB rfl ?_
  refine Ops.nil ?_
  refine WP.seq ?_
  refine WP.region rfl ?_
  refine Ops.callF (new_spec hS nil_sl (by decide)) ?_
  rintro v10 w ⟨I, X, b, hI, hS, hH, rfl⟩
  replace hle := hle.trans hI
  refine Ops.moveU rfl ?_
  refine Ops.extract0 rfl ?_
  refine Ops.extract1 rfl ?_
  refine Ops.assignP rfl ?_
  refine Ops.assignI rfl ?_
  refine Ops.nil ?_
  refine WP.seq ?_
  refine WP.region rfl ?_
  refine Ops.moveP rfl ?_
  refine Ops.callF (make_spec hS hH hB0 3) ?_
  rintro v15 w ⟨I, X', hI, hS, hH, rfl⟩
  replace hle := hle.trans hI
  refine Ops.moveU rfl ?_
  refine Ops.extract0 rfl ?_
  refine Ops.extract1 rfl ?_
  refine Ops.assignI rfl ?_
  refine Ops.assignI rfl ?_
  refine Ops.nil ?_
  refine WP.seq ?_
  refine WP.region rfl ?_
  refine Ops.moveP rfl ?_
  refine Ops.moveI rfl ?_
  refine Ops.callF (load_spec (X := X') (L := [[0, 0, 0]]) hS hH (fun x hx => List.mem_append_left _ hx) 0 2) ?_
  rintro v21 w ⟨I, hI, hS, rfl⟩
  replace hle := hle.trans hI
  refine Ops.moveU rfl ?_
  refine Ops.extract0 rfl ?_
  refine Ops.extract1 rfl ?_
  refine Ops.assignI rfl ?_
  refine Ops.assignB rfl ?_
  refine Ops.nil ?_
  refine WP.seq ?_
  refine WP.region rfl ?_
  refine Ops.moveP rfl ?_
  refine Ops.moveI rfl ?_
  refine Ops.callF (load_spec (X := X') (L := [[0, 0, 0]]) hS hH (fun x hx => List.mem_append_left _ hx) 0 3) ?_
  rintro v27 w ⟨I, hI, hS, rfl⟩
  replace hle := hle.trans hI
  refine Ops.moveU rfl ?_
  refine Ops.extract0 rfl ?_
  refine Ops.extract1 rfl ?_
  refine Ops.assignI rfl ?_
  refine Ops.assignB rfl ?_
  refine Ops.nil ?_
  refine WP.seq ?_
  refine WP.region rfl ?_
  refine Ops.moveI rfl ?_
  refine Ops.eqlI rfl rfl ?_
  refine Ops.moveB rfl ?_
  refine Ops.guardT rfl rfl rfl ?_
  refine Ops.moveI rfl ?_
  refine Ops.guardT rfl rfl rfl ?_
  refine Ops.eqlI rfl rfl ?_
  refine Ops.pickTB rfl rfl rfl ?_
  refine Ops.moveB rfl ?_
  refine Ops.guardT rfl rfl rfl ?_
  refine Ops.moveI rfl ?_
  refine Ops.guardT rfl rfl rfl ?_
  refine Ops.eqlI rfl rfl ?_
  refine Ops.pickTB rfl rfl rfl ?_
  refine Ops.moveB rfl ?_
  refine Ops.guardT rfl rfl rfl ?_
  refine Ops.moveB rfl ?_
  refine Ops.pickTB rfl rfl rfl ?_
  refine Ops.moveB rfl ?_
  refine Ops.guardT rfl rfl rfl ?_
  refine Ops.moveB rfl ?_
  refine Ops.guardT rfl rfl rfl ?_
  refine Ops.not rfl ?_
  refine Ops.pickTB rfl rfl rfl ?_
  refine Ops.assignB rfl ?_
  refine Ops.nil ?_
  refine WP.ret ?_
  repeat (first | refine seqQ_ret ?_ | refine blockQ_ret ?_)
  refine fin1 (v := .bool _) rfl ?_
  exact ⟨I, hle, hS.dropAll, rfl⟩

structure ActD where
  kind : Int
  a : Int
  i : Int
  v : Int
def RAct (_ : Ghost) (_ : Own) (l : List Value) (x : ActD) : Prop := l = [.int .i64 x.kind, .int .i64 x.a, .int .i64 x.i, .int .i64 x.v]
theorem RAct.stays : Stays RAct := fun _ _ _ _ _ _ _ _ h => h

/-- One row put behind, as the loops of the law do it. -/
theorem all_take {p : List Int → Prop} {L : List (List Int)} {k : Nat} (hk : k < L.length) (h : ∀ l ∈ L.take k, p l) (hp : p L[k]) : ∀ l ∈ L.take (k + 1), p l := by
  intro l hl
  rw [List.take_succ_eq_append_getElem hk, List.mem_append, List.mem_singleton] at hl
  rcases hl with hl | rfl
  · exact h l hl
  · exact hp

def anyBig (L : List (List Int)) : Bool := decide (∃ l ∈ L, 64 < l.length)
theorem anyBig_succ {L : List (List Int)} {k : Nat} (hk : k < L.length) : anyBig (L.take (k + 1)) = (anyBig (L.take k) || decide (64 < L[k].length)) := by
  unfold anyBig
  rw [Bool.eq_iff_iff]
  simp only [List.take_succ_eq_append_getElem hk, List.mem_append, List.mem_singleton, Bool.or_eq_true, decide_eq_true_eq]
  constructor
  · rintro ⟨l, h | rfl, h2⟩
    · exact .inl ⟨l, h, h2⟩
    · exact .inr h2
  · rintro (⟨l, h, h2⟩ | h)
    · exact ⟨l, .inl h, h2⟩
    · exact ⟨_, .inr rfl, h⟩

theorem there_nn {L : List (List Int)} {a : Int} (h : thereL L a = true) : 0 ≤ a ∧ a < L.length := of_decide_eq_true h
theorem there_get {L : List (List Int)} {a : Int} (h : thereL L a = true) : L[a.toNat]? = some (rowL L a) := by
  have := there_nn h
  have hlt : a.toNat < L.length := by omega
  unfold rowL; simp [hlt]
theorem in_there {L : List (List Int)} {a i : Int} (h : inL L a i = true) : thereL L a = true := by
  unfold inL at h; simp only [Bool.and_eq_true] at h; exact h.1
theorem in_row {L : List (List Int)} {a i : Int} (h : inL L a i = true) : 0 ≤ i ∧ i < (rowL L a).length := by
  unfold inL at h; simp only [Bool.and_eq_true] at h; exact of_decide_eq_true h.2
theorem make_ok0 {L : List (List Int)} {n : Int} (h : (makeL L n).2.2 = 0) : (makeL L n).2.1 = ((makeL L n).1.length : Int) - 1 := by
  unfold makeL at h ⊢
  split
  · rename_i hc; rw [if_pos hc] at h; simp at h
  · rename_i hc; rw [if_neg hc] at h
    split
    · rename_i hc2; rw [if_pos hc2] at h; simp at h
    · simp
theorem make_ok1 {L : List (List Int)} {n : Int} (h : ¬ (makeL L n).2.2 = 0) : (makeL L n).2.1 = 0 := by
  unfold makeL at h ⊢
  split
  · rfl
  · rename_i hc; rw [if_neg hc] at h
    split
    · rfl
    · rename_i hc2; rw [if_neg hc2] at h; simp at h
theorem row_get {L : List (List Int)} {a i : Int} (h : inL L a i = true) : (rowL L a)[i.toNat]? = some (getL L a i) := by
  have := in_row h
  have hlt : i.toNat < (rowL L a).length := by omega
  unfold getL; simp [hlt]
def cell2 (L : List (List Int)) (i j : Nat) : Option Int := (L[i]?.getD [])[j]?
theorem nn {x : Int} (h : 0 ≤ x) : x = (x.toNat : Int) := (Int.toNat_of_nonneg h).symm
def Small (L : List (List Int)) : Prop := L.length ≤ 32 ∧ ∀ l ∈ L, l.length ≤ 64
theorem Small.bd {L : List (List Int)} (h : Small L) : Bd L := ⟨by have := h.1; omega, fun l hl => by have := h.2 l hl; omega⟩
theorem Small.make {L : List (List Int)} {n : Int} (h : Small L) : Small (makeL L n).1 := by
  unfold makeL
  split
  · exact h
  · split
    · exact h
    · rename_i h1 h2
      refine ⟨by simp; omega, fun l hl => ?_⟩
      rcases List.mem_append.1 hl with hl | hl
      · exact h.2 l hl
      · rw [List.mem_singleton.1 hl]; simp; omega
theorem Small.set {L : List (List Int)} {a i v : Int} (h : Small L) : Small (setL L a i v) := by
  unfold setL
  split
  · rename_i hin
    refine ⟨by simpa using h.1, fun l hl => ?_⟩
    rcases List.mem_or_eq_of_mem_set hl with hl | rfl
    · exact h.2 l hl
    · rw [List.length_set]
      exact h.2 _ (List.mem_of_getElem? (there_get (in_there hin)))
  · exact h

set_option maxHeartbeats 4000000 in
set_option maxRecDepth 20000 in
theorem plays_spec {a a2 : Option Addr} {n cap n2 cap2 : Nat} {L : List (List Int)} {acts : List ActD} (hS : SL I O E w) (hl : Sl 1 RInts I O a n cap L) (hl2 : Sl 4 RAct I O a2 n2 cap2 acts) :
    Fn Try.prog 3 #[.slice a n cap, .slice a2 n2 cap2] w (Post I O E fun _ v => v = .bool true) := by
  have hn := hl.1
  have hn2 := hl2.1
  refine Fn.intro Try.func3 rfl (by decide) rfl ?_
  have hle := Ghost.le.refl I
  refine WP.seq ?_
  refine WP.region rfl ?_
  refine Ops.assignB rfl ?_
  refine Ops.nil ?_
  refine WP.seq ?_
  refine WP.seq ?_
  refine WP.region rfl ?_
  refine Ops.callF (lives_spec hS) ?_
  rintro v38 w ⟨I, hI, hS, rfl⟩
  replace hle := hle.trans hI
  refine Ops.not rfl ?_
  refine Ops.moveB rfl ?_
  refine Ops.guardT rfl rfl rfl ?_
  refine Ops.moveS rfl ?_
  refine Ops.guardT rfl rfl rfl ?_
  refine Ops.lenS Try.underlying22 rfl ?_
  refine Ops.guardT rfl rfl rfl ?_
  refine Ops.gtr rfl rfl ?_
  refine Ops.pickFB rfl rfl rfl ?_
  refine Ops.moveB rfl ?_
  refine Ops.case (s := 45) rfl (fun g1 => ?_) (fun g1 => ?_)
  · skip
    refine Ops.guardFd rfl rfl g1 ?_
    refine Ops.guardFd rfl rfl g1 ?_
    refine Ops.guardFd rfl rfl g1 ?_
    refine Ops.pickTB rfl g1 rfl ?_
    refine Ops.nil ?_
    refine WP.condIsT rfl rfl ?_
    refine WP.seq ?_
    refine WP.region rfl ?_
    refine Ops.callF (lives_spec hS) ?_
    rintro v50 w ⟨I, hI, hS, rfl⟩
    replace hle := hle.trans hI
    refine Ops.assignB rfl ?_
    refine Ops.nil ?_
    refine WP.ret ?_
    repeat (first | refine seqQ_ret ?_ | refine blockQ_ret ?_)
    refine fin1 (v := .bool _) rfl ?_
    exact ⟨I, hle, hS, rfl⟩
  · skip
    have g1' : ¬ (40 : Int) < n := of_decide_eq_false g1
    refine Ops.guardT rfl rfl g1 ?_
    refine Ops.moveS rfl ?_
    refine Ops.guardT rfl rfl g1 ?_
    refine Ops.lenS Try.underlying23 rfl ?_
    refine Ops.guardT rfl rfl g1 ?_
    refine Ops.gtr rfl rfl ?_
    refine Ops.pickFB rfl g1 rfl ?_
    refine Ops.nil ?_
    refine WP.condP rfl (fun c0 => ?_) (fun c0 => ?_)
    · skip
      refine WP.seq ?_
      refine WP.region rfl ?_
      refine Ops.callF (lives_spec hS) ?_
      rintro v50 w ⟨I, hI, hS, rfl⟩
      replace hle := hle.trans hI
      refine Ops.assignB rfl ?_
      refine Ops.nil ?_
      refine WP.ret ?_
      repeat (first | refine seqQ_ret ?_ | refine blockQ_ret ?_)
      refine fin1 (v := .bool _) rfl ?_
      exact ⟨I, hle, hS, rfl⟩
    · skip
      refine WP.skip ?_
      refine WP.seq ?_
      refine WP.region rfl ?_
      refine Ops.assignS rfl ?_
      refine Ops.nil ?_
      refine WP.seq ?_
      refine WP.region rfl ?_
      refine Ops.moveS rfl ?_
      refine Ops.lenS Try.underlying22 rfl ?_
      refine Ops.gtr rfl rfl ?_
      refine Ops.assignB rfl ?_
      refine Ops.nil ?_
      refine WP.seq ?_
      refine WP.seq ?_
      refine WP.region rfl ?_
      refine Ops.moveS rfl ?_
      refine Ops.lenS Try.underlying22 rfl ?_
      refine Ops.moveI rfl ?_
      refine Ops.nil ?_
      refine WP.block ?_
      refine WP.env (fun ρ hρ => ?_)
      obtain ⟨v0, e0, hv0⟩ := nm hρ 0
      obtain ⟨v1, e1, hv1⟩ := nm hρ 1
      obtain ⟨v5, e5, hv5⟩ := nm hρ 5
      obtain ⟨v6, e6, hv6⟩ := nm hρ 6
      obtain ⟨v54, e54, hv54⟩ := nm hρ 54
      obtain ⟨v55, e55, hv55⟩ := nm hρ 55
      obtain ⟨v56, e56, hv56⟩ := nm hρ 56
      clear hρ
      refine WP.loop (fun (k : Nat) ρ2 w2 => ∃ J : Ghost, ∃ (ao : Option Addr) (co : Nat) (X : Own), I.le J ∧ SL J (X ++ O) E w2 ∧ ρ2 56 = .int .i64 k ∧ ρ2 5 = .slice ao k co ∧ ρ2 6 = .bool (decide (32 < L.length) || anyBig (L.take k)) ∧ ρ2 0 = v0 ∧ ρ2 1 = v1 ∧ ρ2 54 = v54 ∧ ρ2 55 = v55 ∧ (k ≤ L.length ∧ (∀ l ∈ L.take k, l.length ≤ 100) ∧ Tab ao co (L.take k) X)) (fun k => L.length - k) 0 ?_ ?_
      · skip
        have hlong : decide ((32 : Int) < n) = (decide (32 < L.length) || anyBig (L.take 0)) := by
          have : anyBig (L.take 0) = false := by simp [anyBig]
          rw [this, Bool.or_false]; exact decide_eq_decide.2 (by omega)
        exact ⟨I, none, 0, [], Ghost.le.refl _, hS, e56.trans hv56, e5.trans hv5, joinB (e6.trans hv6) hlong, e0, e1, e54, e55, ⟨Nat.zero_le _, by simp, by simpa using Tab.nil⟩⟩
      · skip
        rintro k ρ w ⟨I, ao, co, X, hI, hS, e56, e5, e6, e0, e1, e54, e55, ⟨hk, h100, hT⟩⟩
        have hz1 := hI
        replace hle := hle.trans hI
        have hh1 := Ghost.le.refl I
        refine WP.seq ?_
        refine WP.region rfl ?_
        refine Ops.lss e56 (e55.trans hv55) ?_
        refine Ops.nil ?_
        refine WP.seq ?_
        refine WP.condP rfl (fun c => ?_) (fun c => ?_)
        · skip
          have hk2 : k < L.length := by omega
          have hLk : L[k]? = some L[k] := List.getElem?_eq_getElem hk2
          have hll := Sl.mono' (O' := X ++ O) RInts.stays hle (fun x hx => by simp [hx]) hl
          obtain ⟨A, rs, hrs, hA, hok, rfl⟩ := hT
          have hlen : rs.length = k := by have := congrArg List.length hrs; simp at this; omega
          refine WP.skip ?_
          refine WP.seq ?_
          refine WP.block ?_
          refine WP.seq ?_
          refine WP.region rfl ?_
          refine Ops.elem1 (j := k) Try.underlying22 Try.sizeOf25 Try.isAgg25 hS (e54.trans hv54) e56 (by first | rfl | omega | simp) (hLk) hll ?_
          rintro p58 l58 hl58 ⟨ar, nr, cr, e, hr⟩
          cases e
          have hrn := hr.1
          refine Ops.assignS rfl ?_
          refine Ops.nil ?_
          refine WP.seq ?_
          refine WP.seq ?_
          refine WP.region rfl ?_
          refine Ops.moveS rfl ?_
          refine Ops.lenS Try.underlying25 rfl ?_
          refine Ops.gtr rfl rfl ?_
          refine Ops.nil ?_
          refine WP.condP rfl (fun c2 => ?_) (fun c2 => ?_)
          · skip
            refine WP.seq ?_
            refine WP.region rfl ?_
            refine Ops.assignB rfl ?_
            refine Ops.nil ?_
            refine WP.ret ?_
            repeat (first | refine seqQ_ret ?_ | refine blockQ_ret ?_)
            refine fin1 (v := .bool _) rfl ?_
            exact ⟨I, hle, hS.dropAll, rfl⟩
          · skip
            have hb2 : L[k].length ≤ 100 := by omega
            refine WP.skip ?_
            refine WP.seq ?_
            refine WP.env (fun ρ hρ => ?_)
            replace e0 := (congrFun hρ 0).trans e0
            replace e1 := (congrFun hρ 1).trans e1
            obtain ⟨v5, e5, hv5⟩ := nm2 ((congrFun hρ 5).trans e5)
            obtain ⟨v6, e6, hv6⟩ := nm2 ((congrFun hρ 6).trans e6)
            obtain ⟨v8, e8, hv8⟩ := nm hρ 8
            replace e54 := (congrFun hρ 54).trans e54
            replace e55 := (congrFun hρ 55).trans e55
            obtain ⟨v56, e56, hv56⟩ := nm2 ((congrFun hρ 56).trans e56)
            clear hρ
            refine WP.cut (fun ρ2 w2 => ∃ J : Ghost, I.le J ∧ SL J ((A ++ rs.flatMap Row.A) ++ O) E w2 ∧ ρ2 6 = .bool ((decide (32 < L.length) || anyBig (L.take k)) || decide (64 < (nr : Int))) ∧ ρ2 0 = v0 ∧ ρ2 1 = v1 ∧ ρ2 5 = v5 ∧ ρ2 8 = v8 ∧ ρ2 54 = v54 ∧ ρ2 55 = v55 ∧ ρ2 56 = v56 ∧ (True)) ?_ ?_
            · skip
              have hh2 := Ghost.le.refl I
              refine WP.region rfl ?_
              refine Ops.moveB (e6.trans hv6) ?_
              refine Ops.moveB rfl ?_
              refine Ops.case (s := 64) rfl (fun g64 => ?_) (fun g64 => ?_)
              · skip
                refine Ops.guardFd rfl rfl g64 ?_
                refine Ops.guardFd rfl rfl g64 ?_
                refine Ops.guardFd rfl rfl g64 ?_
                refine Ops.pickTB rfl g64 rfl ?_
                refine Ops.assignB rfl ?_
                refine Ops.nil ?_
                exact ⟨_, hh2, hS, joinB rfl (by simp only [g64, Bool.true_or, Bool.false_or]), e0, e1, e5, e8, e54, e55, e56, trivial⟩
              · skip
                refine Ops.guardT rfl rfl g64 ?_
                refine Ops.moveS (e8.trans hv8) ?_
                refine Ops.guardT rfl rfl g64 ?_
                refine Ops.lenS Try.underlying25 rfl ?_
                refine Ops.guardT rfl rfl g64 ?_
                refine Ops.gtr rfl rfl ?_
                refine Ops.pickFB rfl g64 rfl ?_
                refine Ops.assignB rfl ?_
                refine Ops.nil ?_
                exact ⟨_, hh2, hS, joinB rfl (by simp only [g64, Bool.true_or, Bool.false_or]), e0, e1, e5, e8, e54, e55, e56, trivial⟩
            · skip
              rintro ρ w ⟨I, hI, hS, e6, e0, e1, e5, e8, e54, e55, e56, _⟩
              replace hh1 := Ghost.le.trans' hI hh1
              replace hle := hle.trans hI
              have hd6 : decide (64 < (nr : Int)) = decide (64 < L[k].length) := decide_eq_decide.2 (by omega)
              rw [hd6, Bool.or_assoc, ← anyBig_succ hk2] at e6
              refine WP.region rfl ?_
              refine Ops.moveS (e5.trans hv5) ?_
              refine Ops.buildSlice0 Try.underlying25 Try.type2 hS ?_
              intro b70 w hS
              refine Ops.moveS (e8.trans hv8) ?_
              refine Ops.append Try.underlying25 Try.type2 rfl rfl rfl rfl rfl hS (OwnS.made (cs := []) (n := 0) rfl) (Ints.src (Sl.mono' RInt.stays hI (fun x hx => List.mem_cons_of_mem _ hx) hr)) (by show (_ + _) * 8 ≤ _; omega) (by omega) ?_
              rintro a72 c72 A72 w hA72 hS hN72
              have hS := hS.swap.assoc
              rw [hlen] at hA
              refine Ops.buildSlice1S Try.underlying22 Try.type25 rfl (by decide) (by decide) rfl hS rfl rfl ?_
              intro b73 w I hI hb73 hS
              replace hh1 := Ghost.le.trans' hI hh1
              replace hle := hle.trans hI
              refine Ops.append Try.underlying22 Try.type25 rfl rfl rfl rfl rfl hS hA (Src.one hb73 rfl) (by show (_ + _) * 24 ≤ _; omega) (by omega) ?_
              rintro a74 c74 A74 w hA74 hS hN74
              have hS : SL I ((A74 ++ (rs ++ [Row.mk a72 c72 L[k] A72]).flatMap Row.A) ++ O) E w := by
                simpa [List.flatMap_append, List.append_assoc] using hS
              have hrow : Row.ok (Row.mk a72 c72 L[k] A72) := by
                unfold Row.ok; simp only [List.nil_append, Nat.zero_add, hrn] at hA72; exact hA72
              have hT := Tab.push (r := Row.mk a72 c72 L[k] A72) (by
                unfold Row.v; rw [hrn, Nat.zero_add] at hA74; rw [hlen]; exact hA74) hok hrow
              rw [hrs, ← List.take_succ_eq_append_getElem hk2] at hT
              refine Ops.assignS rfl ?_
              refine Ops.nil ?_
              refine WP.region rfl ?_
              refine Ops.add (e56.trans hv56) rfl (by unfold I64; omega) ?_
              refine Ops.moveI rfl ?_
              refine Ops.nil ?_
              refine ⟨k + 1, ⟨_, a74, c74, A74 ++ (rs ++ [Row.mk a72 c72 L[k] A72]).flatMap Row.A, hz1.trans hh1, hS, rfl, rfl, e6, e0, e1, e54, e55, ⟨hk2, all_take (p := fun l => l.length ≤ 100) hk2 h100 hb2, hT⟩⟩, by omega⟩
        · skip
          have hkn : k = L.length := by omega
          subst hkn
          rw [List.take_length] at hT h100 e6
          have hlen5 : L.length ≤ 40 := by omega
          have hBd : Bd L := ⟨by omega, fun l hl => by have := h100 l hl; omega⟩
          refine WP.exit ?_
          refine WP.seq ?_
          refine WP.region rfl ?_
          refine Ops.buildSlice0 Try.underlying22 Try.type25 hS ?_
          intro b76 w hS
          refine Ops.assignS rfl ?_
          refine Ops.nil ?_
          refine WP.seq ?_
          refine WP.seq ?_
          refine WP.region rfl ?_
          refine Ops.moveS (e0.trans hv0) ?_
          refine Ops.lenS Try.underlying22 rfl ?_
          refine Ops.moveI rfl ?_
          refine Ops.nil ?_
          refine WP.block ?_
          refine WP.env (fun ρ hρ => ?_)
          replace e1 := (congrFun hρ 1).trans e1
          obtain ⟨v5, e5, hv5⟩ := nm2 ((congrFun hρ 5).trans e5)
          obtain ⟨v6, e6, hv6⟩ := nm2 ((congrFun hρ 6).trans e6)
          obtain ⟨v9, e9, hv9⟩ := nm hρ 9
          obtain ⟨v77, e77, hv77⟩ := nm hρ 77
          obtain ⟨v78, e78, hv78⟩ := nm hρ 78
          obtain ⟨v79, e79, hv79⟩ := nm hρ 79
          clear hρ
          refine WP.loop (fun (k : Nat) ρ2 w2 => ∃ J : Ghost, ∃ (ao2 : Option Addr) (co2 : Nat) (X2 : Own), I.le J ∧ SL J (X2 ++ (X ++ O)) E w2 ∧ ρ2 79 = .int .i64 k ∧ ρ2 9 = .slice ao2 k co2 ∧ ρ2 1 = v1 ∧ ρ2 5 = v5 ∧ ρ2 6 = v6 ∧ ρ2 77 = v77 ∧ ρ2 78 = v78 ∧ (k ≤ L.length ∧ Tab ao2 co2 (L.take k) X2)) (fun k => L.length - k) 0 ?_ ?_
          · skip
            exact ⟨I, _, 0, _, Ghost.le.refl _, hS, e79.trans hv79, e9.trans hv9, e1, e5, e6, e77, e78, ⟨Nat.zero_le _, ⟨_, [], rfl, OwnS.made (cs := []) (n := 0) rfl, by simp, (List.append_nil _).symm⟩⟩⟩
          · skip
            rintro k ρ w ⟨I, ao2, co2, X2, hI, hS, e79, e9, e1, e5, e6, e77, e78, ⟨hk, hT2⟩⟩
            have hz3 := hI
            replace hle := hle.trans hI
            have hh3 := Ghost.le.refl I
            refine WP.seq ?_
            refine WP.region rfl ?_
            refine Ops.lss e79 (e78.trans hv78) ?_
            refine Ops.nil ?_
            refine WP.seq ?_
            refine WP.condP rfl (fun c => ?_) (fun c => ?_)
            · skip
              have hk2 : k < L.length := by omega
              have hLk : L[k]? = some L[k] := List.getElem?_eq_getElem hk2
              have hll := Sl.mono' (O' := X2 ++ (X ++ O)) RInts.stays hle (fun x hx => by simp [hx]) hl
              have hb2 := h100 _ (List.mem_of_getElem? hLk)
              obtain ⟨A2, rs, hrs, hA2, hok2, rfl⟩ := hT2
              have hlen : rs.length = k := by have := congrArg List.length hrs; simp at this; omega
              refine WP.skip ?_
              refine WP.seq ?_
              refine WP.block ?_
              refine WP.seq ?_
              refine WP.region rfl ?_
              refine Ops.elem1 (j := k) Try.underlying22 Try.sizeOf25 Try.isAgg25 hS (e77.trans hv77) e79 (by first | rfl | omega | simp) (hLk) hll ?_
              rintro p81 l81 hl81 ⟨ar, nr, cr, e, hr⟩
              cases e
              have hrn := hr.1
              refine Ops.assignS rfl ?_
              refine Ops.nil ?_
              refine WP.region rfl ?_
              refine Ops.moveS e9 ?_
              refine Ops.buildSlice0 Try.underlying25 Try.type2 hS ?_
              intro b84 w hS
              refine Ops.moveS rfl ?_
              refine Ops.append Try.underlying25 Try.type2 rfl rfl rfl rfl rfl hS (OwnS.made (cs := []) (n := 0) rfl) (Ints.src (Sl.mono' RInt.stays (Ghost.le.refl _) (fun x hx => List.mem_cons_of_mem _ hx) hr)) (by show (_ + _) * 8 ≤ _; omega) (by omega) ?_
              rintro a86 c86 A86 w hA86 hS hN86
              have hS := hS.swap.assoc
              rw [hlen] at hA2
              refine Ops.buildSlice1S Try.underlying22 Try.type25 rfl (by decide) (by decide) rfl hS rfl rfl ?_
              intro b87 w I hI hb87 hS
              replace hh3 := Ghost.le.trans' hI hh3
              replace hle := hle.trans hI
              refine Ops.append Try.underlying22 Try.type25 rfl rfl rfl rfl rfl hS hA2 (Src.one hb87 rfl) (by show (_ + _) * 24 ≤ _; omega) (by omega) ?_
              rintro a88 c88 A88 w hA88 hS hN88
              have hS : SL I ((A88 ++ (rs ++ [Row.mk a86 c86 L[k] A86]).flatMap Row.A) ++ (X ++ O)) E w := by
                simpa [List.flatMap_append, List.append_assoc] using hS
              have hrow : Row.ok (Row.mk a86 c86 L[k] A86) := by
                unfold Row.ok; simp only [List.nil_append, Nat.zero_add, hrn] at hA86; exact hA86
              have hT2 := Tab.push (r := Row.mk a86 c86 L[k] A86) (by
                unfold Row.v; rw [hrn, Nat.zero_add] at hA88; rw [hlen]; exact hA88) hok2 hrow
              rw [hrs, ← List.take_succ_eq_append_getElem hk2] at hT2
              refine Ops.assignS rfl ?_
              refine Ops.nil ?_
              refine WP.region rfl ?_
              refine Ops.add e79 rfl (by unfold I64; omega) ?_
              refine Ops.moveI rfl ?_
              refine Ops.nil ?_
              refine ⟨k + 1, ⟨_, a88, c88, A88 ++ (rs ++ [Row.mk a86 c86 L[k] A86]).flatMap Row.A, hz3.trans hh3, hS, rfl, rfl, e1, e5, e6, e77, e78, ⟨hk2, hT2⟩⟩, by omega⟩
            · skip
              have hkn : k = L.length := by omega
              subst hkn
              rw [List.take_length] at hT2
              refine WP.exit ?_
              refine WP.seq ?_
              refine WP.region rfl ?_
              refine Ops.moveS e9 ?_
              have h6 : (decide (32 < L.length) || anyBig L) = tooBig L := by
                unfold tooBig anyBig
                rw [Bool.eq_iff_iff]; simp
              rw [h6] at hv6
              by_cases hlong : tooBig L = true
              · skip
                refine Ops.callF (new_big hS (Tab.sl hT2 (fun x hx => by simp [hx])) (by omega) hlong) ?_
                rintro v92 w ⟨I, hI, hS, rfl⟩
                replace hle := hle.trans hI
                refine Ops.moveU rfl ?_
                refine Ops.extract0 rfl ?_
                refine Ops.extract1 rfl ?_
                refine Ops.assignP rfl ?_
                refine Ops.assignI rfl ?_
                refine Ops.nil ?_
                refine WP.seq ?_
                refine WP.seq ?_
                refine WP.region rfl ?_
                refine Ops.moveB (e6.trans hv6) ?_
                refine Ops.nil ?_
                refine WP.condIsT rfl hlong ?_
                refine WP.seq ?_
                refine WP.region rfl ?_
                refine Ops.moveI rfl ?_
                refine Ops.eqlI rfl rfl ?_
                refine Ops.moveB rfl ?_
                refine Ops.guardT rfl rfl rfl ?_
                refine Ops.moveP rfl ?_
                refine Ops.guardT rfl rfl rfl ?_
                refine Ops.eqNilP Try.underlying26 rfl rfl ?_
                refine Ops.pickTB rfl rfl rfl ?_
                refine Ops.assignB rfl ?_
                refine Ops.nil ?_
                refine WP.ret ?_
                repeat (first | refine seqQ_ret ?_ | refine blockQ_ret ?_)
                refine fin1 (v := .bool _) rfl ?_
                exact ⟨I, hle, hS.dropAll.dropAll, rfl⟩
              · skip
                have hlong : tooBig L = false := by simpa using hlong
                refine Ops.callF (new_spec hS (Tab.sl hT2 (fun x hx => by simp [hx])) hlong) ?_
                rintro v92 w ⟨I, Xh, bh, hI, hS, hH, rfl⟩
                replace hle := hle.trans hI
                refine Ops.moveU rfl ?_
                refine Ops.extract0 rfl ?_
                refine Ops.extract1 rfl ?_
                refine Ops.assignP rfl ?_
                refine Ops.assignI rfl ?_
                refine Ops.nil ?_
                refine WP.seq ?_
                refine WP.seq ?_
                refine WP.region rfl ?_
                refine Ops.moveB (e6.trans hv6) ?_
                refine Ops.nil ?_
                refine WP.condIsF rfl hlong ?_
                have hno : ¬ (32 < L.length ∨ ∃ l ∈ L, 64 < l.length) := of_decide_eq_false hlong
                refine WP.skip ?_
                refine WP.seq ?_
                refine WP.seq ?_
                refine WP.region rfl ?_
                refine Ops.moveS e9 ?_
                refine Ops.lenS Try.underlying22 rfl ?_
                refine Ops.moveI rfl ?_
                refine Ops.nil ?_
                refine WP.block ?_
                refine WP.env (fun ρ hρ => ?_)
                replace e1 := (congrFun hρ 1).trans e1
                replace e5 := (congrFun hρ 5).trans e5
                obtain ⟨v9, e9, hv9⟩ := nm2 ((congrFun hρ 9).trans e9)
                obtain ⟨v12, e12, hv12⟩ := nm hρ 12
                obtain ⟨v103, e103, hv103⟩ := nm hρ 103
                obtain ⟨v104, e104, hv104⟩ := nm hρ 104
                clear hρ
                refine WP.loop (fun (k : Nat) ρ2 w2 => ∃ J : Ghost, ∃ (Lo : List (List Int)) (Xo : Own), I.le J ∧ SL J (Xh ++ (Xo ++ (X ++ O))) E w2 ∧ ρ2 104 = .int .i64 k ∧ ρ2 1 = v1 ∧ ρ2 5 = v5 ∧ ρ2 9 = v9 ∧ ρ2 12 = v12 ∧ ρ2 103 = v103 ∧ (Tab ao2 co2 Lo Xo ∧ Lo.map List.length = L.map List.length)) (fun k => L.length - k) 0 ?_ ?_
                · skip
                  exact ⟨I, L, X2, Ghost.le.refl _, hS, (e104.trans hv104), e1, e5, e9, e12, e103, ⟨hT2, rfl⟩⟩
                · skip
                  rintro k ρ w ⟨I, Lo, Xo, hI, hS, e104, e1, e5, e9, e12, e103, ⟨hTo, hlo⟩⟩
                  have hz4 := hI
                  replace hle := hle.trans hI
                  have hh4 := Ghost.le.refl I
                  have hlo1 : Lo.length = L.length := by simpa using congrArg List.length hlo
                  refine WP.seq ?_
                  refine WP.region rfl ?_
                  refine Ops.lss e104 (e103.trans hv103) ?_
                  refine Ops.nil ?_
                  refine WP.seq ?_
                  refine WP.condP rfl (fun c => ?_) (fun c => ?_)
                  · skip
                    have hk2 : k < L.length := by omega
                    have hk3 : k < Lo.length := by omega
                    have hlk : Lo[k].length = L[k].length := by
                      have := congrArg (fun x => x[k]?) hlo
                      simpa [hk2, hk3] using this
                    have hsl := Tab.sl (I := I) (O := Xh ++ (Xo ++ (X ++ O))) hTo (fun x hx => by simp [hx])
                    rw [hlo1] at hsl
                    refine WP.skip ?_
                    refine WP.seq ?_
                    refine WP.block ?_
                    refine WP.seq ?_
                    refine WP.region rfl ?_
                    refine Ops.moveI e104 ?_
                    refine Ops.assignI rfl ?_
                    refine Ops.nil ?_
                    refine WP.seq ?_
                    refine WP.region rfl ?_
                    refine Ops.moveS (e9.trans hv9) ?_
                    refine Ops.moveI rfl ?_
                    refine Ops.elem1 (j := k) Try.underlying22 Try.sizeOf25 Try.isAgg25 hS rfl rfl (by first | rfl | omega | simp) ((List.getElem?_eq_getElem hk3)) hsl ?_
                    rintro p109 l109 hl109 ⟨ar, nr, cr, e, hr⟩
                    cases e
                    have hrn := hr.1
                    refine Ops.lenS Try.underlying25 rfl ?_
                    refine Ops.moveI rfl ?_
                    refine Ops.nil ?_
                    refine WP.block ?_
                    refine WP.env (fun ρ hρ => ?_)
                    replace e1 := (congrFun hρ 1).trans e1
                    replace e5 := (congrFun hρ 5).trans e5
                    replace e9 := (congrFun hρ 9).trans e9
                    replace e12 := (congrFun hρ 12).trans e12
                    obtain ⟨v14, e14, hv14⟩ := nm hρ 14
                    replace e103 := (congrFun hρ 103).trans e103
                    obtain ⟨v104, e104, hv104⟩ := nm2 ((congrFun hρ 104).trans e104)
                    obtain ⟨v111, e111, hv111⟩ := nm hρ 111
                    obtain ⟨v112, e112, hv112⟩ := nm hρ 112
                    clear hρ
                    refine WP.loop (fun (j : Nat) ρ2 w2 => ∃ J : Ghost, ∃ (Lo : List (List Int)) (Xo : Own), I.le J ∧ SL J (Xh ++ (Xo ++ (X ++ O))) E w2 ∧ ρ2 112 = .int .i64 j ∧ ρ2 1 = v1 ∧ ρ2 5 = v5 ∧ ρ2 9 = v9 ∧ ρ2 12 = v12 ∧ ρ2 14 = v14 ∧ ρ2 103 = v103 ∧ ρ2 104 = v104 ∧ ρ2 111 = v111 ∧ (Tab ao2 co2 Lo Xo ∧ Lo.map List.length = L.map List.length)) (fun j => L[k].length - j) 0 ?_ ?_
                    · skip
                      exact ⟨I, Lo, Xo, Ghost.le.refl _, hS, (e112.trans hv112), e1, e5, e9, e12, e14, e103, e104, e111, ⟨hTo, hlo⟩⟩
                    · skip
                      rintro j ρ w ⟨I, Lo, Xo, hI, hS, e112, e1, e5, e9, e12, e14, e103, e104, e111, ⟨hTo, hlo⟩⟩
                      have hz5 := hI
                      replace hh4 := Ghost.le.trans' hI hh4
                      replace hle := hle.trans hI
                      have hh5 := Ghost.le.refl I
                      refine WP.seq ?_
                      refine WP.region rfl ?_
                      refine Ops.lss e112 (e111.trans hv111) ?_
                      refine Ops.nil ?_
                      refine WP.seq ?_
                      refine WP.condP rfl (fun c2 => ?_) (fun c2 => ?_)
                      · skip
                        have hlo1 : Lo.length = L.length := by simpa using congrArg List.length hlo
                        have hk3 : k < Lo.length := by omega
                        have hlk2 : Lo[k].length = L[k].length := by
                          have := congrArg (fun x => x[k]?) hlo
                          simpa [hk2, hk3] using this
                        have hj3 : j < Lo[k].length := by omega
                        have hb3 := h100 _ (List.getElem_mem hk2)
                        obtain ⟨VS, bj, cj, lj, T1, T2, hVS, hVj, hXo, hil, hlj, hset⟩ := Tab.vals hTo hk3 hj3
                        rw [hXo] at hS hVS
                        rw [hlo1] at hVS
                        refine WP.skip ?_
                        refine WP.seq ?_
                        refine WP.block ?_
                        refine WP.seq ?_
                        refine WP.region rfl ?_
                        refine Ops.moveI e112 ?_
                        refine Ops.assignI rfl ?_
                        refine Ops.nil ?_
                        refine WP.region rfl ?_
                        refine Ops.moveS (e9.trans hv9) ?_
                        refine Ops.moveI (e14.trans hv14) ?_
                        refine Ops.elem1 (j := k) Try.underlying22 Try.sizeOf25 Try.isAgg25 hS rfl rfl (by first | rfl | omega | simp) (hVj) (hVS _ _ (fun x hx => List.mem_append_right _ (List.mem_append_left _ hx))) ?_
                        rintro p117 l117 hl117 e
                        cases e
                        have hS := (by simpa only [List.append_assoc] using hS : SL I (Xh ++ (T1 ++ ([(bj, _)] ++ (T2 ++ (X ++ O))))) E w).swap2.swap
                        refine Ops.moveI rfl ?_
                        refine Ops.idx (j := j) (k := 1) Try.underlying25 Try.sizeOf2 rfl rfl (by first | rfl | omega) hj3 ?_
                        refine Ops.load1 (v := .int .i64 Lo[k][j]) Try.isAgg2 hS rfl (.inr ⟨_, _, _, .head _, by rw [List.getElem?_toArray, Nat.zero_add, Nat.mul_one]; exact hlj⟩) ?_
                        refine Ops.addW rfl rfl ?_
                        refine Ops.idx (j := j) (k := 1) Try.underlying25 Try.sizeOf2 rfl rfl (by first | rfl | omega) hj3 ?_
                        refine Ops.store1 (v := .int .i64 (IntKind.i64.wrap (Lo[k][j] + 1))) (off := 0 + j * 1) Try.sizeOf2 rfl rfl rfl (by omega) hS ?_
                        intro w hS
                        have hS := hS.swap.swap2
                        rw [Nat.zero_add, Nat.mul_one] at hS
                        have hS := (by simpa only [List.append_assoc] using hS : SL I (Xh ++ ((T1 ++ ([(bj, Obj.cells (lj.set j (.int .i64 (IntKind.i64.wrap (Lo[k][j] + 1)))).toArray 2 (0, 0))] ++ T2)) ++ (X ++ O))) E w)
                        refine Ops.nil ?_
                        refine WP.region rfl ?_
                        refine Ops.add e112 rfl (by unfold I64; omega) ?_
                        refine Ops.moveI rfl ?_
                        refine Ops.nil ?_
                        refine ⟨j + 1, ⟨_, _, _, hz5.trans hh5, hS, rfl, e1, e5, e9, e12, e14, e103, e104, e111, ⟨hset _, ?_⟩⟩, by omega⟩
                        rw [← hlo, List.map_set]
                        simp only [List.length_set]
                        rw [show Lo[k].length = (Lo.map List.length)[k]'(by simpa using hk3) by simp, List.set_getElem_self]
                      · skip
                        refine WP.exit ?_
                        refine WP.region rfl ?_
                        refine Ops.add (e104.trans hv104) rfl (by unfold I64; omega) ?_
                        refine Ops.moveI rfl ?_
                        refine Ops.nil ?_
                        refine ⟨k + 1, ⟨_, Lo, Xo, hz4.trans hh4, hS, rfl, e1, e5, e9, e12, e103, ⟨hTo, hlo⟩⟩, by omega⟩
                  · skip
                    have hS := hS.swap.dropAll
                    have hL32 : L.length ≤ 32 := by
                      rcases Nat.lt_or_ge 32 L.length with h | h
                      · exact (hno (.inl h)).elim
                      · exact h
                    have hL64 : ∀ l ∈ L, l.length ≤ 64 := fun l hl => by
                      rcases Nat.lt_or_ge 64 l.length with h | h
                      · exact (hno (.inr ⟨l, hl, h⟩)).elim
                      · exact h
                    refine WP.exit ?_
                    refine WP.seq ?_
                    refine WP.seq ?_
                    refine WP.region rfl ?_
                    refine Ops.moveS (e1.trans hv1) ?_
                    refine Ops.lenS Try.underlying23 rfl ?_
                    refine Ops.moveI rfl ?_
                    refine Ops.nil ?_
                    refine WP.block ?_
                    refine WP.env (fun ρ hρ => ?_)
                    replace e5 := (congrFun hρ 5).trans e5
                    replace e12 := (congrFun hρ 12).trans e12
                    obtain ⟨v126, e126, hv126⟩ := nm hρ 126
                    obtain ⟨v127, e127, hv127⟩ := nm hρ 127
                    obtain ⟨v128, e128, hv128⟩ := nm hρ 128
                    clear hρ
                    refine WP.loop (fun (q : Nat) ρ2 w2 => ∃ J : Ghost, ∃ (Lm : List (List Int)) (am : Option Addr) (cm : Nat) (Xm : Own) (Xk : Own), I.le J ∧ SL J (Xk ++ (Xm ++ O)) E w2 ∧ ρ2 128 = .int .i64 q ∧ ρ2 5 = .slice am Lm.length cm ∧ ρ2 12 = v12 ∧ ρ2 126 = v126 ∧ ρ2 127 = v127 ∧ (Tab am cm Lm Xm ∧ HeapAt bh Lm Xk ∧ Small Lm ∧ q ≤ acts.length)) (fun q => acts.length - q) 0 ?_ ?_
                    · skip
                      exact ⟨I, L, _, _, X, Xh, Ghost.le.refl _, hS, (e128.trans hv128), (e5.trans hv5), e12, e126, e127, ⟨hT, hH, ⟨hL32, hL64⟩, Nat.zero_le _⟩⟩
                    · skip
                      rintro q ρ w ⟨I, Lm, am, cm, Xm, Xk, hI, hS, e128, e5, e12, e126, e127, ⟨hTm, hHk, hSm, hq⟩⟩
                      have hz6 := hI
                      replace hle := hle.trans hI
                      have hh6 := Ghost.le.refl I
                      refine WP.seq ?_
                      refine WP.region rfl ?_
                      refine Ops.lss e128 (e127.trans hv127) ?_
                      refine Ops.nil ?_
                      refine WP.seq ?_
                      refine WP.condP rfl (fun c => ?_) (fun c => ?_)
                      · skip
                        have hq2 : q < acts.length := by omega
                        refine WP.skip ?_
                        refine WP.seq ?_
                        refine WP.block ?_
                        refine WP.seq ?_
                        refine WP.region rfl ?_
                        refine Ops.elemA (j := q) Try.underlying23 Try.sizeOf31 Try.isAgg31 hS (e126.trans hv126) e128 (by first | rfl | omega | simp) ((List.getElem?_eq_getElem hq2)) (Sl.mono' (O' := Xk ++ (Xm ++ O)) RAct.stays hle (fun x hx => by simp [hx]) hl2) ?_
                        rintro p130 l130 hl130 e
                        cases e
                        obtain ⟨x, hx⟩ : ∃ x, x = acts[q] := ⟨_, rfl⟩
                        rw [← hx] at *
                        refine Ops.alloc Try.zeroValue31 hS ?_
                        intro b17 w hS
                        refine Ops.storeAllA Try.sizeOf31 rfl rfl hS (by simp [Value.oneCell']) ⟨rfl, rfl⟩ ?_
                        intro w hS
                        obtain ⟨I, hI, hb17, hS⟩ := hS.freeze'
                        replace hh6 := Ghost.le.trans' hI hh6
                        replace hle := hle.trans hI
                        refine Ops.nil ?_
                        have hsub : ∀ y ∈ Xm, y ∈ Xk ++ (Xm ++ O) := fun y hy => by simp [hy]
                        refine WP.seq ?_
                        refine WP.env (fun ρ hρ => ?_)
                        obtain ⟨v5, e5, hv5⟩ := nm2 ((congrFun hρ 5).trans e5)
                        replace e12 := (congrFun hρ 12).trans e12
                        obtain ⟨v17, e17, hv17⟩ := nm hρ 17
                        replace e126 := (congrFun hρ 126).trans e126
                        replace e127 := (congrFun hρ 127).trans e127
                        obtain ⟨v128, e128, hv128⟩ := nm2 ((congrFun hρ 128).trans e128)
                        clear hρ
                        refine WP.cut (fun ρ2 w2 => ∃ J : Ghost, I.le J ∧ SL J (Xk ++ (Xm ++ O)) E w2 ∧ ρ2 18 = .bool (thereL Lm x.a) ∧ ρ2 5 = v5 ∧ ρ2 12 = v12 ∧ ρ2 17 = v17 ∧ ρ2 126 = v126 ∧ ρ2 127 = v127 ∧ ρ2 128 = v128 ∧ (True)) ?_ ?_
                        · skip
                          have hh7 := Ghost.le.refl I
                          refine WP.region rfl ?_
                          refine Ops.field (r := 1) Try.underlying31 rfl Try.sizeOf3 (by decide) (e17.trans hv17) rfl ?_
                          refine Ops.load1P Try.isAgg3 hS rfl hb17 rfl ?_
                          refine Ops.geq rfl rfl ?_
                          refine Ops.moveB rfl ?_
                          refine Ops.case (s := 135) rfl (fun g135 => ?_) (fun g135 => ?_)
                          · skip
                            refine Ops.guardT rfl rfl g135 ?_
                            refine Ops.field (r := 1) Try.underlying31 rfl Try.sizeOf3 (by decide) (e17.trans hv17) rfl ?_
                            refine Ops.guardT rfl rfl g135 ?_
                            refine Ops.load1P Try.isAgg3 hS rfl hb17 rfl ?_
                            refine Ops.guardT rfl rfl g135 ?_
                            refine Ops.moveS (e5.trans hv5) ?_
                            refine Ops.guardT rfl rfl g135 ?_
                            refine Ops.lenS Try.underlying22 rfl ?_
                            refine Ops.guardT rfl rfl g135 ?_
                            refine Ops.lss rfl rfl ?_
                            refine Ops.pickTB rfl g135 rfl ?_
                            refine Ops.assignB rfl ?_
                            refine Ops.nil ?_
                            exact ⟨_, hh7, hS, joinB rfl (by unfold thereL; rw [Bool.decide_and, g135]; rfl), e5, e12, e17, e126, e127, e128, trivial⟩
                          · skip
                            refine Ops.guardFd rfl rfl g135 ?_
                            refine Ops.guardFd rfl rfl g135 ?_
                            refine Ops.guardFd rfl rfl g135 ?_
                            refine Ops.guardFd rfl rfl g135 ?_
                            refine Ops.guardFd rfl rfl g135 ?_
                            refine Ops.pickFB rfl g135 rfl ?_
                            refine Ops.assignB rfl ?_
                            refine Ops.nil ?_
                            exact ⟨_, hh7, hS, joinB rfl (by unfold thereL; rw [Bool.decide_and, g135]; rfl), e5, e12, e17, e126, e127, e128, trivial⟩
                        · skip
                          rintro ρ w ⟨I, hI, hS, e18, e5, e12, e17, e126, e127, e128, _⟩
                          replace hh6 := Ghost.le.trans' hI hh6
                          replace hb17 := hI _ _ hb17
                          replace hle := hle.trans hI
                          refine WP.seq ?_
                          refine WP.env (fun ρ hρ => ?_)
                          replace e5 := (congrFun hρ 5).trans e5
                          replace e12 := (congrFun hρ 12).trans e12
                          replace e17 := (congrFun hρ 17).trans e17
                          obtain ⟨v18, e18, hv18⟩ := nm2 ((congrFun hρ 18).trans e18)
                          replace e126 := (congrFun hρ 126).trans e126
                          replace e127 := (congrFun hρ 127).trans e127
                          replace e128 := (congrFun hρ 128).trans e128
                          clear hρ
                          refine WP.cut (fun ρ2 w2 => ∃ J : Ghost, I.le J ∧ SL J (Xk ++ (Xm ++ O)) E w2 ∧ ρ2 18 = .bool (inL Lm x.a x.i) ∧ ρ2 5 = v5 ∧ ρ2 12 = v12 ∧ ρ2 17 = v17 ∧ ρ2 126 = v126 ∧ ρ2 127 = v127 ∧ ρ2 128 = v128 ∧ (True)) ?_ ?_
                          · skip
                            have hh8 := Ghost.le.refl I
                            have hd := Ghost.le.refl I
                            have q17 := hb17
                            refine WP.regionDraw (fun w2 => ∃ J O2, I.le J ∧ SL J O2 E w2 ∧ (∀ x ∈ (Xk ++ (Xm ++ O) : Own), x ∈ O2)) (fun j => false) (by kernel_rfl) rfl ?_
                            intro w hw
                            have hS := (hw ▸ hS.drew : SL I _ E w)
                            refine AnyV.one (i := 0) rfl (by kernel_rfl) ?_
                            refine Ops.moveB (e18.trans hv18) ?_
                            refine Ops.nil ?_
                            refine ⟨.inr ⟨I, _, hd, hS, (fun _ h => h)⟩, ?_⟩
                            refine AnyV.one (i := 1) rfl (by kernel_rfl) ?_
                            refine Ops.moveB rfl ?_
                            refine Ops.nil ?_
                            refine ⟨.inr ⟨I, _, hd, hS, (fun _ h => h)⟩, ?_⟩
                            refine AnyV.case (s := 143) rfl (fun g143 => ?_) (fun g143 => ?_)
                            · skip
                              refine AnyV.one (i := 2) rfl (by kernel_rfl) ?_
                              refine Ops.guardT rfl rfl g143 ?_
                              refine Ops.field (r := 2) Try.underlying31 rfl Try.sizeOf2 (by decide) (e17.trans hv17) rfl ?_
                              refine Ops.nil ?_
                              refine ⟨.inr ⟨I, _, hd, hS, (fun _ h => h)⟩, ?_⟩
                              refine AnyV.one (i := 3) rfl (by kernel_rfl) ?_
                              refine Ops.guardT rfl rfl g143 ?_
                              refine Ops.load1P Try.isAgg2 hS rfl hb17 rfl ?_
                              refine Ops.nil ?_
                              refine ⟨.inr ⟨I, _, hd, hS, (fun _ h => h)⟩, ?_⟩
                              refine AnyV.one (i := 4) rfl (by kernel_rfl) ?_
                              refine Ops.guardT rfl rfl g143 ?_
                              refine Ops.geq rfl rfl ?_
                              refine Ops.nil ?_
                              refine ⟨.inr ⟨I, _, hd, hS, (fun _ h => h)⟩, ?_⟩
                              refine AnyV.one (i := 5) rfl (by kernel_rfl) ?_
                              refine Ops.pickTB rfl g143 rfl ?_
                              refine Ops.nil ?_
                              refine ⟨.inr ⟨I, _, hd, hS, (fun _ h => h)⟩, ?_⟩
                              refine AnyV.one (i := 6) rfl (by kernel_rfl) ?_
                              refine Ops.moveB rfl ?_
                              refine Ops.nil ?_
                              refine ⟨.inr ⟨I, _, hd, hS, (fun _ h => h)⟩, ?_⟩
                              refine AnyV.case (s := 148) rfl (fun g148 => ?_) (fun g148 => ?_)
                              · skip
                                refine AnyV.takeT (i := 7) rfl rfl rfl g148 (by kernel_rfl) (by kernel_rfl) (by kernel_rfl) (by kernel_rfl) ⟨I, _, hd, hS, (fun _ h => h)⟩ (fun w hW => Run.field (r := 2) Try.underlying31 rfl Try.sizeOf2 (by decide) (e17.trans hv17) rfl) ?_
                                refine AnyV.takeT (i := 8) rfl rfl rfl g148 (by kernel_rfl) (by kernel_rfl) (by kernel_rfl) (by kernel_rfl) ⟨I, _, hd, hS, (fun _ h => h)⟩ (fun w hW => by obtain ⟨J, O2, hJ, hS, hM0⟩ := hW; exact Run.load1P Try.isAgg2 hS rfl (hJ _ _ q17) rfl) ?_
                                refine AnyV.takeT (i := 9) rfl rfl rfl g148 (by kernel_rfl) (by kernel_rfl) (by kernel_rfl) (by kernel_rfl) ⟨I, _, hd, hS, (fun _ h => h)⟩ (fun w hW => Run.moveS (e5.trans hv5)) ?_
                                refine AnyV.one (i := 10) rfl (by kernel_rfl) ?_
                                refine Ops.guardT rfl rfl g148 ?_
                                refine Ops.field (r := 1) Try.underlying31 rfl Try.sizeOf3 (by decide) (e17.trans hv17) rfl ?_
                                refine Ops.nil ?_
                                refine ⟨.inr ⟨I, _, hd, hS, (fun _ h => h)⟩, ?_⟩
                                refine AnyV.one (i := 11) rfl (by kernel_rfl) ?_
                                refine Ops.guardT rfl rfl g148 ?_
                                refine Ops.load1P Try.isAgg3 hS rfl hb17 rfl ?_
                                refine Ops.nil ?_
                                refine ⟨.inr ⟨I, _, hd, hS, (fun _ h => h)⟩, ?_⟩
                                have h0 := there_nn g143
                                obtain ⟨b154, off154, u154, har154, hjn154, hu154, hat154⟩ := Run.elem1 (P := Try.prog) (e := 25) (j := x.a.toNat) hS Try.isAgg25 (there_get g143) (Tab.sl hTm hsub)
                                obtain ⟨ar, nr, cr, e, hr⟩ := hu154
                                cases e
                                refine AnyV.takeT (i := 12) rfl rfl rfl g148 (by kernel_rfl) (by kernel_rfl) (by kernel_rfl) (by kernel_rfl) ⟨I, _, hd, hS, (fun _ h => h)⟩ (fun w hW => Run.idxE (j := x.a.toNat) (k := 1) Try.underlying22 Try.sizeOf25 rfl har154 rfl (Int.toNat_of_nonneg h0.1).symm hjn154) ?_
                                refine AnyV.takeT (i := 13) rfl rfl rfl g148 (by kernel_rfl) (by kernel_rfl) (by kernel_rfl) (by kernel_rfl) ⟨I, _, hd, hS, (fun _ h => h)⟩ (fun w hW => by obtain ⟨J, O2, hJ, hS, hM0⟩ := hW; exact Run.load1 Try.isAgg25 hS rfl (hat154.mono' hJ hM0)) ?_
                                refine AnyV.one (i := 14) rfl (by kernel_rfl) ?_
                                refine Ops.guardT rfl rfl g148 ?_
                                refine Ops.lenS Try.underlying25 rfl ?_
                                refine Ops.nil ?_
                                refine ⟨.inr ⟨I, _, hd, hS, (fun _ h => h)⟩, ?_⟩
                                refine AnyV.one (i := 15) rfl (by kernel_rfl) ?_
                                refine Ops.guardT rfl rfl g148 ?_
                                refine Ops.lss rfl rfl ?_
                                refine Ops.nil ?_
                                refine ⟨.inr ⟨I, _, hd, hS, (fun _ h => h)⟩, ?_⟩
                                refine AnyV.one (i := 16) rfl (by kernel_rfl) ?_
                                refine Ops.pickTB rfl g148 rfl ?_
                                refine Ops.nil ?_
                                refine ⟨.inr ⟨I, _, hd, hS, (fun _ h => h)⟩, ?_⟩
                                refine AnyV.one (i := 17) rfl (by kernel_rfl) ?_
                                refine Ops.assignB rfl ?_
                                refine Ops.nil ?_
                                refine ⟨.inr ⟨I, _, hd, hS, (fun _ h => h)⟩, ?_⟩
                                refine AnyV.done (by kernel_rfl) ?_
                                exact ⟨_, hh8, hS, joinB rfl (by unfold inL; first | (rw [g143, Bool.decide_and, g148, hr.1]; rfl) | (rw [g143, Bool.decide_and, g148]; rfl) | (rw [g143]; rfl)), e5, e12, e17, e126, e127, e128, trivial⟩
                              · skip
                                refine AnyV.takeF (i := 7) rfl rfl rfl g148 (by kernel_rfl) (by kernel_rfl) (by kernel_rfl) (by kernel_rfl) ⟨I, _, hd, hS, (fun _ h => h)⟩ ?_
                                refine AnyV.takeF (i := 8) rfl rfl rfl g148 (by kernel_rfl) (by kernel_rfl) (by kernel_rfl) (by kernel_rfl) ⟨I, _, hd, hS, (fun _ h => h)⟩ ?_
                                refine AnyV.takeF (i := 9) rfl rfl rfl g148 (by kernel_rfl) (by kernel_rfl) (by kernel_rfl) (by kernel_rfl) ⟨I, _, hd, hS, (fun _ h => h)⟩ ?_
                                refine AnyV.one (i := 10) rfl (by kernel_rfl) ?_
                                refine Ops.guardFd rfl rfl g148 ?_
                                refine Ops.nil ?_
                                refine ⟨.inr ⟨I, _, hd, hS, (fun _ h => h)⟩, ?_⟩
                                refine AnyV.one (i := 11) rfl (by kernel_rfl) ?_
                                refine Ops.guardFd rfl rfl g148 ?_
                                refine Ops.nil ?_
                                refine ⟨.inr ⟨I, _, hd, hS, (fun _ h => h)⟩, ?_⟩
                                refine AnyV.one (i := 12) rfl (by kernel_rfl) ?_
                                refine Ops.guardFd rfl rfl g148 ?_
                                refine Ops.nil ?_
                                refine ⟨.inr ⟨I, _, hd, hS, (fun _ h => h)⟩, ?_⟩
                                refine AnyV.one (i := 13) rfl (by kernel_rfl) ?_
                                refine Ops.guardFd rfl rfl g148 ?_
                                refine Ops.nil ?_
                                refine ⟨.inr ⟨I, _, hd, hS, (fun _ h => h)⟩, ?_⟩
                                refine AnyV.one (i := 14) rfl (by kernel_rfl) ?_
                                refine Ops.guardFd rfl rfl g148 ?_
                                refine Ops.nil ?_
                                refine ⟨.inr ⟨I, _, hd, hS, (fun _ h => h)⟩, ?_⟩
                                refine AnyV.one (i := 15) rfl (by kernel_rfl) ?_
                                refine Ops.guardFd rfl rfl g148 ?_
                                refine Ops.nil ?_
                                refine ⟨.inr ⟨I, _, hd, hS, (fun _ h => h)⟩, ?_⟩
                                refine AnyV.one (i := 16) rfl (by kernel_rfl) ?_
                                refine Ops.pickFB rfl g148 rfl ?_
                                refine Ops.nil ?_
                                refine ⟨.inr ⟨I, _, hd, hS, (fun _ h => h)⟩, ?_⟩
                                refine AnyV.one (i := 17) rfl (by kernel_rfl) ?_
                                refine Ops.assignB rfl ?_
                                refine Ops.nil ?_
                                refine ⟨.inr ⟨I, _, hd, hS, (fun _ h => h)⟩, ?_⟩
                                refine AnyV.done (by kernel_rfl) ?_
                                exact ⟨_, hh8, hS, joinB rfl (by unfold inL; first | (rw [g143, Bool.decide_and, g148, hr.1]; rfl) | (rw [g143, Bool.decide_and, g148]; rfl) | (rw [g143]; rfl)), e5, e12, e17, e126, e127, e128, trivial⟩
                            · skip
                              refine AnyV.one (i := 2) rfl (by kernel_rfl) ?_
                              refine Ops.guardFd rfl rfl g143 ?_
                              refine Ops.nil ?_
                              refine ⟨.inr ⟨I, _, hd, hS, (fun _ h => h)⟩, ?_⟩
                              refine AnyV.one (i := 3) rfl (by kernel_rfl) ?_
                              refine Ops.guardFd rfl rfl g143 ?_
                              refine Ops.nil ?_
                              refine ⟨.inr ⟨I, _, hd, hS, (fun _ h => h)⟩, ?_⟩
                              refine AnyV.one (i := 4) rfl (by kernel_rfl) ?_
                              refine Ops.guardFd rfl rfl g143 ?_
                              refine Ops.nil ?_
                              refine ⟨.inr ⟨I, _, hd, hS, (fun _ h => h)⟩, ?_⟩
                              refine AnyV.one (i := 5) rfl (by kernel_rfl) ?_
                              refine Ops.pickFB rfl g143 rfl ?_
                              refine Ops.nil ?_
                              refine ⟨.inr ⟨I, _, hd, hS, (fun _ h => h)⟩, ?_⟩
                              refine AnyV.one (i := 6) rfl (by kernel_rfl) ?_
                              refine Ops.moveB rfl ?_
                              refine Ops.nil ?_
                              refine ⟨.inr ⟨I, _, hd, hS, (fun _ h => h)⟩, ?_⟩
                              refine AnyV.takeF (i := 7) rfl rfl rfl rfl (by kernel_rfl) (by kernel_rfl) (by kernel_rfl) (by kernel_rfl) ⟨I, _, hd, hS, (fun _ h => h)⟩ ?_
                              refine AnyV.takeF (i := 8) rfl rfl rfl rfl (by kernel_rfl) (by kernel_rfl) (by kernel_rfl) (by kernel_rfl) ⟨I, _, hd, hS, (fun _ h => h)⟩ ?_
                              refine AnyV.takeF (i := 9) rfl rfl rfl rfl (by kernel_rfl) (by kernel_rfl) (by kernel_rfl) (by kernel_rfl) ⟨I, _, hd, hS, (fun _ h => h)⟩ ?_
                              refine AnyV.one (i := 10) rfl (by kernel_rfl) ?_
                              refine Ops.guardFd rfl rfl rfl ?_
                              refine Ops.nil ?_
                              refine ⟨.inr ⟨I, _, hd, hS, (fun _ h => h)⟩, ?_⟩
                              refine AnyV.one (i := 11) rfl (by kernel_rfl) ?_
                              refine Ops.guardFd rfl rfl rfl ?_
                              refine Ops.nil ?_
                              refine ⟨.inr ⟨I, _, hd, hS, (fun _ h => h)⟩, ?_⟩
                              refine AnyV.one (i := 12) rfl (by kernel_rfl) ?_
                              refine Ops.guardFd rfl rfl rfl ?_
                              refine Ops.nil ?_
                              refine ⟨.inr ⟨I, _, hd, hS, (fun _ h => h)⟩, ?_⟩
                              refine AnyV.one (i := 13) rfl (by kernel_rfl) ?_
                              refine Ops.guardFd rfl rfl rfl ?_
                              refine Ops.nil ?_
                              refine ⟨.inr ⟨I, _, hd, hS, (fun _ h => h)⟩, ?_⟩
                              refine AnyV.one (i := 14) rfl (by kernel_rfl) ?_
                              refine Ops.guardFd rfl rfl rfl ?_
                              refine Ops.nil ?_
                              refine ⟨.inr ⟨I, _, hd, hS, (fun _ h => h)⟩, ?_⟩
                              refine AnyV.one (i := 15) rfl (by kernel_rfl) ?_
                              refine Ops.guardFd rfl rfl rfl ?_
                              refine Ops.nil ?_
                              refine ⟨.inr ⟨I, _, hd, hS, (fun _ h => h)⟩, ?_⟩
                              refine AnyV.one (i := 16) rfl (by kernel_rfl) ?_
                              refine Ops.pickFB rfl rfl rfl ?_
                              refine Ops.nil ?_
                              refine ⟨.inr ⟨I, _, hd, hS, (fun _ h => h)⟩, ?_⟩
                              refine AnyV.one (i := 17) rfl (by kernel_rfl) ?_
                              refine Ops.assignB rfl ?_
                              refine Ops.nil ?_
                              refine ⟨.inr ⟨I, _, hd, hS, (fun _ h => h)⟩, ?_⟩
                              refine AnyV.done (by kernel_rfl) ?_
                              exact ⟨_, hh8, hS, joinB rfl (by unfold inL; first | (rw [g143, Bool.decide_and, g148, hr.1]; rfl) | (rw [g143, Bool.decide_and, g148]; rfl) | (rw [g143]; rfl)), e5, e12, e17, e126, e127, e128, trivial⟩
                          · skip
                            rintro ρ w ⟨I, hI, hS, e18, e5, e12, e17, e126, e127, e128, _⟩
                            replace hh6 := Ghost.le.trans' hI hh6
                            replace hb17 := hI _ _ hb17
                            replace hle := hle.trans hI
                            refine WP.seq ?_
                            refine WP.seq ?_
                            refine WP.region rfl ?_
                            refine Ops.field (r := 0) Try.underlying31 rfl Try.sizeOf3 (by decide) (e17.trans hv17) rfl ?_
                            refine Ops.load1P Try.isAgg3 hS rfl hb17 rfl ?_
                            refine Ops.nil ?_
                            have hs17 := hb17
                            refine WP.env (fun ρ hρ => ?_)
                            replace e5 := (congrFun hρ 5).trans e5
                            replace e12 := (congrFun hρ 12).trans e12
                            replace e17 := (congrFun hρ 17).trans e17
                            obtain ⟨v18, e18, hv18⟩ := nm2 ((congrFun hρ 18).trans e18)
                            replace e126 := (congrFun hρ 126).trans e126
                            replace e127 := (congrFun hρ 127).trans e127
                            replace e128 := (congrFun hρ 128).trans e128
                            obtain ⟨v160, e160, hv160⟩ := nm hρ 160
                            clear hρ
                            refine WP.cut (fun ρ2 w2 => ∃ J : Ghost, ∃ (Lm2 : List (List Int)) (am2 : Option Addr) (cm2 : Nat) (Xm2 : Own) (Xk2 : Own), I.le J ∧ SL J (Xk2 ++ (Xm2 ++ O)) E w2 ∧ ρ2 5 = .slice am2 Lm2.length cm2 ∧ ρ2 12 = v12 ∧ ρ2 17 = v17 ∧ ρ2 126 = v126 ∧ ρ2 127 = v127 ∧ ρ2 128 = v128 ∧ (Tab am2 cm2 Lm2 Xm2 ∧ HeapAt bh Lm2 Xk2 ∧ Small Lm2)) ?_ ?_
                            · skip
                              have hh9 := Ghost.le.refl I
                              refine WP.block ?_
                              refine WP.seq ?_
                              refine WP.region rfl ?_
                              refine Ops.eqlI (e160.trans hv160) rfl ?_
                              refine Ops.assignB rfl ?_
                              refine Ops.nil ?_
                              refine WP.condP rfl (fun k0 => ?_) (fun k0 => ?_)
                              · skip
                                refine WP.seq ?_
                                refine WP.region rfl ?_
                                refine Ops.moveP (e12.trans hv12) ?_
                                refine Ops.field (r := 2) Try.underlying31 rfl Try.sizeOf2 (by decide) (e17.trans hv17) rfl ?_
                                refine Ops.load1P Try.isAgg2 hS rfl hb17 rfl ?_
                                refine Ops.callF (make_spec hS hHk hSm.bd x.i) ?_
                                rintro v181 w ⟨I, Xk', hI, hS, hHk, rfl⟩
                                replace hh6 := Ghost.le.trans' hI hh6
                                replace hb17 := hI _ _ hb17
                                replace hh9 := Ghost.le.trans' hI hh9
                                replace hle := hle.trans hI
                                refine Ops.moveU rfl ?_
                                refine Ops.extract0 rfl ?_
                                refine Ops.extract1 rfl ?_
                                refine Ops.assignI rfl ?_
                                refine Ops.assignI rfl ?_
                                refine Ops.nil ?_
                                refine WP.seq ?_
                                refine WP.region rfl ?_
                                refine Ops.assignI rfl ?_
                                refine Ops.nil ?_
                                refine WP.seq ?_
                                refine WP.env (fun ρ hρ => ?_)
                                replace e5 := (congrFun hρ 5).trans e5
                                replace e12 := (congrFun hρ 12).trans e12
                                replace e17 := (congrFun hρ 17).trans e17
                                obtain ⟨v19, e19, hv19⟩ := nm hρ 19
                                obtain ⟨v20, e20, hv20⟩ := nm hρ 20
                                obtain ⟨v21, e21, hv21⟩ := nm hρ 21
                                replace e126 := (congrFun hρ 126).trans e126
                                replace e127 := (congrFun hρ 127).trans e127
                                replace e128 := (congrFun hρ 128).trans e128
                                clear hρ
                                refine WP.cut (fun ρ2 w2 => ∃ J : Ghost, ∃ (am2 : Option Addr) (cm2 : Nat) (Xm2 : Own), I.le J ∧ SL J (Xk' ++ (Xm2 ++ O)) E w2 ∧ ρ2 21 = .int .i64 (makeL Lm x.i).2.2 ∧ ρ2 5 = .slice am2 (makeL Lm x.i).1.length cm2 ∧ ρ2 12 = v12 ∧ ρ2 17 = v17 ∧ ρ2 19 = v19 ∧ ρ2 20 = v20 ∧ ρ2 126 = v126 ∧ ρ2 127 = v127 ∧ ρ2 128 = v128 ∧ (Tab am2 cm2 (makeL Lm x.i).1 Xm2)) ?_ ?_
                                · skip
                                  have hh10 := Ghost.le.refl I
                                  refine WP.block ?_
                                  refine WP.seq ?_
                                  refine WP.region rfl ?_
                                  refine Ops.field (r := 2) Try.underlying31 rfl Try.sizeOf2 (by decide) (e17.trans hv17) rfl ?_
                                  refine Ops.load1P Try.isAgg2 hS rfl hb17 rfl ?_
                                  refine Ops.lss rfl rfl ?_
                                  refine Ops.moveB rfl ?_
                                  by_cases hneg : x.i < 0
                                  · skip
                                    refine Ops.guardFd rfl rfl (decide_eq_true hneg) ?_
                                    refine Ops.guardFd rfl rfl (decide_eq_true hneg) ?_
                                    refine Ops.guardFd rfl rfl (decide_eq_true hneg) ?_
                                    refine Ops.pickTB rfl (decide_eq_true hneg) rfl ?_
                                    refine Ops.assignB rfl ?_
                                    refine Ops.nil ?_
                                    refine WP.condIsT rfl rfl ?_
                                    have hmk : makeL Lm x.i = (Lm, 0, 1) := by unfold makeL; rw [if_pos (.inl hneg)]
                                    rw [hmk]
                                    refine WP.region rfl ?_
                                    refine Ops.assignI rfl ?_
                                    refine Ops.nil ?_
                                    exact ⟨_, am, cm, Xm, hh10, hS, rfl, (e5.trans hv5), e12, e17, e19, e20, e126, e127, e128, hTm⟩
                                  · skip
                                    refine Ops.guardT rfl rfl (decide_eq_false hneg) ?_
                                    refine Ops.field (r := 2) Try.underlying31 rfl Try.sizeOf2 (by decide) (e17.trans hv17) rfl ?_
                                    refine Ops.guardT rfl rfl (decide_eq_false hneg) ?_
                                    refine Ops.load1P Try.isAgg2 hS rfl hb17 rfl ?_
                                    refine Ops.guardT rfl rfl (decide_eq_false hneg) ?_
                                    refine Ops.gtr rfl rfl ?_
                                    refine Ops.pickFB rfl (decide_eq_false hneg) rfl ?_
                                    refine Ops.assignB rfl ?_
                                    refine Ops.nil ?_
                                    refine WP.condP rfl (fun c64 => ?_) (fun c64 => ?_)
                                    · skip
                                      have hmk : makeL Lm x.i = (Lm, 0, 1) := by unfold makeL; rw [if_pos (.inr c64)]
                                      rw [hmk]
                                      refine WP.region rfl ?_
                                      refine Ops.assignI rfl ?_
                                      refine Ops.nil ?_
                                      exact ⟨_, am, cm, Xm, hh10, hS, rfl, (e5.trans hv5), e12, e17, e19, e20, e126, e127, e128, hTm⟩
                                    · skip
                                      have hbad : ¬ (x.i < 0 ∨ 64 < x.i) := by omega
                                      refine WP.seq ?_
                                      refine WP.region rfl ?_
                                      refine Ops.moveS (e5.trans hv5) ?_
                                      refine Ops.lenS Try.underlying22 rfl ?_
                                      refine Ops.geq rfl rfl ?_
                                      refine Ops.assignB rfl ?_
                                      refine Ops.nil ?_
                                      refine WP.condP rfl (fun c32 => ?_) (fun c32 => ?_)
                                      · skip
                                        have hmk : makeL Lm x.i = (Lm, 0, 4) := by unfold makeL; rw [if_neg hbad, if_pos (by omega)]
                                        rw [hmk]
                                        refine WP.region rfl ?_
                                        refine Ops.assignI rfl ?_
                                        refine Ops.nil ?_
                                        exact ⟨_, am, cm, Xm, hh10, hS, rfl, (e5.trans hv5), e12, e17, e19, e20, e126, e127, e128, hTm⟩
                                      · skip
                                        have hmk : makeL Lm x.i = (Lm ++ [List.replicate x.i.toNat 0], (Lm.length : Int), 0) := by unfold makeL; rw [if_neg hbad, if_neg (by omega)]
                                        obtain ⟨A, rs, hrs, hA, hok, hXm⟩ := hTm
                                        have hlen : rs.length = Lm.length := by rw [← hrs]; simp
                                        rw [hXm] at hS
                                        rw [hlen] at hA
                                        have hl32 := hSm.1
                                        refine WP.region rfl ?_
                                        refine Ops.moveS (e5.trans hv5) ?_
                                        refine Ops.field (r := 2) Try.underlying31 rfl Try.sizeOf2 (by decide) (e17.trans hv17) rfl ?_
                                        refine Ops.load1P Try.isAgg2 hS rfl hb17 rfl ?_
                                        refine Ops.make1 (m := x.i.toNat) Try.underlying25 Try.type2 rfl rfl rfl rfl rfl (by omega) (by omega) (by show ((8 : Nat) : Int) * _ ≤ _; omega) (by omega) hS ?_
                                        intro b187 w hS
                                        refine Ops.buildSlice1S Try.underlying22 Try.type25 rfl (by decide) (by decide) rfl hS rfl rfl ?_
                                        intro b188 w I hI hb188 hS
                                        replace hh6 := Ghost.le.trans' hI hh6
                                        replace hb17 := hI _ _ hb17
                                        replace hh9 := Ghost.le.trans' hI hh9
                                        replace hh10 := Ghost.le.trans' hI hh10
                                        replace hle := hle.trans hI
                                        have hS := (by simpa only [List.append_assoc] using hS : SL I ([(b187, _)] ++ (Xk' ++ (A ++ (rs.flatMap Row.A ++ O)))) E w).swap2.swap
                                        refine Ops.append Try.underlying22 Try.type25 rfl rfl rfl rfl rfl hS hA (Src.one hb188 rfl) (by show (_ + _) * 24 ≤ _; omega) (by omega) ?_
                                        rintro a189 c189 A189 w hA189 hS hN189
                                        have hrow : Row.ok (Row.mk (some ⟨b187, 0, none⟩) x.i.toNat (List.replicate x.i.toNat 0) [(b187, .cells (List.replicate x.i.toNat (Value.int .i64 0)).toArray 2 (0, 0))]) := by
                                          unfold Row.ok; simp only [List.map_replicate, List.length_replicate]; exact OwnS.made (by simp)
                                        have hT := Tab.push (a' := a189) (cap' := c189) (A' := A189) (r := Row.mk (some ⟨b187, 0, none⟩) x.i.toNat (List.replicate x.i.toNat 0) [(b187, .cells (List.replicate x.i.toNat (Value.int .i64 0)).toArray 2 (0, 0))]) (rs := rs) (by
                                          unfold Row.v; simp only [List.length_replicate]; rw [hlen]; exact hA189) hok hrow
                                        rw [hrs] at hT
                                        have hS := hS.swap2.swap.swap3
                                        have hS : SL I (Xk' ++ ((A189 ++ (rs ++ [Row.mk (some ⟨b187, 0, none⟩) x.i.toNat (List.replicate x.i.toNat 0) [(b187, .cells (List.replicate x.i.toNat (Value.int .i64 0)).toArray 2 (0, 0))]]).flatMap Row.A) ++ O)) E w := by
                                          simp only [List.flatMap_append, List.flatMap_cons, List.flatMap_nil, List.append_nil, List.append_assoc]; exact hS
                                        rw [hmk, List.length_append]
                                        refine Ops.assignS rfl ?_
                                        refine Ops.nil ?_
                                        exact ⟨_, _, _, _, hh10, hS, (e21.trans hv21), rfl, e12, e17, e19, e20, e126, e127, e128, hT⟩
                                · skip
                                  rintro ρ w ⟨I, am2, cm2, Xm2, hI, hS, e21, e5, e12, e17, e19, e20, e126, e127, e128, hTm⟩
                                  replace hh6 := Ghost.le.trans' hI hh6
                                  replace hb17 := hI _ _ hb17
                                  replace hh9 := Ghost.le.trans' hI hh9
                                  replace hle := hle.trans hI
                                  have hsub : ∀ y ∈ Xm2, y ∈ Xk' ++ (Xm2 ++ O) := fun y hy => by simp [hy]
                                  refine WP.seq ?_
                                  refine WP.env (fun ρ hρ => ?_)
                                  obtain ⟨v5, e5, hv5⟩ := nm2 ((congrFun hρ 5).trans e5)
                                  replace e12 := (congrFun hρ 12).trans e12
                                  replace e17 := (congrFun hρ 17).trans e17
                                  replace e19 := (congrFun hρ 19).trans e19
                                  replace e20 := (congrFun hρ 20).trans e20
                                  obtain ⟨v21, e21, hv21⟩ := nm2 ((congrFun hρ 21).trans e21)
                                  replace e126 := (congrFun hρ 126).trans e126
                                  replace e127 := (congrFun hρ 127).trans e127
                                  replace e128 := (congrFun hρ 128).trans e128
                                  clear hρ
                                  refine WP.cut (fun ρ2 w2 => ∃ J : Ghost, I.le J ∧ SL J (Xk' ++ (Xm2 ++ O)) E w2 ∧ ρ2 238 = .bool false ∧ ρ2 5 = v5 ∧ ρ2 12 = v12 ∧ ρ2 17 = v17 ∧ ρ2 126 = v126 ∧ ρ2 127 = v127 ∧ ρ2 128 = v128 ∧ (True)) ?_ ?_
                                  · skip
                                    have hh11 := Ghost.le.refl I
                                    have hml := (hSm.make (n := x.i)).1
                                    have hd := Ghost.le.refl I
                                    have q17 := hb17
                                    refine WP.regionDraw (fun w2 => ∃ J O2, I.le J ∧ SL J O2 E w2 ∧ (∀ x ∈ (Xk' ++ (Xm2 ++ O) : Own), x ∈ O2)) (fun j => false) (by kernel_rfl) rfl ?_
                                    intro w hw
                                    have hS := (hw ▸ hS.drew : SL I _ E w)
                                    refine AnyV.take (i := 0) rfl (by kernel_rfl) (by kernel_rfl) (by kernel_rfl) (by kernel_rfl) ⟨I, _, hd, hS, (fun _ h => h)⟩ (fun w hW => Run.moveI (e20.trans hv20)) ?_
                                    refine AnyV.one (i := 1) rfl (by kernel_rfl) ?_
                                    refine Ops.moveI (e21.trans hv21) ?_
                                    refine Ops.nil ?_
                                    refine ⟨.inr ⟨I, _, hd, hS, (fun _ h => h)⟩, ?_⟩
                                    refine AnyV.one (i := 2) rfl (by kernel_rfl) ?_
                                    refine Ops.neqI rfl rfl ?_
                                    refine Ops.nil ?_
                                    refine ⟨.inr ⟨I, _, hd, hS, (fun _ h => h)⟩, ?_⟩
                                    refine AnyV.one (i := 3) rfl (by kernel_rfl) ?_
                                    refine Ops.moveB rfl ?_
                                    refine Ops.nil ?_
                                    refine ⟨.inr ⟨I, _, hd, hS, (fun _ h => h)⟩, ?_⟩
                                    by_cases he : (makeL Lm x.i).2.2 = 0
                                    · skip
                                      have he2 := make_ok0 he
                                      refine AnyV.one (i := 4) rfl (by kernel_rfl) ?_
                                      refine Ops.guardT rfl rfl (by simp) ?_
                                      refine Ops.moveI (e20.trans hv20) ?_
                                      refine Ops.nil ?_
                                      refine ⟨.inr ⟨I, _, hd, hS, (fun _ h => h)⟩, ?_⟩
                                      refine AnyV.one (i := 5) rfl (by kernel_rfl) ?_
                                      refine Ops.guardT rfl rfl (by simp) ?_
                                      refine Ops.eqlI rfl rfl ?_
                                      refine Ops.nil ?_
                                      refine ⟨.inr ⟨I, _, hd, hS, (fun _ h => h)⟩, ?_⟩
                                      refine AnyV.one (i := 6) rfl (by kernel_rfl) ?_
                                      refine Ops.guardT rfl rfl (by simp) ?_
                                      refine Ops.moveB rfl ?_
                                      refine Ops.nil ?_
                                      refine ⟨.inr ⟨I, _, hd, hS, (fun _ h => h)⟩, ?_⟩
                                      refine AnyV.takeT (i := 7) rfl rfl rfl (decide_eq_true he) (by kernel_rfl) (by kernel_rfl) (by kernel_rfl) (by kernel_rfl) ⟨I, _, hd, hS, (fun _ h => h)⟩ (fun w hW => Run.moveI (e19.trans hv19)) ?_
                                      refine AnyV.one (i := 8) rfl (by kernel_rfl) ?_
                                      refine Ops.guardT rfl rfl (decide_eq_true he) ?_
                                      refine Ops.moveS (e5.trans hv5) ?_
                                      refine Ops.nil ?_
                                      refine ⟨.inr ⟨I, _, hd, hS, (fun _ h => h)⟩, ?_⟩
                                      refine AnyV.one (i := 9) rfl (by kernel_rfl) ?_
                                      refine Ops.guardT rfl rfl (decide_eq_true he) ?_
                                      refine Ops.lenS Try.underlying22 rfl ?_
                                      refine Ops.nil ?_
                                      refine ⟨.inr ⟨I, _, hd, hS, (fun _ h => h)⟩, ?_⟩
                                      refine AnyV.one (i := 10) rfl (by kernel_rfl) ?_
                                      refine Ops.guardT rfl rfl (decide_eq_true he) ?_
                                      refine Ops.sub rfl rfl (by unfold I64; omega) ?_
                                      refine Ops.nil ?_
                                      refine ⟨.inr ⟨I, _, hd, hS, (fun _ h => h)⟩, ?_⟩
                                      refine AnyV.one (i := 11) rfl (by kernel_rfl) ?_
                                      refine Ops.guardT rfl rfl (decide_eq_true he) ?_
                                      refine Ops.neqI rfl rfl ?_
                                      refine Ops.nil ?_
                                      refine ⟨.inr ⟨I, _, hd, hS, (fun _ h => h)⟩, ?_⟩
                                      refine AnyV.one (i := 12) rfl (by kernel_rfl) ?_
                                      refine Ops.guardT rfl rfl (by simp) ?_
                                      refine Ops.pickTB rfl (decide_eq_true he) rfl ?_
                                      refine Ops.nil ?_
                                      refine ⟨.inr ⟨I, _, hd, hS, (fun _ h => h)⟩, ?_⟩
                                      refine AnyV.one (i := 13) rfl (by kernel_rfl) ?_
                                      refine Ops.pickFB rfl (by simp) rfl ?_
                                      refine Ops.nil ?_
                                      refine ⟨.inr ⟨I, _, hd, hS, (fun _ h => h)⟩, ?_⟩
                                      refine AnyV.one (i := 14) rfl (by kernel_rfl) ?_
                                      refine Ops.moveB rfl ?_
                                      refine Ops.nil ?_
                                      refine ⟨.inr ⟨I, _, hd, hS, (fun _ h => h)⟩, ?_⟩
                                      refine AnyV.one (i := 15) rfl (by kernel_rfl) ?_
                                      refine Ops.guardT rfl rfl (decide_eq_false (by simpa using he2)) ?_
                                      refine Ops.moveI (e20.trans hv20) ?_
                                      refine Ops.nil ?_
                                      refine ⟨.inr ⟨I, _, hd, hS, (fun _ h => h)⟩, ?_⟩
                                      refine AnyV.one (i := 16) rfl (by kernel_rfl) ?_
                                      refine Ops.guardT rfl rfl (decide_eq_false (by simpa using he2)) ?_
                                      refine Ops.neqI rfl rfl ?_
                                      refine Ops.nil ?_
                                      refine ⟨.inr ⟨I, _, hd, hS, (fun _ h => h)⟩, ?_⟩
                                      refine AnyV.one (i := 17) rfl (by kernel_rfl) ?_
                                      refine Ops.guardT rfl rfl (decide_eq_false (by simpa using he2)) ?_
                                      refine Ops.moveB rfl ?_
                                      refine Ops.nil ?_
                                      refine ⟨.inr ⟨I, _, hd, hS, (fun _ h => h)⟩, ?_⟩
                                      refine AnyV.one (i := 18) rfl (by kernel_rfl) ?_
                                      refine Ops.guardFd rfl rfl (decide_eq_false (by simpa using he)) ?_
                                      refine Ops.nil ?_
                                      refine ⟨.inr ⟨I, _, hd, hS, (fun _ h => h)⟩, ?_⟩
                                      refine AnyV.one (i := 19) rfl (by kernel_rfl) ?_
                                      refine Ops.guardFd rfl rfl (decide_eq_false (by simpa using he)) ?_
                                      refine Ops.nil ?_
                                      refine ⟨.inr ⟨I, _, hd, hS, (fun _ h => h)⟩, ?_⟩
                                      refine AnyV.one (i := 20) rfl (by kernel_rfl) ?_
                                      refine Ops.guardT rfl rfl (decide_eq_false (by simpa using he2)) ?_
                                      refine Ops.pickFB rfl (decide_eq_false (by simpa using he)) rfl ?_
                                      refine Ops.nil ?_
                                      refine ⟨.inr ⟨I, _, hd, hS, (fun _ h => h)⟩, ?_⟩
                                      refine AnyV.one (i := 21) rfl (by kernel_rfl) ?_
                                      refine Ops.pickFB rfl (decide_eq_false (by simpa using he2)) rfl ?_
                                      refine Ops.nil ?_
                                      refine ⟨.inr ⟨I, _, hd, hS, (fun _ h => h)⟩, ?_⟩
                                      refine AnyV.one (i := 22) rfl (by kernel_rfl) ?_
                                      refine Ops.moveB rfl ?_
                                      refine Ops.nil ?_
                                      refine ⟨.inr ⟨I, _, hd, hS, (fun _ h => h)⟩, ?_⟩
                                      refine AnyV.takeT (i := 23) rfl rfl rfl rfl (by kernel_rfl) (by kernel_rfl) (by kernel_rfl) (by kernel_rfl) ⟨I, _, hd, hS, (fun _ h => h)⟩ (fun w hW => Run.field (r := 2) Try.underlying31 rfl Try.sizeOf2 (by decide) (e17.trans hv17) rfl) ?_
                                      refine AnyV.takeT (i := 24) rfl rfl rfl rfl (by kernel_rfl) (by kernel_rfl) (by kernel_rfl) (by kernel_rfl) ⟨I, _, hd, hS, (fun _ h => h)⟩ (fun w hW => by obtain ⟨J, O2, hJ, hS, hM0⟩ := hW; exact Run.load1P Try.isAgg2 hS rfl (hJ _ _ q17) rfl) ?_
                                      refine AnyV.takeT (i := 26) rfl rfl rfl rfl (by kernel_rfl) (by kernel_rfl) (by kernel_rfl) (by kernel_rfl) ⟨I, _, hd, hS, (fun _ h => h)⟩ (fun w hW => Run.field (r := 2) Try.underlying31 rfl Try.sizeOf2 (by decide) (e17.trans hv17) rfl) ?_
                                      refine AnyV.takeT (i := 27) rfl rfl rfl rfl (by kernel_rfl) (by kernel_rfl) (by kernel_rfl) (by kernel_rfl) ⟨I, _, hd, hS, (fun _ h => h)⟩ (fun w hW => by obtain ⟨J, O2, hJ, hS, hM0⟩ := hW; exact Run.load1P Try.isAgg2 hS rfl (hJ _ _ q17) rfl) ?_
                                      refine AnyV.takeT (i := 28) rfl rfl rfl rfl (by kernel_rfl) (by kernel_rfl) (by kernel_rfl) (by kernel_rfl) ⟨I, _, hd, hS, (fun _ h => h)⟩ (fun w hW => Run.geq rfl rfl) ?_
                                      refine AnyV.one (i := 25) rfl (by kernel_rfl) ?_
                                      refine Ops.guardT rfl rfl rfl ?_
                                      refine Ops.callF (size_spec hS _) ?_
                                      rintro v228 w ⟨I, hI, hS, rfl⟩
                                      replace hh6 := Ghost.le.trans' hI hh6
                                      replace hb17 := hI _ _ hb17
                                      replace hh9 := Ghost.le.trans' hI hh9
                                      replace hh11 := Ghost.le.trans' hI hh11
                                      replace hd := Ghost.le.trans' hI hd
                                      replace hle := hle.trans hI
                                      refine Ops.nil ?_
                                      refine ⟨.inr ⟨I, _, hd, hS, (fun _ h => h)⟩, ?_⟩
                                      refine AnyV.one (i := 29) rfl (by kernel_rfl) ?_
                                      refine Ops.guardT rfl rfl rfl ?_
                                      refine Ops.moveB rfl ?_
                                      refine Ops.nil ?_
                                      refine ⟨.inr ⟨I, _, hd, hS, (fun _ h => h)⟩, ?_⟩
                                      refine AnyV.case (s := 232) rfl (fun g232 => ?_) (fun g232 => ?_)
                                      · skip
                                        refine AnyV.one (i := 30) rfl (by kernel_rfl) ?_
                                        refine Ops.guardT rfl rfl g232 ?_
                                        refine Ops.field (r := 2) Try.underlying31 rfl Try.sizeOf2 (by decide) (e17.trans hv17) rfl ?_
                                        refine Ops.nil ?_
                                        refine ⟨.inr ⟨I, _, hd, hS, (fun _ h => h)⟩, ?_⟩
                                        refine AnyV.one (i := 31) rfl (by kernel_rfl) ?_
                                        refine Ops.guardT rfl rfl g232 ?_
                                        refine Ops.load1P Try.isAgg2 hS rfl hb17 rfl ?_
                                        refine Ops.nil ?_
                                        refine ⟨.inr ⟨I, _, hd, hS, (fun _ h => h)⟩, ?_⟩
                                        refine AnyV.one (i := 32) rfl (by kernel_rfl) ?_
                                        refine Ops.guardT rfl rfl g232 ?_
                                        refine Ops.leq rfl rfl ?_
                                        refine Ops.nil ?_
                                        refine ⟨.inr ⟨I, _, hd, hS, (fun _ h => h)⟩, ?_⟩
                                        refine AnyV.one (i := 33) rfl (by kernel_rfl) ?_
                                        refine Ops.guardT rfl rfl rfl ?_
                                        refine Ops.pickTB rfl g232 rfl ?_
                                        refine Ops.nil ?_
                                        refine ⟨.inr ⟨I, _, hd, hS, (fun _ h => h)⟩, ?_⟩
                                        refine AnyV.one (i := 34) rfl (by kernel_rfl) ?_
                                        refine Ops.guardT rfl rfl rfl ?_
                                        refine Ops.neqB Try.underlying4 rfl rfl ?_
                                        refine Ops.nil ?_
                                        refine ⟨.inr ⟨I, _, hd, hS, (fun _ h => h)⟩, ?_⟩
                                        refine AnyV.one (i := 35) rfl (by kernel_rfl) ?_
                                        refine Ops.pickFB rfl rfl rfl ?_
                                        refine Ops.nil ?_
                                        refine ⟨.inr ⟨I, _, hd, hS, (fun _ h => h)⟩, ?_⟩
                                        refine AnyV.done (by kernel_rfl) ?_
                                        exact ⟨_, hh11, hS, joinB rfl (by first | (rw [Bool.decide_and, g232]; cases decide (x.i ≤ 64) <;> rfl) | (rw [Bool.decide_and, g232]; rfl)), e5, e12, e17, e126, e127, e128, trivial⟩
                                      · skip
                                        refine AnyV.one (i := 30) rfl (by kernel_rfl) ?_
                                        refine Ops.guardFd rfl rfl g232 ?_
                                        refine Ops.nil ?_
                                        refine ⟨.inr ⟨I, _, hd, hS, (fun _ h => h)⟩, ?_⟩
                                        refine AnyV.one (i := 31) rfl (by kernel_rfl) ?_
                                        refine Ops.guardFd rfl rfl g232 ?_
                                        refine Ops.nil ?_
                                        refine ⟨.inr ⟨I, _, hd, hS, (fun _ h => h)⟩, ?_⟩
                                        refine AnyV.one (i := 32) rfl (by kernel_rfl) ?_
                                        refine Ops.guardFd rfl rfl g232 ?_
                                        refine Ops.nil ?_
                                        refine ⟨.inr ⟨I, _, hd, hS, (fun _ h => h)⟩, ?_⟩
                                        refine AnyV.one (i := 33) rfl (by kernel_rfl) ?_
                                        refine Ops.guardT rfl rfl rfl ?_
                                        refine Ops.pickFB rfl g232 rfl ?_
                                        refine Ops.nil ?_
                                        refine ⟨.inr ⟨I, _, hd, hS, (fun _ h => h)⟩, ?_⟩
                                        refine AnyV.one (i := 34) rfl (by kernel_rfl) ?_
                                        refine Ops.guardT rfl rfl rfl ?_
                                        refine Ops.neqB Try.underlying4 rfl rfl ?_
                                        refine Ops.nil ?_
                                        refine ⟨.inr ⟨I, _, hd, hS, (fun _ h => h)⟩, ?_⟩
                                        refine AnyV.one (i := 35) rfl (by kernel_rfl) ?_
                                        refine Ops.pickFB rfl rfl rfl ?_
                                        refine Ops.nil ?_
                                        refine ⟨.inr ⟨I, _, hd, hS, (fun _ h => h)⟩, ?_⟩
                                        refine AnyV.done (by kernel_rfl) ?_
                                        exact ⟨_, hh11, hS, joinB rfl (by first | (rw [Bool.decide_and, g232]; cases decide (x.i ≤ 64) <;> rfl) | (rw [Bool.decide_and, g232]; rfl)), e5, e12, e17, e126, e127, e128, trivial⟩
                                    · skip
                                      have he2 := make_ok1 he
                                      refine AnyV.one (i := 4) rfl (by kernel_rfl) ?_
                                      refine Ops.guardT rfl rfl (by simp) ?_
                                      refine Ops.moveI (e20.trans hv20) ?_
                                      refine Ops.nil ?_
                                      refine ⟨.inr ⟨I, _, hd, hS, (fun _ h => h)⟩, ?_⟩
                                      refine AnyV.one (i := 5) rfl (by kernel_rfl) ?_
                                      refine Ops.guardT rfl rfl (by simp) ?_
                                      refine Ops.eqlI rfl rfl ?_
                                      refine Ops.nil ?_
                                      refine ⟨.inr ⟨I, _, hd, hS, (fun _ h => h)⟩, ?_⟩
                                      refine AnyV.one (i := 6) rfl (by kernel_rfl) ?_
                                      refine Ops.guardT rfl rfl (by simp) ?_
                                      refine Ops.moveB rfl ?_
                                      refine Ops.nil ?_
                                      refine ⟨.inr ⟨I, _, hd, hS, (fun _ h => h)⟩, ?_⟩
                                      refine AnyV.takeF (i := 7) rfl rfl rfl (decide_eq_false he) (by kernel_rfl) (by kernel_rfl) (by kernel_rfl) (by kernel_rfl) ⟨I, _, hd, hS, (fun _ h => h)⟩ ?_
                                      refine AnyV.one (i := 8) rfl (by kernel_rfl) ?_
                                      refine Ops.guardFd rfl rfl (decide_eq_false he) ?_
                                      refine Ops.nil ?_
                                      refine ⟨.inr ⟨I, _, hd, hS, (fun _ h => h)⟩, ?_⟩
                                      refine AnyV.one (i := 9) rfl (by kernel_rfl) ?_
                                      refine Ops.guardFd rfl rfl (decide_eq_false he) ?_
                                      refine Ops.nil ?_
                                      refine ⟨.inr ⟨I, _, hd, hS, (fun _ h => h)⟩, ?_⟩
                                      refine AnyV.one (i := 10) rfl (by kernel_rfl) ?_
                                      refine Ops.guardFd rfl rfl (decide_eq_false he) ?_
                                      refine Ops.nil ?_
                                      refine ⟨.inr ⟨I, _, hd, hS, (fun _ h => h)⟩, ?_⟩
                                      refine AnyV.one (i := 11) rfl (by kernel_rfl) ?_
                                      refine Ops.guardFd rfl rfl (decide_eq_false he) ?_
                                      refine Ops.nil ?_
                                      refine ⟨.inr ⟨I, _, hd, hS, (fun _ h => h)⟩, ?_⟩
                                      refine AnyV.one (i := 12) rfl (by kernel_rfl) ?_
                                      refine Ops.guardT rfl rfl (by simp) ?_
                                      refine Ops.pickFB rfl (decide_eq_false he) rfl ?_
                                      refine Ops.nil ?_
                                      refine ⟨.inr ⟨I, _, hd, hS, (fun _ h => h)⟩, ?_⟩
                                      refine AnyV.one (i := 13) rfl (by kernel_rfl) ?_
                                      refine Ops.pickFB rfl (by simp) rfl ?_
                                      refine Ops.nil ?_
                                      refine ⟨.inr ⟨I, _, hd, hS, (fun _ h => h)⟩, ?_⟩
                                      refine AnyV.one (i := 14) rfl (by kernel_rfl) ?_
                                      refine Ops.moveB rfl ?_
                                      refine Ops.nil ?_
                                      refine ⟨.inr ⟨I, _, hd, hS, (fun _ h => h)⟩, ?_⟩
                                      refine AnyV.one (i := 15) rfl (by kernel_rfl) ?_
                                      refine Ops.guardT rfl rfl rfl ?_
                                      refine Ops.moveI (e20.trans hv20) ?_
                                      refine Ops.nil ?_
                                      refine ⟨.inr ⟨I, _, hd, hS, (fun _ h => h)⟩, ?_⟩
                                      refine AnyV.one (i := 16) rfl (by kernel_rfl) ?_
                                      refine Ops.guardT rfl rfl rfl ?_
                                      refine Ops.neqI rfl rfl ?_
                                      refine Ops.nil ?_
                                      refine ⟨.inr ⟨I, _, hd, hS, (fun _ h => h)⟩, ?_⟩
                                      refine AnyV.one (i := 17) rfl (by kernel_rfl) ?_
                                      refine Ops.guardT rfl rfl rfl ?_
                                      refine Ops.moveB rfl ?_
                                      refine Ops.nil ?_
                                      refine ⟨.inr ⟨I, _, hd, hS, (fun _ h => h)⟩, ?_⟩
                                      refine AnyV.one (i := 18) rfl (by kernel_rfl) ?_
                                      refine Ops.guardT rfl rfl (decide_eq_true he) ?_
                                      refine Ops.moveI (e19.trans hv19) ?_
                                      refine Ops.nil ?_
                                      refine ⟨.inr ⟨I, _, hd, hS, (fun _ h => h)⟩, ?_⟩
                                      refine AnyV.one (i := 19) rfl (by kernel_rfl) ?_
                                      refine Ops.guardT rfl rfl (decide_eq_true he) ?_
                                      refine Ops.neqI rfl rfl ?_
                                      refine Ops.nil ?_
                                      refine ⟨.inr ⟨I, _, hd, hS, (fun _ h => h)⟩, ?_⟩
                                      refine AnyV.one (i := 20) rfl (by kernel_rfl) ?_
                                      refine Ops.guardT rfl rfl rfl ?_
                                      refine Ops.pickTB rfl (decide_eq_true he) rfl ?_
                                      refine Ops.nil ?_
                                      refine ⟨.inr ⟨I, _, hd, hS, (fun _ h => h)⟩, ?_⟩
                                      refine AnyV.one (i := 21) rfl (by kernel_rfl) ?_
                                      refine Ops.pickFB rfl rfl rfl ?_
                                      refine Ops.nil ?_
                                      refine ⟨.inr ⟨I, _, hd, hS, (fun _ h => h)⟩, ?_⟩
                                      refine AnyV.one (i := 22) rfl (by kernel_rfl) ?_
                                      refine Ops.moveB rfl ?_
                                      refine Ops.nil ?_
                                      refine ⟨.inr ⟨I, _, hd, hS, (fun _ h => h)⟩, ?_⟩
                                      refine AnyV.takeT (i := 23) rfl rfl rfl (decide_eq_false (by simpa using he2)) (by kernel_rfl) (by kernel_rfl) (by kernel_rfl) (by kernel_rfl) ⟨I, _, hd, hS, (fun _ h => h)⟩ (fun w hW => Run.field (r := 2) Try.underlying31 rfl Try.sizeOf2 (by decide) (e17.trans hv17) rfl) ?_
                                      refine AnyV.takeT (i := 24) rfl rfl rfl (decide_eq_false (by simpa using he2)) (by kernel_rfl) (by kernel_rfl) (by kernel_rfl) (by kernel_rfl) ⟨I, _, hd, hS, (fun _ h => h)⟩ (fun w hW => by obtain ⟨J, O2, hJ, hS, hM0⟩ := hW; exact Run.load1P Try.isAgg2 hS rfl (hJ _ _ q17) rfl) ?_
                                      refine AnyV.takeT (i := 26) rfl rfl rfl (decide_eq_false (by simpa using he2)) (by kernel_rfl) (by kernel_rfl) (by kernel_rfl) (by kernel_rfl) ⟨I, _, hd, hS, (fun _ h => h)⟩ (fun w hW => Run.field (r := 2) Try.underlying31 rfl Try.sizeOf2 (by decide) (e17.trans hv17) rfl) ?_
                                      refine AnyV.takeT (i := 27) rfl rfl rfl (decide_eq_false (by simpa using he2)) (by kernel_rfl) (by kernel_rfl) (by kernel_rfl) (by kernel_rfl) ⟨I, _, hd, hS, (fun _ h => h)⟩ (fun w hW => by obtain ⟨J, O2, hJ, hS, hM0⟩ := hW; exact Run.load1P Try.isAgg2 hS rfl (hJ _ _ q17) rfl) ?_
                                      refine AnyV.takeT (i := 28) rfl rfl rfl (decide_eq_false (by simpa using he2)) (by kernel_rfl) (by kernel_rfl) (by kernel_rfl) (by kernel_rfl) ⟨I, _, hd, hS, (fun _ h => h)⟩ (fun w hW => Run.geq rfl rfl) ?_
                                      refine AnyV.one (i := 25) rfl (by kernel_rfl) ?_
                                      refine Ops.guardT rfl rfl (decide_eq_false (by simpa using he2)) ?_
                                      refine Ops.callF (size_spec hS _) ?_
                                      rintro v228 w ⟨I, hI, hS, rfl⟩
                                      replace hh6 := Ghost.le.trans' hI hh6
                                      replace hb17 := hI _ _ hb17
                                      replace hh9 := Ghost.le.trans' hI hh9
                                      replace hh11 := Ghost.le.trans' hI hh11
                                      replace hd := Ghost.le.trans' hI hd
                                      replace hle := hle.trans hI
                                      refine Ops.nil ?_
                                      refine ⟨.inr ⟨I, _, hd, hS, (fun _ h => h)⟩, ?_⟩
                                      refine AnyV.one (i := 29) rfl (by kernel_rfl) ?_
                                      refine Ops.guardT rfl rfl (decide_eq_false (by simpa using he2)) ?_
                                      refine Ops.moveB rfl ?_
                                      refine Ops.nil ?_
                                      refine ⟨.inr ⟨I, _, hd, hS, (fun _ h => h)⟩, ?_⟩
                                      refine AnyV.case (s := 232) rfl (fun g232 => ?_) (fun g232 => ?_)
                                      · skip
                                        refine AnyV.one (i := 30) rfl (by kernel_rfl) ?_
                                        refine Ops.guardT rfl rfl g232 ?_
                                        refine Ops.field (r := 2) Try.underlying31 rfl Try.sizeOf2 (by decide) (e17.trans hv17) rfl ?_
                                        refine Ops.nil ?_
                                        refine ⟨.inr ⟨I, _, hd, hS, (fun _ h => h)⟩, ?_⟩
                                        refine AnyV.one (i := 31) rfl (by kernel_rfl) ?_
                                        refine Ops.guardT rfl rfl g232 ?_
                                        refine Ops.load1P Try.isAgg2 hS rfl hb17 rfl ?_
                                        refine Ops.nil ?_
                                        refine ⟨.inr ⟨I, _, hd, hS, (fun _ h => h)⟩, ?_⟩
                                        refine AnyV.one (i := 32) rfl (by kernel_rfl) ?_
                                        refine Ops.guardT rfl rfl g232 ?_
                                        refine Ops.leq rfl rfl ?_
                                        refine Ops.nil ?_
                                        refine ⟨.inr ⟨I, _, hd, hS, (fun _ h => h)⟩, ?_⟩
                                        refine AnyV.one (i := 33) rfl (by kernel_rfl) ?_
                                        refine Ops.guardT rfl rfl (decide_eq_false (by simpa using he2)) ?_
                                        refine Ops.pickTB rfl g232 rfl ?_
                                        refine Ops.nil ?_
                                        refine ⟨.inr ⟨I, _, hd, hS, (fun _ h => h)⟩, ?_⟩
                                        refine AnyV.one (i := 34) rfl (by kernel_rfl) ?_
                                        refine Ops.guardT rfl rfl (decide_eq_false (by simpa using he2)) ?_
                                        refine Ops.neqB Try.underlying4 rfl rfl ?_
                                        refine Ops.nil ?_
                                        refine ⟨.inr ⟨I, _, hd, hS, (fun _ h => h)⟩, ?_⟩
                                        refine AnyV.one (i := 35) rfl (by kernel_rfl) ?_
                                        refine Ops.pickFB rfl (decide_eq_false (by simpa using he2)) rfl ?_
                                        refine Ops.nil ?_
                                        refine ⟨.inr ⟨I, _, hd, hS, (fun _ h => h)⟩, ?_⟩
                                        refine AnyV.done (by kernel_rfl) ?_
                                        exact ⟨_, hh11, hS, joinB rfl (by first | (rw [Bool.decide_and, g232]; cases decide (x.i ≤ 64) <;> rfl) | (rw [Bool.decide_and, g232]; rfl)), e5, e12, e17, e126, e127, e128, trivial⟩
                                      · skip
                                        refine AnyV.one (i := 30) rfl (by kernel_rfl) ?_
                                        refine Ops.guardFd rfl rfl g232 ?_
                                        refine Ops.nil ?_
                                        refine ⟨.inr ⟨I, _, hd, hS, (fun _ h => h)⟩, ?_⟩
                                        refine AnyV.one (i := 31) rfl (by kernel_rfl) ?_
                                        refine Ops.guardFd rfl rfl g232 ?_
                                        refine Ops.nil ?_
                                        refine ⟨.inr ⟨I, _, hd, hS, (fun _ h => h)⟩, ?_⟩
                                        refine AnyV.one (i := 32) rfl (by kernel_rfl) ?_
                                        refine Ops.guardFd rfl rfl g232 ?_
                                        refine Ops.nil ?_
                                        refine ⟨.inr ⟨I, _, hd, hS, (fun _ h => h)⟩, ?_⟩
                                        refine AnyV.one (i := 33) rfl (by kernel_rfl) ?_
                                        refine Ops.guardT rfl rfl (decide_eq_false (by simpa using he2)) ?_
                                        refine Ops.pickFB rfl g232 rfl ?_
                                        refine Ops.nil ?_
                                        refine ⟨.inr ⟨I, _, hd, hS, (fun _ h => h)⟩, ?_⟩
                                        refine AnyV.one (i := 34) rfl (by kernel_rfl) ?_
                                        refine Ops.guardT rfl rfl (decide_eq_false (by simpa using he2)) ?_
                                        refine Ops.neqB Try.underlying4 rfl rfl ?_
                                        refine Ops.nil ?_
                                        refine ⟨.inr ⟨I, _, hd, hS, (fun _ h => h)⟩, ?_⟩
                                        refine AnyV.one (i := 35) rfl (by kernel_rfl) ?_
                                        refine Ops.pickFB rfl (decide_eq_false (by simpa using he2)) rfl ?_
                                        refine Ops.nil ?_
                                        refine ⟨.inr ⟨I, _, hd, hS, (fun _ h => h)⟩, ?_⟩
                                        refine AnyV.done (by kernel_rfl) ?_
                                        exact ⟨_, hh11, hS, joinB rfl (by first | (rw [Bool.decide_and, g232]; cases decide (x.i ≤ 64) <;> rfl) | (rw [Bool.decide_and, g232]; rfl)), e5, e12, e17, e126, e127, e128, trivial⟩
                                  · skip
                                    rintro ρ w ⟨I, hI, hS, e238, e5, e12, e17, e126, e127, e128, _⟩
                                    replace hh6 := Ghost.le.trans' hI hh6
                                    replace hb17 := hI _ _ hb17
                                    replace hh9 := Ghost.le.trans' hI hh9
                                    replace hle := hle.trans hI
                                    refine WP.condIsF e238 rfl ?_
                                    refine WP.skip ?_
                                    exact ⟨_, _, _, _, _, _, hh9, hS, (e5.trans hv5), e12, e17, e126, e127, e128, ⟨hTm, hHk, hSm.make⟩⟩
                              · skip
                                refine WP.seq ?_
                                refine WP.seq ?_
                                refine WP.region rfl ?_
                                refine Ops.eqlI (e160.trans hv160) rfl ?_
                                refine Ops.assignB rfl ?_
                                refine Ops.nil ?_
                                refine WP.env (fun ρ hρ => ?_)
                                replace e5 := (congrFun hρ 5).trans e5
                                replace e12 := (congrFun hρ 12).trans e12
                                replace e17 := (congrFun hρ 17).trans e17
                                replace e18 := (congrFun hρ 18).trans e18
                                replace e126 := (congrFun hρ 126).trans e126
                                replace e127 := (congrFun hρ 127).trans e127
                                replace e128 := (congrFun hρ 128).trans e128
                                replace e160 := (congrFun hρ 160).trans e160
                                obtain ⟨v239, e239, hv239⟩ := nm hρ 239
                                clear hρ
                                refine WP.cut (fun ρ2 w2 => ∃ J : Ghost, I.le J ∧ SL J (Xk ++ (Xm ++ O)) E w2 ∧ ρ2 239 = .bool (decide (x.kind = 1 ∨ x.kind = 2)) ∧ ρ2 5 = v5 ∧ ρ2 12 = v12 ∧ ρ2 17 = v17 ∧ ρ2 18 = v18 ∧ ρ2 126 = v126 ∧ ρ2 127 = v127 ∧ ρ2 128 = v128 ∧ ρ2 160 = v160 ∧ (True)) ?_ ?_
                                · skip
                                  have hh12 := Ghost.le.refl I
                                  refine WP.condP (e239.trans hv239) (fun k1 => ?_) (fun k1 => ?_)
                                  · skip
                                    refine WP.skip ?_
                                    exact ⟨_, hh12, hS, joinB (e239.trans hv239) (by simp [k1]), e5, e12, e17, e18, e126, e127, e128, e160, trivial⟩
                                  · skip
                                    refine WP.region rfl ?_
                                    refine Ops.eqlI (e160.trans hv160) rfl ?_
                                    refine Ops.assignB rfl ?_
                                    refine Ops.nil ?_
                                    exact ⟨_, hh12, hS, joinB rfl (by simp [k1]), e5, e12, e17, e18, e126, e127, e128, e160, trivial⟩
                                · skip
                                  rintro ρ w ⟨I, hI, hS, e239, e5, e12, e17, e18, e126, e127, e128, e160, _⟩
                                  replace hh6 := Ghost.le.trans' hI hh6
                                  replace hb17 := hI _ _ hb17
                                  replace hh9 := Ghost.le.trans' hI hh9
                                  replace hle := hle.trans hI
                                  refine WP.condP e239 (fun k12 => ?_) (fun k12 => ?_)
                                  · skip
                                    refine WP.seq ?_
                                    refine WP.seq ?_
                                    refine WP.region rfl ?_
                                    refine Ops.moveP (e12.trans hv12) ?_
                                    refine Ops.field (r := 1) Try.underlying31 rfl Try.sizeOf3 (by decide) (e17.trans hv17) rfl ?_
                                    refine Ops.load1P Try.isAgg3 hS rfl hb17 rfl ?_
                                    refine Ops.field (r := 2) Try.underlying31 rfl Try.sizeOf2 (by decide) (e17.trans hv17) rfl ?_
                                    refine Ops.load1P Try.isAgg2 hS rfl hb17 rfl ?_
                                    refine Ops.field (r := 3) Try.underlying31 rfl Try.sizeOf2 (by decide) (e17.trans hv17) rfl ?_
                                    refine Ops.load1P Try.isAgg2 hS rfl hb17 rfl ?_
                                    refine Ops.callF (store_spec hS hHk x.a x.i x.v) ?_
                                    rintro v249 w ⟨I, Xk', hI, hS, hHk, rfl⟩
                                    replace hh6 := Ghost.le.trans' hI hh6
                                    replace hb17 := hI _ _ hb17
                                    replace hh9 := Ghost.le.trans' hI hh9
                                    replace hle := hle.trans hI
                                    refine Ops.moveB (e18.trans hv18) ?_
                                    refine Ops.neqB Try.underlying4 rfl rfl ?_
                                    refine Ops.nil ?_
                                    refine WP.condIsF rfl (by simp) ?_
                                    refine WP.skip ?_
                                    refine WP.seq ?_
                                    refine WP.region rfl ?_
                                    refine Ops.moveB (e18.trans hv18) ?_
                                    refine Ops.nil ?_
                                    refine WP.condB rfl (fun kin => ?_) (fun kin => ?_)
                                    · skip
                                      have hst : setL Lm x.a x.i x.v = Lm.set x.a.toNat ((rowL Lm x.a).set x.i.toNat x.v) := by unfold setL; rw [if_pos kin]
                                      have hth := there_nn (in_there kin)
                                      have hir := in_row kin
                                      have hlt : x.a.toNat < Lm.length := by omega
                                      have hrow : rowL Lm x.a = Lm[x.a.toNat] := by unfold rowL; simp [hlt]
                                      rw [hrow] at hst hir
                                      have hlt2 : x.i.toNat < Lm[x.a.toNat].length := by omega
                                      obtain ⟨VS, bj, cj, lj, T1, T2, hVS, hVj, hXm, hil, hlj, hset⟩ := Tab.vals hTm hlt hlt2
                                      rw [hXm] at hS hVS
                                      have hd := Ghost.le.refl I
                                      have q17 := hb17
                                      refine WP.regionDraw (fun w2 => ∃ J O2, I.le J ∧ SL J O2 E w2 ∧ (∀ x ∈ (Xk' ++ ((T1 ++ ([(bj, Obj.cells lj.toArray 2 (0, 0))] ++ T2)) ++ O) : Own), x ∈ O2)) (fun j => j == 10) (by kernel_rfl) rfl ?_
                                      intro w hw
                                      have hS := (hw ▸ hS.drew : SL I _ E w)
                                      refine AnyV.take (i := 0) rfl (by kernel_rfl) (by kernel_rfl) (by kernel_rfl) (by kernel_rfl) ⟨I, _, hd, hS, (fun _ h => h)⟩ (fun w hW => Run.moveS (e5.trans hv5)) ?_
                                      refine AnyV.take (i := 1) rfl (by kernel_rfl) (by kernel_rfl) (by kernel_rfl) (by kernel_rfl) ⟨I, _, hd, hS, (fun _ h => h)⟩ (fun w hW => Run.field (r := 1) Try.underlying31 rfl Try.sizeOf3 (by decide) (e17.trans hv17) rfl) ?_
                                      refine AnyV.take (i := 2) rfl (by kernel_rfl) (by kernel_rfl) (by kernel_rfl) (by kernel_rfl) ⟨I, _, hd, hS, (fun _ h => h)⟩ (fun w hW => by obtain ⟨J, O2, hJ, hS, hM0⟩ := hW; exact Run.load1P Try.isAgg3 hS rfl (hJ _ _ q17) rfl) ?_
                                      refine AnyV.take (i := 5) rfl (by kernel_rfl) (by kernel_rfl) (by kernel_rfl) (by kernel_rfl) ⟨I, _, hd, hS, (fun _ h => h)⟩ (fun w hW => Run.field (r := 2) Try.underlying31 rfl Try.sizeOf2 (by decide) (e17.trans hv17) rfl) ?_
                                      refine AnyV.take (i := 6) rfl (by kernel_rfl) (by kernel_rfl) (by kernel_rfl) (by kernel_rfl) ⟨I, _, hd, hS, (fun _ h => h)⟩ (fun w hW => by obtain ⟨J, O2, hJ, hS, hM0⟩ := hW; exact Run.load1P Try.isAgg2 hS rfl (hJ _ _ q17) rfl) ?_
                                      refine AnyV.take (i := 7) rfl (by kernel_rfl) (by kernel_rfl) (by kernel_rfl) (by kernel_rfl) ⟨I, _, hd, hS, (fun _ h => h)⟩ (fun w hW => Run.field (r := 3) Try.underlying31 rfl Try.sizeOf2 (by decide) (e17.trans hv17) rfl) ?_
                                      refine AnyV.take (i := 8) rfl (by kernel_rfl) (by kernel_rfl) (by kernel_rfl) (by kernel_rfl) ⟨I, _, hd, hS, (fun _ h => h)⟩ (fun w hW => by obtain ⟨J, O2, hJ, hS, hM0⟩ := hW; exact Run.load1P Try.isAgg2 hS rfl (hJ _ _ q17) rfl) ?_
                                      obtain ⟨b256, off256, u256, har256, hjn256, hu256, hat256⟩ := Run.elem1 (P := Try.prog) (e := 25) (j := x.a.toNat) hS Try.isAgg25 hVj (hVS _ _ (fun y hy => List.mem_append_right _ (List.mem_append_left _ hy)))
                                      cases hu256
                                      refine AnyV.take (i := 3) rfl (by kernel_rfl) (by kernel_rfl) (by kernel_rfl) (by kernel_rfl) ⟨I, _, hd, hS, (fun _ h => h)⟩ (fun w hW => Run.idxE (j := x.a.toNat) (k := 1) Try.underlying22 Try.sizeOf25 rfl har256 rfl (nn hth.1) hjn256) ?_
                                      refine AnyV.take (i := 4) rfl (by kernel_rfl) (by kernel_rfl) (by kernel_rfl) (by kernel_rfl) ⟨I, _, hd, hS, (fun _ h => h)⟩ (fun w hW => by obtain ⟨J, O2, hJ, hS, hM0⟩ := hW; exact Run.load1 Try.isAgg25 hS rfl (hat256.mono' hJ hM0)) ?_
                                      refine AnyV.one (i := 9) rfl (by kernel_rfl) ?_
                                      refine Ops.idx (j := x.i.toNat) (k := 1) Try.underlying25 Try.sizeOf2 rfl rfl (nn hir.1) hlt2 ?_
                                      refine Ops.nil ?_
                                      refine ⟨.inr ⟨I, _, hd, hS, (fun _ h => h)⟩, ?_⟩
                                      refine AnyV.one (i := 10) rfl (by kernel_rfl) ?_
                                      have hS := (by simpa only [List.append_assoc] using hS : SL I (Xk' ++ (T1 ++ ([(bj, _)] ++ (T2 ++ O)))) E w).swap2.swap
                                      refine Ops.store1 (v := .int .i64 x.v) (off := 0 + x.i.toNat * 1) Try.sizeOf2 rfl rfl rfl (by omega) hS ?_
                                      intro w hS
                                      refine Ops.nil ?_
                                      refine ⟨.inl rfl, ?_⟩
                                      refine AnyV.done (by kernel_rfl) ?_
                                      have hS := hS.swap.swap2
                                      rw [Nat.zero_add, Nat.mul_one] at hS
                                      have hS := (by simpa only [List.append_assoc] using hS : SL I (Xk' ++ ((T1 ++ ([(bj, Obj.cells (lj.set x.i.toNat (.int .i64 x.v)).toArray 2 (0, 0))] ++ T2)) ++ O)) E w)
                                      have hls : (setL Lm x.a x.i x.v).length = Lm.length := by rw [hst, List.length_set]
                                      rw [← hls] at hv5
                                      exact ⟨_, setL Lm x.a x.i x.v, _, _, _, _, hh9, hS, (e5.trans hv5), e12, e17, e126, e127, e128, ⟨hst ▸ hset x.v, hHk, hSm.set⟩⟩
                                    · skip
                                      have hst : setL Lm x.a x.i x.v = Lm := by unfold setL; rw [kin]; rfl
                                      rw [hst] at hHk
                                      refine WP.skip ?_
                                      exact ⟨_, _, _, _, _, _, hh9, hS, (e5.trans hv5), e12, e17, e126, e127, e128, ⟨hTm, hHk, hSm⟩⟩
                                  · skip
                                    refine WP.seq ?_
                                    refine WP.region rfl ?_
                                    refine Ops.eqlI (e160.trans hv160) rfl ?_
                                    refine Ops.assignB rfl ?_
                                    refine Ops.nil ?_
                                    refine WP.condP rfl (fun k3 => ?_) (fun k3 => ?_)
                                    · skip
                                      refine WP.seq ?_
                                      refine WP.region rfl ?_
                                      refine Ops.moveP (e12.trans hv12) ?_
                                      refine Ops.field (r := 1) Try.underlying31 rfl Try.sizeOf3 (by decide) (e17.trans hv17) rfl ?_
                                      refine Ops.load1P Try.isAgg3 hS rfl hb17 rfl ?_
                                      refine Ops.field (r := 2) Try.underlying31 rfl Try.sizeOf2 (by decide) (e17.trans hv17) rfl ?_
                                      refine Ops.load1P Try.isAgg2 hS rfl hb17 rfl ?_
                                      refine Ops.callF (load_spec hS hHk (fun y hy => by simp [hy]) x.a x.i) ?_
                                      rintro v271 w ⟨I, hI, hS, rfl⟩
                                      replace hh6 := Ghost.le.trans' hI hh6
                                      replace hb17 := hI _ _ hb17
                                      replace hh9 := Ghost.le.trans' hI hh9
                                      replace hle := hle.trans hI
                                      refine Ops.moveU rfl ?_
                                      refine Ops.extract0 rfl ?_
                                      refine Ops.extract1 rfl ?_
                                      refine Ops.assignI rfl ?_
                                      refine Ops.assignB rfl ?_
                                      refine Ops.nil ?_
                                      refine WP.seq ?_
                                      refine WP.env (fun ρ hρ => ?_)
                                      replace e5 := (congrFun hρ 5).trans e5
                                      replace e12 := (congrFun hρ 12).trans e12
                                      replace e17 := (congrFun hρ 17).trans e17
                                      replace e18 := (congrFun hρ 18).trans e18
                                      obtain ⟨v22, e22, hv22⟩ := nm hρ 22
                                      obtain ⟨v23, e23, hv23⟩ := nm hρ 23
                                      replace e126 := (congrFun hρ 126).trans e126
                                      replace e127 := (congrFun hρ 127).trans e127
                                      replace e128 := (congrFun hρ 128).trans e128
                                      clear hρ
                                      refine WP.cut (fun ρ2 w2 => ∃ J : Ghost, I.le J ∧ SL J (Xk ++ (Xm ++ O)) E w2 ∧ ρ2 310 = .bool false ∧ ρ2 5 = v5 ∧ ρ2 12 = v12 ∧ ρ2 17 = v17 ∧ ρ2 126 = v126 ∧ ρ2 127 = v127 ∧ ρ2 128 = v128 ∧ (True)) ?_ ?_
                                      · skip
                                        have hh13 := Ghost.le.refl I
                                        by_cases hin : inL Lm x.a x.i = true
                                        · skip
                                          have hth := there_nn (in_there hin)
                                          have hir := in_row hin
                                          have hd := Ghost.le.refl I
                                          have q17 := hb17
                                          refine WP.regionDraw (fun w2 => ∃ J O2, I.le J ∧ SL J O2 E w2 ∧ (∀ x ∈ (Xk ++ (Xm ++ O) : Own), x ∈ O2)) (fun j => false) (by kernel_rfl) rfl ?_
                                          intro w hw
                                          have hS := (hw ▸ hS.drew : SL I _ E w)
                                          refine AnyV.take (i := 0) rfl (by kernel_rfl) (by kernel_rfl) (by kernel_rfl) (by kernel_rfl) ⟨I, _, hd, hS, (fun _ h => h)⟩ (fun w hW => Run.moveB (e23.trans hv23)) ?_
                                          refine AnyV.one (i := 1) rfl (by kernel_rfl) ?_
                                          refine Ops.moveB (e18.trans hv18) ?_
                                          refine Ops.nil ?_
                                          refine ⟨.inr ⟨I, _, hd, hS, (fun _ h => h)⟩, ?_⟩
                                          refine AnyV.one (i := 2) rfl (by kernel_rfl) ?_
                                          refine Ops.neqB Try.underlying4 rfl rfl ?_
                                          refine Ops.nil ?_
                                          refine ⟨.inr ⟨I, _, hd, hS, (fun _ h => h)⟩, ?_⟩
                                          refine AnyV.one (i := 3) rfl (by kernel_rfl) ?_
                                          refine Ops.moveB rfl ?_
                                          refine Ops.nil ?_
                                          refine ⟨.inr ⟨I, _, hd, hS, (fun _ h => h)⟩, ?_⟩
                                          refine AnyV.one (i := 4) rfl (by kernel_rfl) ?_
                                          refine Ops.guardT rfl rfl (by simp) ?_
                                          refine Ops.moveB (e23.trans hv23) ?_
                                          refine Ops.nil ?_
                                          refine ⟨.inr ⟨I, _, hd, hS, (fun _ h => h)⟩, ?_⟩
                                          refine AnyV.one (i := 5) rfl (by kernel_rfl) ?_
                                          refine Ops.guardT rfl rfl (by simp) ?_
                                          refine Ops.moveB rfl ?_
                                          refine Ops.nil ?_
                                          refine ⟨.inr ⟨I, _, hd, hS, (fun _ h => h)⟩, ?_⟩
                                          refine AnyV.takeT (i := 6) rfl rfl rfl hin (by kernel_rfl) (by kernel_rfl) (by kernel_rfl) (by kernel_rfl) ⟨I, _, hd, hS, (fun _ h => h)⟩ (fun w hW => Run.moveI (e22.trans hv22)) ?_
                                          refine AnyV.takeT (i := 7) rfl rfl rfl hin (by kernel_rfl) (by kernel_rfl) (by kernel_rfl) (by kernel_rfl) ⟨I, _, hd, hS, (fun _ h => h)⟩ (fun w hW => Run.moveS (e5.trans hv5)) ?_
                                          refine AnyV.takeT (i := 8) rfl rfl rfl hin (by kernel_rfl) (by kernel_rfl) (by kernel_rfl) (by kernel_rfl) ⟨I, _, hd, hS, (fun _ h => h)⟩ (fun w hW => Run.field (r := 1) Try.underlying31 rfl Try.sizeOf3 (by decide) (e17.trans hv17) rfl) ?_
                                          refine AnyV.takeT (i := 9) rfl rfl rfl hin (by kernel_rfl) (by kernel_rfl) (by kernel_rfl) (by kernel_rfl) ⟨I, _, hd, hS, (fun _ h => h)⟩ (fun w hW => by obtain ⟨J, O2, hJ, hS, hM0⟩ := hW; exact Run.load1P Try.isAgg3 hS rfl (hJ _ _ q17) rfl) ?_
                                          refine AnyV.takeT (i := 12) rfl rfl rfl hin (by kernel_rfl) (by kernel_rfl) (by kernel_rfl) (by kernel_rfl) ⟨I, _, hd, hS, (fun _ h => h)⟩ (fun w hW => Run.field (r := 2) Try.underlying31 rfl Try.sizeOf2 (by decide) (e17.trans hv17) rfl) ?_
                                          refine AnyV.takeT (i := 13) rfl rfl rfl hin (by kernel_rfl) (by kernel_rfl) (by kernel_rfl) (by kernel_rfl) ⟨I, _, hd, hS, (fun _ h => h)⟩ (fun w hW => by obtain ⟨J, O2, hJ, hS, hM0⟩ := hW; exact Run.load1P Try.isAgg2 hS rfl (hJ _ _ q17) rfl) ?_
                                          obtain ⟨b284, off284, u284, har284, hjn284, hu284, hat284⟩ := Run.elem1 (P := Try.prog) (e := 25) (j := x.a.toNat) hS Try.isAgg25 (there_get (in_there hin)) (Tab.sl hTm hsub)
                                          obtain ⟨ar, nr, cr, e, hr⟩ := hu284
                                          cases e
                                          refine AnyV.takeT (i := 10) rfl rfl rfl hin (by kernel_rfl) (by kernel_rfl) (by kernel_rfl) (by kernel_rfl) ⟨I, _, hd, hS, (fun _ h => h)⟩ (fun w hW => Run.idxE (j := x.a.toNat) (k := 1) Try.underlying22 Try.sizeOf25 rfl har284 rfl (nn hth.1) hjn284) ?_
                                          refine AnyV.takeT (i := 11) rfl rfl rfl hin (by kernel_rfl) (by kernel_rfl) (by kernel_rfl) (by kernel_rfl) ⟨I, _, hd, hS, (fun _ h => h)⟩ (fun w hW => by obtain ⟨J, O2, hJ, hS, hM0⟩ := hW; exact Run.load1 Try.isAgg25 hS rfl (hat284.mono' hJ hM0)) ?_
                                          obtain ⟨b288, off288, u288, har288, hjn288, hu288, hat288⟩ := Run.elem1 (P := Try.prog) (e := 2) (j := x.i.toNat) hS Try.isAgg2 (row_get hin) hr
                                          cases hu288
                                          refine AnyV.takeT (i := 14) rfl rfl rfl hin (by kernel_rfl) (by kernel_rfl) (by kernel_rfl) (by kernel_rfl) ⟨I, _, hd, hS, (fun _ h => h)⟩ (fun w hW => Run.idxE (j := x.i.toNat) (k := 1) Try.underlying25 Try.sizeOf2 rfl har288 rfl (nn hir.1) hjn288) ?_
                                          refine AnyV.takeT (i := 15) rfl rfl rfl hin (by kernel_rfl) (by kernel_rfl) (by kernel_rfl) (by kernel_rfl) ⟨I, _, hd, hS, (fun _ h => h)⟩ (fun w hW => by obtain ⟨J, O2, hJ, hS, hM0⟩ := hW; exact Run.load1 Try.isAgg2 hS rfl (hat288.mono' hJ hM0)) ?_
                                          refine AnyV.one (i := 16) rfl (by kernel_rfl) ?_
                                          refine Ops.guardT rfl rfl hin ?_
                                          refine Ops.neqI rfl rfl ?_
                                          refine Ops.nil ?_
                                          refine ⟨.inr ⟨I, _, hd, hS, (fun _ h => h)⟩, ?_⟩
                                          refine AnyV.one (i := 17) rfl (by kernel_rfl) ?_
                                          refine Ops.guardT rfl rfl (by simp) ?_
                                          refine Ops.pickTB rfl hin rfl ?_
                                          refine Ops.nil ?_
                                          refine ⟨.inr ⟨I, _, hd, hS, (fun _ h => h)⟩, ?_⟩
                                          refine AnyV.one (i := 18) rfl (by kernel_rfl) ?_
                                          refine Ops.pickFB rfl (by simp) rfl ?_
                                          refine Ops.nil ?_
                                          refine ⟨.inr ⟨I, _, hd, hS, (fun _ h => h)⟩, ?_⟩
                                          refine AnyV.one (i := 19) rfl (by kernel_rfl) ?_
                                          refine Ops.moveB rfl ?_
                                          refine Ops.nil ?_
                                          refine ⟨.inr ⟨I, _, hd, hS, (fun _ h => h)⟩, ?_⟩
                                          refine AnyV.one (i := 20) rfl (by kernel_rfl) ?_
                                          refine Ops.guardT rfl rfl (decide_eq_false (by rw [if_pos hin]; simp)) ?_
                                          refine Ops.moveB (e23.trans hv23) ?_
                                          refine Ops.nil ?_
                                          refine ⟨.inr ⟨I, _, hd, hS, (fun _ h => h)⟩, ?_⟩
                                          refine AnyV.one (i := 21) rfl (by kernel_rfl) ?_
                                          refine Ops.guardT rfl rfl (decide_eq_false (by rw [if_pos hin]; simp)) ?_
                                          refine Ops.not rfl ?_
                                          refine Ops.nil ?_
                                          refine ⟨.inr ⟨I, _, hd, hS, (fun _ h => h)⟩, ?_⟩
                                          refine AnyV.one (i := 22) rfl (by kernel_rfl) ?_
                                          refine Ops.guardT rfl rfl (decide_eq_false (by rw [if_pos hin]; simp)) ?_
                                          refine Ops.moveB rfl ?_
                                          refine Ops.nil ?_
                                          refine ⟨.inr ⟨I, _, hd, hS, (fun _ h => h)⟩, ?_⟩
                                          refine AnyV.one (i := 23) rfl (by kernel_rfl) ?_
                                          refine Ops.guardFd rfl rfl (by simp [hin]) ?_
                                          refine Ops.nil ?_
                                          refine ⟨.inr ⟨I, _, hd, hS, (fun _ h => h)⟩, ?_⟩
                                          refine AnyV.one (i := 24) rfl (by kernel_rfl) ?_
                                          refine Ops.guardFd rfl rfl (by simp [hin]) ?_
                                          refine Ops.nil ?_
                                          refine ⟨.inr ⟨I, _, hd, hS, (fun _ h => h)⟩, ?_⟩
                                          refine AnyV.one (i := 25) rfl (by kernel_rfl) ?_
                                          refine Ops.guardT rfl rfl (decide_eq_false (by rw [if_pos hin]; simp)) ?_
                                          refine Ops.pickFB rfl (by simp [hin]) rfl ?_
                                          refine Ops.nil ?_
                                          refine ⟨.inr ⟨I, _, hd, hS, (fun _ h => h)⟩, ?_⟩
                                          refine AnyV.one (i := 26) rfl (by kernel_rfl) ?_
                                          refine Ops.pickFB rfl (decide_eq_false (by rw [if_pos hin]; simp)) rfl ?_
                                          refine Ops.nil ?_
                                          refine ⟨.inr ⟨I, _, hd, hS, (fun _ h => h)⟩, ?_⟩
                                          refine AnyV.one (i := 27) rfl (by kernel_rfl) ?_
                                          refine Ops.moveB rfl ?_
                                          refine Ops.nil ?_
                                          refine ⟨.inr ⟨I, _, hd, hS, (fun _ h => h)⟩, ?_⟩
                                          refine AnyV.takeT (i := 28) rfl rfl rfl rfl (by kernel_rfl) (by kernel_rfl) (by kernel_rfl) (by kernel_rfl) ⟨I, _, hd, hS, (fun _ h => h)⟩ (fun w hW => Run.moveP (e12.trans hv12)) ?_
                                          refine AnyV.takeT (i := 29) rfl rfl rfl rfl (by kernel_rfl) (by kernel_rfl) (by kernel_rfl) (by kernel_rfl) ⟨I, _, hd, hS, (fun _ h => h)⟩ (fun w hW => Run.field (r := 1) Try.underlying31 rfl Try.sizeOf3 (by decide) (e17.trans hv17) rfl) ?_
                                          refine AnyV.takeT (i := 30) rfl rfl rfl rfl (by kernel_rfl) (by kernel_rfl) (by kernel_rfl) (by kernel_rfl) ⟨I, _, hd, hS, (fun _ h => h)⟩ (fun w hW => by obtain ⟨J, O2, hJ, hS, hM0⟩ := hW; exact Run.load1P Try.isAgg3 hS rfl (hJ _ _ q17) rfl) ?_
                                          refine AnyV.takeT (i := 31) rfl rfl rfl rfl (by kernel_rfl) (by kernel_rfl) (by kernel_rfl) (by kernel_rfl) ⟨I, _, hd, hS, (fun _ h => h)⟩ (fun w hW => Run.field (r := 2) Try.underlying31 rfl Try.sizeOf2 (by decide) (e17.trans hv17) rfl) ?_
                                          refine AnyV.takeT (i := 32) rfl rfl rfl rfl (by kernel_rfl) (by kernel_rfl) (by kernel_rfl) (by kernel_rfl) ⟨I, _, hd, hS, (fun _ h => h)⟩ (fun w hW => by obtain ⟨J, O2, hJ, hS, hM0⟩ := hW; exact Run.load1P Try.isAgg2 hS rfl (hJ _ _ q17) rfl) ?_
                                          refine AnyV.takeT (i := 34) rfl rfl rfl rfl (by kernel_rfl) (by kernel_rfl) (by kernel_rfl) (by kernel_rfl) ⟨I, _, hd, hS, (fun _ h => h)⟩ (fun w hW => Run.moveB (e18.trans hv18)) ?_
                                          refine AnyV.one (i := 33) rfl (by kernel_rfl) ?_
                                          refine Ops.guardT rfl rfl rfl ?_
                                          refine Ops.callF (in_spec hS hHk (fun y hy => by simp [hy]) x.a x.i) ?_
                                          rintro v307 w ⟨I, hI, hS, rfl⟩
                                          replace hh6 := Ghost.le.trans' hI hh6
                                          replace hb17 := hI _ _ hb17
                                          replace hh9 := Ghost.le.trans' hI hh9
                                          replace hh13 := Ghost.le.trans' hI hh13
                                          replace hd := Ghost.le.trans' hI hd
                                          replace hle := hle.trans hI
                                          refine Ops.nil ?_
                                          refine ⟨.inr ⟨I, _, hd, hS, (fun _ h => h)⟩, ?_⟩
                                          refine AnyV.one (i := 35) rfl (by kernel_rfl) ?_
                                          refine Ops.guardT rfl rfl rfl ?_
                                          refine Ops.neqB Try.underlying4 rfl rfl ?_
                                          refine Ops.nil ?_
                                          refine ⟨.inr ⟨I, _, hd, hS, (fun _ h => h)⟩, ?_⟩
                                          refine AnyV.one (i := 36) rfl (by kernel_rfl) ?_
                                          refine Ops.pickFB rfl rfl rfl ?_
                                          refine Ops.nil ?_
                                          refine ⟨.inr ⟨I, _, hd, hS, (fun _ h => h)⟩, ?_⟩
                                          refine AnyV.done (by kernel_rfl) ?_
                                          exact ⟨_, hh13, hS, joinB rfl (by simp), e5, e12, e17, e126, e127, e128, trivial⟩
                                        · skip
                                          have hin : inL Lm x.a x.i = false := by simpa using hin
                                          have hd := Ghost.le.refl I
                                          have q17 := hb17
                                          refine WP.regionDraw (fun w2 => ∃ J O2, I.le J ∧ SL J O2 E w2 ∧ (∀ x ∈ (Xk ++ (Xm ++ O) : Own), x ∈ O2)) (fun j => false) (by kernel_rfl) rfl ?_
                                          intro w hw
                                          have hS := (hw ▸ hS.drew : SL I _ E w)
                                          refine AnyV.take (i := 0) rfl (by kernel_rfl) (by kernel_rfl) (by kernel_rfl) (by kernel_rfl) ⟨I, _, hd, hS, (fun _ h => h)⟩ (fun w hW => Run.moveB (e23.trans hv23)) ?_
                                          refine AnyV.one (i := 1) rfl (by kernel_rfl) ?_
                                          refine Ops.moveB (e18.trans hv18) ?_
                                          refine Ops.nil ?_
                                          refine ⟨.inr ⟨I, _, hd, hS, (fun _ h => h)⟩, ?_⟩
                                          refine AnyV.one (i := 2) rfl (by kernel_rfl) ?_
                                          refine Ops.neqB Try.underlying4 rfl rfl ?_
                                          refine Ops.nil ?_
                                          refine ⟨.inr ⟨I, _, hd, hS, (fun _ h => h)⟩, ?_⟩
                                          refine AnyV.one (i := 3) rfl (by kernel_rfl) ?_
                                          refine Ops.moveB rfl ?_
                                          refine Ops.nil ?_
                                          refine ⟨.inr ⟨I, _, hd, hS, (fun _ h => h)⟩, ?_⟩
                                          refine AnyV.one (i := 4) rfl (by kernel_rfl) ?_
                                          refine Ops.guardT rfl rfl (by simp) ?_
                                          refine Ops.moveB (e23.trans hv23) ?_
                                          refine Ops.nil ?_
                                          refine ⟨.inr ⟨I, _, hd, hS, (fun _ h => h)⟩, ?_⟩
                                          refine AnyV.one (i := 5) rfl (by kernel_rfl) ?_
                                          refine Ops.guardT rfl rfl (by simp) ?_
                                          refine Ops.moveB rfl ?_
                                          refine Ops.nil ?_
                                          refine ⟨.inr ⟨I, _, hd, hS, (fun _ h => h)⟩, ?_⟩
                                          refine AnyV.takeF (i := 6) rfl rfl rfl hin (by kernel_rfl) (by kernel_rfl) (by kernel_rfl) (by kernel_rfl) ⟨I, _, hd, hS, (fun _ h => h)⟩ ?_
                                          refine AnyV.takeF (i := 7) rfl rfl rfl hin (by kernel_rfl) (by kernel_rfl) (by kernel_rfl) (by kernel_rfl) ⟨I, _, hd, hS, (fun _ h => h)⟩ ?_
                                          refine AnyV.takeF (i := 8) rfl rfl rfl hin (by kernel_rfl) (by kernel_rfl) (by kernel_rfl) (by kernel_rfl) ⟨I, _, hd, hS, (fun _ h => h)⟩ ?_
                                          refine AnyV.takeF (i := 9) rfl rfl rfl hin (by kernel_rfl) (by kernel_rfl) (by kernel_rfl) (by kernel_rfl) ⟨I, _, hd, hS, (fun _ h => h)⟩ ?_
                                          refine AnyV.takeF (i := 10) rfl rfl rfl hin (by kernel_rfl) (by kernel_rfl) (by kernel_rfl) (by kernel_rfl) ⟨I, _, hd, hS, (fun _ h => h)⟩ ?_
                                          refine AnyV.takeF (i := 11) rfl rfl rfl hin (by kernel_rfl) (by kernel_rfl) (by kernel_rfl) (by kernel_rfl) ⟨I, _, hd, hS, (fun _ h => h)⟩ ?_
                                          refine AnyV.one (i := 12) rfl (by kernel_rfl) ?_
                                          refine Ops.guardFd rfl rfl hin ?_
                                          refine Ops.nil ?_
                                          refine ⟨.inr ⟨I, _, hd, hS, (fun _ h => h)⟩, ?_⟩
                                          refine AnyV.one (i := 13) rfl (by kernel_rfl) ?_
                                          refine Ops.guardFd rfl rfl hin ?_
                                          refine Ops.nil ?_
                                          refine ⟨.inr ⟨I, _, hd, hS, (fun _ h => h)⟩, ?_⟩
                                          refine AnyV.one (i := 14) rfl (by kernel_rfl) ?_
                                          refine Ops.guardFd rfl rfl hin ?_
                                          refine Ops.nil ?_
                                          refine ⟨.inr ⟨I, _, hd, hS, (fun _ h => h)⟩, ?_⟩
                                          refine AnyV.one (i := 15) rfl (by kernel_rfl) ?_
                                          refine Ops.guardFd rfl rfl hin ?_
                                          refine Ops.nil ?_
                                          refine ⟨.inr ⟨I, _, hd, hS, (fun _ h => h)⟩, ?_⟩
                                          refine AnyV.one (i := 16) rfl (by kernel_rfl) ?_
                                          refine Ops.guardFd rfl rfl hin ?_
                                          refine Ops.nil ?_
                                          refine ⟨.inr ⟨I, _, hd, hS, (fun _ h => h)⟩, ?_⟩
                                          refine AnyV.one (i := 17) rfl (by kernel_rfl) ?_
                                          refine Ops.guardT rfl rfl (by simp) ?_
                                          refine Ops.pickFB rfl hin rfl ?_
                                          refine Ops.nil ?_
                                          refine ⟨.inr ⟨I, _, hd, hS, (fun _ h => h)⟩, ?_⟩
                                          refine AnyV.one (i := 18) rfl (by kernel_rfl) ?_
                                          refine Ops.pickFB rfl (by simp) rfl ?_
                                          refine Ops.nil ?_
                                          refine ⟨.inr ⟨I, _, hd, hS, (fun _ h => h)⟩, ?_⟩
                                          refine AnyV.one (i := 19) rfl (by kernel_rfl) ?_
                                          refine Ops.moveB rfl ?_
                                          refine Ops.nil ?_
                                          refine ⟨.inr ⟨I, _, hd, hS, (fun _ h => h)⟩, ?_⟩
                                          refine AnyV.one (i := 20) rfl (by kernel_rfl) ?_
                                          refine Ops.guardT rfl rfl rfl ?_
                                          refine Ops.moveB (e23.trans hv23) ?_
                                          refine Ops.nil ?_
                                          refine ⟨.inr ⟨I, _, hd, hS, (fun _ h => h)⟩, ?_⟩
                                          refine AnyV.one (i := 21) rfl (by kernel_rfl) ?_
                                          refine Ops.guardT rfl rfl rfl ?_
                                          refine Ops.not rfl ?_
                                          refine Ops.nil ?_
                                          refine ⟨.inr ⟨I, _, hd, hS, (fun _ h => h)⟩, ?_⟩
                                          refine AnyV.one (i := 22) rfl (by kernel_rfl) ?_
                                          refine Ops.guardT rfl rfl rfl ?_
                                          refine Ops.moveB rfl ?_
                                          refine Ops.nil ?_
                                          refine ⟨.inr ⟨I, _, hd, hS, (fun _ h => h)⟩, ?_⟩
                                          refine AnyV.one (i := 23) rfl (by kernel_rfl) ?_
                                          refine Ops.guardT rfl rfl (by simp [hin]) ?_
                                          refine Ops.moveI (e22.trans hv22) ?_
                                          refine Ops.nil ?_
                                          refine ⟨.inr ⟨I, _, hd, hS, (fun _ h => h)⟩, ?_⟩
                                          refine AnyV.one (i := 24) rfl (by kernel_rfl) ?_
                                          refine Ops.guardT rfl rfl (by simp [hin]) ?_
                                          refine Ops.neqI rfl rfl ?_
                                          refine Ops.nil ?_
                                          refine ⟨.inr ⟨I, _, hd, hS, (fun _ h => h)⟩, ?_⟩
                                          refine AnyV.one (i := 25) rfl (by kernel_rfl) ?_
                                          refine Ops.guardT rfl rfl rfl ?_
                                          refine Ops.pickTB rfl (by simp [hin]) rfl ?_
                                          refine Ops.nil ?_
                                          refine ⟨.inr ⟨I, _, hd, hS, (fun _ h => h)⟩, ?_⟩
                                          refine AnyV.one (i := 26) rfl (by kernel_rfl) ?_
                                          refine Ops.pickFB rfl rfl rfl ?_
                                          refine Ops.nil ?_
                                          refine ⟨.inr ⟨I, _, hd, hS, (fun _ h => h)⟩, ?_⟩
                                          refine AnyV.one (i := 27) rfl (by kernel_rfl) ?_
                                          refine Ops.moveB rfl ?_
                                          refine Ops.nil ?_
                                          refine ⟨.inr ⟨I, _, hd, hS, (fun _ h => h)⟩, ?_⟩
                                          refine AnyV.takeT (i := 28) rfl rfl rfl (decide_eq_false (by rw [hin]; simp)) (by kernel_rfl) (by kernel_rfl) (by kernel_rfl) (by kernel_rfl) ⟨I, _, hd, hS, (fun _ h => h)⟩ (fun w hW => Run.moveP (e12.trans hv12)) ?_
                                          refine AnyV.takeT (i := 29) rfl rfl rfl (decide_eq_false (by rw [hin]; simp)) (by kernel_rfl) (by kernel_rfl) (by kernel_rfl) (by kernel_rfl) ⟨I, _, hd, hS, (fun _ h => h)⟩ (fun w hW => Run.field (r := 1) Try.underlying31 rfl Try.sizeOf3 (by decide) (e17.trans hv17) rfl) ?_
                                          refine AnyV.takeT (i := 30) rfl rfl rfl (decide_eq_false (by rw [hin]; simp)) (by kernel_rfl) (by kernel_rfl) (by kernel_rfl) (by kernel_rfl) ⟨I, _, hd, hS, (fun _ h => h)⟩ (fun w hW => by obtain ⟨J, O2, hJ, hS, hM0⟩ := hW; exact Run.load1P Try.isAgg3 hS rfl (hJ _ _ q17) rfl) ?_
                                          refine AnyV.takeT (i := 31) rfl rfl rfl (decide_eq_false (by rw [hin]; simp)) (by kernel_rfl) (by kernel_rfl) (by kernel_rfl) (by kernel_rfl) ⟨I, _, hd, hS, (fun _ h => h)⟩ (fun w hW => Run.field (r := 2) Try.underlying31 rfl Try.sizeOf2 (by decide) (e17.trans hv17) rfl) ?_
                                          refine AnyV.takeT (i := 32) rfl rfl rfl (decide_eq_false (by rw [hin]; simp)) (by kernel_rfl) (by kernel_rfl) (by kernel_rfl) (by kernel_rfl) ⟨I, _, hd, hS, (fun _ h => h)⟩ (fun w hW => by obtain ⟨J, O2, hJ, hS, hM0⟩ := hW; exact Run.load1P Try.isAgg2 hS rfl (hJ _ _ q17) rfl) ?_
                                          refine AnyV.takeT (i := 34) rfl rfl rfl (decide_eq_false (by rw [hin]; simp)) (by kernel_rfl) (by kernel_rfl) (by kernel_rfl) (by kernel_rfl) ⟨I, _, hd, hS, (fun _ h => h)⟩ (fun w hW => Run.moveB (e18.trans hv18)) ?_
                                          refine AnyV.one (i := 33) rfl (by kernel_rfl) ?_
                                          refine Ops.guardT rfl rfl (decide_eq_false (by rw [hin]; simp)) ?_
                                          refine Ops.callF (in_spec hS hHk (fun y hy => by simp [hy]) x.a x.i) ?_
                                          rintro v307 w ⟨I, hI, hS, rfl⟩
                                          replace hh6 := Ghost.le.trans' hI hh6
                                          replace hb17 := hI _ _ hb17
                                          replace hh9 := Ghost.le.trans' hI hh9
                                          replace hh13 := Ghost.le.trans' hI hh13
                                          replace hd := Ghost.le.trans' hI hd
                                          replace hle := hle.trans hI
                                          refine Ops.nil ?_
                                          refine ⟨.inr ⟨I, _, hd, hS, (fun _ h => h)⟩, ?_⟩
                                          refine AnyV.one (i := 35) rfl (by kernel_rfl) ?_
                                          refine Ops.guardT rfl rfl (decide_eq_false (by rw [hin]; simp)) ?_
                                          refine Ops.neqB Try.underlying4 rfl rfl ?_
                                          refine Ops.nil ?_
                                          refine ⟨.inr ⟨I, _, hd, hS, (fun _ h => h)⟩, ?_⟩
                                          refine AnyV.one (i := 36) rfl (by kernel_rfl) ?_
                                          refine Ops.pickFB rfl (decide_eq_false (by rw [hin]; simp)) rfl ?_
                                          refine Ops.nil ?_
                                          refine ⟨.inr ⟨I, _, hd, hS, (fun _ h => h)⟩, ?_⟩
                                          refine AnyV.done (by kernel_rfl) ?_
                                          exact ⟨_, hh13, hS, joinB rfl (by simp), e5, e12, e17, e126, e127, e128, trivial⟩
                                      · skip
                                        rintro ρ w ⟨I, hI, hS, e310, e5, e12, e17, e126, e127, e128, _⟩
                                        replace hh6 := Ghost.le.trans' hI hh6
                                        replace hb17 := hI _ _ hb17
                                        replace hh9 := Ghost.le.trans' hI hh9
                                        replace hle := hle.trans hI
                                        refine WP.condIsF e310 rfl ?_
                                        refine WP.skip ?_
                                        exact ⟨_, _, _, _, _, _, hh9, hS, (e5.trans hv5), e12, e17, e126, e127, e128, ⟨hTm, hHk, hSm⟩⟩
                                    · skip
                                      refine WP.seq ?_
                                      refine WP.region rfl ?_
                                      refine Ops.moveP (e12.trans hv12) ?_
                                      refine Ops.callF (copy_spec hS hHk (fun y hy => by simp [hy]) hSm.bd) ?_
                                      rintro v162 w ⟨I, Z, bz, hI, hS, hHz, rfl⟩
                                      replace hh6 := Ghost.le.trans' hI hh6
                                      replace hb17 := hI _ _ hb17
                                      replace hh9 := Ghost.le.trans' hI hh9
                                      replace hle := hle.trans hI
                                      refine Ops.assignP rfl ?_
                                      refine Ops.nil ?_
                                      refine WP.seq ?_
                                      refine WP.region rfl ?_
                                      refine Ops.moveP rfl ?_
                                      refine Ops.field (r := 1) Try.underlying31 rfl Try.sizeOf3 (by decide) (e17.trans hv17) rfl ?_
                                      refine Ops.load1P Try.isAgg3 hS rfl hb17 rfl ?_
                                      refine Ops.field (r := 2) Try.underlying31 rfl Try.sizeOf2 (by decide) (e17.trans hv17) rfl ?_
                                      refine Ops.load1P Try.isAgg2 hS rfl hb17 rfl ?_
                                      refine Ops.field (r := 3) Try.underlying31 rfl Try.sizeOf2 (by decide) (e17.trans hv17) rfl ?_
                                      refine Ops.load1P Try.isAgg2 hS rfl hb17 rfl ?_
                                      refine Ops.callF (store_spec hS hHz x.a x.i x.v) ?_
                                      rintro v170 w ⟨I, Z2, hI, hS, hHz, rfl⟩
                                      replace hh6 := Ghost.le.trans' hI hh6
                                      replace hb17 := hI _ _ hb17
                                      replace hh9 := Ghost.le.trans' hI hh9
                                      replace hle := hle.trans hI
                                      refine Ops.nil ?_
                                      refine WP.seq ?_
                                      refine WP.region rfl ?_
                                      refine Ops.moveP rfl ?_
                                      refine Ops.callF (make_spec hS hHz hSm.set.bd 1) ?_
                                      rintro v172 w ⟨I, Z3, hI, hS, hHz, rfl⟩
                                      replace hh6 := Ghost.le.trans' hI hh6
                                      replace hb17 := hI _ _ hb17
                                      replace hh9 := Ghost.le.trans' hI hh9
                                      replace hle := hle.trans hI
                                      have hS := hS.dropAll
                                      refine Ops.nil ?_
                                      refine WP.region rfl ?_
                                      refine Ops.moveP (e12.trans hv12) ?_
                                      refine Ops.callF (all_spec hS hHk (fun y hy => by simp [hy]) hSm.bd) ?_
                                      rintro v174 w ⟨I, Z4, a174, c174, hI, hS, hHz, rfl⟩
                                      replace hh6 := Ghost.le.trans' hI hh6
                                      replace hb17 := hI _ _ hb17
                                      replace hh9 := Ghost.le.trans' hI hh9
                                      replace hle := hle.trans hI
                                      have hS := hS.dropAll
                                      refine Ops.nil ?_
                                      exact ⟨_, _, _, _, _, _, hh9, hS, (e5.trans hv5), e12, e17, e126, e127, e128, ⟨hTm, hHk, hSm⟩⟩
                            · skip
                              rintro ρ w ⟨I, Lm2, am2, cm2, Xm2, Xk2, hI, hS, e5, e12, e17, e126, e127, e128, ⟨hTm2, hHk2, hSm2⟩⟩
                              replace hh6 := Ghost.le.trans' hI hh6
                              replace hb17 := hI _ _ hb17
                              replace hle := hle.trans hI
                              have hsub2 : ∀ y ∈ Xm2, y ∈ Xk2 ++ (Xm2 ++ O) := fun y hy => by simp [hy]
                              refine WP.seq ?_
                              refine WP.region rfl ?_
                              refine Ops.moveP (e12.trans hv12) ?_
                              refine Ops.field (r := 1) Try.underlying31 rfl Try.sizeOf3 (by decide) (e17.trans hv17) rfl ?_
                              refine Ops.load1P Try.isAgg3 hS rfl hb17 rfl ?_
                              refine Ops.callF (len_spec hS hHk2 (fun y hy => by simp [hy]) x.a) ?_
                              rintro v315 w ⟨I, hI, hS, rfl⟩
                              replace hh6 := Ghost.le.trans' hI hh6
                              replace hb17 := hI _ _ hb17
                              replace hle := hle.trans hI
                              refine Ops.moveU rfl ?_
                              refine Ops.extract0 rfl ?_
                              refine Ops.extract1 rfl ?_
                              refine Ops.assignI rfl ?_
                              refine Ops.assignB rfl ?_
                              refine Ops.nil ?_
                              refine WP.seq ?_
                              refine WP.env (fun ρ hρ => ?_)
                              obtain ⟨v5, e5, hv5⟩ := nm2 ((congrFun hρ 5).trans e5)
                              replace e12 := (congrFun hρ 12).trans e12
                              replace e17 := (congrFun hρ 17).trans e17
                              obtain ⟨v25, e25, hv25⟩ := nm hρ 25
                              obtain ⟨v26, e26, hv26⟩ := nm hρ 26
                              replace e126 := (congrFun hρ 126).trans e126
                              replace e127 := (congrFun hρ 127).trans e127
                              replace e128 := (congrFun hρ 128).trans e128
                              clear hρ
                              refine WP.cut (fun ρ2 w2 => ∃ J : Ghost, I.le J ∧ SL J (Xk2 ++ (Xm2 ++ O)) E w2 ∧ ρ2 27 = .bool (thereL Lm2 x.a) ∧ ρ2 5 = v5 ∧ ρ2 12 = v12 ∧ ρ2 17 = v17 ∧ ρ2 25 = v25 ∧ ρ2 26 = v26 ∧ ρ2 126 = v126 ∧ ρ2 127 = v127 ∧ ρ2 128 = v128 ∧ (True)) ?_ ?_
                              · skip
                                have hh14 := Ghost.le.refl I
                                refine WP.region rfl ?_
                                refine Ops.field (r := 1) Try.underlying31 rfl Try.sizeOf3 (by decide) (e17.trans hv17) rfl ?_
                                refine Ops.load1P Try.isAgg3 hS rfl hb17 rfl ?_
                                refine Ops.geq rfl rfl ?_
                                refine Ops.moveB rfl ?_
                                refine Ops.case (s := 321) rfl (fun g321 => ?_) (fun g321 => ?_)
                                · skip
                                  refine Ops.guardT rfl rfl g321 ?_
                                  refine Ops.field (r := 1) Try.underlying31 rfl Try.sizeOf3 (by decide) (e17.trans hv17) rfl ?_
                                  refine Ops.guardT rfl rfl g321 ?_
                                  refine Ops.load1P Try.isAgg3 hS rfl hb17 rfl ?_
                                  refine Ops.guardT rfl rfl g321 ?_
                                  refine Ops.moveS (e5.trans hv5) ?_
                                  refine Ops.guardT rfl rfl g321 ?_
                                  refine Ops.lenS Try.underlying22 rfl ?_
                                  refine Ops.guardT rfl rfl g321 ?_
                                  refine Ops.lss rfl rfl ?_
                                  refine Ops.pickTB rfl g321 rfl ?_
                                  refine Ops.assignB rfl ?_
                                  refine Ops.nil ?_
                                  exact ⟨_, hh14, hS, joinB rfl (by unfold thereL; rw [Bool.decide_and, g321]; rfl), e5, e12, e17, e25, e26, e126, e127, e128, trivial⟩
                                · skip
                                  refine Ops.guardFd rfl rfl g321 ?_
                                  refine Ops.guardFd rfl rfl g321 ?_
                                  refine Ops.guardFd rfl rfl g321 ?_
                                  refine Ops.guardFd rfl rfl g321 ?_
                                  refine Ops.guardFd rfl rfl g321 ?_
                                  refine Ops.pickFB rfl g321 rfl ?_
                                  refine Ops.assignB rfl ?_
                                  refine Ops.nil ?_
                                  exact ⟨_, hh14, hS, joinB rfl (by unfold thereL; rw [Bool.decide_and, g321]; rfl), e5, e12, e17, e25, e26, e126, e127, e128, trivial⟩
                              · skip
                                rintro ρ w ⟨I, hI, hS, e27, e5, e12, e17, e25, e26, e126, e127, e128, _⟩
                                replace hh6 := Ghost.le.trans' hI hh6
                                replace hb17 := hI _ _ hb17
                                replace hle := hle.trans hI
                                refine WP.seq ?_
                                refine WP.env (fun ρ hρ => ?_)
                                replace e5 := (congrFun hρ 5).trans e5
                                replace e12 := (congrFun hρ 12).trans e12
                                replace e17 := (congrFun hρ 17).trans e17
                                replace e25 := (congrFun hρ 25).trans e25
                                replace e26 := (congrFun hρ 26).trans e26
                                obtain ⟨v27, e27, hv27⟩ := nm2 ((congrFun hρ 27).trans e27)
                                replace e126 := (congrFun hρ 126).trans e126
                                replace e127 := (congrFun hρ 127).trans e127
                                replace e128 := (congrFun hρ 128).trans e128
                                clear hρ
                                refine WP.cut (fun ρ2 w2 => ∃ J : Ghost, I.le J ∧ SL J (Xk2 ++ (Xm2 ++ O)) E w2 ∧ ρ2 358 = .bool false ∧ ρ2 5 = v5 ∧ ρ2 12 = v12 ∧ ρ2 126 = v126 ∧ ρ2 127 = v127 ∧ ρ2 128 = v128 ∧ (True)) ?_ ?_
                                · skip
                                  have hh15 := Ghost.le.refl I
                                  by_cases hin : thereL Lm2 x.a = true
                                  · skip
                                    refine WP.region rfl ?_
                                    refine Ops.moveB (e26.trans hv26) ?_
                                    refine Ops.moveB (e27.trans hv27) ?_
                                    refine Ops.neqB Try.underlying4 rfl rfl ?_
                                    refine Ops.moveB rfl ?_
                                    refine Ops.guardT rfl rfl (by simp) ?_
                                    refine Ops.moveB (e26.trans hv26) ?_
                                    refine Ops.guardT rfl rfl (by simp) ?_
                                    refine Ops.moveB rfl ?_
                                    have hnn := there_nn hin
                                    refine Ops.guardT rfl rfl hin ?_
                                    refine Ops.moveI (e25.trans hv25) ?_
                                    refine Ops.guardT rfl rfl hin ?_
                                    refine Ops.moveS (e5.trans hv5) ?_
                                    refine Ops.guardT rfl rfl hin ?_
                                    refine Ops.field (r := 1) Try.underlying31 rfl Try.sizeOf3 (by decide) (e17.trans hv17) rfl ?_
                                    refine Ops.guardT rfl rfl hin ?_
                                    refine Ops.load1P Try.isAgg3 hS rfl hb17 rfl ?_
                                    refine Ops.guardT rfl rfl hin ?_
                                    obtain ⟨b338, off338, u338, har338, hjn338, hu338, hat338⟩ := Run.elem1 (P := Try.prog) (e := 25) (j := x.a.toNat) hS Try.isAgg25 (there_get hin) (Tab.sl hTm2 hsub2)
                                    obtain ⟨ar, nr, cr, e, hr⟩ := hu338
                                    cases e
                                    refine Ops.idxE (j := x.a.toNat) (k := 1) Try.underlying22 Try.sizeOf25 rfl har338 rfl (nn hnn.1) hjn338 ?_
                                    refine Ops.guardT rfl rfl hin ?_
                                    refine Ops.load1 Try.isAgg25 hS rfl hat338 ?_
                                    have hrn := hr.1
                                    refine Ops.guardT rfl rfl hin ?_
                                    refine Ops.lenS Try.underlying25 rfl ?_
                                    refine Ops.guardT rfl rfl hin ?_
                                    refine Ops.neqI rfl rfl ?_
                                    refine Ops.guardT rfl rfl (by simp) ?_
                                    refine Ops.pickTB rfl hin rfl ?_
                                    refine Ops.pickFB rfl (by simp) rfl ?_
                                    refine Ops.moveB rfl ?_
                                    refine Ops.guardT rfl rfl (decide_eq_false (by rw [if_pos hin, hrn]; simp)) ?_
                                    refine Ops.moveB (e26.trans hv26) ?_
                                    refine Ops.guardT rfl rfl (decide_eq_false (by rw [if_pos hin, hrn]; simp)) ?_
                                    refine Ops.not rfl ?_
                                    refine Ops.guardT rfl rfl (decide_eq_false (by rw [if_pos hin, hrn]; simp)) ?_
                                    refine Ops.moveB rfl ?_
                                    refine Ops.guardFd rfl rfl (by simp [hin]) ?_
                                    refine Ops.guardFd rfl rfl (by simp [hin]) ?_
                                    refine Ops.guardT rfl rfl (decide_eq_false (by rw [if_pos hin, hrn]; simp)) ?_
                                    refine Ops.pickFB rfl (by simp [hin]) rfl ?_
                                    refine Ops.pickFB rfl (decide_eq_false (by rw [if_pos hin, hrn]; simp)) rfl ?_
                                    refine Ops.moveB rfl ?_
                                    refine Ops.guardT rfl rfl rfl ?_
                                    refine Ops.moveP (e12.trans hv12) ?_
                                    refine Ops.guardT rfl rfl rfl ?_
                                    refine Ops.callF (count_spec hS hHk2 (fun y hy => by simp [hy])) ?_
                                    rintro v354 w ⟨I, hI, hS, rfl⟩
                                    replace hh6 := Ghost.le.trans' hI hh6
                                    replace hb17 := hI _ _ hb17
                                    replace hh15 := Ghost.le.trans' hI hh15
                                    replace hle := hle.trans hI
                                    refine Ops.guardT rfl rfl rfl ?_
                                    refine Ops.moveS (e5.trans hv5) ?_
                                    refine Ops.guardT rfl rfl rfl ?_
                                    refine Ops.lenS Try.underlying22 rfl ?_
                                    refine Ops.guardT rfl rfl rfl ?_
                                    refine Ops.neqI rfl rfl ?_
                                    refine Ops.pickFB rfl rfl rfl ?_
                                    refine Ops.nil ?_
                                    exact ⟨_, hh15, hS, joinB rfl (by simp), e5, e12, e126, e127, e128, trivial⟩
                                  · skip
                                    have hin : thereL Lm2 x.a = false := by simpa using hin
                                    refine WP.region rfl ?_
                                    refine Ops.moveB (e26.trans hv26) ?_
                                    refine Ops.moveB (e27.trans hv27) ?_
                                    refine Ops.neqB Try.underlying4 rfl rfl ?_
                                    refine Ops.moveB rfl ?_
                                    refine Ops.guardT rfl rfl (by simp) ?_
                                    refine Ops.moveB (e26.trans hv26) ?_
                                    refine Ops.guardT rfl rfl (by simp) ?_
                                    refine Ops.moveB rfl ?_
                                    refine Ops.guardFd rfl rfl hin ?_
                                    refine Ops.guardFd rfl rfl hin ?_
                                    refine Ops.guardFd rfl rfl hin ?_
                                    refine Ops.guardFd rfl rfl hin ?_
                                    refine Ops.guardFd rfl rfl hin ?_
                                    refine Ops.guardFd rfl rfl hin ?_
                                    refine Ops.guardFd rfl rfl hin ?_
                                    refine Ops.guardFd rfl rfl hin ?_
                                    refine Ops.guardT rfl rfl (by simp) ?_
                                    refine Ops.pickFB rfl hin rfl ?_
                                    refine Ops.pickFB rfl (by simp) rfl ?_
                                    refine Ops.moveB rfl ?_
                                    refine Ops.guardT rfl rfl rfl ?_
                                    refine Ops.moveB (e26.trans hv26) ?_
                                    refine Ops.guardT rfl rfl rfl ?_
                                    refine Ops.not rfl ?_
                                    refine Ops.guardT rfl rfl rfl ?_
                                    refine Ops.moveB rfl ?_
                                    refine Ops.guardT rfl rfl (by simp [hin]) ?_
                                    refine Ops.moveI (e25.trans hv25) ?_
                                    refine Ops.guardT rfl rfl (by simp [hin]) ?_
                                    refine Ops.neqI rfl rfl ?_
                                    refine Ops.guardT rfl rfl rfl ?_
                                    refine Ops.pickTB rfl (by simp [hin]) rfl ?_
                                    refine Ops.pickFB rfl rfl rfl ?_
                                    refine Ops.moveB rfl ?_
                                    refine Ops.guardT rfl rfl (decide_eq_false (by rw [hin]; simp)) ?_
                                    refine Ops.moveP (e12.trans hv12) ?_
                                    refine Ops.guardT rfl rfl (decide_eq_false (by rw [hin]; simp)) ?_
                                    refine Ops.callF (count_spec hS hHk2 (fun y hy => by simp [hy])) ?_
                                    rintro v354 w ⟨I, hI, hS, rfl⟩
                                    replace hh6 := Ghost.le.trans' hI hh6
                                    replace hb17 := hI _ _ hb17
                                    replace hh15 := Ghost.le.trans' hI hh15
                                    replace hle := hle.trans hI
                                    refine Ops.guardT rfl rfl (decide_eq_false (by rw [hin]; simp)) ?_
                                    refine Ops.moveS (e5.trans hv5) ?_
                                    refine Ops.guardT rfl rfl (decide_eq_false (by rw [hin]; simp)) ?_
                                    refine Ops.lenS Try.underlying22 rfl ?_
                                    refine Ops.guardT rfl rfl (decide_eq_false (by rw [hin]; simp)) ?_
                                    refine Ops.neqI rfl rfl ?_
                                    refine Ops.pickFB rfl (decide_eq_false (by rw [hin]; simp)) rfl ?_
                                    refine Ops.nil ?_
                                    exact ⟨_, hh15, hS, joinB rfl (by simp), e5, e12, e126, e127, e128, trivial⟩
                                · skip
                                  rintro ρ w ⟨I, hI, hS, e358, e5, e12, e126, e127, e128, _⟩
                                  replace hh6 := Ghost.le.trans' hI hh6
                                  replace hb17 := hI _ _ hb17
                                  replace hle := hle.trans hI
                                  refine WP.condIsF e358 rfl ?_
                                  refine WP.skip ?_
                                  refine WP.region rfl ?_
                                  refine Ops.add (e128.trans hv128) rfl (by unfold I64; omega) ?_
                                  refine Ops.moveI rfl ?_
                                  refine Ops.nil ?_
                                  refine ⟨q + 1, ⟨_, Lm2, am2, cm2, Xm2, Xk2, hz6.trans hh6, hS, rfl, (e5.trans hv5), e12, e126, e127, ⟨hTm2, hHk2, hSm2, hq2⟩⟩, by omega⟩
                      · skip
                        have hl32 := hSm.1
                        refine WP.exit ?_
                        refine WP.seq ?_
                        refine WP.region rfl ?_
                        refine Ops.moveP (e12.trans hv12) ?_
                        refine Ops.callF (all_spec hS hHk (fun y hy => by simp [hy]) hSm.bd) ?_
                        rintro v361 w ⟨I, Z, aa, ca, hI, hS, hTa, rfl⟩
                        replace hle := hle.trans hI
                        refine Ops.assignS rfl ?_
                        refine Ops.nil ?_
                        refine WP.seq ?_
                        refine WP.seq ?_
                        refine WP.region rfl ?_
                        refine Ops.moveS rfl ?_
                        refine Ops.lenS Try.underlying22 rfl ?_
                        refine Ops.moveS e5 ?_
                        refine Ops.lenS Try.underlying22 rfl ?_
                        refine Ops.neqI rfl rfl ?_
                        refine Ops.nil ?_
                        refine WP.condIsF rfl (decide_eq_false (by simp)) ?_
                        refine WP.skip ?_
                        refine WP.seq ?_
                        refine WP.seq ?_
                        refine WP.region rfl ?_
                        refine Ops.moveS e5 ?_
                        refine Ops.lenS Try.underlying22 rfl ?_
                        refine Ops.moveI rfl ?_
                        refine Ops.nil ?_
                        refine WP.block ?_
                        refine WP.env (fun ρ hρ => ?_)
                        obtain ⟨v5, e5, hv5⟩ := nm2 ((congrFun hρ 5).trans e5)
                        replace e12 := (congrFun hρ 12).trans e12
                        obtain ⟨v28, e28, hv28⟩ := nm hρ 28
                        obtain ⟨v368, e368, hv368⟩ := nm hρ 368
                        obtain ⟨v369, e369, hv369⟩ := nm hρ 369
                        clear hρ
                        refine WP.loop (fun (k : Nat) ρ2 w2 => ∃ J : Ghost, ∃ (La : List (List Int)) (Z : Own), I.le J ∧ SL J (Z ++ (Xk ++ (Xm ++ O))) E w2 ∧ ρ2 369 = .int .i64 k ∧ ρ2 5 = v5 ∧ ρ2 12 = v12 ∧ ρ2 28 = v28 ∧ ρ2 368 = v368 ∧ (Tab aa ca La Z ∧ La.map List.length = Lm.map List.length ∧ ∀ i j, k ≤ i → cell2 La i j = cell2 Lm i j)) (fun k => Lm.length - k) 0 ?_ ?_
                        · skip
                          exact ⟨I, Lm, Z, Ghost.le.refl _, hS, (e369.trans hv369), e5, e12, e28, e368, ⟨hTa, rfl, fun _ _ _ => rfl⟩⟩
                        · skip
                          rintro k ρ w ⟨I, La, Z, hI, hS, e369, e5, e12, e28, e368, ⟨hTa, hla, hce⟩⟩
                          have hz16 := hI
                          replace hle := hle.trans hI
                          have hh16 := Ghost.le.refl I
                          have hla1 : La.length = Lm.length := by simpa using congrArg List.length hla
                          refine WP.seq ?_
                          refine WP.region rfl ?_
                          refine Ops.lss e369 (e368.trans hv368) ?_
                          refine Ops.nil ?_
                          refine WP.seq ?_
                          refine WP.condP rfl (fun c3 => ?_) (fun c3 => ?_)
                          · skip
                            have hk2 : k < Lm.length := by omega
                            have hk3 : k < La.length := by omega
                            have hlk : La[k].length = Lm[k].length := by
                              have := congrArg (fun x => x[k]?) hla
                              simpa [hk2, hk3] using this
                            have hr64 := hSm.2 _ (List.getElem_mem hk2)
                            refine WP.skip ?_
                            refine WP.seq ?_
                            refine WP.block ?_
                            refine WP.seq ?_
                            refine WP.region rfl ?_
                            refine Ops.moveI e369 ?_
                            refine Ops.assignI rfl ?_
                            refine Ops.nil ?_
                            refine WP.seq ?_
                            refine WP.seq ?_
                            refine WP.env (fun ρ hρ => ?_)
                            replace e5 := (congrFun hρ 5).trans e5
                            replace e12 := (congrFun hρ 12).trans e12
                            replace e28 := (congrFun hρ 28).trans e28
                            obtain ⟨v29, e29, hv29⟩ := nm hρ 29
                            replace e368 := (congrFun hρ 368).trans e368
                            obtain ⟨v369, e369, hv369⟩ := nm2 ((congrFun hρ 369).trans e369)
                            clear hρ
                            refine WP.cut (fun ρ2 w2 => ∃ J : Ghost, I.le J ∧ SL J (Z ++ (Xk ++ (Xm ++ O))) E w2 ∧ ρ2 382 = .bool false ∧ ρ2 5 = v5 ∧ ρ2 12 = v12 ∧ ρ2 28 = v28 ∧ ρ2 29 = v29 ∧ ρ2 368 = v368 ∧ ρ2 369 = v369 ∧ (True)) ?_ ?_
                            · skip
                              have hh17 := Ghost.le.refl I
                              have hsa := Tab.sl (I := I) (O := Z ++ (Xk ++ (Xm ++ O))) hTa (fun y hy => by simp [hy])
                              rw [hla1] at hsa
                              have hd := Ghost.le.refl I
                              refine WP.regionDraw (fun w2 => ∃ J O2, I.le J ∧ SL J O2 E w2 ∧ (∀ x ∈ (Z ++ (Xk ++ (Xm ++ O)) : Own), x ∈ O2)) (fun j => false) (by kernel_rfl) rfl ?_
                              intro w hw
                              have hS := (hw ▸ hS.drew : SL I _ E w)
                              refine AnyV.take (i := 0) rfl (by kernel_rfl) (by kernel_rfl) (by kernel_rfl) (by kernel_rfl) ⟨I, _, hd, hS, (fun _ h => h)⟩ (fun w hW => Run.moveS (e28.trans hv28)) ?_
                              refine AnyV.take (i := 1) rfl (by kernel_rfl) (by kernel_rfl) (by kernel_rfl) (by kernel_rfl) ⟨I, _, hd, hS, (fun _ h => h)⟩ (fun w hW => Run.moveI (e29.trans hv29)) ?_
                              refine AnyV.take (i := 5) rfl (by kernel_rfl) (by kernel_rfl) (by kernel_rfl) (by kernel_rfl) ⟨I, _, hd, hS, (fun _ h => h)⟩ (fun w hW => Run.moveS (e5.trans hv5)) ?_
                              refine AnyV.take (i := 6) rfl (by kernel_rfl) (by kernel_rfl) (by kernel_rfl) (by kernel_rfl) ⟨I, _, hd, hS, (fun _ h => h)⟩ (fun w hW => Run.moveI (e29.trans hv29)) ?_
                              obtain ⟨b374, off374, u374, har374, hjn374, hu374, hat374⟩ := Run.elem1 (P := Try.prog) (e := 25) (j := k) hS Try.isAgg25 (List.getElem?_eq_getElem hk3) hsa
                              obtain ⟨ar, nr, cr, e, hr⟩ := hu374
                              cases e
                              refine AnyV.take (i := 2) rfl (by kernel_rfl) (by kernel_rfl) (by kernel_rfl) (by kernel_rfl) ⟨I, _, hd, hS, (fun _ h => h)⟩ (fun w hW => Run.idxE (j := k) (k := 1) Try.underlying22 Try.sizeOf25 rfl har374 rfl rfl hjn374) ?_
                              refine AnyV.take (i := 3) rfl (by kernel_rfl) (by kernel_rfl) (by kernel_rfl) (by kernel_rfl) ⟨I, _, hd, hS, (fun _ h => h)⟩ (fun w hW => by obtain ⟨J, O2, hJ, hS, hM0⟩ := hW; exact Run.load1 Try.isAgg25 hS rfl (hat374.mono' hJ hM0)) ?_
                              refine AnyV.take (i := 4) rfl (by kernel_rfl) (by kernel_rfl) (by kernel_rfl) (by kernel_rfl) ⟨I, _, hd, hS, (fun _ h => h)⟩ (fun w hW => Run.lenS Try.underlying25 rfl) ?_
                              obtain ⟨b379, off379, u379, har379, hjn379, hu379, hat379⟩ := Run.elem1 (P := Try.prog) (e := 25) (j := k) hS Try.isAgg25 (List.getElem?_eq_getElem hk2) (Tab.sl hTm (fun y hy => by simp [hy]))
                              obtain ⟨ar2, nr2, cr2, e, hr2⟩ := hu379
                              cases e
                              refine AnyV.take (i := 7) rfl (by kernel_rfl) (by kernel_rfl) (by kernel_rfl) (by kernel_rfl) ⟨I, _, hd, hS, (fun _ h => h)⟩ (fun w hW => Run.idxE (j := k) (k := 1) Try.underlying22 Try.sizeOf25 rfl har379 rfl rfl hjn379) ?_
                              refine AnyV.take (i := 8) rfl (by kernel_rfl) (by kernel_rfl) (by kernel_rfl) (by kernel_rfl) ⟨I, _, hd, hS, (fun _ h => h)⟩ (fun w hW => by obtain ⟨J, O2, hJ, hS, hM0⟩ := hW; exact Run.load1 Try.isAgg25 hS rfl (hat379.mono' hJ hM0)) ?_
                              refine AnyV.one (i := 9) rfl (by kernel_rfl) ?_
                              refine Ops.lenS Try.underlying25 rfl ?_
                              refine Ops.nil ?_
                              refine ⟨.inr ⟨I, _, hd, hS, (fun _ h => h)⟩, ?_⟩
                              refine AnyV.one (i := 10) rfl (by kernel_rfl) ?_
                              refine Ops.neqI rfl rfl ?_
                              refine Ops.nil ?_
                              refine ⟨.inr ⟨I, _, hd, hS, (fun _ h => h)⟩, ?_⟩
                              refine AnyV.done (by kernel_rfl) ?_
                              exact ⟨_, hh17, hS, joinB rfl (by rw [hr.1, hr2.1, hlk]; simp), e5, e12, e28, e29, e368, e369, trivial⟩
                            · skip
                              rintro ρ w ⟨I, hI, hS, e382, e5, e12, e28, e29, e368, e369, _⟩
                              replace hh16 := Ghost.le.trans' hI hh16
                              replace hle := hle.trans hI
                              refine WP.condIsF e382 rfl ?_
                              refine WP.skip ?_
                              refine WP.seq ?_
                              refine WP.region rfl ?_
                              refine Ops.moveS (e5.trans hv5) ?_
                              refine Ops.moveI (e29.trans hv29) ?_
                              refine Ops.elem1 (j := k) Try.underlying22 Try.sizeOf25 Try.isAgg25 hS rfl rfl (by first | rfl | omega | simp) ((List.getElem?_eq_getElem hk2)) (Tab.sl hTm (fun y hy => by simp [hy])) ?_
                              rintro p385 l385 hl385 ⟨ar, nr, cr, e, hr⟩
                              cases e
                              have hrn := hr.1
                              refine Ops.lenS Try.underlying25 rfl ?_
                              refine Ops.moveI rfl ?_
                              refine Ops.nil ?_
                              refine WP.block ?_
                              refine WP.env (fun ρ hρ => ?_)
                              replace e5 := (congrFun hρ 5).trans e5
                              replace e12 := (congrFun hρ 12).trans e12
                              replace e28 := (congrFun hρ 28).trans e28
                              replace e29 := (congrFun hρ 29).trans e29
                              replace e368 := (congrFun hρ 368).trans e368
                              replace e369 := (congrFun hρ 369).trans e369
                              obtain ⟨v387, e387, hv387⟩ := nm hρ 387
                              obtain ⟨v388, e388, hv388⟩ := nm hρ 388
                              clear hρ
                              refine WP.loop (fun (j : Nat) ρ2 w2 => ∃ J : Ghost, ∃ (La : List (List Int)) (Z : Own), I.le J ∧ SL J (Z ++ (Xk ++ (Xm ++ O))) E w2 ∧ ρ2 388 = .int .i64 j ∧ ρ2 5 = v5 ∧ ρ2 12 = v12 ∧ ρ2 28 = v28 ∧ ρ2 29 = v29 ∧ ρ2 368 = v368 ∧ ρ2 369 = v369 ∧ ρ2 387 = v387 ∧ (Tab aa ca La Z ∧ La.map List.length = Lm.map List.length ∧ (∀ i j, k < i → cell2 La i j = cell2 Lm i j) ∧ ∀ j', j ≤ j' → cell2 La k j' = cell2 Lm k j')) (fun j => Lm[k].length - j) 0 ?_ ?_
                              · skip
                                exact ⟨I, La, Z, Ghost.le.refl _, hS, (e388.trans hv388), e5, e12, e28, e29, e368, e369, e387, ⟨hTa, hla, fun i j h => hce i j (by omega), fun j' _ => hce k j' (Nat.le_refl _)⟩⟩
                              · skip
                                rintro j ρ w ⟨I, La, Z, hI, hS, e388, e5, e12, e28, e29, e368, e369, e387, ⟨hTa, hla, hce1, hce2⟩⟩
                                have hz18 := hI
                                replace hh16 := Ghost.le.trans' hI hh16
                                replace hle := hle.trans hI
                                have hh18 := Ghost.le.refl I
                                have hla1 : La.length = Lm.length := by simpa using congrArg List.length hla
                                have hk3 : k < La.length := by omega
                                have hlk : La[k].length = Lm[k].length := by
                                  have := congrArg (fun x => x[k]?) hla
                                  simpa [hk2, hk3] using this
                                refine WP.seq ?_
                                refine WP.region rfl ?_
                                refine Ops.lss e388 (e387.trans hv387) ?_
                                refine Ops.nil ?_
                                refine WP.seq ?_
                                refine WP.condP rfl (fun c4 => ?_) (fun c4 => ?_)
                                · skip
                                  have hj2 : j < Lm[k].length := by omega
                                  have hj3 : j < La[k].length := by omega
                                  have heq : La[k][j] = Lm[k][j] := by
                                    have := hce2 j (Nat.le_refl _)
                                    simpa [cell2, hk2, hk3, hj2, hj3] using this
                                  refine WP.skip ?_
                                  refine WP.seq ?_
                                  refine WP.block ?_
                                  refine WP.seq ?_
                                  refine WP.region rfl ?_
                                  refine Ops.moveI e388 ?_
                                  refine Ops.assignI rfl ?_
                                  refine Ops.nil ?_
                                  refine WP.seq ?_
                                  refine WP.seq ?_
                                  refine WP.env (fun ρ hρ => ?_)
                                  replace e5 := (congrFun hρ 5).trans e5
                                  replace e12 := (congrFun hρ 12).trans e12
                                  replace e28 := (congrFun hρ 28).trans e28
                                  replace e29 := (congrFun hρ 29).trans e29
                                  obtain ⟨v30, e30, hv30⟩ := nm hρ 30
                                  replace e368 := (congrFun hρ 368).trans e368
                                  replace e369 := (congrFun hρ 369).trans e369
                                  replace e387 := (congrFun hρ 387).trans e387
                                  obtain ⟨v388, e388, hv388⟩ := nm2 ((congrFun hρ 388).trans e388)
                                  clear hρ
                                  refine WP.cut (fun ρ2 w2 => ∃ J : Ghost, I.le J ∧ SL J (Z ++ (Xk ++ (Xm ++ O))) E w2 ∧ ρ2 405 = .bool false ∧ ρ2 5 = v5 ∧ ρ2 12 = v12 ∧ ρ2 28 = v28 ∧ ρ2 29 = v29 ∧ ρ2 30 = v30 ∧ ρ2 368 = v368 ∧ ρ2 369 = v369 ∧ ρ2 387 = v387 ∧ ρ2 388 = v388 ∧ (True)) ?_ ?_
                                  · skip
                                    have hh19 := Ghost.le.refl I
                                    have hsa := Tab.sl (I := I) (O := Z ++ (Xk ++ (Xm ++ O))) hTa (fun y hy => by simp [hy])
                                    rw [hla1] at hsa
                                    have hd := Ghost.le.refl I
                                    refine WP.regionDraw (fun w2 => ∃ J O2, I.le J ∧ SL J O2 E w2 ∧ (∀ x ∈ (Z ++ (Xk ++ (Xm ++ O)) : Own), x ∈ O2)) (fun j => false) (by kernel_rfl) rfl ?_
                                    intro w hw
                                    have hS := (hw ▸ hS.drew : SL I _ E w)
                                    refine AnyV.take (i := 0) rfl (by kernel_rfl) (by kernel_rfl) (by kernel_rfl) (by kernel_rfl) ⟨I, _, hd, hS, (fun _ h => h)⟩ (fun w hW => Run.moveS (e28.trans hv28)) ?_
                                    refine AnyV.take (i := 1) rfl (by kernel_rfl) (by kernel_rfl) (by kernel_rfl) (by kernel_rfl) ⟨I, _, hd, hS, (fun _ h => h)⟩ (fun w hW => Run.moveI (e29.trans hv29)) ?_
                                    refine AnyV.take (i := 4) rfl (by kernel_rfl) (by kernel_rfl) (by kernel_rfl) (by kernel_rfl) ⟨I, _, hd, hS, (fun _ h => h)⟩ (fun w hW => Run.moveI (e30.trans hv30)) ?_
                                    refine AnyV.take (i := 7) rfl (by kernel_rfl) (by kernel_rfl) (by kernel_rfl) (by kernel_rfl) ⟨I, _, hd, hS, (fun _ h => h)⟩ (fun w hW => Run.moveS (e5.trans hv5)) ?_
                                    refine AnyV.take (i := 8) rfl (by kernel_rfl) (by kernel_rfl) (by kernel_rfl) (by kernel_rfl) ⟨I, _, hd, hS, (fun _ h => h)⟩ (fun w hW => Run.moveI (e29.trans hv29)) ?_
                                    refine AnyV.take (i := 11) rfl (by kernel_rfl) (by kernel_rfl) (by kernel_rfl) (by kernel_rfl) ⟨I, _, hd, hS, (fun _ h => h)⟩ (fun w hW => Run.moveI (e30.trans hv30)) ?_
                                    obtain ⟨b393, off393, u393, har393, hjn393, hu393, hat393⟩ := Run.elem1 (P := Try.prog) (e := 25) (j := k) hS Try.isAgg25 (List.getElem?_eq_getElem hk3) hsa
                                    obtain ⟨ar3, nr3, cr3, e, hr3⟩ := hu393
                                    cases e
                                    refine AnyV.take (i := 2) rfl (by kernel_rfl) (by kernel_rfl) (by kernel_rfl) (by kernel_rfl) ⟨I, _, hd, hS, (fun _ h => h)⟩ (fun w hW => Run.idxE (j := k) (k := 1) Try.underlying22 Try.sizeOf25 rfl har393 rfl rfl hjn393) ?_
                                    refine AnyV.take (i := 3) rfl (by kernel_rfl) (by kernel_rfl) (by kernel_rfl) (by kernel_rfl) ⟨I, _, hd, hS, (fun _ h => h)⟩ (fun w hW => by obtain ⟨J, O2, hJ, hS, hM0⟩ := hW; exact Run.load1 Try.isAgg25 hS rfl (hat393.mono' hJ hM0)) ?_
                                    obtain ⟨b396, off396, u396, har396, hjn396, hu396, hat396⟩ := Run.elem1 (P := Try.prog) (e := 2) (j := j) hS Try.isAgg2 (List.getElem?_eq_getElem hj3) hr3
                                    cases hu396
                                    refine AnyV.take (i := 5) rfl (by kernel_rfl) (by kernel_rfl) (by kernel_rfl) (by kernel_rfl) ⟨I, _, hd, hS, (fun _ h => h)⟩ (fun w hW => Run.idxE (j := j) (k := 1) Try.underlying25 Try.sizeOf2 rfl har396 rfl rfl hjn396) ?_
                                    refine AnyV.take (i := 6) rfl (by kernel_rfl) (by kernel_rfl) (by kernel_rfl) (by kernel_rfl) ⟨I, _, hd, hS, (fun _ h => h)⟩ (fun w hW => by obtain ⟨J, O2, hJ, hS, hM0⟩ := hW; exact Run.load1 Try.isAgg2 hS rfl (hat396.mono' hJ hM0)) ?_
                                    obtain ⟨b400, off400, u400, har400, hjn400, hu400, hat400⟩ := Run.elem1 (P := Try.prog) (e := 25) (j := k) hS Try.isAgg25 (List.getElem?_eq_getElem hk2) (Tab.sl hTm (fun y hy => by simp [hy]))
                                    obtain ⟨ar4, nr4, cr4, e, hr4⟩ := hu400
                                    cases e
                                    refine AnyV.take (i := 9) rfl (by kernel_rfl) (by kernel_rfl) (by kernel_rfl) (by kernel_rfl) ⟨I, _, hd, hS, (fun _ h => h)⟩ (fun w hW => Run.idxE (j := k) (k := 1) Try.underlying22 Try.sizeOf25 rfl har400 rfl rfl hjn400) ?_
                                    refine AnyV.take (i := 10) rfl (by kernel_rfl) (by kernel_rfl) (by kernel_rfl) (by kernel_rfl) ⟨I, _, hd, hS, (fun _ h => h)⟩ (fun w hW => by obtain ⟨J, O2, hJ, hS, hM0⟩ := hW; exact Run.load1 Try.isAgg25 hS rfl (hat400.mono' hJ hM0)) ?_
                                    obtain ⟨b403, off403, u403, har403, hjn403, hu403, hat403⟩ := Run.elem1 (P := Try.prog) (e := 2) (j := j) hS Try.isAgg2 (List.getElem?_eq_getElem hj2) hr4
                                    cases hu403
                                    refine AnyV.take (i := 12) rfl (by kernel_rfl) (by kernel_rfl) (by kernel_rfl) (by kernel_rfl) ⟨I, _, hd, hS, (fun _ h => h)⟩ (fun w hW => Run.idxE (j := j) (k := 1) Try.underlying25 Try.sizeOf2 rfl har403 rfl rfl hjn403) ?_
                                    refine AnyV.take (i := 13) rfl (by kernel_rfl) (by kernel_rfl) (by kernel_rfl) (by kernel_rfl) ⟨I, _, hd, hS, (fun _ h => h)⟩ (fun w hW => by obtain ⟨J, O2, hJ, hS, hM0⟩ := hW; exact Run.load1 Try.isAgg2 hS rfl (hat403.mono' hJ hM0)) ?_
                                    refine AnyV.one (i := 14) rfl (by kernel_rfl) ?_
                                    refine Ops.neqI rfl rfl ?_
                                    refine Ops.nil ?_
                                    refine ⟨.inr ⟨I, _, hd, hS, (fun _ h => h)⟩, ?_⟩
                                    refine AnyV.done (by kernel_rfl) ?_
                                    exact ⟨_, hh19, hS, joinB rfl (by rw [heq]; simp), e5, e12, e28, e29, e30, e368, e369, e387, e388, trivial⟩
                                  · skip
                                    rintro ρ w ⟨I, hI, hS, e405, e5, e12, e28, e29, e30, e368, e369, e387, e388, _⟩
                                    replace hh16 := Ghost.le.trans' hI hh16
                                    replace hh18 := Ghost.le.trans' hI hh18
                                    replace hle := hle.trans hI
                                    refine WP.condIsF e405 rfl ?_
                                    obtain ⟨VS, bj, cj, lj, T1, T2, hVS, hVj, hZ, hil, hlj, hset⟩ := Tab.vals hTa hk3 hj3
                                    rw [hZ] at hS hVS
                                    rw [hla1] at hVS
                                    refine WP.skip ?_
                                    refine WP.seq ?_
                                    refine WP.region rfl ?_
                                    refine Ops.moveS (e28.trans hv28) ?_
                                    refine Ops.moveI (e29.trans hv29) ?_
                                    refine Ops.elem1 (j := k) Try.underlying22 Try.sizeOf25 Try.isAgg25 hS rfl rfl (by first | rfl | omega | simp) (hVj) (hVS _ _ (fun y hy => List.mem_append_left _ hy)) ?_
                                    rintro p408 l408 hl408 e
                                    cases e
                                    have hS := (by simpa only [List.append_assoc] using hS : SL I (T1 ++ ([(bj, _)] ++ (T2 ++ (Xk ++ (Xm ++ O))))) E w).swap
                                    refine Ops.moveI (e30.trans hv30) ?_
                                    refine Ops.idx (j := j) (k := 1) Try.underlying25 Try.sizeOf2 rfl rfl rfl hj3 ?_
                                    refine Ops.load1 (v := .int .i64 La[k][j]) Try.isAgg2 hS rfl (.inr ⟨_, _, _, .head _, by rw [List.getElem?_toArray, Nat.zero_add, Nat.mul_one]; exact hlj⟩) ?_
                                    refine Ops.addW rfl rfl ?_
                                    refine Ops.idx (j := j) (k := 1) Try.underlying25 Try.sizeOf2 rfl rfl rfl hj3 ?_
                                    refine Ops.store1 (v := .int .i64 (IntKind.i64.wrap (La[k][j] + 1))) (off := 0 + j * 1) Try.sizeOf2 rfl rfl rfl (by omega) hS ?_
                                    intro w hS
                                    have hS := hS.swap
                                    rw [Nat.zero_add, Nat.mul_one] at hS
                                    have hS := (by simpa only [List.append_assoc] using hS : SL I ((T1 ++ ([(bj, Obj.cells (lj.set j (.int .i64 (IntKind.i64.wrap (La[k][j] + 1)))).toArray 2 (0, 0))] ++ T2)) ++ (Xk ++ (Xm ++ O))) E w)
                                    refine Ops.nil ?_
                                    refine WP.seq ?_
                                    refine WP.region rfl ?_
                                    refine Ops.moveP (e12.trans hv12) ?_
                                    refine Ops.moveI (e29.trans hv29) ?_
                                    refine Ops.moveI (e30.trans hv30) ?_
                                    refine Ops.callF (load_spec hS hHk (fun y hy => by simp [hy]) (k : Int) (j : Int)) ?_
                                    rintro v419 w ⟨I, hI, hS, rfl⟩
                                    replace hh16 := Ghost.le.trans' hI hh16
                                    replace hh18 := Ghost.le.trans' hI hh18
                                    replace hle := hle.trans hI
                                    have hink : inL Lm (k : Int) (j : Int) = true := by
                                      unfold inL thereL rowL
                                      simp [hk2]
                                      omega
                                    have hget : getL Lm (k : Int) (j : Int) = Lm[k][j] := by
                                      unfold getL rowL; simp [hk2, hj2]
                                    refine Ops.moveU rfl ?_
                                    refine Ops.extract0 rfl ?_
                                    refine Ops.extract1 rfl ?_
                                    refine Ops.assignI rfl ?_
                                    refine Ops.assignB rfl ?_
                                    refine Ops.nil ?_
                                    refine WP.seq ?_
                                    refine WP.region rfl ?_
                                    refine Ops.moveI rfl ?_
                                    refine Ops.moveS (e5.trans hv5) ?_
                                    refine Ops.moveI (e29.trans hv29) ?_
                                    refine Ops.elem1 (j := k) Try.underlying22 Try.sizeOf25 Try.isAgg25 hS rfl rfl (by first | rfl | omega | simp) ((List.getElem?_eq_getElem hk2)) (Tab.sl hTm (fun y hy => by simp [hy])) ?_
                                    rintro p425 l425 hl425 ⟨ar5, nr5, cr5, e, hr5⟩
                                    cases e
                                    refine Ops.moveI (e30.trans hv30) ?_
                                    refine Ops.elem1 (j := j) Try.underlying25 Try.sizeOf2 Try.isAgg2 hS rfl rfl (by first | rfl | omega | simp) ((List.getElem?_eq_getElem hj2)) hr5 ?_
                                    rintro p428 l428 hl428 e
                                    cases e
                                    refine Ops.neqI rfl rfl ?_
                                    refine Ops.nil ?_
                                    refine WP.condIsF rfl (decide_eq_false (by rw [if_pos hink, hget]; simp)) ?_
                                    refine WP.skip ?_
                                    refine WP.region rfl ?_
                                    refine Ops.add (e388.trans hv388) rfl (by unfold I64; omega) ?_
                                    refine Ops.moveI rfl ?_
                                    refine Ops.nil ?_
                                    refine ⟨j + 1, ⟨_, _, _, hz18.trans hh18, hS, rfl, e5, e12, e28, e29, e368, e369, e387, ⟨hset _, ?_, ?_, ?_⟩⟩, by omega⟩
                                    · rw [← hla, List.map_set]
                                      simp only [List.length_set]
                                      rw [show La[k].length = (La.map List.length)[k]'(by simpa using hk3) by simp, List.set_getElem_self]
                                    · intro i j' hi
                                      rw [← hce1 i j' hi]
                                      unfold cell2
                                      rw [List.getElem?_set_ne (by omega)]
                                    · intro j' hj'
                                      rw [← hce2 j' (by omega)]
                                      unfold cell2
                                      rw [List.getElem?_set_self hk3, List.getElem?_eq_getElem hk3]
                                      simp only [Option.getD_some]
                                      rw [List.getElem?_set_ne (by omega)]
                                · skip
                                  refine WP.exit ?_
                                  refine WP.region rfl ?_
                                  refine Ops.add (e369.trans hv369) rfl (by unfold I64; omega) ?_
                                  refine Ops.moveI rfl ?_
                                  refine Ops.nil ?_
                                  refine ⟨k + 1, ⟨_, La, Z, hz16.trans hh16, hS, rfl, e5, e12, e28, e368, ⟨hTa, hla, fun i j' h => hce1 i j' (by omega)⟩⟩, by omega⟩
                          · skip
                            refine WP.exit ?_
                            refine WP.seq ?_
                            refine WP.region rfl ?_
                            refine Ops.assignP rfl ?_
                            refine Ops.nil ?_
                            refine WP.seq ?_
                            refine WP.region rfl ?_
                            refine Ops.moveP rfl ?_
                            refine Ops.callF (make_nil hS 1) ?_
                            rintro v435 w ⟨I, hI, hS, rfl⟩
                            replace hle := hle.trans hI
                            refine Ops.moveU rfl ?_
                            refine Ops.extract0 rfl ?_
                            refine Ops.extract1 rfl ?_
                            refine Ops.assignI rfl ?_
                            refine Ops.assignI rfl ?_
                            refine Ops.nil ?_
                            refine WP.seq ?_
                            refine WP.region rfl ?_
                            refine Ops.moveP rfl ?_
                            refine Ops.callF (len_nil hS 0) ?_
                            rintro v440 w ⟨I, hI, hS, rfl⟩
                            replace hle := hle.trans hI
                            refine Ops.moveU rfl ?_
                            refine Ops.extract0 rfl ?_
                            refine Ops.extract1 rfl ?_
                            refine Ops.assignI rfl ?_
                            refine Ops.assignB rfl ?_
                            refine Ops.nil ?_
                            refine WP.seq ?_
                            refine WP.region rfl ?_
                            refine Ops.moveI rfl ?_
                            refine Ops.eqlI rfl rfl ?_
                            refine Ops.moveB rfl ?_
                            refine Ops.guardT rfl rfl rfl ?_
                            refine Ops.moveB rfl ?_
                            refine Ops.guardT rfl rfl rfl ?_
                            refine Ops.not rfl ?_
                            refine Ops.pickTB rfl rfl rfl ?_
                            refine Ops.moveB rfl ?_
                            refine Ops.guardT rfl rfl rfl ?_
                            refine Ops.moveP rfl ?_
                            refine Ops.guardT rfl rfl rfl ?_
                            refine Ops.callF (in_nil hS 0 0) ?_
                            rintro v451 w ⟨I, hI, hS, rfl⟩
                            replace hle := hle.trans hI
                            refine Ops.guardT rfl rfl rfl ?_
                            refine Ops.not rfl ?_
                            refine Ops.pickTB rfl rfl rfl ?_
                            refine Ops.moveB rfl ?_
                            refine Ops.guardT rfl rfl rfl ?_
                            refine Ops.moveP rfl ?_
                            refine Ops.guardT rfl rfl rfl ?_
                            refine Ops.callF (store_nil hS 0 0 0) ?_
                            rintro v456 w ⟨I, hI, hS, rfl⟩
                            replace hle := hle.trans hI
                            refine Ops.guardT rfl rfl rfl ?_
                            refine Ops.not rfl ?_
                            refine Ops.pickTB rfl rfl rfl ?_
                            refine Ops.moveB rfl ?_
                            refine Ops.guardT rfl rfl rfl ?_
                            refine Ops.moveP rfl ?_
                            refine Ops.guardT rfl rfl rfl ?_
                            refine Ops.callF (count_nil hS) ?_
                            rintro v461 w ⟨I, hI, hS, rfl⟩
                            replace hle := hle.trans hI
                            refine Ops.guardT rfl rfl rfl ?_
                            refine Ops.eqlI rfl rfl ?_
                            refine Ops.pickTB rfl rfl rfl ?_
                            refine Ops.moveB rfl ?_
                            refine Ops.guardT rfl rfl rfl ?_
                            refine Ops.moveP rfl ?_
                            refine Ops.guardT rfl rfl rfl ?_
                            refine Ops.callF (all_nil hS) ?_
                            rintro v466 w ⟨I, hI, hS, rfl⟩
                            replace hle := hle.trans hI
                            refine Ops.guardT rfl rfl rfl ?_
                            refine Ops.lenS Try.underlying22 rfl ?_
                            refine Ops.guardT rfl rfl rfl ?_
                            refine Ops.eqlI rfl rfl ?_
                            refine Ops.pickTB rfl rfl rfl ?_
                            refine Ops.moveB rfl ?_
                            refine Ops.guardT rfl rfl rfl ?_
                            refine Ops.moveP rfl ?_
                            refine Ops.guardT rfl rfl rfl ?_
                            refine Ops.callF (copy_nil hS) ?_
                            rintro v472 w ⟨I, hI, hS, rfl⟩
                            replace hle := hle.trans hI
                            refine Ops.guardT rfl rfl rfl ?_
                            refine Ops.eqNilP Try.underlying26 rfl rfl ?_
                            refine Ops.pickTB rfl rfl rfl ?_
                            refine Ops.assignB rfl ?_
                            refine Ops.nil ?_
                            refine WP.ret ?_
                            repeat (first | refine seqQ_ret ?_ | refine blockQ_ret ?_)
                            refine fin1 (v := .bool _) rfl ?_
                            exact ⟨I, hle, hS.dropAll.dropAll.dropAll, rfl⟩

end Go.Proofs.Ytjgcokmgngdkeaa
