/- Two lists made one. No conditions but bounds. -/
import Derived.Test.YtdkhlgiohpdihaaGreatDoorZi
import Derived.Lib.AppendZeros
import Derived.Test.YtdkhlgiohpdihaaGreatDoorZh
set_option linter.unusedVariables false
set_option linter.unusedSimpArgs false
set_option linter.unusedSectionVars false
namespace Go.Proofs.YtdkhlgiohpdihaaGreatDoor
open Go.Proofs Go.Lib Go.Shelf Go.RowKit
set_option maxRecDepth 20000
variable {E : World}
def cellU : AV := .ext fun _ _ => True
theorem cellU_rep {I : G} {x : AV} {v : Value} (h : RepV I x v) (hc : x.cell = true) : RepV I cellU v := ⟨AV.cell_rep h hc, fun _ _ => trivial⟩
def optG {α : Type} (g : α → AV) : Option α → AV
  | none => .agg [cellU, cellU, cellU]
  | some x => g x
def OptG {α : Type} (g : α → AV) (o : Option α) : AV → OL → Prop := fun x _ => ∃ a b c, x = .tup [.agg [a, b, c], .bool o.isSome] ∧ (a.cell = true ∧ b.cell = true ∧ c.cell = true) ∧ ∀ i, o = some i → .agg [a, b, c] = g i
theorem optG_ret {α : Type} {g : α → AV} {o : Option α} {a b c : AV} {t : Bool} {O : OL} (hb : t = o.isSome) (hy : ∀ i, o = some i → .agg [a, b, c] = g i) (h1 : a.cell = true := by rfl) (h2 : b.cell = true := by rfl) (h3 : c.cell = true := by rfl) : OptG g o (.tup [.agg [a, b, c], .bool t]) O := ⟨a, b, c, by rw [hb], ⟨h1, h2, h3⟩, hy⟩
theorem optG_none {α : Type} {g : α → AV} {o : Option α} {a b c : AV} {O : OL} (h : o = none) (h1 : a.cell = true := by rfl) (h2 : b.cell = true := by rfl) (h3 : c.cell = true := by rfl) : OptG g o (.tup [.agg [a, b, c], .bool false]) O := optG_ret (by rw [h]; rfl) (fun i e => by rw [h] at e; cases e) h1 h2 h3
theorem AFun.optG {α : Type} {g : α → AV} {f : FuncId} {xs : List AV} {o : Option α} (h : ACall Tryz.prog E f xs [] (OptG g o)) : AFun Tryz.prog E f xs (.tup [Go.Proofs.YtdkhlgiohpdihaaGreatDoor.optG g o, .bool o.isSome]) :=
  ACall.know h fun I F w v x O' ⟨a, b, c, hx, hc, hy⟩ hr hs => ⟨I, .tup [Go.Proofs.YtdkhlgiohpdihaaGreatDoor.optG g o, .bool o.isSome], O', .refl _, by
    subst hx
    obtain ⟨vs, e, v1, us, e2, h1, h2⟩ := hr
    refine ⟨vs, e, v1, us, e2, ?_, h2⟩
    cases o with
    | none =>
      obtain ⟨ws, e3, w1, u1, e4, g1, w2, u2, e5, g2, w3, u3, e6, g3, g4⟩ := h1
      exact ⟨ws, e3, w1, u1, e4, cellU_rep g1 hc.1, w2, u2, e5, cellU_rep g2 hc.2.1, w3, u3, e6, cellU_rep g3 hc.2.2, g4⟩
    | some i => rw [hy i rfl] at h1; exact h1, hs, rfl⟩
def funcS : ByteArray := ⟨#[102, 117, 110, 99]⟩
abbrev PLine := Int × List ByteArray
def runLines : PProg → List PLine → Option PProg
  | S, [] => some S
  | S, l :: ls => (lineP S l.2).bind fun S' => runLines S' ls
def endP (S : PProg) : Option PProg := S.cur.bind fun b => if b.1.ended = true then some S else none
def start (ws : List ByteArray) : PProg := ⟨varsOf (ws.drop 1), [], [], none⟩
def tgt (l0 : PLine) (rest : List PLine) : Option PProg := if varsOk (l0.2.drop 1) = true then runLines (start l0.2) rest else none
def readP : List PLine → Option PProg
  | [] => none
  | l0 :: rest => if atW l0.2 0 = funcS then (tgt l0 rest).bind endP else none
def blocksOf (S : PProg) : List (PHead × List PItem) := S.done ++ S.cur.toList
def encP (S : PProg) : AV := .agg [.fro 2 (S.params.map encVar), .fro 2 (S.vars.map encVar), .fro 6 ((blocksOf S).map encPB)]
structure PB (S : PProg) (n : Nat) : Prop where
  inv : S.cur = none → S.done = []
  done : S.done.length ≤ n
  cur : ∀ b, S.cur = some b → b.2.length ≤ n
theorem PB.more {S : PProg} {n : Nat} (h : PB S n) : PB S (n + 1) := ⟨h.1, Nat.le_succ_of_le h.2, fun b hb => Nat.le_succ_of_le (h.3 b hb)⟩
theorem lineB_len {h : PHead} {it : List PItem} {w : List ByteArray} {r : PHead × List PItem} (hr : lineB h it w = some r) : r.2.length ≤ it.length + 1 := by
  unfold lineB at hr
  split at hr
  · cases hr
  · split at hr
    · cases hr; exact Nat.le_succ _
    · split at hr
      · cases hr
      · split at hr
        · cases hr
        · cases hr; simp
theorem PB.step {S S' : PProg} {n : Nat} {w : List ByteArray} (hb : PB S n) (hl : lineP S w = some S') : PB S' (n + 1) := by
  unfold lineP at hl
  have h3 := hb.3
  cases hc : S.cur with
  | none =>
    rw [hc] at hl
    have hd := hb.1 hc
    simp only [lineP0] at hl
    split at hl
    · cases hl; exact ⟨by simp, by simp [hd], by simp⟩
    · split at hl
      · cases hl; exact ⟨fun _ => hd, by simp [hd], by simp [hc]⟩
      · cases hl
  | some b =>
    rw [hc] at hl
    have hb3 := h3 b hc
    have hb2 := hb.2
    simp only [lineP1] at hl
    split at hl
    · split at hl
      · cases hl; exact ⟨by simp, by simp; omega, by simp⟩
      · cases hl
    · cases hr : lineB b.1 b.2 w with
      | none => rw [hr] at hl; cases hl
      | some r =>
        rw [hr] at hl; cases hl
        have := lineB_len hr
        exact ⟨by simp, by simp; omega, by simp; omega⟩
theorem lineP_vars {S S' : PProg} {w : List ByteArray} (hl : lineP S w = some S') : S'.vars.length ≤ S.vars.length + w.length ∧ S'.params = S.params := by
  unfold lineP at hl
  cases hc : S.cur with
  | none =>
    rw [hc] at hl
    simp only [lineP0] at hl
    split at hl
    · cases hl; exact ⟨Nat.le_add_right _ _, rfl⟩
    · split at hl
      · cases hl
        refine ⟨?_, rfl⟩
        have : (varsOf (w.drop 1)).length ≤ w.length := by unfold varsOf; split <;> simp
        simp only [List.length_append]; omega
      · cases hl
  | some b =>
    rw [hc] at hl
    simp only [lineP1] at hl
    split at hl
    · split at hl
      · cases hl; exact ⟨Nat.le_add_right _ _, rfl⟩
      · cases hl
    · cases hr : lineB b.1 b.2 w with
      | none => rw [hr] at hl; cases hl
      | some r => rw [hr] at hl; cases hl; exact ⟨Nat.le_add_right _ _, rfl⟩
def words (ls : List PLine) : Nat := (ls.map fun l => l.2.length).sum
theorem words_drop {ls : List PLine} {k : Nat} (h : k < ls.length) : words (ls.drop k) = ls[k].2.length + words (ls.drop (k + 1)) := by
  unfold words; rw [List.drop_eq_getElem_cons h, List.map_cons, List.sum_cons]
theorem run_step {S S' : PProg} {ls : List PLine} {k : Nat} (h : k < ls.length) (hl : lineP S ls[k].2 = some S') : runLines S (ls.drop k) = runLines S' (ls.drop (k + 1)) := by
  rw [List.drop_eq_getElem_cons h, runLines, hl]; rfl
theorem run_fail {S : PProg} {ls : List PLine} {k : Nat} (h : k < ls.length) (hl : lineP S ls[k].2 = none) : runLines S (ls.drop k) = none := by
  rw [List.drop_eq_getElem_cons h, runLines, hl]; rfl
structure RInv (l0 : PLine) (rest : List PLine) (k : Nat) (ok : Bool) (S : PProg) : Prop where
  hk : k ≤ rest.length
  pb : PB S k
  vars : S.vars.length + words (rest.drop k) ≤ 1000000000
  yes : ok = true → runLines S (rest.drop k) = tgt l0 rest
  no : ok = false → tgt l0 rest = none
def NEL (ls : List PLine) : Prop := ∀ l ∈ ls, 0 < l.2.length ∧ l.2.length ≤ 100000 ∧ ∀ x ∈ l.2, x.size ≤ 100000
theorem readR (ls : List PLine) (hl : ls.length ≤ 100000) (hw : words ls ≤ 1000000000) (hs : NEL ls) (hL : Letters E) (hT : Pows E) (hV : Vars0 E) :
    ACall Tryz.prog E 18 [.fro 2 (ls.map encLine)] [] (OptG encP (readP ls)) := by
  refine ACall.intro Tryz.func18 rfl (by decide) rfl ?_
  refine AWP.seq ?_
  refine AWP.region rfl ?_
  refine AOps.alloc (cs := [.raw (.slice none 0 0), .raw (.slice none 0 0), .raw (.slice none 0 0)]) Tryz.zeroValue56 rfl rfl ?_
  intro i2
  refine AOps.val (Gv.assign (v := .bool _) rfl) ?_
  refine AOps.nil ?_
  refine AWP.seq ?_
  refine AWP.region rfl ?_
  refine AOps.alloc (cs := [.raw (.slice none 0 0), .raw (.slice none 0 0), .raw (.slice none 0 0)]) Tryz.zeroValue56 rfl rfl ?_
  intro i4
  refine AOps.nil ?_
  refine AWP.seq ?_
  refine AWP.seq ?_
  refine AWP.region rfl ?_
  refine AOps.val (Gv.move (v := .fro _ _) rfl) ?_
  refine AOps.val (Gv.lenM Tryz.underlying51 rfl) ?_
  refine AOps.val (Gv.eqlI rfl rfl) ?_
  refine AOps.val (Gv.move (v := .bool _) rfl) ?_
  rcases ls with _ | ⟨l0, rest⟩
  · skip
    refine AOps.guardFd rfl rfl rfl ?_
    refine AOps.guardFd rfl rfl rfl ?_
    refine AOps.guardFd rfl rfl rfl ?_
    refine AOps.guardFd rfl rfl rfl ?_
    refine AOps.guardFd rfl rfl rfl ?_
    refine AOps.guardFd rfl rfl rfl ?_
    refine AOps.guardFd rfl rfl rfl ?_
    refine AOps.val (Gv.pickT (v := .bool _) rfl rfl rfl) ?_
    refine AOps.nil ?_
    refine AWP.condT rfl rfl ?_
    refine AWP.seq ?_
    refine AWP.region rfl ?_
    refine AOps.val (Gv.loadWC Tryz.isAgg56 Tryz.sizeOf56 rfl ⟨_, .head⟩ rfl) ?_
    refine AOps.storeW Tryz.sizeOf56 rfl rfl rfl rfl rfl rfl (.tail .head) rfl ?_
    refine AOps.val (Gv.assign (v := .bool _) rfl) ?_
    refine AOps.nil ?_
    refine AWP.ret ?_
    repeat (first | refine aseqQ_ret ?_ | refine ablockQ_ret ?_)
    refine afin.c1t (y := .bool _) rfl rfl ⟨_, (.tail .head)⟩ Tryz.isAgg56 Tryz.sizeOf56 rfl ?_
    exact optG_none rfl
  · skip
    obtain ⟨hn1, hn2, hn3⟩ := hs l0 (.head _)
    have hsr : NEL rest := fun l h => hs l (.tail _ h)
    have hlr : rest.length ≤ 100000 := by simp at hl; omega
    have hwr : l0.2.length + words rest ≤ 1000000000 := by unfold words at hw ⊢; simpa using hw
    refine AOps.guardT rfl rfl (by simp; omega) ?_
    refine AOps.val (Gv.move (v := .fro _ _) rfl) ?_
    refine AOps.guardT rfl rfl (by simp; omega) ?_
    refine AOps.val (Gv.idxM (j := 0) Tryz.underlying51 Tryz.sizeOf100 rfl rfl rfl rfl) ?_
    refine AOps.guardT rfl rfl (by simp; omega) ?_
    refine AOps.val (Gv.fieldF Tryz.underlying100 rfl Tryz.sizeOf62 (by decide) rfl rfl) ?_
    refine AOps.guardT rfl rfl (by simp; omega) ?_
    refine AOps.val (Gv.load1F (c := .fro _ _) Tryz.isAgg62 rfl) ?_
    refine AOps.guardT rfl rfl (by simp; omega) ?_
    refine AOps.val (Gv.idxM (j := 0) Tryz.underlying62 Tryz.sizeOf9 rfl rfl rfl (atW_get hn1)) ?_
    refine AOps.guardT rfl rfl (by simp; omega) ?_
    refine AOps.val (Gv.load1F (c := .str _) Tryz.isAgg9 rfl) ?_
    refine AOps.guardT rfl rfl (by simp; omega) ?_
    refine AOps.val (Gv.neqT rfl rfl) ?_
    refine AOps.val (Gv.pickF (v := .bool _) rfl (by simp; omega) rfl) ?_
    refine AOps.nil ?_
    refine AWP.cond rfl (fun cf => ?_) (fun cf => ?_)
    · skip
      have hf : ¬ atW l0.2 0 = funcS := by unfold funcS; simpa using cf
      refine AWP.seq ?_
      refine AWP.region rfl ?_
      refine AOps.val (Gv.loadWC Tryz.isAgg56 Tryz.sizeOf56 rfl ⟨_, .head⟩ rfl) ?_
      refine AOps.storeW Tryz.sizeOf56 rfl rfl rfl rfl rfl rfl (.tail .head) rfl ?_
      refine AOps.val (Gv.assign (v := .bool _) rfl) ?_
      refine AOps.nil ?_
      refine AWP.ret ?_
      repeat (first | refine aseqQ_ret ?_ | refine ablockQ_ret ?_)
      refine afin.c1t (y := .bool _) rfl rfl ⟨_, (.tail .head)⟩ Tryz.isAgg56 Tryz.sizeOf56 rfl ?_
      exact optG_none (by show (if atW l0.2 0 = funcS then _ else _) = _; rw [if_neg hf])
    · skip
      have hf : atW l0.2 0 = funcS := by unfold funcS; simpa using cf
      have hread : readP (l0 :: rest) = (tgt l0 rest).bind endP := by show (if atW l0.2 0 = funcS then _ else _) = _; rw [if_pos hf]
      refine AWP.skip ?_
      refine AWP.seq ?_
      refine AWP.region rfl ?_
      refine AOps.val (Gv.move (v := .fro _ _) rfl) ?_
      refine AOps.val (Gv.idxM (j := 0) Tryz.underlying51 Tryz.sizeOf100 rfl rfl rfl rfl) ?_
      refine AOps.val (Gv.fieldF Tryz.underlying100 rfl Tryz.sizeOf62 (by decide) rfl rfl) ?_
      refine AOps.val (Gv.load1F (c := .fro _ _) Tryz.isAgg62 rfl) ?_
      refine AOps.val (Gv.cutLoM (j := 1) Tryz.underlying62 Tryz.sizeOf9 rfl rfl rfl (by omega)) ?_
      refine AOps.callP (zvars_spec (l0.2.drop 1) (by simp; omega) (fun x hx => hn3 x (List.mem_of_mem_drop hx)) hL hV) rfl ?_
      refine AOps.val (Gv.move (v := .tup _) rfl) ?_
      refine AOps.val (Gv.extract (v := .fro _ _) rfl rfl) ?_
      refine AOps.val (Gv.extract (v := .bool _) rfl rfl) ?_
      refine AOps.val (Gv.assign (v := .fro _ _) rfl) ?_
      refine AOps.val (Gv.assign (v := .bool _) rfl) ?_
      refine AOps.nil ?_
      refine AWP.seq ?_
      refine AWP.region rfl ?_
      refine AOps.val (Gv.move (v := .fro _ _) rfl) ?_
      refine AOps.val (Gv.fieldO Tryz.underlying56 rfl Tryz.sizeOf23 (by decide) rfl rfl) ?_
      refine AOps.storeC (l := [_]) (new := [_, _, _]) Tryz.sizeOf23 rfl rfl rfl rfl rfl rfl .head rfl rfl ?_
      refine AOps.nil ?_
      refine AWP.seq ?_
      refine AWP.seq ?_
      refine AWP.region rfl ?_
      refine AOps.val (Gv.move (v := .fro _ _) rfl) ?_
      refine AOps.val (Gv.cutLoM (j := 1) Tryz.underlying51 Tryz.sizeOf100 rfl rfl rfl (by simp)) ?_
      refine AOps.val (Gv.lenM Tryz.underlying51 rfl) ?_
      refine AOps.val (Gv.move (v := .int _ _) rfl) ?_
      refine AOps.nil ?_
      refine AWP.block ?_
      refine adoptC_wp (off := 1) (k := 2) (T := 38) (fun _ => .head) rfl ?_
      intro jv
      refine adoptC_wp (off := 2) (k := 6) (T := 106) (fun _ => (.tail .head)) rfl ?_
      intro jl
      refine fresh_wp (k := 1) (T := 145) ?_
      intro ji
      refine GStep.wp (GStep.perm (Pick.perm .head)) ?_
      refine GStep.wp (GStep.perm (Pick.perm (.tail .head))) ?_
      refine GStep.wp (GStep.perm (Pick.perm (.tail (.tail .head)))) ?_
      refine GStep.wp (GStep.perm (Pick.perm (.tail (.tail (.tail .head))))) ?_
      refine GStep.wp (GStep.perm (Pick.perm (.tail (.tail (.tail (.tail .head)))))) ?_
      refine AWP.loop (γ := Nat × Bool × PProg × (Nat × Nat × Nat)) [2, 4, 35, 36] (fun g => [(37, .int .i64 g.1), (6, .bool g.2.1)]) (fun g => (i2, .cells 56 [.raw (.slice none 0 0), .raw (.slice none 0 0), .raw (.slice none 0 0)]) :: progO i4 g.2.2.2 g.2.2.1) (fun g => RInv l0 rest g.1 g.2.1 g.2.2.1) (fun g => rest.length - g.1) (0, varsOk (l0.2.drop 1), start l0.2, (jv, jl, ji)) ⟨rfl, rfl, trivial⟩ ⟨_, (.refl _), rfl⟩ (⟨Nat.zero_le _, ⟨fun _ => rfl, Nat.le_refl _, by intro b h; cases h⟩, by show 0 + _ ≤ _; simp; omega, fun h => by unfold tgt; rw [if_pos h]; rfl, fun h => by have h : varsOk (l0.2.drop 1) = false := h; unfold tgt; rw [if_neg (by rw [h]; simp)]⟩) ?_
      rintro ⟨k, ok, S, jv, jl, ji⟩ hI
      try dsimp only at *
      refine AWP.seq ?_
      refine AWP.region rfl ?_
      refine AOps.val (Gv.lss rfl rfl) ?_
      refine AOps.nil ?_
      refine AWP.seq ?_
      refine AWP.condP rfl (fun ck => ?_) (fun ck => ?_)
      · skip
        have hk2 : k < rest.length := by simp at ck; omega
        obtain ⟨hm1, hm2, hm3⟩ := hsr rest[k] (List.getElem_mem hk2)
        have hwd := words_drop hk2
        have hI3 := hI.vars
        have hsp := pline_spec (E := E) (p := i4) (q := (jv, jl, ji)) S hI.pb.inv rest[k].2 (by have := hI.pb.done; omega) (fun b hb => by have := hI.pb.cur b hb; omega) (by omega) hm1 hm2 hm3 hL hT hV
        refine AWP.skip ?_
        refine AWP.seq ?_
        refine AWP.block ?_
        refine AWP.seq ?_
        refine AWP.region rfl ?_
        refine AOps.val (Gv.idxM (j := k) Tryz.underlying51 Tryz.sizeOf100 rfl rfl rfl (List.getElem?_eq_getElem hk2)) ?_
        refine AOps.val (Gv.loadWF Tryz.isAgg100 Tryz.sizeOf100 rfl rfl) ?_
        refine AOps.alloc (cs := [.int .i64 0, .raw (.slice none 0 0)]) Tryz.zeroValue100 rfl rfl ?_
        intro i8
        refine AOps.storeW Tryz.sizeOf100 rfl rfl rfl rfl rfl rfl .head rfl ?_
        refine AOps.nil ?_
        refine AWP.region rfl ?_
        refine AOps.val (Gv.move (v := .bool _) rfl) ?_
        refine AOps.val (Gv.move (v := .bool _) rfl) ?_
        refine AOps.case (s := 42) rfl (fun co => ?_) (fun co => ?_)
        · skip
          refine AOps.guardT rfl rfl co ?_
          refine AOps.val (Gv.fieldO Tryz.underlying100 rfl Tryz.sizeOf62 (by decide) rfl rfl) ?_
          refine AOps.guardT rfl rfl co ?_
          refine AOps.val (Gv.load1C (c := .fro _ _) Tryz.isAgg62 rfl ⟨_, .head⟩ rfl) ?_
          refine AOps.guardT rfl rfl co ?_
          rcases hp : lineP S rest[k].2 with _ | S'
          · skip
            rw [hp] at hsp
            refine AOps.callA rfl (Part.perm (.r (.r (.l (.l (.l (.l (.rest _)))))))) (hsp) ?_
            rintro r45 O45 ⟨⟨jv2, jl2, ji2⟩, rfl, rfl⟩
            refine GStep.ops (GStep.perm (Pick.perm (.tail (.tail (.tail (.tail (.tail .head))))))) ?_
            refine GStep.ops (GStep.drop (.tail (.tail (.tail (.tail (.tail .head)))))) ?_
            refine AOps.val (Gv.pickT (v := .bool _) rfl co rfl) ?_
            refine AOps.val (Gv.assign (v := .bool _) rfl) ?_
            refine AOps.nil ?_
            refine AWP.region rfl ?_
            refine AOps.val (Gv.add rfl rfl (by unfold I64; omega)) ?_
            refine AOps.val (Gv.move (v := .int _ _) rfl) ?_
            refine AOps.nil ?_
            exact ⟨(k + 1, false, S, (jv2, jl2, ji2)), ⟨rfl, rfl, rfl, rfl, trivial⟩, ⟨rfl, rfl, trivial⟩, ⟨_, (.refl _), rfl⟩, ⟨hk2, hI.pb.more, by dsimp only; omega, fun h => (by cases h), fun _ => by rw [← hI.yes co]; exact run_fail hk2 hp⟩, by dsimp only; omega⟩
          · skip
            rw [hp] at hsp
            have hpv := lineP_vars hp
            refine AOps.callA rfl (Part.perm (.r (.r (.l (.l (.l (.l (.rest _)))))))) (hsp) ?_
            rintro r45 O45 ⟨⟨jv2, jl2, ji2⟩, rfl, rfl⟩
            refine GStep.ops (GStep.perm (Pick.perm (.tail (.tail (.tail (.tail (.tail .head))))))) ?_
            refine GStep.ops (GStep.drop (.tail (.tail (.tail (.tail (.tail .head)))))) ?_
            refine AOps.val (Gv.pickT (v := .bool _) rfl co rfl) ?_
            refine AOps.val (Gv.assign (v := .bool _) rfl) ?_
            refine AOps.nil ?_
            refine AWP.region rfl ?_
            refine AOps.val (Gv.add rfl rfl (by unfold I64; omega)) ?_
            refine AOps.val (Gv.move (v := .int _ _) rfl) ?_
            refine AOps.nil ?_
            exact ⟨(k + 1, true, S', (jv2, jl2, ji2)), ⟨rfl, rfl, rfl, rfl, trivial⟩, ⟨rfl, rfl, trivial⟩, ⟨_, (.refl _), rfl⟩, ⟨hk2, hI.pb.step hp, by dsimp only; omega, fun _ => by rw [← hI.yes co]; exact (run_step hk2 hp).symm, fun h => (by cases h)⟩, by dsimp only; omega⟩
        · skip
          refine AOps.guardFd rfl rfl co ?_
          refine AOps.guardFd rfl rfl co ?_
          refine AOps.guardFd rfl rfl co ?_
          refine AOps.val (Gv.pickF (v := .bool _) rfl co rfl) ?_
          refine AOps.val (Gv.assign (v := .bool _) rfl) ?_
          refine AOps.nil ?_
          refine AWP.region rfl ?_
          refine AOps.val (Gv.add rfl rfl (by unfold I64; omega)) ?_
          refine AOps.val (Gv.move (v := .int _ _) rfl) ?_
          refine AOps.nil ?_
          exact ⟨(k + 1, false, S, (jv, jl, ji)), ⟨rfl, rfl, rfl, rfl, trivial⟩, ⟨rfl, rfl, trivial⟩, ⟨_, (.drop (.refl _)), rfl⟩, ⟨hk2, hI.pb.more, by dsimp only; omega, fun h => (by cases h), fun _ => hI.no co⟩, by dsimp only; omega⟩
      · skip
        obtain rfl : k = rest.length := by have := hI.hk; simp at ck; omega
        have hyes := hI.yes
        have hno := hI.no
        have hinv := hI.pb.inv
        rw [List.drop_length] at hyes
        obtain ⟨params, vars, done, cur⟩ := S
        rcases ok
        · skip
          have hr : readP (l0 :: rest) = none := by rw [hread, hno rfl]; rfl
          refine AWP.exit ?_
          refine AWP.seq ?_
          refine AWP.region rfl ?_
          refine AOps.val (Gv.fieldO Tryz.underlying56 rfl Tryz.sizeOf54 (by decide) rfl rfl) ?_
          refine AOps.val (Gv.load1C (c := .own _ _) Tryz.isAgg54 rfl ⟨_, (.tail .head)⟩ rfl) ?_
          refine AOps.val (Gv.lenO Tryz.underlying54 rfl) ?_
          refine AOps.val (Gv.assign (v := .int _ _) rfl) ?_
          refine AOps.nil ?_
          refine AWP.seq ?_
          refine AWP.regionDraw (fun j => Nat.beq j 15) (by kernel_rfl) rfl (Part.perm (.l (.r (.rest _)))) ?_
          refine AAny.take (i := 0) rfl (by kernel_rfl) (by kernel_rfl) (by kernel_rfl) (by kernel_rfl) (by kernel_rfl) (by kernel_rfl) (Gv.loadWC Tryz.isAgg56 Tryz.sizeOf56 rfl ⟨_, .head⟩ rfl) ?_
          refine AAny.takeK (i := 1) rfl (by kernel_rfl) (by kernel_rfl) (by kernel_rfl) (by kernel_rfl) (Gv.move (v := .bool _) rfl) ?_
          refine AAny.takeK (i := 2) rfl (by kernel_rfl) (by kernel_rfl) (by kernel_rfl) (by kernel_rfl) (Gv.move (v := .bool _) rfl) ?_
          refine AAny.takeKF (i := 3) rfl rfl rfl rfl (by kernel_rfl) (by kernel_rfl) (by kernel_rfl) (by kernel_rfl) ?_
          refine AAny.takeKF (i := 4) rfl rfl rfl rfl (by kernel_rfl) (by kernel_rfl) (by kernel_rfl) (by kernel_rfl) ?_
          refine AAny.takeK (i := 5) rfl (by kernel_rfl) (by kernel_rfl) (by kernel_rfl) (by kernel_rfl) (Gv.pickF (v := .bool _) rfl rfl rfl) ?_
          refine AAny.take (i := 6) rfl (by kernel_rfl) (by kernel_rfl) (by kernel_rfl) (by kernel_rfl) (by kernel_rfl) (by kernel_rfl) (Gv.move (v := .bool _) rfl) ?_
          refine AAny.takeKF (i := 7) rfl rfl rfl rfl (by kernel_rfl) (by kernel_rfl) (by kernel_rfl) (by kernel_rfl) ?_
          refine AAny.takeKF (i := 8) rfl rfl rfl rfl (by kernel_rfl) (by kernel_rfl) (by kernel_rfl) (by kernel_rfl) ?_
          refine AAny.takeKF (i := 9) rfl rfl rfl rfl (by kernel_rfl) (by kernel_rfl) (by kernel_rfl) (by kernel_rfl) ?_
          refine AAny.takeKF (i := 10) rfl rfl rfl rfl (by kernel_rfl) (by kernel_rfl) (by kernel_rfl) (by kernel_rfl) ?_
          refine AAny.takeKF (i := 11) rfl rfl rfl rfl (by kernel_rfl) (by kernel_rfl) (by kernel_rfl) (by kernel_rfl) ?_
          refine AAny.takeKF (i := 12) rfl rfl rfl rfl (by kernel_rfl) (by kernel_rfl) (by kernel_rfl) (by kernel_rfl) ?_
          refine AAny.takeKF (i := 13) rfl rfl rfl rfl (by kernel_rfl) (by kernel_rfl) (by kernel_rfl) (by kernel_rfl) ?_
          refine AAny.takeK (i := 14) rfl (by kernel_rfl) (by kernel_rfl) (by kernel_rfl) (by kernel_rfl) (Gv.pickF (v := .bool _) rfl rfl rfl) ?_
          refine AAny.writes ?_
          refine AAnyW.one (i := 15) rfl (by kernel_rfl) (by kernel_rfl) ?_
          refine AOps.storeW Tryz.sizeOf56 rfl rfl rfl rfl rfl rfl (.tail .head) rfl ?_
          refine AOps.nil ?_
          refine AAnyW.one (i := 16) rfl (by kernel_rfl) (by kernel_rfl) ?_
          refine AOps.val (Gv.assign (v := .bool _) rfl) ?_
          refine AOps.nil ?_
          refine AAnyW.done (by kernel_rfl) ?_
          refine AWP.ret ?_
          repeat (first | refine aseqQ_ret ?_ | refine ablockQ_ret ?_)
          refine afin.c1t (y := .bool _) rfl rfl ⟨_, (.tail .head)⟩ Tryz.isAgg56 Tryz.sizeOf56 rfl ?_
          exact optG_none hr
        · skip
          have hr0 : readP (l0 :: rest) = endP ⟨params, vars, done, cur⟩ := by rw [hread, ← hyes rfl]; rfl
          rcases cur with _ | ⟨h, it⟩
          · skip
            obtain rfl : done = [] := hinv rfl
            refine AWP.exit ?_
            refine AWP.seq ?_
            refine AWP.region rfl ?_
            refine AOps.val (Gv.fieldO Tryz.underlying56 rfl Tryz.sizeOf54 (by decide) rfl rfl) ?_
            refine AOps.val (Gv.load1C (c := .own _ _) Tryz.isAgg54 rfl ⟨_, (.tail .head)⟩ rfl) ?_
            refine AOps.val (Gv.lenO Tryz.underlying54 rfl) ?_
            refine AOps.val (Gv.assign (v := .int _ _) rfl) ?_
            refine AOps.nil ?_
            refine AWP.seq ?_
            refine AWP.regionDraw (fun j => Nat.beq j 15) (by kernel_rfl) rfl (Part.perm (.l (.r (.rest _)))) ?_
            refine AAny.take (i := 0) rfl (by kernel_rfl) (by kernel_rfl) (by kernel_rfl) (by kernel_rfl) (by kernel_rfl) (by kernel_rfl) (Gv.loadWC Tryz.isAgg56 Tryz.sizeOf56 rfl ⟨_, .head⟩ rfl) ?_
            refine AAny.takeK (i := 1) rfl (by kernel_rfl) (by kernel_rfl) (by kernel_rfl) (by kernel_rfl) (Gv.move (v := .bool _) rfl) ?_
            refine AAny.takeK (i := 2) rfl (by kernel_rfl) (by kernel_rfl) (by kernel_rfl) (by kernel_rfl) (Gv.move (v := .bool _) rfl) ?_
            refine AAny.takeKT (i := 3) rfl rfl rfl rfl (by kernel_rfl) (by kernel_rfl) (by kernel_rfl) (by kernel_rfl) (Gv.move (v := .int _ _) rfl) ?_
            refine AAny.takeKT (i := 4) rfl rfl rfl rfl (by kernel_rfl) (by kernel_rfl) (by kernel_rfl) (by kernel_rfl) (Gv.gtr rfl rfl) ?_
            refine AAny.takeK (i := 5) rfl (by kernel_rfl) (by kernel_rfl) (by kernel_rfl) (by kernel_rfl) (Gv.pickT (v := .bool _) rfl rfl rfl) ?_
            refine AAny.take (i := 6) rfl (by kernel_rfl) (by kernel_rfl) (by kernel_rfl) (by kernel_rfl) (by kernel_rfl) (by kernel_rfl) (Gv.move (v := .bool _) rfl) ?_
            refine AAny.takeKF (i := 7) rfl rfl rfl rfl (by kernel_rfl) (by kernel_rfl) (by kernel_rfl) (by kernel_rfl) ?_
            refine AAny.takeKF (i := 8) rfl rfl rfl rfl (by kernel_rfl) (by kernel_rfl) (by kernel_rfl) (by kernel_rfl) ?_
            refine AAny.takeKF (i := 9) rfl rfl rfl rfl (by kernel_rfl) (by kernel_rfl) (by kernel_rfl) (by kernel_rfl) ?_
            refine AAny.takeKF (i := 10) rfl rfl rfl rfl (by kernel_rfl) (by kernel_rfl) (by kernel_rfl) (by kernel_rfl) ?_
            refine AAny.takeKF (i := 11) rfl rfl rfl rfl (by kernel_rfl) (by kernel_rfl) (by kernel_rfl) (by kernel_rfl) ?_
            refine AAny.takeKF (i := 12) rfl rfl rfl rfl (by kernel_rfl) (by kernel_rfl) (by kernel_rfl) (by kernel_rfl) ?_
            refine AAny.takeKF (i := 13) rfl rfl rfl rfl (by kernel_rfl) (by kernel_rfl) (by kernel_rfl) (by kernel_rfl) ?_
            refine AAny.takeK (i := 14) rfl (by kernel_rfl) (by kernel_rfl) (by kernel_rfl) (by kernel_rfl) (Gv.pickF (v := .bool _) rfl rfl rfl) ?_
            refine AAny.writes ?_
            refine AAnyW.one (i := 15) rfl (by kernel_rfl) (by kernel_rfl) ?_
            refine AOps.storeW Tryz.sizeOf56 rfl rfl rfl rfl rfl rfl (.tail .head) rfl ?_
            refine AOps.nil ?_
            refine AAnyW.one (i := 16) rfl (by kernel_rfl) (by kernel_rfl) ?_
            refine AOps.val (Gv.assign (v := .bool _) rfl) ?_
            refine AOps.nil ?_
            refine AAnyW.done (by kernel_rfl) ?_
            refine AWP.ret ?_
            repeat (first | refine aseqQ_ret ?_ | refine ablockQ_ret ?_)
            refine afin.c1t (y := .bool _) rfl rfl ⟨_, (.tail .head)⟩ Tryz.isAgg56 Tryz.sizeOf56 rfl ?_
            exact optG_none hr0
          · skip
            have hr : readP (l0 :: rest) = (if h.ended = true then some ⟨params, vars, done, some (h, it)⟩ else none) := by rw [hr0]; rfl
            refine GStep.wp (GStep.knowL (off := 1) (rows := it.map encItem) (.tail (.tail (.tail (.tail .head)))) (.tail (.tail (.tail .head))) rfl (by intro r hr; obtain ⟨x, _, rfl⟩ := List.mem_map.1 hr; exact encItem_len x) (by decide) (by simp)) ?_
            refine GStep.wp (GStep.eq (show _ = ([(i2, .cells 56 [.raw (.slice none 0 0), .raw (.slice none 0 0), .raw (.slice none 0 0)]), (i4, .cells 56 [.fro 2 (params.map encVar), .own jv vars.length, .own jl (done.length + 1)]), (jv, .grow 2 38 (vars.map encVar).flatten), (jl, .grow 6 106 ((done ++ [(h, it)]).map encPB).flatten)] : OL) from (by rw [List.map_append, List.flatten_append]; rfl))) ?_
            refine GStep.wp (GStep.knowC (off := 2) (rows := (done ++ [(h, it)]).map encPB) (.tail (.tail (.tail .head))) (.tail .head) rfl (by intro r hr; obtain ⟨x, _, rfl⟩ := List.mem_map.1 hr; rfl) (by decide) (by simp)) ?_
            refine GStep.wp (GStep.knowC (off := 1) (rows := vars.map encVar) (.tail (.tail .head)) (.tail .head) rfl (by intro r hr; obtain ⟨x, _, rfl⟩ := List.mem_map.1 hr; rfl) (by decide) (by simp)) ?_
            have hdl : (done ++ [(h, it)]).length ≤ 100001 := by have : done.length ≤ _ := hI.pb.done; simp; omega
            refine GStep.wp (GStep.knowP (t := 4) rfl (.tail .head)) ?_
            refine AWP.exit ?_
            refine AWP.seq ?_
            refine AWP.region rfl ?_
            refine AOps.val (Gv.fieldF Tryz.underlying56 rfl Tryz.sizeOf54 (by decide) rfl rfl) ?_
            refine AOps.val (Gv.load1F (c := .fro _ _) Tryz.isAgg54 rfl) ?_
            refine AOps.val (Gv.lenM Tryz.underlying54 rfl) ?_
            refine AOps.val (Gv.assign (v := .int _ _) rfl) ?_
            refine AOps.nil ?_
            refine AWP.seq ?_
            refine AWP.regionDraw (fun j => Nat.beq j 15) (by kernel_rfl) rfl (Part.perm (.rest _)) ?_
            refine AAny.take (i := 0) rfl (by kernel_rfl) (by kernel_rfl) (by kernel_rfl) (by kernel_rfl) (by kernel_rfl) (by kernel_rfl) (Gv.loadWF Tryz.isAgg56 Tryz.sizeOf56 rfl rfl) ?_
            refine AAny.takeK (i := 1) rfl (by kernel_rfl) (by kernel_rfl) (by kernel_rfl) (by kernel_rfl) (Gv.move (v := .bool _) rfl) ?_
            refine AAny.takeK (i := 2) rfl (by kernel_rfl) (by kernel_rfl) (by kernel_rfl) (by kernel_rfl) (Gv.move (v := .bool _) rfl) ?_
            refine AAny.takeKT (i := 3) rfl rfl rfl rfl (by kernel_rfl) (by kernel_rfl) (by kernel_rfl) (by kernel_rfl) (Gv.move (v := .int _ _) rfl) ?_
            refine AAny.takeKT (i := 4) rfl rfl rfl rfl (by kernel_rfl) (by kernel_rfl) (by kernel_rfl) (by kernel_rfl) (Gv.gtr rfl rfl) ?_
            refine AAny.takeK (i := 5) rfl (by kernel_rfl) (by kernel_rfl) (by kernel_rfl) (by kernel_rfl) (Gv.pickT (v := .bool _) rfl rfl rfl) ?_
            refine AAny.take (i := 6) rfl (by kernel_rfl) (by kernel_rfl) (by kernel_rfl) (by kernel_rfl) (by kernel_rfl) (by kernel_rfl) (Gv.move (v := .bool _) rfl) ?_
            refine AAny.takeKT (i := 7) rfl rfl rfl (by simp) (by kernel_rfl) (by kernel_rfl) (by kernel_rfl) (by kernel_rfl) (Gv.fieldF Tryz.underlying56 rfl Tryz.sizeOf54 (by decide) rfl rfl) ?_
            refine AAny.takeKT (i := 8) rfl rfl rfl (by simp) (by kernel_rfl) (by kernel_rfl) (by kernel_rfl) (by kernel_rfl) (Gv.load1F (c := .fro _ _) Tryz.isAgg54 rfl) ?_
            refine AAny.takeKT (i := 9) rfl rfl rfl (by simp) (by kernel_rfl) (by kernel_rfl) (by kernel_rfl) (by kernel_rfl) (Gv.move (v := .int _ _) rfl) ?_
            refine AAny.takeKT (i := 10) rfl rfl rfl (by simp) (by kernel_rfl) (by kernel_rfl) (by kernel_rfl) (by kernel_rfl) (Gv.sub rfl rfl (by unfold I64; omega)) ?_
            refine AAny.takeKT (i := 11) rfl rfl rfl (by simp) (by kernel_rfl) (by kernel_rfl) (by kernel_rfl) (by kernel_rfl) (Gv.idxM (j := done.length) Tryz.underlying54 Tryz.sizeOf106 rfl rfl (by simp) (by simp : (done ++ [(h, it)])[done.length]? = some (h, it))) ?_
            refine AAny.takeKT (i := 12) rfl rfl rfl (by simp) (by kernel_rfl) (by kernel_rfl) (by kernel_rfl) (by kernel_rfl) (Gv.fieldF Tryz.underlying106 rfl Tryz.sizeOf4 (by decide) rfl rfl) ?_
            refine AAny.takeKT (i := 13) rfl rfl rfl (by simp) (by kernel_rfl) (by kernel_rfl) (by kernel_rfl) (by kernel_rfl) (Gv.load1F (c := .bool _) Tryz.isAgg4 rfl) ?_
            refine AAny.takeK (i := 14) rfl (by kernel_rfl) (by kernel_rfl) (by kernel_rfl) (by kernel_rfl) (Gv.pickT (v := .bool _) rfl (by simp) rfl) ?_
            refine AAny.writes ?_
            refine AAnyW.one (i := 15) rfl (by kernel_rfl) (by kernel_rfl) ?_
            refine AOps.storeW Tryz.sizeOf56 rfl rfl rfl rfl rfl rfl .head rfl ?_
            refine AOps.nil ?_
            refine AAnyW.one (i := 16) rfl (by kernel_rfl) (by kernel_rfl) ?_
            refine AOps.val (Gv.assign (v := .bool _) rfl) ?_
            refine AOps.nil ?_
            refine AAnyW.done (by kernel_rfl) ?_
            refine AWP.ret ?_
            repeat (first | refine aseqQ_ret ?_ | refine ablockQ_ret ?_)
            refine afin.c1t (y := .bool _) rfl rfl ⟨_, .head⟩ Tryz.isAgg56 Tryz.sizeOf56 rfl ?_
            exact optG_ret (by rw [hr]; cases h.ended <;> rfl) (fun i hi => by rw [hr] at hi; rw [← opt_eq hi]; rfl)
theorem read_spec (ls : List PLine) (hl : ls.length ≤ 100000) (hw : words ls ≤ 1000000000) (hs : NEL ls) (hL : Letters E) (hT : Pows E) (hV : Vars0 E) :
    AFun Tryz.prog E 18 [.fro 2 (ls.map encLine)] (.tup [optG encP (readP ls), .bool (readP ls).isSome]) := AFun.optG (readR ls hl hw hs hL hT hV)
end Go.Proofs.YtdkhlgiohpdihaaGreatDoor
namespace Go.Proofs.YtdkhlgiohpdihaaGreatDoor
open Go.Proofs Go.Lib Go.Shelf Go.RowKit
theorem ps24_1 : PlacesS Tryz.prog 24 3 1 1 [.int .i64 0] := ⟨_, Tryz.underlying24, Tryz.sizeOf3, Tryz.zeroValue3, by decide, by decide, by kernel_rfl⟩
set_option maxRecDepth 20000
variable {E : World}
def itemsN (bs : List (PHead × List PItem)) : Nat := (bs.map fun b => b.2.length).sum
def fitsP (S : PProg) : Bool := decide ((S.params.length : Int) ≤ 8) && (decide ((S.params.length : Int) + S.vars.length ≤ 512) && (decide (((blocksOf S).length : Int) ≤ 64) && decide ((itemsN (blocksOf S) : Int) ≤ 1024)))
theorem itemsN_take {bs : List (PHead × List PItem)} {k : Nat} (h : k < bs.length) : itemsN (bs.take (k + 1)) = itemsN (bs.take k) + bs[k].2.length := by
  unfold itemsN; rw [List.take_succ_eq_append_getElem h, List.map_append, List.sum_append]; simp only [List.map_cons, List.map_nil, List.sum_cons, List.sum_nil, Nat.add_zero]
theorem itemsN_le {bs : List (PHead × List PItem)} (k : Nat) : itemsN (bs.take k) ≤ itemsN bs := by
  unfold itemsN
  conv => rhs; rw [← List.take_append_drop k bs]
  rw [List.map_append, List.sum_append]; omega
theorem fits_spec (S : PProg) (h1 : S.params.length ≤ 10000000) (h2 : S.vars.length ≤ 10000000000) (h3 : (blocksOf S).length ≤ 10000000) (h4 : itemsN (blocksOf S) ≤ 1000000000000) :
    AFun Tryz.prog E 19 [encP S] (.bool (fitsP S)) := by
  refine ACall.intro Tryz.func19 rfl (by decide) rfl ?_
  refine AWP.seq ?_
  refine AWP.region rfl ?_
  refine AOps.boxF (cs := _) rfl rfl rfl ?_
  refine AOps.val (Gv.assign (v := .bool _) rfl) ?_
  refine AOps.nil ?_
  refine AWP.seq ?_
  refine AWP.region rfl ?_
  refine AOps.val (Gv.assign (v := .int _ _) rfl) ?_
  refine AOps.nil ?_
  refine AWP.seq ?_
  refine AWP.seq ?_
  refine AWP.region rfl ?_
  refine AOps.val (Gv.fieldF Tryz.underlying56 rfl Tryz.sizeOf54 (by decide) rfl rfl) ?_
  refine AOps.val (Gv.load1F (c := .fro _ _) Tryz.isAgg54 rfl) ?_
  refine AOps.val (Gv.lenM Tryz.underlying54 rfl) ?_
  refine AOps.val (Gv.move (v := .int _ _) rfl) ?_
  refine AOps.nil ?_
  refine AWP.block ?_
  refine AWP.loop (γ := Nat) [1, 7, 8] (fun g => [(9, .int .i64 g), (3, .int .i64 (itemsN ((blocksOf S).take g)))]) (fun g => []) (fun g => g ≤ (blocksOf S).length) (fun g => (blocksOf S).length - g) 0 ⟨rfl, rfl, trivial⟩ ⟨_, (.refl _), rfl⟩ (Nat.zero_le _) ?_
  rintro k hk
  refine AWP.seq ?_
  refine AWP.region rfl ?_
  refine AOps.val (Gv.lss rfl rfl) ?_
  refine AOps.nil ?_
  refine AWP.seq ?_
  refine AWP.condP rfl (fun ck => ?_) (fun ck => ?_)
  · skip
    have hk2 : k < (blocksOf S).length := by omega
    have hit := itemsN_take hk2
    have hle := itemsN_le (bs := blocksOf S) k
    have hle2 := itemsN_le (bs := blocksOf S) (k + 1)
    refine AWP.skip ?_
    refine AWP.seq ?_
    refine AWP.block ?_
    refine AWP.seq ?_
    refine AWP.region rfl ?_
    refine AOps.val (Gv.idxM Tryz.underlying54 Tryz.sizeOf106 rfl rfl rfl (List.getElem?_eq_getElem (by omega))) ?_
    refine AOps.val (Gv.loadWF Tryz.isAgg106 Tryz.sizeOf106 rfl rfl) ?_
    refine AOps.alloc (cs := [.str ⟨#[]⟩, .raw (.slice none 0 0), .int .i64 0, .str ⟨#[]⟩, .raw (.slice none 0 0), .bool false]) Tryz.zeroValue106 rfl rfl ?_
    intro i5
    refine AOps.storeW Tryz.sizeOf106 rfl rfl rfl rfl rfl rfl .head rfl ?_
    refine AOps.nil ?_
    refine AWP.region rfl ?_
    refine AOps.val (Gv.move (v := .int _ _) rfl) ?_
    refine AOps.val (Gv.fieldO Tryz.underlying106 rfl Tryz.sizeOf104 (by decide) rfl rfl) ?_
    refine AOps.val (Gv.load1C (c := .fro _ _) Tryz.isAgg104 rfl ⟨_, .head⟩ rfl) ?_
    refine AOps.val (Gv.lenM Tryz.underlying104 rfl) ?_
    refine AOps.val (Gv.add rfl rfl (by first | (unfold I64; omega) | (unfold I64; show _ ∧ ((itemsN ((blocksOf S).take k) : Nat) : Int) + (((blocksOf S)[k].2.map encItem).length : Int) ≤ _; rw [List.length_map]; omega))) ?_
    refine AOps.val (Gv.assign (v := .int _ _) rfl) ?_
    refine AOps.nil ?_
    refine AWP.region rfl ?_
    refine AOps.val (Gv.add rfl rfl (by first | (unfold I64; omega) | (unfold I64; show _ ∧ ((itemsN ((blocksOf S).take k) : Nat) : Int) + (((blocksOf S)[k].2.map encItem).length : Int) ≤ _; rw [List.length_map]; omega))) ?_
    refine AOps.val (Gv.move (v := .int _ _) rfl) ?_
    refine AOps.nil ?_
    exact ⟨k + 1, ⟨rfl, rfl, rfl, trivial⟩, ⟨rfl, by rw [hit]; exact congrArg (AV.int .i64) (by omega), trivial⟩, ⟨_, (.drop (.refl _)), rfl⟩, hk2, by omega⟩
  · skip
    obtain rfl : k = (blocksOf S).length := by omega
    rw [List.take_length]
    refine AWP.exit ?_
    refine AWP.seq ?_
    refine AWP.region rfl ?_
    refine AOps.val (Gv.fieldF Tryz.underlying56 rfl Tryz.sizeOf23 (by decide) rfl rfl) ?_
    refine AOps.val (Gv.load1F (c := .fro _ _) Tryz.isAgg23 rfl) ?_
    refine AOps.val (Gv.lenM Tryz.underlying23 rfl) ?_
    refine AOps.val (Gv.leq rfl rfl) ?_
    refine AOps.val (Gv.move (v := .bool _) rfl) ?_
    refine AOps.case (s := 23) rfl (fun c1 => ?_) (fun c1 => ?_)
    · skip
      refine AOps.guardT rfl rfl c1 ?_
      refine AOps.val (Gv.fieldF Tryz.underlying56 rfl Tryz.sizeOf23 (by decide) rfl rfl) ?_
      refine AOps.guardT rfl rfl c1 ?_
      refine AOps.val (Gv.load1F (c := .fro _ _) Tryz.isAgg23 rfl) ?_
      refine AOps.guardT rfl rfl c1 ?_
      refine AOps.val (Gv.lenM Tryz.underlying23 rfl) ?_
      refine AOps.guardT rfl rfl c1 ?_
      refine AOps.val (Gv.fieldF Tryz.underlying56 rfl Tryz.sizeOf23 (by decide) rfl rfl) ?_
      refine AOps.guardT rfl rfl c1 ?_
      refine AOps.val (Gv.load1F (c := .fro _ _) Tryz.isAgg23 rfl) ?_
      refine AOps.guardT rfl rfl c1 ?_
      refine AOps.val (Gv.lenM Tryz.underlying23 rfl) ?_
      refine AOps.guardT rfl rfl c1 ?_
      refine AOps.val (Gv.add rfl rfl (by first | (unfold I64; omega) | (unfold I64; show _ ∧ ((itemsN ((blocksOf S).take k) : Nat) : Int) + (((blocksOf S)[k].2.map encItem).length : Int) ≤ _; rw [List.length_map]; omega))) ?_
      refine AOps.guardT rfl rfl c1 ?_
      refine AOps.val (Gv.leq rfl rfl) ?_
      refine AOps.val (Gv.pickT (v := .bool _) rfl c1 rfl) ?_
      refine AOps.val (Gv.move (v := .bool _) rfl) ?_
      refine AOps.case (s := 33) rfl (fun c2 => ?_) (fun c2 => ?_)
      · skip
        refine AOps.guardT rfl rfl c2 ?_
        refine AOps.val (Gv.fieldF Tryz.underlying56 rfl Tryz.sizeOf54 (by decide) rfl rfl) ?_
        refine AOps.guardT rfl rfl c2 ?_
        refine AOps.val (Gv.load1F (c := .fro _ _) Tryz.isAgg54 rfl) ?_
        refine AOps.guardT rfl rfl c2 ?_
        refine AOps.val (Gv.lenM Tryz.underlying54 rfl) ?_
        refine AOps.guardT rfl rfl c2 ?_
        refine AOps.val (Gv.leq rfl rfl) ?_
        refine AOps.val (Gv.pickT (v := .bool _) rfl c2 rfl) ?_
        refine AOps.val (Gv.move (v := .bool _) rfl) ?_
        refine AOps.case (s := 39) rfl (fun c3 => ?_) (fun c3 => ?_)
        · skip
          refine AOps.guardT rfl rfl c3 ?_
          refine AOps.val (Gv.move (v := .int _ _) rfl) ?_
          refine AOps.guardT rfl rfl c3 ?_
          refine AOps.val (Gv.leq rfl rfl) ?_
          refine AOps.val (Gv.pickT (v := .bool _) rfl c3 rfl) ?_
          refine AOps.val (Gv.assign (v := .bool _) rfl) ?_
          refine AOps.nil ?_
          refine AWP.ret ?_
          repeat (first | refine aseqQ_ret ?_ | refine ablockQ_ret ?_)
          refine afin.t1 (x := .bool _) rfl ?_
          exact congrArg AV.bool (by unfold fitsP; simp_all <;> omega)
        · skip
          refine AOps.guardFd rfl rfl c3 ?_
          refine AOps.guardFd rfl rfl c3 ?_
          refine AOps.val (Gv.pickF (v := .bool _) rfl c3 rfl) ?_
          refine AOps.val (Gv.assign (v := .bool _) rfl) ?_
          refine AOps.nil ?_
          refine AWP.ret ?_
          repeat (first | refine aseqQ_ret ?_ | refine ablockQ_ret ?_)
          refine afin.t1 (x := .bool _) rfl ?_
          exact congrArg AV.bool (by unfold fitsP; simp_all <;> omega)
      · skip
        refine AOps.guardFd rfl rfl c2 ?_
        refine AOps.guardFd rfl rfl c2 ?_
        refine AOps.guardFd rfl rfl c2 ?_
        refine AOps.guardFd rfl rfl c2 ?_
        refine AOps.val (Gv.pickF (v := .bool _) rfl c2 rfl) ?_
        refine AOps.val (Gv.move (v := .bool _) rfl) ?_
        refine AOps.guardFd rfl rfl rfl ?_
        refine AOps.guardFd rfl rfl rfl ?_
        refine AOps.val (Gv.pickF (v := .bool _) rfl rfl rfl) ?_
        refine AOps.val (Gv.assign (v := .bool _) rfl) ?_
        refine AOps.nil ?_
        refine AWP.ret ?_
        repeat (first | refine aseqQ_ret ?_ | refine ablockQ_ret ?_)
        refine afin.t1 (x := .bool _) rfl ?_
        exact congrArg AV.bool (by unfold fitsP; simp_all <;> omega)
    · skip
      refine AOps.guardFd rfl rfl c1 ?_
      refine AOps.guardFd rfl rfl c1 ?_
      refine AOps.guardFd rfl rfl c1 ?_
      refine AOps.guardFd rfl rfl c1 ?_
      refine AOps.guardFd rfl rfl c1 ?_
      refine AOps.guardFd rfl rfl c1 ?_
      refine AOps.guardFd rfl rfl c1 ?_
      refine AOps.guardFd rfl rfl c1 ?_
      refine AOps.val (Gv.pickF (v := .bool _) rfl c1 rfl) ?_
      refine AOps.val (Gv.move (v := .bool _) rfl) ?_
      refine AOps.guardFd rfl rfl rfl ?_
      refine AOps.guardFd rfl rfl rfl ?_
      refine AOps.guardFd rfl rfl rfl ?_
      refine AOps.guardFd rfl rfl rfl ?_
      refine AOps.val (Gv.pickF (v := .bool _) rfl rfl rfl) ?_
      refine AOps.val (Gv.move (v := .bool _) rfl) ?_
      refine AOps.guardFd rfl rfl rfl ?_
      refine AOps.guardFd rfl rfl rfl ?_
      refine AOps.val (Gv.pickF (v := .bool _) rfl rfl rfl) ?_
      refine AOps.val (Gv.assign (v := .bool _) rfl) ?_
      refine AOps.nil ?_
      refine AWP.ret ?_
      repeat (first | refine aseqQ_ret ?_ | refine ablockQ_ret ?_)
      refine afin.t1 (x := .bool _) rfl ?_
      exact congrArg AV.bool (by unfold fitsP; simp_all <;> omega)
def getI (m : List (ByteArray × Int)) (s : ByteArray) : Int := (mget s m).getD 0
def hasM (m : List (ByteArray × Int)) (s : ByteArray) : Bool := (mget s m).isSome
theorem tab_eq {t : Nat} {x y : AV} {l l' : Bool} {m : AObj} (h : l = l') : ([(t, .cells 110 [x, y, .bool l]), (0, m)] : OL) = [(t, .cells 110 [x, y, .bool l']), (0, m)] := by rw [h]
theorem of_tab_spec {t b : Nat} {x y : AV} {es : List (ByteArray × Int)} (lost : Bool) (s : ByteArray) :
    ACall Tryz.prog E 83 [.po t 0, mref b, .str s] [(t, .cells 110 [x, y, .bool lost]), (0, mapO b es)]
      (fun z O' => z = .int .i64 (getI es s) ∧ O' = [(t, .cells 110 [x, y, .bool (lost || !hasM es s)]), (0, mapO b es)]) := by
  refine ACall.intro Tryz.func83 rfl (by decide) rfl ?_
  refine AWP.seq ?_
  refine AWP.region rfl ?_
  refine AOps.val (Gv.assign (v := .int _ _) rfl) ?_
  refine AOps.nil ?_
  refine AWP.seq ?_
  refine AWP.region rfl ?_
  refine AOps.val (Gv.move (v := mref _) rfl) ?_
  refine AOps.val (Gv.move (v := .str _) rfl) ?_
  refine AOps.val (Gv.lookupS Tryz.underlying108 Tryz.underlying9 Tryz.zeroValue3 rfl rfl ⟨_, (.tail .head)⟩) ?_
  refine AOps.val (Gv.move (v := .tup _) rfl) ?_
  refine AOps.val (Gv.extract (v := .int _ _) rfl rfl) ?_
  refine AOps.val (Gv.extract (v := .bool _) rfl rfl) ?_
  refine AOps.val (Gv.assign (v := .int _ _) rfl) ?_
  refine AOps.val (Gv.assign (v := .bool _) rfl) ?_
  refine AOps.nil ?_
  refine AWP.seq ?_
  refine AWP.region rfl ?_
  refine AOps.val (Gv.move (v := .po _ _) rfl) ?_
  refine AOps.val (Gv.move (v := .po _ _) rfl) ?_
  refine AOps.val (Gv.nilCheckO rfl) ?_
  refine AOps.val (Gv.fieldO Tryz.underlying110 rfl Tryz.sizeOf4 (by decide) rfl rfl) ?_
  refine AOps.val (Gv.load1C (c := .bool _) Tryz.isAgg4 rfl ⟨_, .head⟩ rfl) ?_
  refine AOps.val (Gv.move (v := .bool _) rfl) ?_
  refine AOps.case (s := 20) rfl (fun c4 => ?_) (fun c4 => ?_)
  · skip
    refine AOps.guardFd rfl rfl c4 ?_
    refine AOps.guardFd rfl rfl c4 ?_
    refine AOps.val (Gv.pickT (v := .bool _) rfl c4 rfl) ?_
    refine AOps.val (Gv.nilCheckO rfl) ?_
    refine AOps.val (Gv.fieldO Tryz.underlying110 rfl Tryz.sizeOf4 (by decide) rfl rfl) ?_
    refine AOps.storeC (l := [_]) (new := [_, _, _]) Tryz.sizeOf4 rfl rfl rfl rfl rfl rfl .head rfl rfl ?_
    refine AOps.nil ?_
    refine AWP.seq ?_
    refine AWP.region rfl ?_
    refine AOps.val (Gv.move (v := .int _ _) rfl) ?_
    refine AOps.val (Gv.assign (v := .int _ _) rfl) ?_
    refine AOps.nil ?_
    refine AWP.ret ?_
    repeat (first | refine aseqQ_ret ?_ | refine ablockQ_ret ?_)
    refine afin.t1 (x := .int _ _) rfl ?_
    exact ⟨rfl, tab_eq (by simp_all [hasM])⟩
  · skip
    refine AOps.guardT rfl rfl c4 ?_
    refine AOps.val (Gv.move (v := .bool _) rfl) ?_
    refine AOps.guardT rfl rfl c4 ?_
    refine AOps.val (Gv.not rfl) ?_
    refine AOps.val (Gv.pickF (v := .bool _) rfl c4 rfl) ?_
    refine AOps.val (Gv.nilCheckO rfl) ?_
    refine AOps.val (Gv.fieldO Tryz.underlying110 rfl Tryz.sizeOf4 (by decide) rfl rfl) ?_
    refine AOps.storeC (l := [_]) (new := [_, _, _]) Tryz.sizeOf4 rfl rfl rfl rfl rfl rfl .head rfl rfl ?_
    refine AOps.nil ?_
    refine AWP.seq ?_
    refine AWP.region rfl ?_
    refine AOps.val (Gv.move (v := .int _ _) rfl) ?_
    refine AOps.val (Gv.assign (v := .int _ _) rfl) ?_
    refine AOps.nil ?_
    refine AWP.ret ?_
    repeat (first | refine aseqQ_ret ?_ | refine ablockQ_ret ?_)
    refine afin.t1 (x := .int _ _) rfl ?_
    exact ⟨rfl, tab_eq (by simp_all [hasM])⟩
theorem put_tab_spec {t b : Nat} {x y : AV} {es : List (ByteArray × Int)} (lost : Bool) (s : ByteArray) :
    ACall Tryz.prog E 51 [.po t 0, mref b, .str s] [(t, .cells 110 [x, y, .bool lost]), (0, mapO b es)]
      (fun z O' => z = .tup [] ∧ O' = [(t, .cells 110 [x, y, .bool (lost || hasM es s)]), (0, mapO b (mset s es.length es))]) := by
  refine ACall.intro Tryz.func51 rfl (by decide) rfl ?_
  refine AWP.seq ?_
  refine AWP.region rfl ?_
  refine AOps.val (Gv.move (v := mref _) rfl) ?_
  refine AOps.val (Gv.move (v := .str _) rfl) ?_
  refine AOps.val (Gv.lookupS Tryz.underlying108 Tryz.underlying9 Tryz.zeroValue3 rfl rfl ⟨_, (.tail .head)⟩) ?_
  refine AOps.val (Gv.move (v := .tup _) rfl) ?_
  refine AOps.val (Gv.extract (v := .int _ _) rfl rfl) ?_
  refine AOps.val (Gv.extract (v := .bool _) rfl rfl) ?_
  refine AOps.val (Gv.assign (v := .int _ _) rfl) ?_
  refine AOps.val (Gv.assign (v := .bool _) rfl) ?_
  refine AOps.nil ?_
  refine AWP.seq ?_
  refine AWP.region rfl ?_
  refine AOps.val (Gv.move (v := .po _ _) rfl) ?_
  refine AOps.val (Gv.move (v := .po _ _) rfl) ?_
  refine AOps.val (Gv.nilCheckO rfl) ?_
  refine AOps.val (Gv.fieldO Tryz.underlying110 rfl Tryz.sizeOf4 (by decide) rfl rfl) ?_
  refine AOps.val (Gv.load1C (c := .bool _) Tryz.isAgg4 rfl ⟨_, .head⟩ rfl) ?_
  refine AOps.val (Gv.move (v := .bool _) rfl) ?_
  refine AOps.case (s := 19) rfl (fun c5 => ?_) (fun c5 => ?_)
  · skip
    refine AOps.guardFd rfl rfl c5 ?_
    refine AOps.val (Gv.pickT (v := .bool _) rfl c5 rfl) ?_
    refine AOps.val (Gv.nilCheckO rfl) ?_
    refine AOps.val (Gv.fieldO Tryz.underlying110 rfl Tryz.sizeOf4 (by decide) rfl rfl) ?_
    refine AOps.storeC (l := [_]) (new := [_, _, _]) Tryz.sizeOf4 rfl rfl rfl rfl rfl rfl .head rfl rfl ?_
    refine AOps.nil ?_
    refine AWP.region rfl ?_
    refine AOps.val (Gv.move (v := mref _) rfl) ?_
    refine AOps.val (Gv.move (v := .str _) rfl) ?_
    refine AOps.val (Gv.move (v := mref _) rfl) ?_
    refine AOps.val (Gv.lenMap Tryz.underlying108 rfl ⟨_, (.tail .head)⟩) ?_
    refine AOps.mapSet Tryz.underlying108 Tryz.underlying9 rfl rfl rfl (.tail .head) ?_
    refine AOps.nil ?_
    repeat (first | refine aseqQ_ret ?_ | refine ablockQ_ret ?_)
    refine afin.t0 ?_
    exact ⟨rfl, tab_eq (by simp_all [hasM])⟩
  · skip
    refine AOps.guardT rfl rfl c5 ?_
    refine AOps.val (Gv.move (v := .bool _) rfl) ?_
    refine AOps.val (Gv.pickF (v := .bool _) rfl c5 rfl) ?_
    refine AOps.val (Gv.nilCheckO rfl) ?_
    refine AOps.val (Gv.fieldO Tryz.underlying110 rfl Tryz.sizeOf4 (by decide) rfl rfl) ?_
    refine AOps.storeC (l := [_]) (new := [_, _, _]) Tryz.sizeOf4 rfl rfl rfl rfl rfl rfl .head rfl rfl ?_
    refine AOps.nil ?_
    refine AWP.region rfl ?_
    refine AOps.val (Gv.move (v := mref _) rfl) ?_
    refine AOps.val (Gv.move (v := .str _) rfl) ?_
    refine AOps.val (Gv.move (v := mref _) rfl) ?_
    refine AOps.val (Gv.lenMap Tryz.underlying108 rfl ⟨_, (.tail .head)⟩) ?_
    refine AOps.mapSet Tryz.underlying108 Tryz.underlying9 rfl rfl rfl (.tail .head) ?_
    refine AOps.nil ?_
    repeat (first | refine aseqQ_ret ?_ | refine ablockQ_ret ?_)
    refine afin.t0 ?_
    exact ⟨rfl, tab_eq (by simp_all [hasM])⟩
def dstI (m : List (ByteArray × Int)) (s : ByteArray) : Int := if s = ⟨#[]⟩ then -1 else getI m s
def dstL (m : List (ByteArray × Int)) (s : ByteArray) : Bool := !decide (s = ⟨#[]⟩) && !hasM m s
theorem dst_tab_spec {t b : Nat} {y : AV} {es : List (ByteArray × Int)} (lost : Bool) (s : ByteArray) :
    ACall Tryz.prog E 81 [.po t 0, .str s] [(t, .cells 110 [mref b, y, .bool lost]), (0, mapO b es)]
      (fun z O' => z = .int .i64 (dstI es s) ∧ O' = [(t, .cells 110 [mref b, y, .bool (lost || dstL es s)]), (0, mapO b es)]) := by
  refine ACall.intro Tryz.func81 rfl (by decide) rfl ?_
  refine AWP.seq ?_
  refine AWP.region rfl ?_
  refine AOps.val (Gv.assign (v := .int _ _) rfl) ?_
  refine AOps.nil ?_
  refine AWP.seq ?_
  refine AWP.seq ?_
  refine AWP.region rfl ?_
  refine AOps.val (Gv.move (v := .str _) rfl) ?_
  refine AOps.val (Gv.eqlT rfl rfl) ?_
  refine AOps.nil ?_
  refine AWP.condP rfl (fun c => ?_) (fun c => ?_)
  · skip
    refine AWP.seq ?_
    refine AWP.region rfl ?_
    refine AOps.val (Gv.assign (v := .int _ _) rfl) ?_
    refine AOps.nil ?_
    refine AWP.ret ?_
    repeat (first | refine aseqQ_ret ?_ | refine ablockQ_ret ?_)
    refine afin.t1 (x := .int _ _) rfl ?_
    exact ⟨by unfold dstI; rw [if_pos c], tab_eq (by unfold dstL; rw [decide_eq_true c]; simp)⟩
  · skip
    refine AWP.skip ?_
    refine AWP.seq ?_
    refine AWP.region rfl ?_
    refine AOps.val (Gv.move (v := .po _ _) rfl) ?_
    refine AOps.val (Gv.move (v := .po _ _) rfl) ?_
    refine AOps.val (Gv.nilCheckO rfl) ?_
    refine AOps.val (Gv.fieldO Tryz.underlying110 rfl Tryz.sizeOf108 (by decide) rfl rfl) ?_
    refine AOps.val (Gv.load1C (c := mref _) Tryz.isAgg108 rfl ⟨_, .head⟩ rfl) ?_
    refine AOps.val (Gv.move (v := .str _) rfl) ?_
    refine AOps.callA rfl (Part.perm (.rest _)) (of_tab_spec lost s) ?_
    rintro r13 O13 ⟨rfl, rfl⟩
    refine AOps.val (Gv.assign (v := .int _ _) rfl) ?_
    refine AOps.nil ?_
    refine AWP.ret ?_
    repeat (first | refine aseqQ_ret ?_ | refine ablockQ_ret ?_)
    refine afin.t1 (x := .int _ _) rfl ?_
    exact ⟨by unfold dstI; rw [if_neg c], tab_eq (by unfold dstL; rw [decide_eq_false c]; simp)⟩
theorem all_eq {i t k : Nat} {x y : AV} {m : AObj} {lost : Bool} {es : List (ByteArray × Int)} {l : List ByteArray} {s : ByteArray} (h : l.take (k + 1) = l.take k ++ [s]) :
    ([(i, .grow 1 3 ((((l.take k).map (getI es)).map encI).flatten ++ [[AV.int .i64 (getI es s)]].flatten)), (t, .cells 110 [x, y, .bool ((lost || (l.take k).any fun s => !hasM es s) || !hasM es s)]), (0, m)] : OL) =
    [(i, .grow 1 3 (((l.take (k + 1)).map (getI es)).map encI).flatten), (t, .cells 110 [x, y, .bool (lost || (l.take (k + 1)).any fun s => !hasM es s)]), (0, m)] := by
  rw [h]; simp [encI, Bool.or_assoc]
theorem all_tab_spec {t b : Nat} {x y : AV} {es : List (ByteArray × Int)} (lost : Bool) (l : List ByteArray) (hl : l.length ≤ 1000000) :
    ACall Tryz.prog E 82 [.po t 0, mref b, .fro 1 (l.map encS)] [(t, .cells 110 [x, y, .bool lost]), (0, mapO b es)]
      (fun z O' => z = .fro 1 ((l.map (getI es)).map encI) ∧ O' = [(t, .cells 110 [x, y, .bool (lost || l.any fun s => !hasM es s)]), (0, mapO b es)]) := by
  refine ACall.intro Tryz.func82 rfl (by decide) rfl ?_
  refine AWP.seq ?_
  refine AWP.region rfl ?_
  refine AOps.val (Gv.assign (v := .raw _) rfl) ?_
  refine AOps.nil ?_
  refine AWP.seq ?_
  refine AWP.region rfl ?_
  refine AOps.val (Gv.assign (v := .raw _) rfl) ?_
  refine AOps.nil ?_
  refine AWP.seq ?_
  refine AWP.seq ?_
  refine AWP.region rfl ?_
  refine AOps.val (Gv.move (v := .fro _ _) rfl) ?_
  refine AOps.val (Gv.lenM Tryz.underlying62 rfl) ?_
  refine AOps.val (Gv.move (v := .int _ _) rfl) ?_
  refine AOps.nil ?_
  refine AWP.block ?_
  refine adopt_wp (t := 7) (k := 1) (T := 3) rfl ?_
  intro i7
  refine AWP.loop (γ := Nat × Nat) [0, 1, 10, 11] (fun g => [(12, .int .i64 g.1), (7, .own g.2 g.1)]) (fun g => [(g.2, .grow 1 3 (((l.take g.1).map (getI es)).map encI).flatten), (t, .cells 110 [x, y, .bool (lost || (l.take g.1).any fun s => !hasM es s)]), (0, mapO b es)]) (fun g => g.1 ≤ l.length) (fun g => l.length - g.1) (0, i7) ⟨rfl, rfl, trivial⟩ ⟨_, (.refl _), by simp⟩ (Nat.zero_le _) ?_
  rintro ⟨k, io⟩ hk
  try dsimp only at *
  refine AWP.seq ?_
  refine AWP.region rfl ?_
  refine AOps.val (Gv.lss rfl rfl) ?_
  refine AOps.nil ?_
  refine AWP.seq ?_
  refine AWP.condP rfl (fun ck => ?_) (fun ck => ?_)
  · skip
    have hk2 : k < l.length := by omega
    have hta : l.take (k + 1) = l.take k ++ [l[k]] := List.take_succ_eq_append_getElem hk2
    refine AWP.skip ?_
    refine AWP.seq ?_
    refine AWP.block ?_
    refine AWP.seq ?_
    refine AWP.region rfl ?_
    refine AOps.val (Gv.idxM Tryz.underlying62 Tryz.sizeOf9 rfl rfl rfl (List.getElem?_eq_getElem (by omega))) ?_
    refine AOps.val (Gv.load1F (c := .str _) Tryz.isAgg9 rfl) ?_
    refine AOps.val (Gv.assign (v := .str _) rfl) ?_
    refine AOps.nil ?_
    refine AWP.region rfl ?_
    refine AOps.val (Gv.move (v := .own _ _) rfl) ?_
    refine AOps.val (Gv.move (v := .po _ _) rfl) ?_
    refine AOps.val (Gv.move (v := mref _) rfl) ?_
    refine AOps.val (Gv.move (v := .str _) rfl) ?_
    refine AOps.callA rfl (Part.perm (.r (.l (.l (.rest _))))) (of_tab_spec _ l[k]) ?_
    rintro r20 O20 ⟨rfl, rfl⟩
    refine GStep.ops (GStep.perm (Pick.perm (.tail (.tail .head)))) ?_
    refine AOps.buildSliceFF (rows := [[_]]) ps24_1 rfl rfl rfl rfl rfl ?_
    refine AOps.appendS (k := 1) Tryz.underlying24 Tryz.type3 rfl rfl rfl rfl rfl (fun _ => .head) (by rw [List.map_map, grow_len (k := 1) (fun _ => rfl), List.length_take, Nat.min_eq_left hk]) (by decide) rfl (by show (_ + _) * 8 ≤ _; simp <;> omega) (by simp <;> omega) ?_
    intro i22
    refine AOps.val (Gv.assign (v := .own _ _) rfl) ?_
    refine AOps.nil ?_
    refine AWP.region rfl ?_
    refine AOps.val (Gv.add rfl rfl (by unfold I64; omega)) ?_
    refine AOps.val (Gv.move (v := .int _ _) rfl) ?_
    refine AOps.nil ?_
    exact ⟨(k + 1, i22), ⟨rfl, rfl, rfl, rfl, trivial⟩, ⟨rfl, rfl, trivial⟩, ⟨_, (.refl _), all_eq hta⟩, hk2, by dsimp only; omega⟩
  · skip
    obtain rfl : k = l.length := by omega
    rw [List.take_length]
    refine AWP.exit ?_
    refine AWP.seq ?_
    refine AWP.region rfl ?_
    refine AOps.val (Gv.move (v := .own _ _) rfl) ?_
    refine AOps.val (Gv.assign (v := .own _ _) rfl) ?_
    refine AOps.nil ?_
    refine AWP.ret ?_
    repeat (first | refine aseqQ_ret ?_ | refine ablockQ_ret ?_)
    refine GStep.fin (GStep.know (t := 6) (rows := (l.map (getI es)).map encI) rfl .head (by first | (intro r hr; obtain ⟨x, _, rfl⟩ := List.mem_map.1 hr; rfl) | simp [encI, encVar, encPhi, encInst, encBlk]) (by decide) (by simp)) ?_
    refine afin.t1 (x := .fro _ _) rfl ?_
    exact ⟨rfl, rfl⟩
end Go.Proofs.YtdkhlgiohpdihaaGreatDoor
namespace Go.Proofs.YtdkhlgiohpdihaaGreatDoor
open Go.Proofs Go.Lib Go.Shelf Go.RowKit
theorem pl48 : Places Tryz.prog 48 #[(0, 1), (1, 1), (2, 1), (3, 4)] [.str ⟨#[]⟩, .raw (.slice none 0 0), .raw (.slice none 0 0), .int .i64 0, .int .i64 0, .int .i64 0, .int .i64 0] := ⟨_, _, Tryz.underlying48, Tryz.zeroValue48, fun w => by kernel_rfl, rfl⟩
theorem pl64 : Places Tryz.prog 64 #[(0, 1), (1, 1), (2, 1)] [.int .i64 0, .raw (.slice none 0 0), .raw (.slice none 0 0)] := ⟨_, _, Tryz.underlying64, Tryz.zeroValue64, fun w => by kernel_rfl, rfl⟩
theorem ps41_1 : PlacesS Tryz.prog 41 64 1 3 [.int .i64 0, .raw (.slice none 0 0), .raw (.slice none 0 0)] := ⟨_, Tryz.underlying41, Tryz.sizeOf64, Tryz.zeroValue64, by decide, by decide, by kernel_rfl⟩
theorem pl67 : Places Tryz.prog 67 #[(0, 1), (1, 1), (2, 1), (3, 1)] [.int .i64 0, .int .i64 0, .raw (.slice none 0 0), .int .i64 0] := ⟨_, _, Tryz.underlying67, Tryz.zeroValue67, fun w => by kernel_rfl, rfl⟩
theorem ps42_1 : PlacesS Tryz.prog 42 67 1 4 [.int .i64 0, .int .i64 0, .raw (.slice none 0 0), .int .i64 0] := ⟨_, Tryz.underlying42, Tryz.sizeOf67, Tryz.zeroValue67, by decide, by decide, by kernel_rfl⟩
set_option maxRecDepth 20000
variable {E : World}
abbrev NMap := List (ByteArray × Int)
def phiOf (vm bm : NMap) : PItem → Option PPhi
  | .phi d f a => some ⟨dstI vm d, a.map (getI vm), f.map (getI bm)⟩
  | .inst _ _ _ _ => none
def instOf (vm : NMap) : PItem → Option PInst
  | .phi _ _ _ => none
  | .inst op d a n => some ⟨op, dstI vm d, a.map (getI vm), n⟩
def lostI (vm bm : NMap) : PItem → Bool
  | .phi d f a => (dstL vm d || a.any fun s => !hasM vm s) || f.any fun s => !hasM bm s
  | .inst _ d a _ => dstL vm d || a.any fun s => !hasM vm s
def termOf (vm bm : NMap) (h : PHead) : PTerm := ⟨h.kind, if h.v = ⟨#[]⟩ then 0 else getI vm h.v, ((h.tos.map (getI bm))[0]?).getD 0, ((h.tos.map (getI bm))[1]?).getD 0⟩
def blockOf (vm bm : NMap) (b : PHead × List PItem) : PBlock := ⟨b.1.name, b.2.filterMap (phiOf vm bm), b.2.filterMap (instOf vm), termOf vm bm b.1⟩
def lostBlk (vm bm : NMap) (b : PHead × List PItem) : Bool := ((b.2.any (lostI vm bm)) || (!decide (b.1.v = ⟨#[]⟩) && !hasM vm b.1.v)) || b.1.tos.any fun s => !hasM bm s
theorem makes1_spec (d : ByteArray) (x y : AV) : AFun Tryz.prog E 174 [.agg [.str d, x, y]] (.str d) := by
  refine ACall.intro Tryz.func174 rfl (by decide) rfl ?_
  refine AWP.seq ?_
  refine AWP.region rfl ?_
  refine AOps.boxF (cs := _) rfl rfl rfl ?_
  refine AOps.val (Gv.assign (v := .str _) rfl) ?_
  refine AOps.nil ?_
  refine AWP.seq ?_
  refine AWP.region rfl ?_
  refine AOps.val (Gv.fieldF Tryz.underlying148 rfl Tryz.sizeOf9 (by decide) rfl rfl) ?_
  refine AOps.val (Gv.load1F (c := .str _) Tryz.isAgg9 rfl) ?_
  refine AOps.val (Gv.assign (v := .str _) rfl) ?_
  refine AOps.nil ?_
  refine AWP.ret ?_
  repeat (first | refine aseqQ_ret ?_ | refine ablockQ_ret ?_)
  refine afin.t1 (x := .str _) rfl ?_
  rfl
theorem makes2_spec (op : Int) (d : ByteArray) (x : AV) (n : Int) : AFun Tryz.prog E 175 [.agg [.int .i64 op, .str d, x, .int .i64 n]] (.str d) := by
  refine ACall.intro Tryz.func175 rfl (by decide) rfl ?_
  refine AWP.seq ?_
  refine AWP.region rfl ?_
  refine AOps.boxF (cs := _) rfl rfl rfl ?_
  refine AOps.val (Gv.assign (v := .str _) rfl) ?_
  refine AOps.nil ?_
  refine AWP.seq ?_
  refine AWP.region rfl ?_
  refine AOps.val (Gv.fieldF Tryz.underlying152 rfl Tryz.sizeOf9 (by decide) rfl rfl) ?_
  refine AOps.val (Gv.load1F (c := .str _) Tryz.isAgg9 rfl) ?_
  refine AOps.val (Gv.assign (v := .str _) rfl) ?_
  refine AOps.nil ?_
  refine AWP.ret ?_
  repeat (first | refine aseqQ_ret ?_ | refine ablockQ_ret ?_)
  refine afin.t1 (x := .str _) rfl ?_
  rfl
def tabO (t bv bb : Nat) (vm bm : NMap) (lost : Bool) : OL := [(t, .cells 110 [mref bv, mref bb, .bool lost]), (0, mapO bv vm), (0, mapO bb bm)]
theorem to_cells {c0 c1 c2 c3 c4 : AV} (xs : List Int) (h : xs.length ≤ 2) : ([c0, c1, c2, c3, c4, .int .i64 0, .int .i64 0] : List AV).take 5 ++ xs.map (AV.int .i64) ++ ([c0, c1, c2, c3, c4, .int .i64 0, .int .i64 0] : List AV).drop (5 + xs.length) = [c0, c1, c2, c3, c4, .int .i64 (xs[0]?.getD 0), .int .i64 (xs[1]?.getD 0)] := by
  match xs, h with
  | [], _ => rfl
  | [a], _ => rfl
  | [a, b], _ => rfl
structure ItemsOk (l : List PItem) : Prop where
  len : l.length ≤ 1000000
  args : ∀ x ∈ l, match x with | .phi _ f a => f.length ≤ 1000000 ∧ a.length ≤ 1000000 | .inst _ _ a _ => a.length ≤ 1000000
structure BInv (vm bm : NMap) (items : List PItem) (lost0 : Bool) (k : Nat) (lost : Bool) (phis : List PPhi) (insts : List PInst) : Prop where
  hk : k ≤ items.length
  phis : phis = (items.take k).filterMap (phiOf vm bm)
  insts : insts = (items.take k).filterMap (instOf vm)
  lost : lost = (lost0 || (items.take k).any (lostI vm bm))
theorem BInv.le {vm bm : NMap} {items : List PItem} {lost0 : Bool} {k : Nat} {lost : Bool} {phis : List PPhi} {insts : List PInst} (h : BInv vm bm items lost0 k lost phis insts) : phis.length ≤ k ∧ insts.length ≤ k := by
  have h1 := h.hk
  rw [h.phis, h.insts]
  have a := List.length_filterMap_le (phiOf vm bm) (items.take k)
  have b := List.length_filterMap_le (instOf vm) (items.take k)
  rw [List.length_take] at a b
  omega
theorem BInv.phi {vm bm : NMap} {items : List PItem} {lost0 : Bool} {k : Nat} {lost : Bool} {phis : List PPhi} {insts : List PInst} {d : ByteArray} {f a : List ByteArray} (h : BInv vm bm items lost0 k lost phis insts) (hx : items[k]? = some (.phi d f a)) :
    BInv vm bm items lost0 (k + 1) (((lost || dstL vm d) || a.any fun s => !hasM vm s) || f.any fun s => !hasM bm s) (phis ++ [⟨dstI vm d, a.map (getI vm), f.map (getI bm)⟩]) insts := by
  obtain ⟨hk, e⟩ := List.getElem?_eq_some_iff.1 hx
  obtain ⟨h1, rfl, rfl, rfl⟩ := h
  have ht : items.take (k + 1) = items.take k ++ [.phi d f a] := by rw [List.take_succ_eq_append_getElem hk, e]
  refine ⟨hk, ?_, ?_, ?_⟩ <;> rw [ht]
  · rw [List.filterMap_append]; rfl
  · rw [List.filterMap_append]; simp [instOf]
  · rw [List.any_append]; simp [lostI, Bool.or_assoc]
theorem BInv.inst {vm bm : NMap} {items : List PItem} {lost0 : Bool} {k : Nat} {lost : Bool} {phis : List PPhi} {insts : List PInst} {op n : Int} {d : ByteArray} {a : List ByteArray} (h : BInv vm bm items lost0 k lost phis insts) (hx : items[k]? = some (.inst op d a n)) :
    BInv vm bm items lost0 (k + 1) ((lost || dstL vm d) || a.any fun s => !hasM vm s) phis (insts ++ [⟨op, dstI vm d, a.map (getI vm), n⟩]) := by
  obtain ⟨hk, e⟩ := List.getElem?_eq_some_iff.1 hx
  obtain ⟨h1, rfl, rfl, rfl⟩ := h
  have ht : items.take (k + 1) = items.take k ++ [.inst op d a n] := by rw [List.take_succ_eq_append_getElem hk, e]
  refine ⟨hk, ?_, ?_, ?_⟩ <;> rw [ht]
  · rw [List.filterMap_append]; simp [phiOf]
  · rw [List.filterMap_append]; rfl
  · rw [List.any_append]; simp [lostI, Bool.or_assoc]
theorem blkV {vm bm : NMap} {h : PHead} {items : List PItem} {v : Int} (hv : v = if h.v = ⟨#[]⟩ then 0 else getI vm h.v) :
    AV.agg [.str h.name, .fro 3 ((items.filterMap (phiOf vm bm)).map encPhi), .fro 4 ((items.filterMap (instOf vm)).map encInst), .int .i64 h.kind, .int .i64 v, .int .i64 (((h.tos.map (getI bm))[0]?).getD 0), .int .i64 (((h.tos.map (getI bm))[1]?).getD 0)] = .agg (encBlk (blockOf vm bm (h, items))) := by
  subst hv; rfl
theorem tabO_eq {t bv bb : Nat} {vm bm : NMap} {l l' : Bool} (h : l = l') : tabO t bv bb vm bm l = tabO t bv bb vm bm l' := by rw [h]
set_option maxHeartbeats 1000000 in
theorem blk_tabR {t bv bb : Nat} {vm bm : NMap} (lost : Bool) (h : PHead) (items : List PItem) (hi : ItemsOk items) (ht : h.tos.length ≤ 2) :
    ACall Tryz.prog E 52 [.po t 0, .agg (encPB (h, items))] (tabO t bv bb vm bm lost)
      (fun z O' => ∃ _g : Unit, z = .agg (encBlk (blockOf vm bm (h, items))) ∧ Left O' (tabO t bv bb vm bm (lost || lostBlk vm bm (h, items))) ∧ True) := by
  refine ACall.intro Tryz.func52 rfl (by decide) rfl ?_
  refine AWP.seq ?_
  refine AWP.region rfl ?_
  refine AOps.boxF (cs := _) rfl rfl rfl ?_
  refine AOps.alloc (cs := [.str ⟨#[]⟩, .raw (.slice none 0 0), .raw (.slice none 0 0), .int .i64 0, .int .i64 0, .int .i64 0, .int .i64 0]) Tryz.zeroValue48 rfl rfl ?_
  intro i4
  refine AOps.nil ?_
  refine AWP.seq ?_
  refine AWP.region rfl ?_
  refine AOps.val (Gv.fieldF Tryz.underlying106 rfl Tryz.sizeOf9 (by decide) rfl rfl) ?_
  refine AOps.val (Gv.load1F (c := .str _) Tryz.isAgg9 rfl) ?_
  refine AOps.val (Gv.build (cps := [(0, [_])]) (rs := [_, .raw (.slice none 0 0), .raw (.slice none 0 0), .int .i64 0, .int .i64 0, .int .i64 0, .int .i64 0]) pl48 rfl rfl rfl) ?_
  refine AOps.alloc (cs := [.str ⟨#[]⟩, .raw (.slice none 0 0), .raw (.slice none 0 0), .int .i64 0, .int .i64 0, .int .i64 0, .int .i64 0]) Tryz.zeroValue48 rfl rfl ?_
  intro i5
  refine AOps.storeW Tryz.sizeOf48 rfl rfl rfl rfl rfl rfl .head rfl ?_
  refine AOps.nil ?_
  refine AWP.seq ?_
  refine AWP.seq ?_
  refine AWP.region rfl ?_
  refine AOps.val (Gv.fieldF Tryz.underlying106 rfl Tryz.sizeOf104 (by decide) rfl rfl) ?_
  refine AOps.val (Gv.load1F (c := .fro _ _) Tryz.isAgg104 rfl) ?_
  refine AOps.val (Gv.lenM Tryz.underlying104 rfl) ?_
  refine AOps.val (Gv.move (v := .int _ _) rfl) ?_
  refine AOps.nil ?_
  refine AWP.block ?_
  refine adoptC_wp (off := 1) (k := 3) (T := 64) (fun _ => .head) rfl ?_
  intro jp
  refine adoptC_wp (off := 2) (k := 4) (T := 67) (fun _ => (.tail .head)) rfl ?_
  intro jq
  refine AWP.loop (γ := Nat × Bool × List PPhi × List PInst × Nat × Nat) [0, 3, 4, 5, 16, 17] (fun g => [(18, .int .i64 g.1)]) (fun g => (g.2.2.2.2.2, .grow 4 67 (g.2.2.2.1.map encInst).flatten) :: (g.2.2.2.2.1, .grow 3 64 (g.2.2.1.map encPhi).flatten) :: (i5, .cells 48 [.str h.name, .own g.2.2.2.2.1 g.2.2.1.length, .own g.2.2.2.2.2 g.2.2.2.1.length, .int .i64 0, .int .i64 0, .int .i64 0, .int .i64 0]) :: (i4, .cells 48 [.str ⟨#[]⟩, .raw (.slice none 0 0), .raw (.slice none 0 0), .int .i64 0, .int .i64 0, .int .i64 0, .int .i64 0]) :: tabO t bv bb vm bm g.2.1) (fun g => BInv vm bm items lost g.1 g.2.1 g.2.2.1 g.2.2.2.1) (fun g => items.length - g.1) (0, lost, [], [], jp, jq) ⟨rfl, trivial⟩ ⟨_, (.refl _), rfl⟩ (⟨Nat.zero_le _, rfl, rfl, by simp⟩) ?_
  rintro ⟨k, lo, phis, insts, jp, jq⟩ hI
  try dsimp only at *
  refine AWP.seq ?_
  refine AWP.region rfl ?_
  refine AOps.val (Gv.lss rfl rfl) ?_
  refine AOps.nil ?_
  refine AWP.seq ?_
  refine AWP.condP rfl (fun ck => ?_) (fun ck => ?_)
  · skip
    have hk2 : k < items.length := by simp at ck; omega
    have hil := hi.len
    have hpl := hI.le
    have hia := hi.args _ (List.getElem_mem hk2)
    have hget : items[k]? = some items[k] := List.getElem?_eq_getElem hk2
    rcases hx : items[k] with ⟨d, f, a⟩ | ⟨op, d, a, n⟩
    · skip
      rw [hx] at hia hget
      refine AWP.skip ?_
      refine AWP.seq ?_
      refine AWP.block ?_
      refine AWP.seq ?_
      refine AWP.region rfl ?_
      refine AOps.val (Gv.idxM (j := k) Tryz.underlying104 Tryz.sizeOf145 rfl rfl rfl hget) ?_
      refine AOps.val (Gv.load1F (c := .ifc _ _) Tryz.isAgg145 rfl) ?_
      refine AOps.val (Gv.assign (v := .ifc _ _) rfl) ?_
      refine AOps.nil ?_
      refine AWP.seq ?_
      refine AWP.region rfl ?_
      refine AOps.val (Gv.move (v := .po _ _) rfl) ?_
      refine AOps.val (Gv.move (v := .ifc _ _) rfl) ?_
      refine AOps.callM (makes1_spec _ _ _) rfl (fun _ _ => by kernel_rfl) rfl ?_
      refine AOps.callA rfl (Part.perm (.r (.r (.r (.r (.l (.l (.r (.rest _))))))))) (dst_tab_spec _ d) ?_
      rintro r25 O25 ⟨rfl, rfl⟩
      refine AOps.val (Gv.assign (v := .int _ _) rfl) ?_
      refine AOps.nil ?_
      refine AWP.seq ?_
      refine AWP.seq ?_
      refine AWP.region rfl ?_
      refine AOps.val (Gv.move (v := .ifc _ _) rfl) ?_
      refine AOps.val (Gv.assertT Tryz.underlying148 rfl rfl) ?_
      refine AOps.val (Gv.move (v := .tup _) rfl) ?_
      refine AOps.val (Gv.extract (v := .agg _) rfl rfl) ?_
      refine AOps.val (Gv.extract (v := .bool _) rfl rfl) ?_
      refine AOps.alloc (cs := [.str ⟨#[]⟩, .raw (.slice none 0 0), .raw (.slice none 0 0)]) Tryz.zeroValue148 rfl rfl ?_
      intro i9
      refine AOps.storeW Tryz.sizeOf148 rfl rfl rfl rfl rfl rfl .head rfl ?_
      refine AOps.val (Gv.assign (v := .bool _) rfl) ?_
      refine AOps.nil ?_
      refine AWP.seq ?_
      refine AWP.region rfl ?_
      refine AOps.val (Gv.move (v := .bool _) rfl) ?_
      refine AOps.nil ?_
      refine AWP.condT rfl rfl ?_
      refine AWP.seq ?_
      refine AWP.regionDraw (fun j => Nat.beq j 23) (by kernel_rfl) rfl (Part.perm (.r (.l (.l (.l (.l (.r (.rest _)))))))) ?_
      refine AAny.take (i := 0) rfl (by kernel_rfl) (by kernel_rfl) (by kernel_rfl) (by kernel_rfl) (by kernel_rfl) (by kernel_rfl) (Gv.fieldO Tryz.underlying48 rfl Tryz.sizeOf41 (by decide) rfl rfl) ?_
      refine AAny.take (i := 1) rfl (by kernel_rfl) (by kernel_rfl) (by kernel_rfl) (by kernel_rfl) (by kernel_rfl) (by kernel_rfl) (Gv.load1C (c := .own _ _) Tryz.isAgg41 rfl ⟨_, (.tail .head)⟩ rfl) ?_
      refine AAny.take (i := 2) rfl (by kernel_rfl) (by kernel_rfl) (by kernel_rfl) (by kernel_rfl) (by kernel_rfl) (by kernel_rfl) (Gv.move (v := .int _ _) rfl) ?_
      refine AAny.take (i := 3) rfl (by kernel_rfl) (by kernel_rfl) (by kernel_rfl) (by kernel_rfl) (by kernel_rfl) (by kernel_rfl) (Gv.move (v := .po _ _) rfl) ?_
      refine AAny.take (i := 4) rfl (by kernel_rfl) (by kernel_rfl) (by kernel_rfl) (by kernel_rfl) (by kernel_rfl) (by kernel_rfl) (Gv.move (v := .po _ _) rfl) ?_
      refine AAny.take (i := 5) rfl (by kernel_rfl) (by kernel_rfl) (by kernel_rfl) (by kernel_rfl) (by kernel_rfl) (by kernel_rfl) (Gv.nilCheckO rfl) ?_
      refine AAny.take (i := 6) rfl (by kernel_rfl) (by kernel_rfl) (by kernel_rfl) (by kernel_rfl) (by kernel_rfl) (by kernel_rfl) (Gv.fieldO Tryz.underlying110 rfl Tryz.sizeOf108 (by decide) rfl rfl) ?_
      refine AAny.take (i := 8) rfl (by kernel_rfl) (by kernel_rfl) (by kernel_rfl) (by kernel_rfl) (by kernel_rfl) (by kernel_rfl) (Gv.fieldO Tryz.underlying148 rfl Tryz.sizeOf62 (by decide) rfl rfl) ?_
      refine AAny.take (i := 9) rfl (by kernel_rfl) (by kernel_rfl) (by kernel_rfl) (by kernel_rfl) (by kernel_rfl) (by kernel_rfl) (Gv.load1C (c := .fro _ _) Tryz.isAgg62 rfl ⟨_, .head⟩ rfl) ?_
      refine AAny.take (i := 11) rfl (by kernel_rfl) (by kernel_rfl) (by kernel_rfl) (by kernel_rfl) (by kernel_rfl) (by kernel_rfl) (Gv.move (v := .po _ _) rfl) ?_
      refine AAny.take (i := 12) rfl (by kernel_rfl) (by kernel_rfl) (by kernel_rfl) (by kernel_rfl) (by kernel_rfl) (by kernel_rfl) (Gv.move (v := .po _ _) rfl) ?_
      refine AAny.take (i := 13) rfl (by kernel_rfl) (by kernel_rfl) (by kernel_rfl) (by kernel_rfl) (by kernel_rfl) (by kernel_rfl) (Gv.nilCheckO rfl) ?_
      refine AAny.take (i := 14) rfl (by kernel_rfl) (by kernel_rfl) (by kernel_rfl) (by kernel_rfl) (by kernel_rfl) (by kernel_rfl) (Gv.fieldO Tryz.underlying110 rfl Tryz.sizeOf108 (by decide) rfl rfl) ?_
      refine AAny.take (i := 16) rfl (by kernel_rfl) (by kernel_rfl) (by kernel_rfl) (by kernel_rfl) (by kernel_rfl) (by kernel_rfl) (Gv.fieldO Tryz.underlying148 rfl Tryz.sizeOf62 (by decide) rfl rfl) ?_
      refine AAny.take (i := 17) rfl (by kernel_rfl) (by kernel_rfl) (by kernel_rfl) (by kernel_rfl) (by kernel_rfl) (by kernel_rfl) (Gv.load1C (c := .fro _ _) Tryz.isAgg62 rfl ⟨_, .head⟩ rfl) ?_
      refine AAny.two (i := 7) (j := 15) rfl rfl (by kernel_rfl) ?_ ?_
      · skip
        refine AOps.val (Gv.load1C (c := mref _) Tryz.isAgg108 rfl ⟨_, .head⟩ rfl) ?_
        refine AOps.nil ?_
        refine AAny.two (i := 10) (j := 15) rfl rfl (by kernel_rfl) ?_ ?_
        · skip
          refine AOps.callA rfl (Part.perm (.l (.l (.r (.r (.r (.r (.rest _)))))))) (all_tab_spec _ a hia.2) ?_
          rintro r42 O42 ⟨rfl, rfl⟩
          refine AOps.nil ?_
          refine AAny.one (i := 15) rfl (by kernel_rfl) ?_
          refine AOps.val (Gv.load1C (c := mref _) Tryz.isAgg108 rfl ⟨_, .head⟩ rfl) ?_
          refine AOps.nil ?_
          refine AAny.one (i := 18) rfl (by kernel_rfl) ?_
          refine AOps.callA rfl (Part.perm (.l (.r (.r (.r (.r (.l (.rest _)))))))) (all_tab_spec _ f hia.1) ?_
          rintro r50 O50 ⟨rfl, rfl⟩
          refine AOps.nil ?_
          refine AAny.take (i := 19) rfl (by kernel_rfl) (by kernel_rfl) (by kernel_rfl) (by kernel_rfl) (by kernel_rfl) (by kernel_rfl) (Gv.build (cps := [(0, [_]), (1, [_]), (2, [_])]) (rs := [_, _, _]) pl64 rfl rfl rfl) ?_
          refine AAny.one (i := 20) rfl (by kernel_rfl) ?_
          refine AOps.buildSliceFF (rows := [[_, _, _]]) ps41_1 rfl rfl rfl rfl rfl ?_
          refine AOps.nil ?_
          refine AAny.one (i := 21) rfl (by kernel_rfl) ?_
          refine AOps.appendS (k := 3) Tryz.underlying41 Tryz.type64 rfl rfl rfl rfl rfl (fun _ => (.tail (.tail (.tail (.tail .head))))) (by rw [grow_len (k := 3) (fun _ => rfl)]) (by decide) rfl (by show (phis.length + 1) * 56 ≤ _; omega) (by show phis.length + 1 ≤ _; omega) ?_
          intro i53
          refine AOps.nil ?_
          refine AAny.take (i := 22) rfl (by kernel_rfl) (by kernel_rfl) (by kernel_rfl) (by kernel_rfl) (by kernel_rfl) (by kernel_rfl) (Gv.fieldO Tryz.underlying48 rfl Tryz.sizeOf41 (by decide) rfl rfl) ?_
          refine AAny.writes ?_
          refine AAnyW.one (i := 23) rfl (by kernel_rfl) (by kernel_rfl) ?_
          refine AOps.storeC (l := [_]) (new := [_, _, _, _, _, _, _]) Tryz.sizeOf41 rfl rfl rfl rfl rfl rfl (.tail .head) rfl rfl ?_
          refine GStep.ops (GStep.perm (Pick.perm (.tail (.tail (.tail .head))))) ?_
          refine GStep.ops (GStep.perm (Pick.perm (.tail (.tail (.tail (.tail .head)))))) ?_
          refine GStep.ops (GStep.perm (Pick.perm (.tail (.tail (.tail (.tail .head)))))) ?_
          refine GStep.ops (GStep.perm (Pick.perm (.tail (.tail (.tail (.tail (.tail (.tail (.tail .head))))))))) ?_
          refine GStep.ops (GStep.perm (Pick.perm (.tail (.tail (.tail (.tail (.tail .head))))))) ?_
          refine GStep.ops (GStep.perm (Pick.perm (.tail (.tail (.tail (.tail (.tail (.tail (.tail .head))))))))) ?_
          refine GStep.ops (GStep.perm (Pick.perm (.tail (.tail (.tail (.tail (.tail (.tail (.tail .head))))))))) ?_
          refine AOps.nil ?_
          refine AAnyW.done (by kernel_rfl) ?_
          refine AWP.exit ?_
          refine AWP.region rfl ?_
          refine AOps.val (Gv.add rfl rfl (by unfold I64; omega)) ?_
          refine AOps.val (Gv.move (v := .int _ _) rfl) ?_
          refine AOps.nil ?_
          exact ⟨(k + 1, (((lo || dstL vm d) || a.any fun s => !hasM vm s) || f.any fun s => !hasM bm s), phis ++ [⟨dstI vm d, a.map (getI vm), f.map (getI bm)⟩], insts, i53, jq), ⟨rfl, rfl, rfl, rfl, rfl, rfl, trivial⟩, ⟨rfl, trivial⟩, ⟨_, (.keep (.keep (.keep (.keep (.keep (.keep (.keep (.drop (.refl _))))))))), by dsimp only; rw [← grow_push (enc := encPhi) (rfl : phis ++ [⟨dstI vm d, a.map (getI vm), f.map (getI bm)⟩] = _), List.length_append]; rfl⟩, hI.phi hget, by dsimp only; omega⟩
        · skip
          refine AOps.val (Gv.load1C (c := mref _) Tryz.isAgg108 rfl ⟨_, .head⟩ rfl) ?_
          refine AOps.nil ?_
          refine AAny.one (i := 10) rfl (by kernel_rfl) ?_
          refine AOps.callA rfl (Part.perm (.l (.l (.r (.r (.r (.r (.rest _)))))))) (all_tab_spec _ a hia.2) ?_
          rintro r42 O42 ⟨rfl, rfl⟩
          refine AOps.nil ?_
          refine AAny.one (i := 18) rfl (by kernel_rfl) ?_
          refine AOps.callA rfl (Part.perm (.l (.r (.r (.r (.r (.l (.rest _)))))))) (all_tab_spec _ f hia.1) ?_
          rintro r50 O50 ⟨rfl, rfl⟩
          refine AOps.nil ?_
          refine AAny.take (i := 19) rfl (by kernel_rfl) (by kernel_rfl) (by kernel_rfl) (by kernel_rfl) (by kernel_rfl) (by kernel_rfl) (Gv.build (cps := [(0, [_]), (1, [_]), (2, [_])]) (rs := [_, _, _]) pl64 rfl rfl rfl) ?_
          refine AAny.one (i := 20) rfl (by kernel_rfl) ?_
          refine AOps.buildSliceFF (rows := [[_, _, _]]) ps41_1 rfl rfl rfl rfl rfl ?_
          refine AOps.nil ?_
          refine AAny.one (i := 21) rfl (by kernel_rfl) ?_
          refine AOps.appendS (k := 3) Tryz.underlying41 Tryz.type64 rfl rfl rfl rfl rfl (fun _ => (.tail (.tail (.tail (.tail .head))))) (by rw [grow_len (k := 3) (fun _ => rfl)]) (by decide) rfl (by show (phis.length + 1) * 56 ≤ _; omega) (by show phis.length + 1 ≤ _; omega) ?_
          intro i53
          refine AOps.nil ?_
          refine AAny.take (i := 22) rfl (by kernel_rfl) (by kernel_rfl) (by kernel_rfl) (by kernel_rfl) (by kernel_rfl) (by kernel_rfl) (Gv.fieldO Tryz.underlying48 rfl Tryz.sizeOf41 (by decide) rfl rfl) ?_
          refine AAny.writes ?_
          refine AAnyW.one (i := 23) rfl (by kernel_rfl) (by kernel_rfl) ?_
          refine AOps.storeC (l := [_]) (new := [_, _, _, _, _, _, _]) Tryz.sizeOf41 rfl rfl rfl rfl rfl rfl (.tail .head) rfl rfl ?_
          refine GStep.ops (GStep.perm (Pick.perm (.tail (.tail (.tail .head))))) ?_
          refine GStep.ops (GStep.perm (Pick.perm (.tail (.tail (.tail (.tail .head)))))) ?_
          refine GStep.ops (GStep.perm (Pick.perm (.tail (.tail (.tail (.tail .head)))))) ?_
          refine GStep.ops (GStep.perm (Pick.perm (.tail (.tail (.tail (.tail (.tail (.tail (.tail .head))))))))) ?_
          refine GStep.ops (GStep.perm (Pick.perm (.tail (.tail (.tail (.tail (.tail .head))))))) ?_
          refine GStep.ops (GStep.perm (Pick.perm (.tail (.tail (.tail (.tail (.tail (.tail (.tail .head))))))))) ?_
          refine GStep.ops (GStep.perm (Pick.perm (.tail (.tail (.tail (.tail (.tail (.tail (.tail .head))))))))) ?_
          refine AOps.nil ?_
          refine AAnyW.done (by kernel_rfl) ?_
          refine AWP.exit ?_
          refine AWP.region rfl ?_
          refine AOps.val (Gv.add rfl rfl (by unfold I64; omega)) ?_
          refine AOps.val (Gv.move (v := .int _ _) rfl) ?_
          refine AOps.nil ?_
          exact ⟨(k + 1, (((lo || dstL vm d) || a.any fun s => !hasM vm s) || f.any fun s => !hasM bm s), phis ++ [⟨dstI vm d, a.map (getI vm), f.map (getI bm)⟩], insts, i53, jq), ⟨rfl, rfl, rfl, rfl, rfl, rfl, trivial⟩, ⟨rfl, trivial⟩, ⟨_, (.keep (.keep (.keep (.keep (.keep (.keep (.keep (.drop (.refl _))))))))), by dsimp only; rw [← grow_push (enc := encPhi) (rfl : phis ++ [⟨dstI vm d, a.map (getI vm), f.map (getI bm)⟩] = _), List.length_append]; rfl⟩, hI.phi hget, by dsimp only; omega⟩
      · skip
        refine AOps.val (Gv.load1C (c := mref _) Tryz.isAgg108 rfl ⟨_, .head⟩ rfl) ?_
        refine AOps.nil ?_
        refine AAny.one (i := 7) rfl (by kernel_rfl) ?_
        refine AOps.val (Gv.load1C (c := mref _) Tryz.isAgg108 rfl ⟨_, .head⟩ rfl) ?_
        refine AOps.nil ?_
        refine AAny.one (i := 10) rfl (by kernel_rfl) ?_
        refine AOps.callA rfl (Part.perm (.l (.l (.r (.r (.r (.r (.rest _)))))))) (all_tab_spec _ a hia.2) ?_
        rintro r42 O42 ⟨rfl, rfl⟩
        refine AOps.nil ?_
        refine AAny.one (i := 18) rfl (by kernel_rfl) ?_
        refine AOps.callA rfl (Part.perm (.l (.r (.r (.r (.r (.l (.rest _)))))))) (all_tab_spec _ f hia.1) ?_
        rintro r50 O50 ⟨rfl, rfl⟩
        refine AOps.nil ?_
        refine AAny.take (i := 19) rfl (by kernel_rfl) (by kernel_rfl) (by kernel_rfl) (by kernel_rfl) (by kernel_rfl) (by kernel_rfl) (Gv.build (cps := [(0, [_]), (1, [_]), (2, [_])]) (rs := [_, _, _]) pl64 rfl rfl rfl) ?_
        refine AAny.one (i := 20) rfl (by kernel_rfl) ?_
        refine AOps.buildSliceFF (rows := [[_, _, _]]) ps41_1 rfl rfl rfl rfl rfl ?_
        refine AOps.nil ?_
        refine AAny.one (i := 21) rfl (by kernel_rfl) ?_
        refine AOps.appendS (k := 3) Tryz.underlying41 Tryz.type64 rfl rfl rfl rfl rfl (fun _ => (.tail (.tail (.tail (.tail .head))))) (by rw [grow_len (k := 3) (fun _ => rfl)]) (by decide) rfl (by show (phis.length + 1) * 56 ≤ _; omega) (by show phis.length + 1 ≤ _; omega) ?_
        intro i53
        refine AOps.nil ?_
        refine AAny.take (i := 22) rfl (by kernel_rfl) (by kernel_rfl) (by kernel_rfl) (by kernel_rfl) (by kernel_rfl) (by kernel_rfl) (Gv.fieldO Tryz.underlying48 rfl Tryz.sizeOf41 (by decide) rfl rfl) ?_
        refine AAny.writes ?_
        refine AAnyW.one (i := 23) rfl (by kernel_rfl) (by kernel_rfl) ?_
        refine AOps.storeC (l := [_]) (new := [_, _, _, _, _, _, _]) Tryz.sizeOf41 rfl rfl rfl rfl rfl rfl (.tail .head) rfl rfl ?_
        refine GStep.ops (GStep.perm (Pick.perm (.tail (.tail (.tail .head))))) ?_
        refine GStep.ops (GStep.perm (Pick.perm (.tail (.tail (.tail (.tail .head)))))) ?_
        refine GStep.ops (GStep.perm (Pick.perm (.tail (.tail (.tail (.tail .head)))))) ?_
        refine GStep.ops (GStep.perm (Pick.perm (.tail (.tail (.tail (.tail (.tail (.tail (.tail .head))))))))) ?_
        refine GStep.ops (GStep.perm (Pick.perm (.tail (.tail (.tail (.tail (.tail .head))))))) ?_
        refine GStep.ops (GStep.perm (Pick.perm (.tail (.tail (.tail (.tail (.tail (.tail (.tail .head))))))))) ?_
        refine GStep.ops (GStep.perm (Pick.perm (.tail (.tail (.tail (.tail (.tail (.tail (.tail .head))))))))) ?_
        refine AOps.nil ?_
        refine AAnyW.done (by kernel_rfl) ?_
        refine AWP.exit ?_
        refine AWP.region rfl ?_
        refine AOps.val (Gv.add rfl rfl (by unfold I64; omega)) ?_
        refine AOps.val (Gv.move (v := .int _ _) rfl) ?_
        refine AOps.nil ?_
        exact ⟨(k + 1, (((lo || dstL vm d) || a.any fun s => !hasM vm s) || f.any fun s => !hasM bm s), phis ++ [⟨dstI vm d, a.map (getI vm), f.map (getI bm)⟩], insts, i53, jq), ⟨rfl, rfl, rfl, rfl, rfl, rfl, trivial⟩, ⟨rfl, trivial⟩, ⟨_, (.keep (.keep (.keep (.keep (.keep (.keep (.keep (.drop (.refl _))))))))), by dsimp only; rw [← grow_push (enc := encPhi) (rfl : phis ++ [⟨dstI vm d, a.map (getI vm), f.map (getI bm)⟩] = _), List.length_append]; rfl⟩, hI.phi hget, by dsimp only; omega⟩
    · skip
      rw [hx] at hia hget
      refine AWP.skip ?_
      refine AWP.seq ?_
      refine AWP.block ?_
      refine AWP.seq ?_
      refine AWP.region rfl ?_
      refine AOps.val (Gv.idxM (j := k) Tryz.underlying104 Tryz.sizeOf145 rfl rfl rfl hget) ?_
      refine AOps.val (Gv.load1F (c := .ifc _ _) Tryz.isAgg145 rfl) ?_
      refine AOps.val (Gv.assign (v := .ifc _ _) rfl) ?_
      refine AOps.nil ?_
      refine AWP.seq ?_
      refine AWP.region rfl ?_
      refine AOps.val (Gv.move (v := .po _ _) rfl) ?_
      refine AOps.val (Gv.move (v := .ifc _ _) rfl) ?_
      refine AOps.callM (makes2_spec _ _ _ _) rfl (fun _ _ => by kernel_rfl) rfl ?_
      refine AOps.callA rfl (Part.perm (.r (.r (.r (.r (.l (.l (.r (.rest _))))))))) (dst_tab_spec _ d) ?_
      rintro r25 O25 ⟨rfl, rfl⟩
      refine AOps.val (Gv.assign (v := .int _ _) rfl) ?_
      refine AOps.nil ?_
      refine AWP.seq ?_
      refine AWP.seq ?_
      refine AWP.region rfl ?_
      refine AOps.val (Gv.move (v := .ifc _ _) rfl) ?_
      refine AOps.val (Gv.assertF (zx := .agg [.str ⟨#[]⟩, .raw (.slice none 0 0), .raw (.slice none 0 0)]) Tryz.underlying148 rfl rfl (Nat.ne_of_beq_eq_false rfl) Tryz.zeroValue148 (fun I => ⟨_, rfl, lit_reps I [.string ⟨#[]⟩, (.slice none 0 0), (.slice none 0 0)]⟩)) ?_
      refine AOps.val (Gv.move (v := .tup _) rfl) ?_
      refine AOps.val (Gv.extract (v := .agg _) rfl rfl) ?_
      refine AOps.val (Gv.extract (v := .bool _) rfl rfl) ?_
      refine AOps.alloc (cs := [.str ⟨#[]⟩, .raw (.slice none 0 0), .raw (.slice none 0 0)]) Tryz.zeroValue148 rfl rfl ?_
      intro i9
      refine AOps.storeW Tryz.sizeOf148 rfl rfl rfl rfl rfl rfl .head rfl ?_
      refine AOps.val (Gv.assign (v := .bool _) rfl) ?_
      refine AOps.nil ?_
      refine AWP.seq ?_
      refine AWP.region rfl ?_
      refine AOps.val (Gv.move (v := .bool _) rfl) ?_
      refine AOps.nil ?_
      refine AWP.condF rfl rfl ?_
      refine AWP.skip ?_
      refine AWP.seq ?_
      refine AWP.region rfl ?_
      refine AOps.val (Gv.move (v := .ifc _ _) rfl) ?_
      refine AOps.val (Gv.assert1 Tryz.underlying152 rfl rfl) ?_
      refine AOps.alloc (cs := [.int .i64 0, .str ⟨#[]⟩, .raw (.slice none 0 0), .int .i64 0]) Tryz.zeroValue152 rfl rfl ?_
      intro i11
      refine AOps.storeW Tryz.sizeOf152 rfl rfl rfl rfl rfl rfl .head rfl ?_
      refine AOps.nil ?_
      refine AWP.regionDraw (fun j => Nat.beq j 19) (by kernel_rfl) rfl (Part.perm (.r (.l (.l (.l (.l (.l (.r (.rest _))))))))) ?_
      refine AAny.take (i := 0) rfl (by kernel_rfl) (by kernel_rfl) (by kernel_rfl) (by kernel_rfl) (by kernel_rfl) (by kernel_rfl) (Gv.fieldO Tryz.underlying48 rfl Tryz.sizeOf42 (by decide) rfl rfl) ?_
      refine AAny.take (i := 1) rfl (by kernel_rfl) (by kernel_rfl) (by kernel_rfl) (by kernel_rfl) (by kernel_rfl) (by kernel_rfl) (Gv.load1C (c := .own _ _) Tryz.isAgg42 rfl ⟨_, (.tail .head)⟩ rfl) ?_
      refine AAny.take (i := 2) rfl (by kernel_rfl) (by kernel_rfl) (by kernel_rfl) (by kernel_rfl) (by kernel_rfl) (by kernel_rfl) (Gv.fieldO Tryz.underlying152 rfl Tryz.sizeOf65 (by decide) rfl rfl) ?_
      refine AAny.take (i := 3) rfl (by kernel_rfl) (by kernel_rfl) (by kernel_rfl) (by kernel_rfl) (by kernel_rfl) (by kernel_rfl) (Gv.load1C (c := .int _ _) Tryz.isAgg65 rfl ⟨_, .head⟩ rfl) ?_
      refine AAny.take (i := 4) rfl (by kernel_rfl) (by kernel_rfl) (by kernel_rfl) (by kernel_rfl) (by kernel_rfl) (by kernel_rfl) (Gv.move (v := .int _ _) rfl) ?_
      refine AAny.take (i := 5) rfl (by kernel_rfl) (by kernel_rfl) (by kernel_rfl) (by kernel_rfl) (by kernel_rfl) (by kernel_rfl) (Gv.move (v := .po _ _) rfl) ?_
      refine AAny.take (i := 6) rfl (by kernel_rfl) (by kernel_rfl) (by kernel_rfl) (by kernel_rfl) (by kernel_rfl) (by kernel_rfl) (Gv.move (v := .po _ _) rfl) ?_
      refine AAny.take (i := 7) rfl (by kernel_rfl) (by kernel_rfl) (by kernel_rfl) (by kernel_rfl) (by kernel_rfl) (by kernel_rfl) (Gv.nilCheckO rfl) ?_
      refine AAny.take (i := 8) rfl (by kernel_rfl) (by kernel_rfl) (by kernel_rfl) (by kernel_rfl) (by kernel_rfl) (by kernel_rfl) (Gv.fieldO Tryz.underlying110 rfl Tryz.sizeOf108 (by decide) rfl rfl) ?_
      refine AAny.take (i := 10) rfl (by kernel_rfl) (by kernel_rfl) (by kernel_rfl) (by kernel_rfl) (by kernel_rfl) (by kernel_rfl) (Gv.fieldO Tryz.underlying152 rfl Tryz.sizeOf62 (by decide) rfl rfl) ?_
      refine AAny.take (i := 11) rfl (by kernel_rfl) (by kernel_rfl) (by kernel_rfl) (by kernel_rfl) (by kernel_rfl) (by kernel_rfl) (Gv.load1C (c := .fro _ _) Tryz.isAgg62 rfl ⟨_, .head⟩ rfl) ?_
      refine AAny.take (i := 13) rfl (by kernel_rfl) (by kernel_rfl) (by kernel_rfl) (by kernel_rfl) (by kernel_rfl) (by kernel_rfl) (Gv.fieldO Tryz.underlying152 rfl Tryz.sizeOf2 (by decide) rfl rfl) ?_
      refine AAny.take (i := 14) rfl (by kernel_rfl) (by kernel_rfl) (by kernel_rfl) (by kernel_rfl) (by kernel_rfl) (by kernel_rfl) (Gv.load1C (c := .int _ _) Tryz.isAgg2 rfl ⟨_, .head⟩ rfl) ?_
      refine AAny.one (i := 9) rfl (by kernel_rfl) ?_
      refine AOps.val (Gv.load1C (c := mref _) Tryz.isAgg108 rfl ⟨_, (.tail .head)⟩ rfl) ?_
      refine AOps.nil ?_
      refine AAny.one (i := 12) rfl (by kernel_rfl) ?_
      refine AOps.callA rfl (Part.perm (.r (.l (.l (.r (.r (.r (.r (.rest _))))))))) (all_tab_spec _ a hia) ?_
      rintro r69 O69 ⟨rfl, rfl⟩
      refine AOps.nil ?_
      refine AAny.take (i := 15) rfl (by kernel_rfl) (by kernel_rfl) (by kernel_rfl) (by kernel_rfl) (by kernel_rfl) (by kernel_rfl) (Gv.build (cps := [(0, [_]), (1, [_]), (2, [_]), (3, [_])]) (rs := [_, _, _, _]) pl67 rfl rfl rfl) ?_
      refine AAny.one (i := 16) rfl (by kernel_rfl) ?_
      refine AOps.buildSliceFF (rows := [[_, _, _, _]]) ps42_1 rfl rfl rfl rfl rfl ?_
      refine AOps.nil ?_
      refine AAny.one (i := 17) rfl (by kernel_rfl) ?_
      refine AOps.appendS (k := 4) Tryz.underlying42 Tryz.type67 rfl rfl rfl rfl rfl (fun _ => (.tail (.tail (.tail .head)))) (by rw [grow_len (k := 4) (fun _ => rfl)]) (by decide) rfl (by show (insts.length + 1) * 48 ≤ _; omega) (by show insts.length + 1 ≤ _; omega) ?_
      intro i74
      refine AOps.nil ?_
      refine AAny.take (i := 18) rfl (by kernel_rfl) (by kernel_rfl) (by kernel_rfl) (by kernel_rfl) (by kernel_rfl) (by kernel_rfl) (Gv.fieldO Tryz.underlying48 rfl Tryz.sizeOf42 (by decide) rfl rfl) ?_
      refine AAny.writes ?_
      refine AAnyW.one (i := 19) rfl (by kernel_rfl) (by kernel_rfl) ?_
      refine AOps.storeC (l := [_]) (new := [_, _, _, _, _, _, _]) Tryz.sizeOf42 rfl rfl rfl rfl rfl rfl (.tail .head) rfl rfl ?_
      refine GStep.ops (GStep.perm (Pick.perm (.tail (.tail (.tail (.tail (.tail (.tail (.tail (.tail .head)))))))))) ?_
      refine GStep.ops (GStep.perm (Pick.perm (.tail (.tail (.tail (.tail .head)))))) ?_
      refine GStep.ops (GStep.perm (Pick.perm (.tail (.tail (.tail (.tail .head)))))) ?_
      refine GStep.ops (GStep.perm (Pick.perm (.tail (.tail (.tail (.tail (.tail (.tail (.tail (.tail .head)))))))))) ?_
      refine GStep.ops (GStep.perm (Pick.perm (.tail (.tail (.tail (.tail (.tail .head))))))) ?_
      refine GStep.ops (GStep.perm (Pick.perm (.tail (.tail (.tail (.tail (.tail (.tail (.tail (.tail .head)))))))))) ?_
      refine GStep.ops (GStep.perm (Pick.perm (.tail (.tail (.tail (.tail (.tail (.tail (.tail (.tail .head)))))))))) ?_
      refine AOps.nil ?_
      refine AAnyW.done (by kernel_rfl) ?_
      refine AWP.region rfl ?_
      refine AOps.val (Gv.add rfl rfl (by unfold I64; omega)) ?_
      refine AOps.val (Gv.move (v := .int _ _) rfl) ?_
      refine AOps.nil ?_
      exact ⟨(k + 1, ((lo || dstL vm d) || a.any fun s => !hasM vm s), phis, insts ++ [⟨op, dstI vm d, a.map (getI vm), n⟩], jp, i74), ⟨rfl, rfl, rfl, rfl, rfl, rfl, trivial⟩, ⟨rfl, trivial⟩, ⟨_, (.keep (.keep (.keep (.keep (.keep (.keep (.keep (.drop (.drop (.refl _)))))))))), by dsimp only; rw [← grow_push (enc := encInst) (rfl : insts ++ [⟨op, dstI vm d, a.map (getI vm), n⟩] = _), List.length_append]; rfl⟩, hI.inst hget, by dsimp only; omega⟩
  · skip
    obtain rfl : k = items.length := by have := hI.hk; simp at ck; omega
    refine GStep.wp (GStep.knowC (off := 1) (rows := phis.map encPhi) (.tail .head) (.tail .head) rfl (by intro r hr; obtain ⟨x, _, rfl⟩ := List.mem_map.1 hr; rfl) (by decide) (by simp)) ?_
    refine GStep.wp (GStep.knowC (off := 2) (rows := insts.map encInst) .head .head rfl (by intro r hr; obtain ⟨x, _, rfl⟩ := List.mem_map.1 hr; rfl) (by decide) (by simp)) ?_
    have hph : phis = items.filterMap (phiOf vm bm) := by have := hI.phis; rwa [List.take_length] at this
    have hin : insts = items.filterMap (instOf vm) := by have := hI.insts; rwa [List.take_length] at this
    have hlo : lo = (lost || items.any (lostI vm bm)) := by have := hI.lost; rwa [List.take_length] at this
    refine AWP.exit ?_
    refine AWP.seq ?_
    refine AWP.region rfl ?_
    refine AOps.val (Gv.fieldF Tryz.underlying106 rfl Tryz.sizeOf43 (by decide) rfl rfl) ?_
    refine AOps.val (Gv.load1F (c := .int _ _) Tryz.isAgg43 rfl) ?_
    refine AOps.val (Gv.fieldO Tryz.underlying48 rfl Tryz.sizeOf46 (by decide) rfl rfl) ?_
    refine AOps.val (Gv.fieldO Tryz.underlying46 rfl Tryz.sizeOf43 (by decide) rfl rfl) ?_
    refine AOps.storeC (l := [_]) (new := [_, _, _, _, _, _, _]) Tryz.sizeOf43 rfl rfl rfl rfl rfl rfl .head rfl rfl ?_
    refine AOps.nil ?_
    refine AWP.seq ?_
    refine AWP.seq ?_
    refine AWP.region rfl ?_
    refine AOps.val (Gv.fieldF Tryz.underlying106 rfl Tryz.sizeOf9 (by decide) rfl rfl) ?_
    refine AOps.val (Gv.load1F (c := .str _) Tryz.isAgg9 rfl) ?_
    refine AOps.val (Gv.neqT rfl rfl) ?_
    refine AOps.nil ?_
    refine AWP.cond rfl (fun cv => ?_) (fun cv => ?_)
    · skip
      have hv : ¬ h.v = ⟨#[]⟩ := by simpa using cv
      refine AWP.regionDraw (fun j => Nat.beq j 10) (by kernel_rfl) rfl (Part.perm (.rest _)) ?_
      refine AAny.take (i := 0) rfl (by kernel_rfl) (by kernel_rfl) (by kernel_rfl) (by kernel_rfl) (by kernel_rfl) (by kernel_rfl) (Gv.move (v := .po _ _) rfl) ?_
      refine AAny.take (i := 1) rfl (by kernel_rfl) (by kernel_rfl) (by kernel_rfl) (by kernel_rfl) (by kernel_rfl) (by kernel_rfl) (Gv.move (v := .po _ _) rfl) ?_
      refine AAny.take (i := 2) rfl (by kernel_rfl) (by kernel_rfl) (by kernel_rfl) (by kernel_rfl) (by kernel_rfl) (by kernel_rfl) (Gv.nilCheckO rfl) ?_
      refine AAny.take (i := 3) rfl (by kernel_rfl) (by kernel_rfl) (by kernel_rfl) (by kernel_rfl) (by kernel_rfl) (by kernel_rfl) (Gv.fieldO Tryz.underlying110 rfl Tryz.sizeOf108 (by decide) rfl rfl) ?_
      refine AAny.take (i := 5) rfl (by kernel_rfl) (by kernel_rfl) (by kernel_rfl) (by kernel_rfl) (by kernel_rfl) (by kernel_rfl) (Gv.fieldF Tryz.underlying106 rfl Tryz.sizeOf9 (by decide) rfl rfl) ?_
      refine AAny.take (i := 6) rfl (by kernel_rfl) (by kernel_rfl) (by kernel_rfl) (by kernel_rfl) (by kernel_rfl) (by kernel_rfl) (Gv.load1F (c := .str _) Tryz.isAgg9 rfl) ?_
      refine AAny.one (i := 4) rfl (by kernel_rfl) ?_
      refine AOps.val (Gv.load1C (c := mref _) Tryz.isAgg108 rfl ⟨_, (.tail (.tail .head))⟩ rfl) ?_
      refine AOps.nil ?_
      refine AAny.one (i := 7) rfl (by kernel_rfl) ?_
      refine AOps.callA rfl (Part.perm (.r (.r (.l (.l (.r (.rest _))))))) (of_tab_spec _ h.v) ?_
      rintro r91 O91 ⟨rfl, rfl⟩
      refine AOps.nil ?_
      refine AAny.takeK (i := 8) rfl (by kernel_rfl) (by kernel_rfl) (by kernel_rfl) (by kernel_rfl) (Gv.fieldO Tryz.underlying48 rfl Tryz.sizeOf46 (by decide) rfl rfl) ?_
      refine AAny.take (i := 9) rfl (by kernel_rfl) (by kernel_rfl) (by kernel_rfl) (by kernel_rfl) (by kernel_rfl) (by kernel_rfl) (Gv.fieldO Tryz.underlying46 rfl Tryz.sizeOf3 (by decide) rfl rfl) ?_
      refine AAny.writes ?_
      refine AAnyW.one (i := 10) rfl (by kernel_rfl) (by kernel_rfl) ?_
      refine AOps.storeC (l := [_]) (new := [_, _, _, _, _, _, _]) Tryz.sizeOf3 rfl rfl rfl rfl rfl rfl (.tail (.tail .head)) rfl rfl ?_
      refine AOps.nil ?_
      refine AAnyW.done (by kernel_rfl) ?_
      refine AWP.seq ?_
      refine AWP.regionDraw (fun j => false) (by kernel_rfl) rfl (Part.perm (.rest _)) ?_
      refine AAny.take (i := 0) rfl (by kernel_rfl) (by kernel_rfl) (by kernel_rfl) (by kernel_rfl) (by kernel_rfl) (by kernel_rfl) (Gv.fieldO Tryz.underlying48 rfl Tryz.sizeOf46 (by decide) rfl rfl) ?_
      refine AAny.take (i := 1) rfl (by kernel_rfl) (by kernel_rfl) (by kernel_rfl) (by kernel_rfl) (by kernel_rfl) (by kernel_rfl) (Gv.fieldO Tryz.underlying46 rfl Tryz.sizeOf44 (by decide) rfl rfl) ?_
      refine AAny.take (i := 2) rfl (by kernel_rfl) (by kernel_rfl) (by kernel_rfl) (by kernel_rfl) (by kernel_rfl) (by kernel_rfl) (Gv.cutArr Tryz.underlying44 Tryz.sizeOf3 (by decide) rfl) ?_
      refine AAny.take (i := 3) rfl (by kernel_rfl) (by kernel_rfl) (by kernel_rfl) (by kernel_rfl) (by kernel_rfl) (by kernel_rfl) (Gv.move (v := .po _ _) rfl) ?_
      refine AAny.take (i := 4) rfl (by kernel_rfl) (by kernel_rfl) (by kernel_rfl) (by kernel_rfl) (by kernel_rfl) (by kernel_rfl) (Gv.move (v := .po _ _) rfl) ?_
      refine AAny.take (i := 5) rfl (by kernel_rfl) (by kernel_rfl) (by kernel_rfl) (by kernel_rfl) (by kernel_rfl) (by kernel_rfl) (Gv.nilCheckO rfl) ?_
      refine AAny.take (i := 6) rfl (by kernel_rfl) (by kernel_rfl) (by kernel_rfl) (by kernel_rfl) (by kernel_rfl) (by kernel_rfl) (Gv.fieldO Tryz.underlying110 rfl Tryz.sizeOf108 (by decide) rfl rfl) ?_
      refine AAny.take (i := 8) rfl (by kernel_rfl) (by kernel_rfl) (by kernel_rfl) (by kernel_rfl) (by kernel_rfl) (by kernel_rfl) (Gv.fieldF Tryz.underlying106 rfl Tryz.sizeOf62 (by decide) rfl rfl) ?_
      refine AAny.take (i := 9) rfl (by kernel_rfl) (by kernel_rfl) (by kernel_rfl) (by kernel_rfl) (by kernel_rfl) (by kernel_rfl) (Gv.load1F (c := .fro _ _) Tryz.isAgg62 rfl) ?_
      refine AAny.one (i := 7) rfl (by kernel_rfl) ?_
      refine AOps.val (Gv.load1C (c := mref _) Tryz.isAgg108 rfl ⟨_, .head⟩ rfl) ?_
      refine AOps.nil ?_
      refine AAny.one (i := 10) rfl (by kernel_rfl) ?_
      refine AOps.callA rfl (Part.perm (.l (.r (.r (.r (.l (.rest _))))))) (all_tab_spec _ h.tos (by omega)) ?_
      rintro r104 O104 ⟨rfl, rfl⟩
      refine AOps.nil ?_
      refine AAny.one (i := 11) rfl (by kernel_rfl) ?_
      refine AOps.copyA (new := _) Tryz.underlying24 Tryz.sizeOf3 rfl rfl (by rw [List.length_map]; exact ht) (.tail (.tail (.tail .head))) (by rw [List.length_map]; show 5 + h.tos.length ≤ 7; omega) (to_cells _ (by rw [List.length_map]; exact ht)) ?_
      refine AOps.nil ?_
      refine AAny.done (by kernel_rfl) ?_
      refine AWP.seq ?_
      refine AWP.region rfl ?_
      refine AOps.val (Gv.loadWC Tryz.isAgg48 Tryz.sizeOf48 rfl ⟨_, (.tail (.tail (.tail .head)))⟩ rfl) ?_
      refine AOps.storeW Tryz.sizeOf48 rfl rfl rfl rfl rfl rfl (.tail (.tail (.tail (.tail .head)))) rfl ?_
      refine AOps.nil ?_
      refine GStep.wp (GStep.perm (Pick.perm (.tail .head))) ?_
      refine GStep.wp (GStep.perm (Pick.perm (.tail (.tail .head)))) ?_
      refine GStep.wp (GStep.perm (Pick.perm (.tail (.tail .head)))) ?_
      refine GStep.wp (GStep.perm (Pick.perm (.tail (.tail (.tail .head))))) ?_
      refine GStep.wp (GStep.perm (Pick.perm (.tail (.tail (.tail (.tail .head)))))) ?_
      refine AWP.ret ?_
      repeat (first | refine aseqQ_ret ?_ | refine ablockQ_ret ?_)
      refine afin.c1 rfl ⟨_, .head⟩ Tryz.isAgg48 Tryz.sizeOf48 rfl ?_
      exact ⟨(), by rw [hph, hin]; exact blkV (by rw [if_neg hv]), ⟨_, .drop (.drop (.refl _)), tabO_eq (by rw [hlo]; unfold lostBlk; rw [decide_eq_false hv]; simp [Bool.or_assoc])⟩, trivial⟩
    · skip
      have hv : h.v = ⟨#[]⟩ := by simpa using cv
      refine AWP.skip ?_
      refine AWP.seq ?_
      refine AWP.regionDraw (fun j => false) (by kernel_rfl) rfl (Part.perm (.rest _)) ?_
      refine AAny.take (i := 0) rfl (by kernel_rfl) (by kernel_rfl) (by kernel_rfl) (by kernel_rfl) (by kernel_rfl) (by kernel_rfl) (Gv.fieldO Tryz.underlying48 rfl Tryz.sizeOf46 (by decide) rfl rfl) ?_
      refine AAny.take (i := 1) rfl (by kernel_rfl) (by kernel_rfl) (by kernel_rfl) (by kernel_rfl) (by kernel_rfl) (by kernel_rfl) (Gv.fieldO Tryz.underlying46 rfl Tryz.sizeOf44 (by decide) rfl rfl) ?_
      refine AAny.take (i := 2) rfl (by kernel_rfl) (by kernel_rfl) (by kernel_rfl) (by kernel_rfl) (by kernel_rfl) (by kernel_rfl) (Gv.cutArr Tryz.underlying44 Tryz.sizeOf3 (by decide) rfl) ?_
      refine AAny.take (i := 3) rfl (by kernel_rfl) (by kernel_rfl) (by kernel_rfl) (by kernel_rfl) (by kernel_rfl) (by kernel_rfl) (Gv.move (v := .po _ _) rfl) ?_
      refine AAny.take (i := 4) rfl (by kernel_rfl) (by kernel_rfl) (by kernel_rfl) (by kernel_rfl) (by kernel_rfl) (by kernel_rfl) (Gv.move (v := .po _ _) rfl) ?_
      refine AAny.take (i := 5) rfl (by kernel_rfl) (by kernel_rfl) (by kernel_rfl) (by kernel_rfl) (by kernel_rfl) (by kernel_rfl) (Gv.nilCheckO rfl) ?_
      refine AAny.take (i := 6) rfl (by kernel_rfl) (by kernel_rfl) (by kernel_rfl) (by kernel_rfl) (by kernel_rfl) (by kernel_rfl) (Gv.fieldO Tryz.underlying110 rfl Tryz.sizeOf108 (by decide) rfl rfl) ?_
      refine AAny.take (i := 8) rfl (by kernel_rfl) (by kernel_rfl) (by kernel_rfl) (by kernel_rfl) (by kernel_rfl) (by kernel_rfl) (Gv.fieldF Tryz.underlying106 rfl Tryz.sizeOf62 (by decide) rfl rfl) ?_
      refine AAny.take (i := 9) rfl (by kernel_rfl) (by kernel_rfl) (by kernel_rfl) (by kernel_rfl) (by kernel_rfl) (by kernel_rfl) (Gv.load1F (c := .fro _ _) Tryz.isAgg62 rfl) ?_
      refine AAny.one (i := 7) rfl (by kernel_rfl) ?_
      refine AOps.val (Gv.load1C (c := mref _) Tryz.isAgg108 rfl ⟨_, (.tail (.tail .head))⟩ rfl) ?_
      refine AOps.nil ?_
      refine AAny.one (i := 10) rfl (by kernel_rfl) ?_
      refine AOps.callA rfl (Part.perm (.r (.r (.l (.r (.l (.rest _))))))) (all_tab_spec _ h.tos (by omega)) ?_
      rintro r104 O104 ⟨rfl, rfl⟩
      refine AOps.nil ?_
      refine AAny.one (i := 11) rfl (by kernel_rfl) ?_
      refine AOps.copyA (new := _) Tryz.underlying24 Tryz.sizeOf3 rfl rfl (by rw [List.length_map]; exact ht) (.tail (.tail .head)) (by rw [List.length_map]; show 5 + h.tos.length ≤ 7; omega) (to_cells _ (by rw [List.length_map]; exact ht)) ?_
      refine AOps.nil ?_
      refine AAny.done (by kernel_rfl) ?_
      refine AWP.seq ?_
      refine AWP.region rfl ?_
      refine AOps.val (Gv.loadWC Tryz.isAgg48 Tryz.sizeOf48 rfl ⟨_, (.tail (.tail .head))⟩ rfl) ?_
      refine AOps.storeW Tryz.sizeOf48 rfl rfl rfl rfl rfl rfl (.tail (.tail (.tail .head))) rfl ?_
      refine AOps.nil ?_
      refine GStep.wp (GStep.perm (Pick.perm (.tail .head))) ?_
      refine GStep.wp (GStep.perm (Pick.perm (.tail (.tail (.tail (.tail .head)))))) ?_
      refine GStep.wp (GStep.perm (Pick.perm (.tail (.tail .head)))) ?_
      refine GStep.wp (GStep.perm (Pick.perm (.tail (.tail (.tail .head))))) ?_
      refine GStep.wp (GStep.perm (Pick.perm (.tail (.tail (.tail (.tail .head)))))) ?_
      refine AWP.ret ?_
      repeat (first | refine aseqQ_ret ?_ | refine ablockQ_ret ?_)
      refine afin.c1 rfl ⟨_, .head⟩ Tryz.isAgg48 Tryz.sizeOf48 rfl ?_
      exact ⟨(), by rw [hph, hin]; exact blkV (by rw [if_pos hv]), ⟨_, .drop (.drop (.refl _)), tabO_eq (by rw [hlo]; unfold lostBlk; rw [decide_eq_true hv]; simp [Bool.or_assoc])⟩, trivial⟩
theorem blk_tab_spec {t bv bb : Nat} {vm bm : NMap} (lost : Bool) (h : PHead) (items : List PItem) (hi : ItemsOk items) (ht : h.tos.length ≤ 2) :
    ACall Tryz.prog E 52 [.po t 0, .agg (encPB (h, items))] (tabO t bv bb vm bm lost)
      (fun z O' => z = .agg (encBlk (blockOf vm bm (h, items))) ∧ O' = tabO t bv bb vm bm (lost || lostBlk vm bm (h, items))) :=
  (ACall.exact (x := fun _ : Unit => .agg (encBlk (blockOf vm bm (h, items)))) (M := fun _ => tabO t bv bb vm bm (lost || lostBlk vm bm (h, items))) (p := fun _ => True) (blk_tabR lost h items hi ht)).mono fun _ _ ⟨_, h1, h2, _⟩ => ⟨h1, h2⟩
end Go.Proofs.YtdkhlgiohpdihaaGreatDoor
namespace Go.Proofs.YtdkhlgiohpdihaaGreatDoor
section
variable {E : World} {P : Program} {ops : Array Oper} {K : AEnv → OL → Prop} {env : AEnv} {O O' : OL} {rest : List Oper}
variable {d ty : Nat} {pos : String} {af : Array Edge} {x y z : Operand} {t u e : TypeId}
theorem zeroCells_mem {zero : Array Value} {n : Nat} {v : Value} (h : v ∈ (Builtin.zeroCells zero n).toList) : v ∈ zero.toList := by
  unfold Builtin.zeroCells at h
  rw [Array.toList_map, Array.toList_range] at h
  obtain ⟨i, hi, rfl⟩ := List.mem_map.1 h
  have hi := List.mem_range.1 hi
  have hz : 0 < zero.size := by
    rcases Nat.eq_zero_or_pos zero.size with h0 | h0
    · rw [h0, Nat.mul_zero] at hi; omega
    · exact h0
  have hlt : i % zero.size < zero.size := Nat.mod_lt _ hz
  rw [getElem!_pos zero _ hlt]
  exact Array.mem_toList_iff.2 (Array.getElem_mem hlt)
theorem Gv.capN (ht : P.underlying t = some (.slice e)) (hx : aev env x = .raw (.slice none 0 0)) : Gv P env O (Oper.mk (some d) (.call { callee := .builtin .cap, args := #[x], argTypes := #[t] }) ty pos af none) (.int .i64 0) := Gv.ofEv fun I ρ h => ⟨_, rfl, fun w => by
  simp [execOp, resolve, evRaw h hx, invoke, builtin, Builtin.cap_, run_underlying ht, goInt]⟩
theorem Gv.cutN {k : Nat} (ht : P.underlying t = some (.slice e)) (hs : ∀ w, (sizeOf e).run P w = .ok k w) (hx : aev env x = .raw (.slice none 0 0)) (hy : aev env y = .int .i64 0) : Gv P env O (Oper.mk (some d) (.slice t x none (some y) none) ty pos af none) (.raw (.slice none 0 0)) := Gv.ofEv fun I ρ h => ⟨_, rfl, fun w => by
  simp [execOp, Instr.sliceAt, Instr.slice, Instr.sliceBounds, Instr.sliceBound, asIntOf, Sem.run_bind, run_underlying ht, hs, evRaw h hx, evI h hy]⟩
theorem AOps.appendZ {ti : TypeInfo} {zv : Value} {k n : Nat} {kn : IntKind} (ht : P.underlying t = some (.slice e)) (htu : P.underlying u = some (.int kn)) (hi : P.info? e = some ti) (hz : ti.zero = some zv) (hk : ti.size = k) (hzc : zv.cells.size = k) (hz1 : zv.cells.toList.all Value.oneCell' = true)
    (hx : aev env x = .raw (.slice none 0 0)) (hy : aev env y = .int .i64 n) (h0 : 0 < n) (hk0 : 0 < k) (hb : n * ti.bytes ≤ 140737488355328) (hb2 : n ≤ 140737488355328)
    (kk : ∀ j cs, AOps P E ops K rest (aupd env d (.own j n)) ((j, .grow k e cs) :: O)) :
    AOps P E ops K (Oper.mk (some d) (.call { callee := .builtin .append, args := #[x, y], argTypes := #[t, u] }) ty pos af none :: rest) env O := fun I F ρ w h1 h2 => by
  obtain ⟨htop, L, hL, hS⟩ := id h2
  have ex := evRaw h1 hx
  have ey := evI h1 hy
  have hrun := Go.Lib.run_append_nil_zeros (P := P) w t u ty e ti zv .i64 kn ht htu hi hz n h0 (by omega) (by omega) (by omega)
  have hcapge := grownCap_ge w n 0 e
  obtain ⟨vs, hvs⟩ : ∃ vs, (Builtin.zeroCells zv.cells n).toList = vs := ⟨_, rfl⟩
  obtain ⟨junk, hjunk⟩ : ∃ junk, (Builtin.zeroCells zv.cells (grownCap w n 0 e - n)).toList = junk := ⟨_, rfl⟩
  have hvl : vs.length = n * k := by rw [← hvs, Array.length_toList, size_zeroCells, hzc]
  have hjl : junk.length = (grownCap w n 0 e - n) * k := by rw [← hjunk, Array.length_toList, size_zeroCells, hzc]
  have harr : Builtin.zeroCells zv.cells n ++ Builtin.zeroCells zv.cells (grownCap w n 0 e - n) = (vs ++ junk).toArray := by rw [← hvs, ← hjunk]; simp
  rw [harr] at hrun
  refine Ops.step rfl ?_
  unfold OpW
  have : (execOp (Go.Proofs.YtdkhlgiohpdihaaGreatDoor.ev ρ) (Oper.mk (some d) (.call { callee := .builtin .append, args := #[x, y], argTypes := #[t, u] }) ty pos af none)).run P w = .ok (.value (.slice (some ⟨w.heap.size, 0, none⟩) n (grownCap w n 0 e))) (w.drew.alloc (.cells (vs ++ junk).toArray e)) := by
    simp [execOp, resolve, ex, ey, invoke, builtin, hrun, Result.andThen]
  rw [this]
  obtain ⟨j, hj⟩ := h2.name
  obtain ⟨J, ek, hle, e3, htop'⟩ := hj (some w.heap.size, grownCap w n 0 e)
  have hS2 : SL I.k ((w.heap.size, .cells (vs ++ junk).toArray e (0, 0)) :: (L ++ F)) E (w.drew.alloc (.cells (vs ++ junk).toArray e)) := hS.drew.alloc _
  refine Ops.mono (fun _ _ => postK.up hle) _ _ _ (kk j (vs.map lit) J F _ _ ((h1.mono hle).upd d ⟨some w.heap.size, _, e3, rfl⟩) ⟨htop', _, ⟨[_], L, rfl, ⟨some w.heap.size, _, n, vs, e3, lit_reps J vs, fun u hu => ?_, hvl, hcapge, .inr ⟨w.heap.size, junk, rfl, rfl, ?_⟩⟩, hL.mono hle⟩, by rw [ek]; exact hS2⟩)
  · exact List.all_eq_true.1 hz1 u (zeroCells_mem (hvs ▸ hu))
  · rw [List.length_append, hvl, hjl, ← Nat.add_mul]; congr 1; omega
end
end Go.Proofs.YtdkhlgiohpdihaaGreatDoor
namespace Go.Proofs.YtdkhlgiohpdihaaGreatDoor
open Go.Proofs Go.Lib Go.Shelf Go.RowKit
set_option maxRecDepth 20000
variable {E : World}
theorem growV_spec (n : Nat) (hn : n ≤ 1000000000) : ACall Tryz.prog E 80 [.raw (.slice none 0 0), .int .i64 n] []
    (fun x O' => ∃ i : Nat, x = .own i 0 ∧ O' = [(i, .grow 2 38 [])]) := by
  refine ACall.intro Tryz.func80 rfl (by decide) rfl ?_
  refine AWP.seq ?_
  refine AWP.region rfl ?_
  refine AOps.val (Gv.assign (v := .raw _) rfl) ?_
  refine AOps.nil ?_
  refine AWP.seq ?_
  refine AWP.seq ?_
  refine AWP.region rfl ?_
  refine AOps.val (Gv.move (v := .int _ _) rfl) ?_
  refine AOps.val (Gv.lss rfl rfl) ?_
  refine AOps.nil ?_
  refine AWP.condF rfl (by simp) ?_
  refine AWP.skip ?_
  refine AWP.seq ?_
  refine AWP.seq ?_
  refine AWP.region rfl ?_
  refine AOps.val (Gv.move (v := .int _ _) rfl) ?_
  refine AOps.val (Gv.move (v := .raw _) rfl) ?_
  refine AOps.val (Gv.capN Tryz.underlying23 rfl) ?_
  refine AOps.val (Gv.move (v := .raw _) rfl) ?_
  refine AOps.val (Gv.lenR Tryz.underlying23 rfl) ?_
  refine AOps.val (Gv.sub rfl rfl (by unfold I64; omega)) ?_
  refine AOps.val (Gv.sub rfl rfl (by unfold I64; omega)) ?_
  refine AOps.val (Gv.assign (v := .int _ _) rfl) ?_
  refine AOps.nil ?_
  refine AWP.seq ?_
  refine AWP.region rfl ?_
  refine AOps.val (Gv.move (v := .int _ _) rfl) ?_
  refine AOps.val (Gv.gtr rfl rfl) ?_
  refine AOps.nil ?_
  refine AWP.condP rfl (fun c0 => ?_) (fun c0 => ?_)
  · skip
    refine AWP.region rfl ?_
    refine AOps.val (Gv.move (v := .raw _) rfl) ?_
    refine AOps.val (Gv.move (v := .raw _) rfl) ?_
    refine AOps.val (Gv.capN Tryz.underlying23 rfl) ?_
    refine AOps.val (Gv.cutN Tryz.underlying23 Tryz.sizeOf38 rfl rfl) ?_
    refine AOps.val (Gv.move (v := .int _ _) rfl) ?_
    refine AOps.appendZ (n := n) (k := 2) Tryz.underlying23 Tryz.underlying3 Tryz.type38 rfl rfl rfl (by decide) rfl rfl (by omega) (by decide) (by show n * 24 ≤ _; omega) (by omega) ?_
    intro i22 cs22
    refine AOps.val (Gv.move (v := .raw _) rfl) ?_
    refine AOps.val (Gv.lenR Tryz.underlying23 rfl) ?_
    refine AOps.cut0 Tryz.underlying23 Tryz.sizeOf38 rfl rfl .head ?_
    refine AOps.val (Gv.assign (v := .own _ _) rfl) ?_
    refine AOps.nil ?_
    refine AWP.seq ?_
    refine AWP.region rfl ?_
    refine AOps.val (Gv.move (v := .own _ _) rfl) ?_
    refine AOps.val (Gv.assign (v := .own _ _) rfl) ?_
    refine AOps.nil ?_
    refine AWP.ret ?_
    repeat (first | refine aseqQ_ret ?_ | refine ablockQ_ret ?_)
    refine afin.t1 (x := .own _ _) rfl ?_
    exact ⟨i22, rfl, rfl⟩
  · skip
    refine AWP.skip ?_
    refine AWP.seq ?_
    refine AWP.region rfl ?_
    refine AOps.val (Gv.move (v := .raw _) rfl) ?_
    refine AOps.val (Gv.assign (v := .raw _) rfl) ?_
    refine AOps.nil ?_
    refine adopt_wp (t := 4) (k := 2) (T := 38) rfl ?_
    intro i4
    refine AWP.ret ?_
    repeat (first | refine aseqQ_ret ?_ | refine ablockQ_ret ?_)
    refine afin.t1 (x := .own _ _) rfl ?_
    exact ⟨i4, rfl, rfl⟩
def encVL (l : List PVar) : List AV := [.fro 2 (l.map encVar)]
def lenVL (xs : List (List PVar)) : Nat := (xs.map List.length).sum
theorem lenVL_take {xs : List (List PVar)} {k : Nat} (h : k < xs.length) : lenVL (xs.take (k + 1)) = lenVL (xs.take k) + xs[k].length := by
  unfold lenVL; rw [List.take_succ_eq_append_getElem h, List.map_append, List.sum_append]; simp only [List.map_cons, List.map_nil, List.sum_cons, List.sum_nil, Nat.add_zero]
theorem lenVL_le {xs : List (List PVar)} (k : Nat) : lenVL (xs.take k) ≤ lenVL xs := by
  unfold lenVL
  conv => rhs; rw [← List.take_append_drop k xs]
  rw [List.map_append, List.sum_append]; omega
theorem flat_lenVL (xs : List (List PVar)) : xs.flatten.length = lenVL xs := by unfold lenVL; rw [List.length_flatten]
theorem flat_take {xs : List (List PVar)} {k : Nat} (h : k < xs.length) : ((xs.take (k + 1)).flatten.map encVar).flatten = ((xs.take k).flatten.map encVar).flatten ++ (xs[k].map encVar).flatten := by
  rw [List.take_succ_eq_append_getElem h, List.flatten_append, List.map_append, List.flatten_append]; simp
theorem concatV_spec (xs : List (List PVar)) (hl : xs.length ≤ 100000) (hn : lenVL xs ≤ 1000000000) : AFun Tryz.prog E 50 [.fro 1 (xs.map encVL)] (.fro 2 (xs.flatten.map encVar)) := by
  refine ACall.intro Tryz.func50 rfl (by decide) rfl ?_
  refine AWP.seq ?_
  refine AWP.region rfl ?_
  refine AOps.val (Gv.assign (v := .raw _) rfl) ?_
  refine AOps.nil ?_
  refine AWP.seq ?_
  refine AWP.region rfl ?_
  refine AOps.val (Gv.assign (v := .int _ _) rfl) ?_
  refine AOps.nil ?_
  refine AWP.seq ?_
  refine AWP.seq ?_
  refine AWP.region rfl ?_
  refine AOps.val (Gv.move (v := .fro _ _) rfl) ?_
  refine AOps.val (Gv.lenM Tryz.underlying142 rfl) ?_
  refine AOps.val (Gv.move (v := .int _ _) rfl) ?_
  refine AOps.nil ?_
  refine AWP.block ?_
  refine AWP.loop (γ := Nat) [0, 9, 10] (fun g => [(11, .int .i64 g), (3, .int .i64 (lenVL (xs.take g)))]) (fun g => []) (fun g => g ≤ xs.length) (fun g => xs.length - g) 0 ⟨rfl, rfl, trivial⟩ ⟨_, (.refl _), rfl⟩ (Nat.zero_le _) ?_
  rintro k hk
  refine AWP.seq ?_
  refine AWP.region rfl ?_
  refine AOps.val (Gv.lss rfl rfl) ?_
  refine AOps.nil ?_
  refine AWP.seq ?_
  refine AWP.condP rfl (fun ck => ?_) (fun ck => ?_)
  · skip
    have hk2 : k < xs.length := by omega
    have hit := lenVL_take hk2
    have hle := lenVL_le (xs := xs) k
    have hle2 := lenVL_le (xs := xs) (k + 1)
    refine AWP.skip ?_
    refine AWP.seq ?_
    refine AWP.block ?_
    refine AWP.seq ?_
    refine AWP.region rfl ?_
    refine AOps.val (Gv.idxM Tryz.underlying142 Tryz.sizeOf23 rfl rfl rfl (List.getElem?_eq_getElem (by omega))) ?_
    refine AOps.val (Gv.load1F (c := .fro _ _) Tryz.isAgg23 rfl) ?_
    refine AOps.val (Gv.assign (v := .fro _ _) rfl) ?_
    refine AOps.nil ?_
    refine AWP.seq ?_
    refine AWP.region rfl ?_
    refine AOps.val (Gv.move (v := .int _ _) rfl) ?_
    refine AOps.val (Gv.move (v := .fro _ _) rfl) ?_
    refine AOps.val (Gv.lenM Tryz.underlying23 rfl) ?_
    refine AOps.val (Gv.add rfl rfl (by first | (unfold I64; omega) | (unfold I64; show _ ∧ ((lenVL (xs.take k) : Nat) : Int) + ((xs[k].map encVar).length : Int) ≤ _; rw [List.length_map]; omega))) ?_
    refine AOps.val (Gv.assign (v := .int _ _) rfl) ?_
    refine AOps.nil ?_
    refine AWP.seq ?_
    refine AWP.region rfl ?_
    refine AOps.val (Gv.move (v := .int _ _) rfl) ?_
    refine AOps.val (Gv.lss rfl rfl) ?_
    refine AOps.nil ?_
    refine AWP.condF rfl (by simp; omega) ?_
    refine AWP.skip ?_
    refine AWP.region rfl ?_
    refine AOps.val (Gv.add rfl rfl (by first | (unfold I64; omega) | (unfold I64; show _ ∧ ((lenVL (xs.take k) : Nat) : Int) + ((xs[k].map encVar).length : Int) ≤ _; rw [List.length_map]; omega))) ?_
    refine AOps.val (Gv.move (v := .int _ _) rfl) ?_
    refine AOps.nil ?_
    exact ⟨k + 1, ⟨rfl, rfl, rfl, trivial⟩, ⟨rfl, by rw [hit]; exact congrArg (AV.int .i64) (by omega), trivial⟩, ⟨_, (.refl _), rfl⟩, hk2, by omega⟩
  · skip
    obtain rfl : k = xs.length := by omega
    rw [List.take_length]
    refine AWP.exit ?_
    refine AWP.seq ?_
    refine AWP.region rfl ?_
    refine AOps.val (Gv.move (v := .int _ _) rfl) ?_
    refine AOps.callA rfl (Part.perm (.rest _)) (growV_spec (lenVL xs) hn) ?_
    rintro r24 O24 ⟨j0, rfl, rfl⟩
    refine AOps.val (Gv.assign (v := .own _ _) rfl) ?_
    refine AOps.nil ?_
    refine AWP.seq ?_
    refine AWP.seq ?_
    refine AWP.region rfl ?_
    refine AOps.val (Gv.move (v := .fro _ _) rfl) ?_
    refine AOps.val (Gv.lenM Tryz.underlying142 rfl) ?_
    refine AOps.val (Gv.move (v := .int _ _) rfl) ?_
    refine AOps.nil ?_
    refine AWP.block ?_
    refine AWP.loop (γ := Nat × Nat) [25, 26] (fun g => [(27, .int .i64 g.1), (6, .own g.2 (xs.take g.1).flatten.length)]) (fun g => [(g.2, .grow 2 38 ((xs.take g.1).flatten.map encVar).flatten)]) (fun g => g.1 ≤ xs.length) (fun g => xs.length - g.1) (0, j0) ⟨rfl, rfl, trivial⟩ ⟨_, (.refl _), rfl⟩ (Nat.zero_le _) ?_
    rintro ⟨k, io⟩ hk
    try dsimp only at *
    refine AWP.seq ?_
    refine AWP.region rfl ?_
    refine AOps.val (Gv.lss rfl rfl) ?_
    refine AOps.nil ?_
    refine AWP.seq ?_
    refine AWP.condP rfl (fun ck => ?_) (fun ck => ?_)
    · skip
      have hk2 : k < xs.length := by omega
      have hit := lenVL_take hk2
      have hle := lenVL_le (xs := xs) (k + 1)
      refine AWP.skip ?_
      refine AWP.seq ?_
      refine AWP.block ?_
      refine AWP.seq ?_
      refine AWP.region rfl ?_
      refine AOps.val (Gv.idxM Tryz.underlying142 Tryz.sizeOf23 rfl rfl rfl (List.getElem?_eq_getElem (by omega))) ?_
      refine AOps.val (Gv.load1F (c := .fro _ _) Tryz.isAgg23 rfl) ?_
      refine AOps.val (Gv.assign (v := .fro _ _) rfl) ?_
      refine AOps.nil ?_
      refine AWP.region rfl ?_
      refine AOps.val (Gv.move (v := .own _ _) rfl) ?_
      refine AOps.val (Gv.move (v := .fro _ _) rfl) ?_
      refine AOps.appendS (k := 2) Tryz.underlying23 Tryz.type38 rfl rfl rfl rfl rfl (fun _ => .head) (by rw [grow_len (k := 2) (fun _ => rfl)]) (by decide) (allVar _) (by show ((xs.take k).flatten.length + (xs[k].map encVar).length) * 24 ≤ _; rw [flat_lenVL, List.length_map]; omega) (by show (xs.take k).flatten.length + (xs[k].map encVar).length ≤ _; rw [flat_lenVL, List.length_map]; omega) ?_
      intro i33
      refine AOps.val (Gv.assign (v := .own _ _) rfl) ?_
      refine AOps.nil ?_
      refine AWP.region rfl ?_
      refine AOps.val (Gv.add rfl rfl (by first | (unfold I64; omega) | (unfold I64; show _ ∧ ((lenVL (xs.take k) : Nat) : Int) + ((xs[k].map encVar).length : Int) ≤ _; rw [List.length_map]; omega))) ?_
      refine AOps.val (Gv.move (v := .int _ _) rfl) ?_
      refine AOps.nil ?_
      exact ⟨(k + 1, i33), ⟨rfl, rfl, trivial⟩, ⟨rfl, congrArg (AV.own _) (by rw [flat_lenVL, flat_lenVL, hit]; simp), trivial⟩, ⟨_, (.refl _), by dsimp only; rw [flat_take hk2]⟩, hk2, by dsimp only; omega⟩
    · skip
      obtain rfl : k = xs.length := by omega
      rw [List.take_length]
      generalize xs.flatten = ys
      refine AWP.exit ?_
      refine AWP.seq ?_
      refine AWP.region rfl ?_
      refine AOps.val (Gv.move (v := .own _ _) rfl) ?_
      refine AOps.val (Gv.assign (v := .own _ _) rfl) ?_
      refine AOps.nil ?_
      refine AWP.ret ?_
      repeat (first | refine aseqQ_ret ?_ | refine ablockQ_ret ?_)
      refine GStep.fin (GStep.know (t := 2) (rows := ys.map encVar) rfl .head (by first | (intro r hr; obtain ⟨x, _, rfl⟩ := List.mem_map.1 hr; rfl) | simp [encI, encVar, encPhi, encInst, encBlk]) (by decide) (by simp)) ?_
      refine afin.t1 (x := .fro _ _) rfl ?_
      rfl
end Go.Proofs.YtdkhlgiohpdihaaGreatDoor
