/- The text of a program is parsed to it. No conditions. -/
import Derived.Test.YtdkhlgiohpdihaaGreatDoorZf
import Derived.Test.YtdkhlgiohpdihaaGreatDoorZk
set_option linter.unusedVariables false
set_option linter.unusedSimpArgs false
set_option linter.unusedSectionVars false
namespace Go.Proofs.YtdkhlgiohpdihaaGreatDoor
open Go.Proofs Go.Lib Go.Shelf Go.RowKit
set_option maxRecDepth 20000
variable {E : World}
def inB (s : ByteArray) (l : List ByteArray) : Bool := l.any fun t => decide (t = s)
theorem inB_iff {s : ByteArray} {l : List ByteArray} : inB s l = true ↔ s ∈ l := by
  unfold inB; rw [List.any_eq_true]
  constructor
  · rintro ⟨x, hx, h⟩; have h : x = s := by simpa using h
    exact h ▸ hx
  · intro h; exact ⟨s, h, by simp⟩
theorem inB_snoc {s t : ByteArray} {l : List ByteArray} : inB s (l ++ [t]) = (inB s l || decide (t = s)) := by unfold inB; rw [List.any_append]; simp
def UnlP (l : List ByteArray) : Prop := ∀ i (h : i < l.length), scanName l[i] = true ∧ inB l[i] (l.take i) = false
instance (l : List ByteArray) : Decidable (UnlP l) := by unfold UnlP; infer_instance
theorem unl_new {t : ByteArray} {l : List ByteArray} {mt : Int} (ht : mt = if inB t l = true then 1 else 0) (hc : decide (0 < mt) = false) : inB t l = false := by
  have hc := of_decide_eq_false hc
  cases h : inB t l with
  | true => rw [h] at ht; simp at ht; omega
  | false => rfl
theorem unl_step {s t : ByteArray} {l : List ByteArray} {m : Option Int} {mt : Int} (hs : m.getD 0 = if inB s l = true then 1 else 0) (ht : mt = if inB t l = true then 1 else 0) (hc : decide (0 < mt) = false) :
    (if s = t then some (mt + 1) else m).getD 0 = if (inB s l || decide (t = s)) = true then 1 else 0 := by
  have h := unl_new ht hc
  rw [h] at ht
  have ht : mt = 0 := by simpa using ht
  by_cases e : s = t
  · subst e; simp [ht]
  · rw [if_neg e, hs]
    have e2 : ¬ t = s := fun h => e h.symm
    simp [e2]
theorem unl_upto {l : List ByteArray} {k : Nat} (hn : ∀ i (h : i < l.length), i < k → scanName l[i] = true ∧ inB l[i] (l.take i) = false) (hk : k < l.length) (h1 : scanName l[k] = true) (h2 : inB l[k] (l.take k) = false) :
    ∀ i (h : i < l.length), i < k + 1 → scanName l[i] = true ∧ inB l[i] (l.take i) = false := fun i h hi => by
  by_cases e : i = k
  · subst e; exact ⟨h1, h2⟩
  · exact hn i h (by omega)
theorem unlike_spec (l : List ByteArray) (hl : l.length ≤ 100000000) (hs : ∀ s ∈ l, s.size ≤ 140737488355328) (hL : Letters E) : AFun Tryz.prog E 63 [.fro 1 (l.map encS)] (.bool (decide (UnlP l))) := by
  refine ACall.intro Tryz.func63 rfl (by decide) rfl ?_
  refine AWP.seq ?_
  refine AWP.region rfl ?_
  refine AOps.val (Gv.assign (v := .bool _) rfl) ?_
  refine AOps.nil ?_
  refine AWP.seq ?_
  refine AWP.region rfl ?_
  refine AOps.makeMap ?_
  intro b6
  refine AOps.val (Gv.assign (v := mref _) rfl) ?_
  refine AOps.nil ?_
  refine AWP.seq ?_
  refine AWP.seq ?_
  refine AWP.region rfl ?_
  refine AOps.val (Gv.move (v := .fro _ _) rfl) ?_
  refine AOps.val (Gv.lenM Tryz.underlying62 rfl) ?_
  refine AOps.val (Gv.move (v := .int _ _) rfl) ?_
  refine AOps.nil ?_
  refine AWP.block ?_
  refine AWP.loop (γ := Nat × List (ByteArray × Int)) [3, 7, 8] (fun g => [(9, .int .i64 g.1)]) (fun g => [(0, mapO b6 g.2)]) (fun g => g.1 ≤ l.length ∧ (∀ i (h : i < l.length), i < g.1 → scanName l[i] = true ∧ inB l[i] (l.take i) = false) ∧ ∀ s, (mget s g.2).getD 0 = if inB s (l.take g.1) = true then 1 else 0) (fun g => l.length - g.1) (0, []) ⟨rfl, trivial⟩ ⟨_, (.refl _), rfl⟩ (⟨Nat.zero_le _, fun i h h2 => absurd h2 (Nat.not_lt_zero _), fun s => rfl⟩) ?_
  rintro ⟨k, es⟩ ⟨hk, hn, hm⟩
  try dsimp only at *
  refine AWP.seq ?_
  refine AWP.region rfl ?_
  refine AOps.val (Gv.lss rfl rfl) ?_
  refine AOps.nil ?_
  refine AWP.seq ?_
  refine AWP.condP rfl (fun ck => ?_) (fun ck => ?_)
  · skip
    have hk2 : k < l.length := by omega
    have hmk := hm l[k]
    have hz := hs _ (List.getElem_mem hk2)
    refine AWP.skip ?_
    refine AWP.seq ?_
    refine AWP.block ?_
    refine AWP.seq ?_
    refine AWP.region rfl ?_
    refine AOps.val (Gv.idxM (j := k) Tryz.underlying62 Tryz.sizeOf9 rfl rfl rfl (List.getElem?_eq_getElem hk2)) ?_
    refine AOps.val (Gv.load1F (c := .str _) Tryz.isAgg9 rfl) ?_
    refine AOps.val (Gv.assign (v := .str _) rfl) ?_
    refine AOps.nil ?_
    refine AWP.seq ?_
    refine AWP.seq ?_
    refine AWP.region rfl ?_
    refine AOps.val (Gv.move (v := .str _) rfl) ?_
    refine AOps.callP (zname_spec _ hz hL) rfl ?_
    refine AOps.val (Gv.not rfl) ?_
    refine AOps.val (Gv.move (v := .bool _) rfl) ?_
    refine AOps.case (s := 16) rfl (fun c1 => ?_) (fun c1 => ?_)
    · skip
      refine AOps.guardFd rfl rfl c1 ?_
      refine AOps.guardFd rfl rfl c1 ?_
      refine AOps.guardFd rfl rfl c1 ?_
      refine AOps.guardFd rfl rfl c1 ?_
      refine AOps.val (Gv.pickT (v := .bool _) rfl c1 rfl) ?_
      refine AOps.nil ?_
      refine AWP.condT rfl rfl ?_
      refine AWP.seq ?_
      refine AWP.region rfl ?_
      refine AOps.val (Gv.assign (v := .bool _) rfl) ?_
      refine AOps.nil ?_
      refine AWP.ret ?_
      repeat (first | refine aseqQ_ret ?_ | refine ablockQ_ret ?_)
      refine afin.t1 (x := .bool _) rfl ?_
      exact jb (decide_eq_false fun h => by have h := h k hk2; simp_all).symm
    · skip
      refine AOps.guardT rfl rfl c1 ?_
      refine AOps.val (Gv.move (v := mref _) rfl) ?_
      refine AOps.guardT rfl rfl c1 ?_
      refine AOps.val (Gv.move (v := .str _) rfl) ?_
      refine AOps.guardT rfl rfl c1 ?_
      refine AOps.val (Gv.lookup1S Tryz.underlying108 Tryz.underlying9 Tryz.zeroValue3 rfl rfl ⟨_, .head⟩) ?_
      refine AOps.guardT rfl rfl c1 ?_
      refine AOps.val (Gv.gtr rfl rfl) ?_
      refine AOps.val (Gv.pickF (v := .bool _) rfl c1 rfl) ?_
      refine AOps.nil ?_
      refine AWP.cond rfl (fun c2 => ?_) (fun c2 => ?_)
      · skip
        refine AWP.seq ?_
        refine AWP.region rfl ?_
        refine AOps.val (Gv.assign (v := .bool _) rfl) ?_
        refine AOps.nil ?_
        refine AWP.ret ?_
        repeat (first | refine aseqQ_ret ?_ | refine ablockQ_ret ?_)
        refine afin.t1 (x := .bool _) rfl ?_
        exact jb (decide_eq_false fun h => by have h := h k hk2; simp_all).symm
      · skip
        refine AWP.skip ?_
        refine AWP.region rfl ?_
        refine AOps.val (Gv.move (v := mref _) rfl) ?_
        refine AOps.val (Gv.move (v := .str _) rfl) ?_
        refine AOps.val (Gv.lookup1S Tryz.underlying108 Tryz.underlying9 Tryz.zeroValue3 rfl rfl ⟨_, .head⟩) ?_
        refine AOps.val (Gv.add rfl rfl (by first | (unfold I64; omega) | (unfold I64; rw [hmk]; split <;> omega))) ?_
        refine AOps.mapSet Tryz.underlying108 Tryz.underlying9 rfl rfl rfl .head ?_
        refine AOps.nil ?_
        refine AWP.region rfl ?_
        refine AOps.val (Gv.add rfl rfl (by first | (unfold I64; omega) | (unfold I64; rw [hmk]; split <;> omega))) ?_
        refine AOps.val (Gv.move (v := .int _ _) rfl) ?_
        refine AOps.nil ?_
        exact ⟨(k + 1, mset l[k] ((mget l[k] es).getD 0 + 1) es), ⟨rfl, rfl, rfl, trivial⟩, ⟨rfl, trivial⟩, ⟨_, (.refl _), rfl⟩, ⟨hk2, unl_upto hn hk2 (by simpa using c1) (unl_new hmk (by assumption)), fun s => by dsimp only; rw [mget_set, List.take_succ_eq_append_getElem hk2, inB_snoc]; exact unl_step (hm s) hmk (by assumption)⟩, by dsimp only; omega⟩
  · skip
    have hkn : k = l.length := by omega
    refine AWP.exit ?_
    refine AWP.seq ?_
    refine AWP.region rfl ?_
    refine AOps.val (Gv.assign (v := .bool _) rfl) ?_
    refine AOps.nil ?_
    refine AWP.ret ?_
    repeat (first | refine aseqQ_ret ?_ | refine ablockQ_ret ?_)
    refine afin.t1 (x := .bool _) rfl ?_
    exact jb (decide_eq_true fun i h => hn i h (by omega)).symm
theorem map_take {α : Type} {g : α → ByteArray} {l : List α} {k : Nat} (h : k < l.length) : (l.map g).take (k + 1) = (l.map g).take k ++ [g l[k]] := by
  rw [List.take_succ_eq_append_getElem (by simpa using h)]; simp
def VNames (f : PFunc) : List ByteArray := f.vars.map PVar.name
def BNames (f : PFunc) : List ByteArray := f.blocks.map PBlock.name
@[simp] theorem vn_len (f : PFunc) : (VNames f).length = f.vars.length := by unfold VNames; simp
@[simp] theorem bn_len (f : PFunc) : (BNames f).length = f.blocks.length := by unfold BNames; simp
theorem vn_take {f : PFunc} {k : Nat} (h : k < f.vars.length) : (VNames f).take (k + 1) = (VNames f).take k ++ [f.vars[k].name] := map_take h
theorem bn_take {f : PFunc} {k : Nat} (h : k < f.blocks.length) : (BNames f).take (k + 1) = (BNames f).take k ++ [f.blocks[k].name] := map_take h
def ParP (f : PFunc) : Prop := ∀ i (h : i < f.params.length), f.params[i] = (i : Int)
instance (f : PFunc) : Decidable (ParP f) := by unfold ParP; infer_instance
def TysP (f : PFunc) : Prop := ∀ i (h : i < f.vars.length), ¬ tyWord f.vars[i].ty = ⟨#[]⟩
instance (f : PFunc) : Decidable (TysP f) := by unfold TysP; infer_instance
def LensP (f : PFunc) : Prop := f.vars.length ≤ 512 ∧ f.params.length ≤ 8 ∧ f.params.length ≤ f.vars.length ∧ 1 ≤ f.blocks.length ∧ f.blocks.length ≤ 64
instance (f : PFunc) : Decidable (LensP f) := by unfold LensP; infer_instance
def NamesP (f : PFunc) : Prop := TysP f ∧ ParP f ∧ LensP f ∧ UnlP (VNames f) ∧ UnlP (BNames f)
instance (f : PFunc) : Decidable (NamesP f) := by unfold NamesP; infer_instance
theorem pnames_spec (f : PFunc) (h1 : f.vars.length ≤ 100000000) (h2 : f.blocks.length ≤ 100000000) (hp : f.params.length ≤ 100000000) (hn : okNames f) (hL : Letters E) : AFun Tryz.prog E 37 [.agg (encF f)] (.bool (decide (NamesP f))) := by
  have hnv : (VNames f).length = f.vars.length := by unfold VNames; simp
  have hnb : (BNames f).length = f.blocks.length := by unfold BNames; simp
  refine ACall.intro Tryz.func37 rfl (by decide) rfl ?_
  refine AWP.seq ?_
  refine AWP.region rfl ?_
  refine AOps.boxF (cs := _) rfl rfl rfl ?_
  refine AOps.val (Gv.assign (v := .bool _) rfl) ?_
  refine AOps.nil ?_
  refine AWP.seq ?_
  refine AWP.region rfl ?_
  refine AOps.val (Gv.assign (v := .raw _) rfl) ?_
  refine AOps.val (Gv.assign (v := .raw _) rfl) ?_
  refine AOps.nil ?_
  refine adopt_wp (t := 3) (k := 1) (T := 9) rfl ?_
  intro i3
  refine adopt_wp (t := 4) (k := 1) (T := 9) rfl ?_
  intro i4
  refine AWP.seq ?_
  refine AWP.seq ?_
  refine AWP.region rfl ?_
  refine AOps.val (Gv.fieldF Tryz.underlying27 rfl Tryz.sizeOf23 (by decide) rfl rfl) ?_
  refine AOps.val (Gv.load1F (c := .fro _ _) Tryz.isAgg23 rfl) ?_
  refine AOps.val (Gv.lenM Tryz.underlying23 rfl) ?_
  refine AOps.val (Gv.move (v := .int _ _) rfl) ?_
  refine AOps.nil ?_
  refine AWP.block ?_
  refine AWP.loop (γ := Nat × Nat) [1, 4, 12, 13] (fun g => [(3, .own g.2 g.1), (14, .int .i64 g.1)]) (fun g => [(i4, .grow 1 9 []), (g.2, .grow 1 9 ((((VNames f).take g.1).map encS).flatten))]) (fun g => g.1 ≤ f.vars.length ∧ ∀ i (h : i < f.vars.length), i < g.1 → ¬ tyWord f.vars[i].ty = ⟨#[]⟩) (fun g => f.vars.length - g.1) (0, i3) ⟨rfl, rfl, trivial⟩ ⟨_, (.refl _), rfl⟩ (⟨Nat.zero_le _, fun i h h2 => absurd h2 (Nat.not_lt_zero _)⟩) ?_
  rintro ⟨k, i⟩ ⟨hk, hT⟩
  try dsimp only at *
  refine AWP.seq ?_
  refine AWP.region rfl ?_
  refine AOps.val (Gv.lss rfl rfl) ?_
  refine AOps.nil ?_
  refine AWP.seq ?_
  refine AWP.condP rfl (fun ck => ?_) (fun ck => ?_)
  · skip
    have hk2 : k < f.vars.length := by simp at ck; omega
    refine AWP.skip ?_
    refine AWP.seq ?_
    refine AWP.block ?_
    refine AWP.seq ?_
    refine AWP.region rfl ?_
    refine AOps.val (Gv.idxM (j := k) Tryz.underlying23 Tryz.sizeOf38 rfl rfl rfl (List.getElem?_eq_getElem hk2)) ?_
    refine AOps.val (Gv.loadWF Tryz.isAgg38 Tryz.sizeOf38 rfl rfl) ?_
    refine AOps.alloc (cs := [.str ⟨#[]⟩, .int .i64 0]) Tryz.zeroValue38 rfl rfl ?_
    intro i6
    refine AOps.storeW Tryz.sizeOf38 rfl rfl rfl rfl rfl rfl .head rfl ?_
    refine AOps.nil ?_
    refine AWP.seq ?_
    refine AWP.region rfl ?_
    refine AOps.val (Gv.move (v := .own _ _) rfl) ?_
    refine AOps.val (Gv.fieldO Tryz.underlying38 rfl Tryz.sizeOf9 (by decide) rfl rfl) ?_
    refine AOps.val (Gv.load1C (c := .str _) Tryz.isAgg9 rfl ⟨_, .head⟩ rfl) ?_
    refine AOps.buildSliceFF (rows := [[_]]) ps62_1 rfl rfl rfl rfl rfl ?_
    refine AOps.appendS (k := 1) Tryz.underlying62 Tryz.type9 rfl rfl rfl rfl rfl (fun _ => (.tail (.tail .head))) (by rw [grow_len (k := 1) (fun _ => rfl), List.length_take]; omega) (by decide) rfl (by show (_ + 1) * 16 ≤ _; omega) (by show _ + 1 ≤ _; omega) ?_
    intro i22
    refine AOps.val (Gv.assign (v := .own _ _) rfl) ?_
    refine AOps.nil ?_
    refine AWP.seq ?_
    refine AWP.region rfl ?_
    refine AOps.val (Gv.fieldO Tryz.underlying38 rfl Tryz.sizeOf36 (by decide) rfl rfl) ?_
    refine AOps.val (Gv.load1C (c := .int _ _) Tryz.isAgg36 rfl ⟨_, .head⟩ rfl) ?_
    refine AOps.callP (tyWord_spec _) rfl ?_
    refine AOps.val (Gv.eqlT rfl rfl) ?_
    refine AOps.nil ?_
    refine AWP.condP rfl (fun ct => ?_) (fun ct => ?_)
    · skip
      refine AWP.seq ?_
      refine AWP.region rfl ?_
      refine AOps.val (Gv.assign (v := .bool _) rfl) ?_
      refine AOps.nil ?_
      refine AWP.ret ?_
      repeat (first | refine aseqQ_ret ?_ | refine ablockQ_ret ?_)
      refine afin.t1 (x := .bool _) rfl ?_
      exact jb (decide_eq_false fun h => h.1 k hk2 (by simpa using ct)).symm
    · skip
      refine AWP.skip ?_
      refine AWP.region rfl ?_
      refine AOps.val (Gv.add rfl rfl (by unfold I64; omega)) ?_
      refine AOps.val (Gv.move (v := .int _ _) rfl) ?_
      refine AOps.nil ?_
      exact ⟨(k + 1, i22), ⟨rfl, rfl, rfl, rfl, trivial⟩, ⟨rfl, rfl, trivial⟩, ⟨_, (.drop (.refl _)), by dsimp only; rw [← grow_push (enc := encS) (vn_take hk2)]; rfl⟩, ⟨hk2, fun i h h2 => by by_cases e : i = k; (subst e; simpa using ct); exact hT i h (by dsimp only at h2; omega)⟩, by dsimp only; omega⟩
  · skip
    have hkn : k = f.vars.length := by simp at ck; omega
    subst hkn
    rw [List.take_of_length_le (by omega : (VNames f).length ≤ f.vars.length)]
    have hTys : TysP f := fun i h => hT i h h
    refine AWP.exit ?_
    refine AWP.seq ?_
    refine AWP.seq ?_
    refine AWP.region rfl ?_
    refine AOps.val (Gv.fieldF Tryz.underlying27 rfl Tryz.sizeOf25 (by decide) rfl rfl) ?_
    refine AOps.val (Gv.load1F (c := .fro _ _) Tryz.isAgg25 rfl) ?_
    refine AOps.val (Gv.lenM Tryz.underlying25 rfl) ?_
    refine AOps.val (Gv.move (v := .int _ _) rfl) ?_
    refine AOps.nil ?_
    refine AWP.block ?_
    refine AWP.loop (γ := Nat × Nat) [1, 3, 29, 30] (fun g => [(4, .own g.2 g.1), (31, .int .i64 g.1)]) (fun g => [(g.2, .grow 1 9 ((((BNames f).take g.1).map encS).flatten)), (i, .grow 1 9 (((VNames f).map encS).flatten))]) (fun g => g.1 ≤ f.blocks.length) (fun g => f.blocks.length - g.1) (0, i4) ⟨rfl, rfl, trivial⟩ ⟨_, (.refl _), rfl⟩ (Nat.zero_le _) ?_
    rintro ⟨k, j⟩ hk
    try dsimp only at *
    refine AWP.seq ?_
    refine AWP.region rfl ?_
    refine AOps.val (Gv.lss rfl rfl) ?_
    refine AOps.nil ?_
    refine AWP.seq ?_
    refine AWP.condP rfl (fun ck => ?_) (fun ck => ?_)
    · skip
      have hk2 : k < f.blocks.length := by simp at ck; omega
      refine AWP.skip ?_
      refine AWP.seq ?_
      refine AWP.block ?_
      refine AWP.seq ?_
      refine AWP.region rfl ?_
      refine AOps.val (Gv.idxM (j := k) Tryz.underlying25 Tryz.sizeOf48 rfl rfl rfl (List.getElem?_eq_getElem hk2)) ?_
      refine AOps.val (Gv.loadWF Tryz.isAgg48 Tryz.sizeOf48 rfl rfl) ?_
      refine AOps.alloc (cs := [.str ⟨#[]⟩, .raw (.slice none 0 0), .raw (.slice none 0 0), .int .i64 0, .int .i64 0, .int .i64 0, .int .i64 0]) Tryz.zeroValue48 rfl rfl ?_
      intro i8
      refine AOps.storeW Tryz.sizeOf48 rfl rfl rfl rfl rfl rfl .head rfl ?_
      refine AOps.nil ?_
      refine AWP.region rfl ?_
      refine AOps.val (Gv.move (v := .own _ _) rfl) ?_
      refine AOps.val (Gv.fieldO Tryz.underlying48 rfl Tryz.sizeOf9 (by decide) rfl rfl) ?_
      refine AOps.val (Gv.load1C (c := .str _) Tryz.isAgg9 rfl ⟨_, .head⟩ rfl) ?_
      refine AOps.buildSliceFF (rows := [[_]]) ps62_1 rfl rfl rfl rfl rfl ?_
      refine AOps.appendS (k := 1) Tryz.underlying62 Tryz.type9 rfl rfl rfl rfl rfl (fun _ => (.tail .head)) (by rw [grow_len (k := 1) (fun _ => rfl), List.length_take]; omega) (by decide) rfl (by show (_ + 1) * 16 ≤ _; omega) (by show _ + 1 ≤ _; omega) ?_
      intro i39
      refine AOps.val (Gv.assign (v := .own _ _) rfl) ?_
      refine AOps.nil ?_
      refine AWP.region rfl ?_
      refine AOps.val (Gv.add rfl rfl (by unfold I64; omega)) ?_
      refine AOps.val (Gv.move (v := .int _ _) rfl) ?_
      refine AOps.nil ?_
      exact ⟨(k + 1, i39), ⟨rfl, rfl, rfl, rfl, trivial⟩, ⟨rfl, rfl, trivial⟩, ⟨_, (.drop (.refl _)), by dsimp only; rw [← grow_push (enc := encS) (bn_take hk2)]; rfl⟩, hk2, by dsimp only; omega⟩
    · skip
      have hkn : k = f.blocks.length := by simp at ck; omega
      subst hkn
      rw [List.take_of_length_le (by omega : (BNames f).length ≤ f.blocks.length)]
      refine AWP.exit ?_
      refine AWP.seq ?_
      refine AWP.seq ?_
      refine AWP.region rfl ?_
      refine AOps.val (Gv.fieldF Tryz.underlying27 rfl Tryz.sizeOf24 (by decide) rfl rfl) ?_
      refine AOps.val (Gv.load1F (c := .fro _ _) Tryz.isAgg24 rfl) ?_
      refine AOps.val (Gv.lenM Tryz.underlying24 rfl) ?_
      refine AOps.val (Gv.move (v := .int _ _) rfl) ?_
      refine AOps.nil ?_
      refine AWP.block ?_
      refine AWP.loop (γ := Nat) [1, 3, 4, 42, 43] (fun k => [(44, .int .i64 k)]) (fun k => [(j, .grow 1 9 (((BNames f).map encS).flatten)), (i, .grow 1 9 (((VNames f).map encS).flatten))]) (fun k => k ≤ f.params.length ∧ ∀ i (h : i < f.params.length), i < k → f.params[i] = (i : Int)) (fun k => f.params.length - k) 0 ⟨rfl, trivial⟩ ⟨_, (.refl _), rfl⟩ (⟨Nat.zero_le _, fun i h h2 => absurd h2 (Nat.not_lt_zero _)⟩) ?_
      rintro k ⟨hk, hP⟩
      refine AWP.seq ?_
      refine AWP.region rfl ?_
      refine AOps.val (Gv.lss rfl rfl) ?_
      refine AOps.nil ?_
      refine AWP.seq ?_
      refine AWP.condP rfl (fun ck => ?_) (fun ck => ?_)
      · skip
        have hk2 : k < f.params.length := by simp at ck; omega
        refine AWP.skip ?_
        refine AWP.seq ?_
        refine AWP.block ?_
        refine AWP.seq ?_
        refine AWP.region rfl ?_
        refine AOps.val (Gv.move (v := .int _ _) rfl) ?_
        refine AOps.val (Gv.idxM (j := k) Tryz.underlying24 Tryz.sizeOf3 rfl rfl rfl (List.getElem?_eq_getElem hk2)) ?_
        refine AOps.val (Gv.load1F (c := .int _ _) Tryz.isAgg3 rfl) ?_
        refine AOps.val (Gv.assign (v := .int _ _) rfl) ?_
        refine AOps.val (Gv.assign (v := .int _ _) rfl) ?_
        refine AOps.nil ?_
        refine AWP.seq ?_
        refine AWP.region rfl ?_
        refine AOps.val (Gv.move (v := .int _ _) rfl) ?_
        refine AOps.val (Gv.move (v := .int _ _) rfl) ?_
        refine AOps.val (Gv.neqI rfl rfl) ?_
        refine AOps.nil ?_
        refine AWP.cond rfl (fun cp => ?_) (fun cp => ?_)
        · skip
          refine AWP.seq ?_
          refine AWP.region rfl ?_
          refine AOps.val (Gv.assign (v := .bool _) rfl) ?_
          refine AOps.nil ?_
          refine AWP.ret ?_
          repeat (first | refine aseqQ_ret ?_ | refine ablockQ_ret ?_)
          refine afin.t1 (x := .bool _) rfl ?_
          exact jb (decide_eq_false fun h => by have := h.2.1 k hk2; simp [this] at cp).symm
        · skip
          refine AWP.skip ?_
          refine AWP.region rfl ?_
          refine AOps.val (Gv.add rfl rfl (by unfold I64; omega)) ?_
          refine AOps.val (Gv.move (v := .int _ _) rfl) ?_
          refine AOps.nil ?_
          exact ⟨k + 1, ⟨rfl, rfl, rfl, rfl, rfl, trivial⟩, ⟨rfl, trivial⟩, ⟨_, (.refl _), rfl⟩, ⟨hk2, fun i h h2 => by by_cases e : i = k; (subst e; simpa using cp); exact hP i h (by omega)⟩, by omega⟩
      · skip
        have hkn : k = f.params.length := by simp at ck; omega
        subst hkn
        have hPar : ParP f := fun i h => hP i h h
        refine GStep.wp (GStep.know (t := 3) (rows := (VNames f).map encS) rfl (.tail .head) (by intro r hr; obtain ⟨x, _, rfl⟩ := List.mem_map.1 hr; rfl) (by decide) (by simp)) ?_
        refine GStep.wp (GStep.know (t := 4) (rows := (BNames f).map encS) rfl .head (by intro r hr; obtain ⟨x, _, rfl⟩ := List.mem_map.1 hr; rfl) (by decide) (by simp)) ?_
        refine AWP.exit ?_
        refine AWP.seq ?_
        refine AWP.region rfl ?_
        refine AOps.val (Gv.move (v := .fro _ _) rfl) ?_
        refine AOps.val (Gv.lenM Tryz.underlying62 rfl) ?_
        refine AOps.val (Gv.leq rfl rfl) ?_
        refine AOps.val (Gv.move (v := .bool _) rfl) ?_
        refine AOps.case (s := 56) rfl (fun c3 => ?_) (fun c3 => ?_)
        · skip
          refine AOps.guardT rfl rfl c3 ?_
          refine AOps.val (Gv.fieldF Tryz.underlying27 rfl Tryz.sizeOf24 (by decide) rfl rfl) ?_
          refine AOps.guardT rfl rfl c3 ?_
          refine AOps.val (Gv.load1F (c := .fro _ _) Tryz.isAgg24 rfl) ?_
          refine AOps.guardT rfl rfl c3 ?_
          refine AOps.val (Gv.lenM Tryz.underlying24 rfl) ?_
          refine AOps.guardT rfl rfl c3 ?_
          refine AOps.val (Gv.move (v := .fro _ _) rfl) ?_
          refine AOps.guardT rfl rfl c3 ?_
          refine AOps.val (Gv.lenM Tryz.underlying62 rfl) ?_
          refine AOps.guardT rfl rfl c3 ?_
          refine AOps.val (Gv.minI rfl rfl) ?_
          refine AOps.guardT rfl rfl c3 ?_
          refine AOps.val (Gv.leq rfl rfl) ?_
          refine AOps.val (Gv.pickT (v := .bool _) rfl c3 rfl) ?_
          refine AOps.val (Gv.move (v := .bool _) rfl) ?_
          refine AOps.case (s := 65) rfl (fun c4 => ?_) (fun c4 => ?_)
          · skip
            refine AOps.guardT rfl rfl c4 ?_
            refine AOps.val (Gv.move (v := .fro _ _) rfl) ?_
            refine AOps.guardT rfl rfl c4 ?_
            refine AOps.val (Gv.lenM Tryz.underlying62 rfl) ?_
            refine AOps.guardT rfl rfl c4 ?_
            refine AOps.val (Gv.geq rfl rfl) ?_
            refine AOps.val (Gv.pickT (v := .bool _) rfl c4 rfl) ?_
            refine AOps.val (Gv.move (v := .bool _) rfl) ?_
            refine AOps.case (s := 70) rfl (fun c5 => ?_) (fun c5 => ?_)
            · skip
              refine AOps.guardT rfl rfl c5 ?_
              refine AOps.val (Gv.move (v := .fro _ _) rfl) ?_
              refine AOps.guardT rfl rfl c5 ?_
              refine AOps.val (Gv.lenM Tryz.underlying62 rfl) ?_
              refine AOps.guardT rfl rfl c5 ?_
              refine AOps.val (Gv.leq rfl rfl) ?_
              refine AOps.val (Gv.pickT (v := .bool _) rfl c5 rfl) ?_
              refine AOps.val (Gv.move (v := .bool _) rfl) ?_
              refine AOps.case (s := 75) rfl (fun c6 => ?_) (fun c6 => ?_)
              · skip
                refine AOps.guardT rfl rfl c6 ?_
                refine AOps.val (Gv.move (v := .fro _ _) rfl) ?_
                refine AOps.guardT rfl rfl c6 ?_
                refine AOps.callP (unlike_spec (VNames f) (by omega) (fun s hs => by obtain ⟨v, hv, rfl⟩ := List.mem_map.1 hs; exact hn.1 v hv) hL) rfl ?_
                refine AOps.val (Gv.pickT (v := .bool _) rfl c6 rfl) ?_
                refine AOps.val (Gv.move (v := .bool _) rfl) ?_
                refine AOps.case (s := 79) rfl (fun c7 => ?_) (fun c7 => ?_)
                · skip
                  refine AOps.guardT rfl rfl c7 ?_
                  refine AOps.val (Gv.move (v := .fro _ _) rfl) ?_
                  refine AOps.guardT rfl rfl c7 ?_
                  refine AOps.callP (unlike_spec (BNames f) (by omega) (fun s hs => by obtain ⟨v, hv, rfl⟩ := List.mem_map.1 hs; exact hn.2 v hv) hL) rfl ?_
                  refine AOps.val (Gv.pickT (v := .bool _) rfl c7 rfl) ?_
                  refine AOps.val (Gv.assign (v := .bool _) rfl) ?_
                  refine AOps.nil ?_
                  refine AWP.ret ?_
                  repeat (first | refine aseqQ_ret ?_ | refine ablockQ_ret ?_)
                  refine afin.t1 (x := .bool _) rfl ?_
                  exact jb (by unfold NamesP LensP; simp_all <;> grind)
                · skip
                  refine AOps.guardFd rfl rfl c7 ?_
                  refine AOps.guardFd rfl rfl c7 ?_
                  refine AOps.val (Gv.pickF (v := .bool _) rfl c7 rfl) ?_
                  refine AOps.val (Gv.assign (v := .bool _) rfl) ?_
                  refine AOps.nil ?_
                  refine AWP.ret ?_
                  repeat (first | refine aseqQ_ret ?_ | refine ablockQ_ret ?_)
                  refine afin.t1 (x := .bool _) rfl ?_
                  exact jb (by unfold NamesP LensP; simp_all <;> grind)
              · skip
                refine AOps.guardFd rfl rfl c6 ?_
                refine AOps.guardFd rfl rfl c6 ?_
                refine AOps.val (Gv.pickF (v := .bool _) rfl c6 rfl) ?_
                refine AOps.val (Gv.move (v := .bool _) rfl) ?_
                refine AOps.guardFd rfl rfl rfl ?_
                refine AOps.guardFd rfl rfl rfl ?_
                refine AOps.val (Gv.pickF (v := .bool _) rfl rfl rfl) ?_
                refine AOps.val (Gv.assign (v := .bool _) rfl) ?_
                refine AOps.nil ?_
                refine AWP.ret ?_
                repeat (first | refine aseqQ_ret ?_ | refine ablockQ_ret ?_)
                refine afin.t1 (x := .bool _) rfl ?_
                exact jb (by unfold NamesP LensP; simp_all <;> grind)
            · skip
              refine AOps.guardFd rfl rfl c5 ?_
              refine AOps.guardFd rfl rfl c5 ?_
              refine AOps.guardFd rfl rfl c5 ?_
              refine AOps.val (Gv.pickF (v := .bool _) rfl c5 rfl) ?_
              refine AOps.val (Gv.move (v := .bool _) rfl) ?_
              refine AOps.guardFd rfl rfl rfl ?_
              refine AOps.guardFd rfl rfl rfl ?_
              refine AOps.val (Gv.pickF (v := .bool _) rfl rfl rfl) ?_
              refine AOps.val (Gv.move (v := .bool _) rfl) ?_
              refine AOps.guardFd rfl rfl rfl ?_
              refine AOps.guardFd rfl rfl rfl ?_
              refine AOps.val (Gv.pickF (v := .bool _) rfl rfl rfl) ?_
              refine AOps.val (Gv.assign (v := .bool _) rfl) ?_
              refine AOps.nil ?_
              refine AWP.ret ?_
              repeat (first | refine aseqQ_ret ?_ | refine ablockQ_ret ?_)
              refine afin.t1 (x := .bool _) rfl ?_
              exact jb (by unfold NamesP LensP; simp_all <;> grind)
          · skip
            refine AOps.guardFd rfl rfl c4 ?_
            refine AOps.guardFd rfl rfl c4 ?_
            refine AOps.guardFd rfl rfl c4 ?_
            refine AOps.val (Gv.pickF (v := .bool _) rfl c4 rfl) ?_
            refine AOps.val (Gv.move (v := .bool _) rfl) ?_
            refine AOps.guardFd rfl rfl rfl ?_
            refine AOps.guardFd rfl rfl rfl ?_
            refine AOps.guardFd rfl rfl rfl ?_
            refine AOps.val (Gv.pickF (v := .bool _) rfl rfl rfl) ?_
            refine AOps.val (Gv.move (v := .bool _) rfl) ?_
            refine AOps.guardFd rfl rfl rfl ?_
            refine AOps.guardFd rfl rfl rfl ?_
            refine AOps.val (Gv.pickF (v := .bool _) rfl rfl rfl) ?_
            refine AOps.val (Gv.move (v := .bool _) rfl) ?_
            refine AOps.guardFd rfl rfl rfl ?_
            refine AOps.guardFd rfl rfl rfl ?_
            refine AOps.val (Gv.pickF (v := .bool _) rfl rfl rfl) ?_
            refine AOps.val (Gv.assign (v := .bool _) rfl) ?_
            refine AOps.nil ?_
            refine AWP.ret ?_
            repeat (first | refine aseqQ_ret ?_ | refine ablockQ_ret ?_)
            refine afin.t1 (x := .bool _) rfl ?_
            exact jb (by unfold NamesP LensP; simp_all <;> grind)
        · skip
          refine AOps.guardFd rfl rfl c3 ?_
          refine AOps.guardFd rfl rfl c3 ?_
          refine AOps.guardFd rfl rfl c3 ?_
          refine AOps.guardFd rfl rfl c3 ?_
          refine AOps.guardFd rfl rfl c3 ?_
          refine AOps.guardFd rfl rfl c3 ?_
          refine AOps.guardFd rfl rfl c3 ?_
          refine AOps.val (Gv.pickF (v := .bool _) rfl c3 rfl) ?_
          refine AOps.val (Gv.move (v := .bool _) rfl) ?_
          refine AOps.guardFd rfl rfl rfl ?_
          refine AOps.guardFd rfl rfl rfl ?_
          refine AOps.guardFd rfl rfl rfl ?_
          refine AOps.val (Gv.pickF (v := .bool _) rfl rfl rfl) ?_
          refine AOps.val (Gv.move (v := .bool _) rfl) ?_
          refine AOps.guardFd rfl rfl rfl ?_
          refine AOps.guardFd rfl rfl rfl ?_
          refine AOps.guardFd rfl rfl rfl ?_
          refine AOps.val (Gv.pickF (v := .bool _) rfl rfl rfl) ?_
          refine AOps.val (Gv.move (v := .bool _) rfl) ?_
          refine AOps.guardFd rfl rfl rfl ?_
          refine AOps.guardFd rfl rfl rfl ?_
          refine AOps.val (Gv.pickF (v := .bool _) rfl rfl rfl) ?_
          refine AOps.val (Gv.move (v := .bool _) rfl) ?_
          refine AOps.guardFd rfl rfl rfl ?_
          refine AOps.guardFd rfl rfl rfl ?_
          refine AOps.val (Gv.pickF (v := .bool _) rfl rfl rfl) ?_
          refine AOps.val (Gv.assign (v := .bool _) rfl) ?_
          refine AOps.nil ?_
          refine AWP.ret ?_
          repeat (first | refine aseqQ_ret ?_ | refine ablockQ_ret ?_)
          refine afin.t1 (x := .bool _) rfl ?_
          exact jb (by unfold NamesP LensP; simp_all <;> grind)
def phiOK (f : PFunc) (p : PPhi) : Bool := !decide (p.args.length = 0) && decide (p.args.length = p.from_.length) && hasV f p.dst && p.args.all (hasV f) && p.from_.all (hasB f)
theorem phi1_spec (f : PFunc) (v : Int) : AFun Tryz.prog E 68 ([.int .i64 v] ++ [.pf (encF f)]) (.bool (!hasB f v)) := by
  refine ACall.intro Tryz.func68 rfl (by decide) rfl ?_
  refine AWP.seq ?_
  refine AWP.region rfl ?_
  refine AOps.val (Gv.assign (v := .bool _) rfl) ?_
  refine AOps.nil ?_
  refine AWP.seq ?_
  refine AWP.region rfl ?_
  refine AOps.val (Gv.loadWF Tryz.isAgg27 Tryz.sizeOf27 rfl rfl) ?_
  refine AOps.val (Gv.move (v := .int _ _) rfl) ?_
  refine AOps.callP (at_spec _ _) rfl ?_
  refine AOps.val (Gv.not rfl) ?_
  refine AOps.val (Gv.assign (v := .bool _) rfl) ?_
  refine AOps.nil ?_
  refine AWP.ret ?_
  repeat (first | refine aseqQ_ret ?_ | refine ablockQ_ret ?_)
  refine afin.t1 (x := .bool _) rfl ?_
  rfl
theorem phi_spec (f : PFunc) (p : PPhi) (hp : okPhi p) : AFun Tryz.prog E 40 [.agg (encF f), .agg (encPhi p)] (.bool (phiOK f p)) := by
  have hl1 := hp.1.lt
  have hl2 := hp.2.lt
  refine ACall.intro Tryz.func40 rfl (by decide) rfl ?_
  refine AWP.seq ?_
  refine AWP.region rfl ?_
  refine AOps.boxF (cs := _) rfl rfl rfl ?_
  refine AOps.boxF (cs := _) rfl rfl rfl ?_
  refine AOps.val (Gv.assign (v := .bool _) rfl) ?_
  refine AOps.nil ?_
  refine AWP.seq ?_
  refine AWP.seq ?_
  refine AWP.region rfl ?_
  refine AOps.val (Gv.fieldF Tryz.underlying64 rfl Tryz.sizeOf24 (by decide) rfl rfl) ?_
  refine AOps.val (Gv.load1F (c := .fro _ _) Tryz.isAgg24 rfl) ?_
  refine AOps.val (Gv.lenM Tryz.underlying24 rfl) ?_
  refine AOps.val (Gv.eqlI rfl rfl) ?_
  refine AOps.val (Gv.move (v := .bool _) rfl) ?_
  refine AOps.case (s := 9) rfl (fun c8 => ?_) (fun c8 => ?_)
  · skip
    refine AOps.guardFd rfl rfl c8 ?_
    refine AOps.guardFd rfl rfl c8 ?_
    refine AOps.guardFd rfl rfl c8 ?_
    refine AOps.guardFd rfl rfl c8 ?_
    refine AOps.guardFd rfl rfl c8 ?_
    refine AOps.guardFd rfl rfl c8 ?_
    refine AOps.guardFd rfl rfl c8 ?_
    refine AOps.val (Gv.pickT (v := .bool _) rfl c8 rfl) ?_
    refine AOps.val (Gv.move (v := .bool _) rfl) ?_
    refine AOps.guardFd rfl rfl rfl ?_
    refine AOps.guardFd rfl rfl rfl ?_
    refine AOps.guardFd rfl rfl rfl ?_
    refine AOps.guardFd rfl rfl rfl ?_
    refine AOps.guardFd rfl rfl rfl ?_
    refine AOps.val (Gv.pickT (v := .bool _) rfl rfl rfl) ?_
    refine AOps.val (Gv.move (v := .bool _) rfl) ?_
    refine AOps.guardFd rfl rfl rfl ?_
    refine AOps.guardFd rfl rfl rfl ?_
    refine AOps.guardFd rfl rfl rfl ?_
    refine AOps.guardFd rfl rfl rfl ?_
    refine AOps.guardFd rfl rfl rfl ?_
    refine AOps.val (Gv.pickT (v := .bool _) rfl rfl rfl) ?_
    refine AOps.nil ?_
    refine AWP.condT rfl rfl ?_
    refine AWP.seq ?_
    refine AWP.region rfl ?_
    refine AOps.val (Gv.assign (v := .bool _) rfl) ?_
    refine AOps.nil ?_
    refine AWP.ret ?_
    repeat (first | refine aseqQ_ret ?_ | refine ablockQ_ret ?_)
    refine afin.t1 (x := .bool _) rfl ?_
    exact jb (by have := List.any_eq_not_all_not (l := p.from_) (p := fun x => !hasB f x); simp_all [phiOK, Int.ofNat_inj] <;> grind)
  · skip
    refine AOps.guardT rfl rfl c8 ?_
    refine AOps.val (Gv.fieldF Tryz.underlying64 rfl Tryz.sizeOf24 (by decide) rfl rfl) ?_
    refine AOps.guardT rfl rfl c8 ?_
    refine AOps.val (Gv.load1F (c := .fro _ _) Tryz.isAgg24 rfl) ?_
    refine AOps.guardT rfl rfl c8 ?_
    refine AOps.val (Gv.lenM Tryz.underlying24 rfl) ?_
    refine AOps.guardT rfl rfl c8 ?_
    refine AOps.val (Gv.fieldF Tryz.underlying64 rfl Tryz.sizeOf24 (by decide) rfl rfl) ?_
    refine AOps.guardT rfl rfl c8 ?_
    refine AOps.val (Gv.load1F (c := .fro _ _) Tryz.isAgg24 rfl) ?_
    refine AOps.guardT rfl rfl c8 ?_
    refine AOps.val (Gv.lenM Tryz.underlying24 rfl) ?_
    refine AOps.guardT rfl rfl c8 ?_
    refine AOps.val (Gv.neqI rfl rfl) ?_
    refine AOps.val (Gv.pickF (v := .bool _) rfl c8 rfl) ?_
    refine AOps.val (Gv.move (v := .bool _) rfl) ?_
    refine AOps.case (s := 18) rfl (fun c9 => ?_) (fun c9 => ?_)
    · skip
      refine AOps.guardFd rfl rfl c9 ?_
      refine AOps.guardFd rfl rfl c9 ?_
      refine AOps.guardFd rfl rfl c9 ?_
      refine AOps.guardFd rfl rfl c9 ?_
      refine AOps.guardFd rfl rfl c9 ?_
      refine AOps.val (Gv.pickT (v := .bool _) rfl c9 rfl) ?_
      refine AOps.val (Gv.move (v := .bool _) rfl) ?_
      refine AOps.guardFd rfl rfl rfl ?_
      refine AOps.guardFd rfl rfl rfl ?_
      refine AOps.guardFd rfl rfl rfl ?_
      refine AOps.guardFd rfl rfl rfl ?_
      refine AOps.guardFd rfl rfl rfl ?_
      refine AOps.val (Gv.pickT (v := .bool _) rfl rfl rfl) ?_
      refine AOps.nil ?_
      refine AWP.condT rfl rfl ?_
      refine AWP.seq ?_
      refine AWP.region rfl ?_
      refine AOps.val (Gv.assign (v := .bool _) rfl) ?_
      refine AOps.nil ?_
      refine AWP.ret ?_
      repeat (first | refine aseqQ_ret ?_ | refine ablockQ_ret ?_)
      refine afin.t1 (x := .bool _) rfl ?_
      exact jb (by have := List.any_eq_not_all_not (l := p.from_) (p := fun x => !hasB f x); simp_all [phiOK, Int.ofNat_inj] <;> grind)
    · skip
      refine AOps.guardT rfl rfl c9 ?_
      refine AOps.val (Gv.loadWF Tryz.isAgg27 Tryz.sizeOf27 rfl rfl) ?_
      refine AOps.guardT rfl rfl c9 ?_
      refine AOps.val (Gv.fieldF Tryz.underlying64 rfl Tryz.sizeOf3 (by decide) rfl rfl) ?_
      refine AOps.guardT rfl rfl c9 ?_
      refine AOps.val (Gv.load1F (c := .int _ _) Tryz.isAgg3 rfl) ?_
      refine AOps.guardT rfl rfl c9 ?_
      refine AOps.callP (has_spec _ _) rfl ?_
      refine AOps.guardT rfl rfl c9 ?_
      refine AOps.val (Gv.not rfl) ?_
      refine AOps.val (Gv.pickF (v := .bool _) rfl c9 rfl) ?_
      refine AOps.val (Gv.move (v := .bool _) rfl) ?_
      refine AOps.case (s := 25) rfl (fun c10 => ?_) (fun c10 => ?_)
      · skip
        refine AOps.guardFd rfl rfl c10 ?_
        refine AOps.guardFd rfl rfl c10 ?_
        refine AOps.guardFd rfl rfl c10 ?_
        refine AOps.guardFd rfl rfl c10 ?_
        refine AOps.guardFd rfl rfl c10 ?_
        refine AOps.val (Gv.pickT (v := .bool _) rfl c10 rfl) ?_
        refine AOps.nil ?_
        refine AWP.condT rfl rfl ?_
        refine AWP.seq ?_
        refine AWP.region rfl ?_
        refine AOps.val (Gv.assign (v := .bool _) rfl) ?_
        refine AOps.nil ?_
        refine AWP.ret ?_
        repeat (first | refine aseqQ_ret ?_ | refine ablockQ_ret ?_)
        refine afin.t1 (x := .bool _) rfl ?_
        exact jb (by have := List.any_eq_not_all_not (l := p.from_) (p := fun x => !hasB f x); simp_all [phiOK, Int.ofNat_inj] <;> grind)
      · skip
        refine AOps.guardT rfl rfl c10 ?_
        refine AOps.val (Gv.loadWF Tryz.isAgg27 Tryz.sizeOf27 rfl rfl) ?_
        refine AOps.guardT rfl rfl c10 ?_
        refine AOps.val (Gv.fieldF Tryz.underlying64 rfl Tryz.sizeOf24 (by decide) rfl rfl) ?_
        refine AOps.guardT rfl rfl c10 ?_
        refine AOps.val (Gv.load1F (c := .fro _ _) Tryz.isAgg24 rfl) ?_
        refine AOps.guardT rfl rfl c10 ?_
        refine AOps.callP (vars_spec f p.args (by omega)) rfl ?_
        refine AOps.guardT rfl rfl c10 ?_
        refine AOps.val (Gv.not rfl) ?_
        refine AOps.val (Gv.pickF (v := .bool _) rfl c10 rfl) ?_
        refine AOps.nil ?_
        refine AWP.cond rfl (fun c11 => ?_) (fun c11 => ?_)
        · skip
          refine AWP.seq ?_
          refine AWP.region rfl ?_
          refine AOps.val (Gv.assign (v := .bool _) rfl) ?_
          refine AOps.nil ?_
          refine AWP.ret ?_
          repeat (first | refine aseqQ_ret ?_ | refine ablockQ_ret ?_)
          refine afin.t1 (x := .bool _) rfl ?_
          exact jb (by have := List.any_eq_not_all_not (l := p.from_) (p := fun x => !hasB f x); simp_all [phiOK, Int.ofNat_inj] <;> grind)
        · skip
          refine AWP.skip ?_
          refine AWP.seq ?_
          refine AWP.region rfl ?_
          refine AOps.val (Gv.fieldF Tryz.underlying64 rfl Tryz.sizeOf24 (by decide) rfl rfl) ?_
          refine AOps.val (Gv.load1F (c := .fro _ _) Tryz.isAgg24 rfl) ?_
          refine AOps.val (Gv.func rfl rfl) ?_
          refine AOps.callP (containsFuncI_spec p.from_ (by omega) (phi1_spec f)) rfl ?_
          refine AOps.val (Gv.not rfl) ?_
          refine AOps.val (Gv.assign (v := .bool _) rfl) ?_
          refine AOps.nil ?_
          refine AWP.ret ?_
          repeat (first | refine aseqQ_ret ?_ | refine ablockQ_ret ?_)
          refine afin.t1 (x := .bool _) rfl ?_
          exact jb (by have := List.any_eq_not_all_not (l := p.from_) (p := fun x => !hasB f x); simp_all [phiOK, Int.ofNat_inj] <;> grind)
end Go.Proofs.YtdkhlgiohpdihaaGreatDoor
namespace Go.Proofs.YtdkhlgiohpdihaaGreatDoor
open Go.Proofs Go.Lib Go.Shelf Go.RowKit
set_option maxRecDepth 20000
variable {E : World}
theorem indexFuncP_spec {p : PPhi → Bool} {fn : FuncId} {c : List AV} (xs : List PPhi) (hl : xs.length ≤ 281474976710656) (hp : ∀ x ∈ xs, AFun Tryz.prog E fn ([.agg (encPhi x)] ++ c) (.bool (p x))) :
    AFun Tryz.prog E 64 [.fro 3 (xs.map encPhi), .fn fn [] c] (.int .i64 (firstI p xs 0)) := by
  refine ACall.intro Tryz.func64 rfl (by decide) rfl ?_
  refine AWP.seq ?_
  refine AWP.region rfl ?_
  refine AOps.val (Gv.assign (v := .int _ _) rfl) ?_
  refine AOps.nil ?_
  refine AWP.seq ?_
  refine AWP.seq ?_
  refine AWP.region rfl ?_
  refine AOps.val (Gv.move (v := .fro _ _) rfl) ?_
  refine AOps.val (Gv.lenM Tryz.underlying41 rfl) ?_
  refine AOps.val (Gv.move (v := .int _ _) rfl) ?_
  refine AOps.nil ?_
  refine AWP.block ?_
  refine AWP.loop (γ := Nat) [0, 1, 7] (fun k => [(8, .int .i64 k)]) (fun k => []) (fun k => k ≤ xs.length ∧ (xs.take k).all (fun x => !p x)) (fun k => xs.length - k) 0 ⟨rfl, trivial⟩ ⟨_, (.refl _), rfl⟩ (⟨Nat.zero_le _, rfl⟩) ?_
  rintro k ⟨hk, hall⟩
  refine AWP.seq ?_
  refine AWP.region rfl ?_
  refine AOps.val (Gv.lss rfl rfl) ?_
  refine AOps.nil ?_
  refine AWP.seq ?_
  refine AWP.condP rfl (fun ck => ?_) (fun ck => ?_)
  · skip
    have hk2 : k < xs.length := by omega
    refine AWP.skip ?_
    refine AWP.seq ?_
    refine AWP.block ?_
    refine AWP.seq ?_
    refine AWP.region rfl ?_
    refine AOps.val (Gv.move (v := .int _ _) rfl) ?_
    refine AOps.val (Gv.assign (v := .int _ _) rfl) ?_
    refine AOps.nil ?_
    refine AWP.seq ?_
    refine AWP.region rfl ?_
    refine AOps.val (Gv.move (v := .fn _ _ _) rfl) ?_
    refine AOps.val (Gv.move (v := .fro _ _) rfl) ?_
    refine AOps.val (Gv.move (v := .int _ _) rfl) ?_
    refine AOps.val (Gv.idxM Tryz.underlying41 Tryz.sizeOf64 rfl rfl rfl (List.getElem?_eq_getElem (by omega))) ?_
    refine AOps.val (Gv.loadWF Tryz.isAgg64 Tryz.sizeOf64 rfl rfl) ?_
    refine AOps.callVP rfl (hp _ (List.getElem_mem hk2)) rfl ?_
    refine AOps.nil ?_
    refine AWP.cond rfl (fun cp => ?_) (fun cp => ?_)
    · skip
      refine AWP.seq ?_
      refine AWP.region rfl ?_
      refine AOps.val (Gv.move (v := .int _ _) rfl) ?_
      refine AOps.val (Gv.assign (v := .int _ _) rfl) ?_
      refine AOps.nil ?_
      refine AWP.ret ?_
      repeat (first | refine aseqQ_ret ?_ | refine ablockQ_ret ?_)
      refine afin.t1 (x := .int _ _) rfl ?_
      rw [firstI_drop p xs k hk hall, List.drop_eq_getElem_cons hk2, firstI, if_pos cp]
    · skip
      refine AWP.skip ?_
      refine AWP.region rfl ?_
      refine AOps.val (Gv.add rfl rfl (by unfold I64; omega)) ?_
      refine AOps.val (Gv.move (v := .int _ _) rfl) ?_
      refine AOps.nil ?_
      exact ⟨k + 1, ⟨rfl, rfl, rfl, trivial⟩, ⟨rfl, trivial⟩, ⟨_, (.refl _), rfl⟩, ⟨hk2, by rw [List.take_succ_eq_append_getElem hk2, List.all_append, hall]; simp [cp]⟩, by omega⟩
  · skip
    have hkn : k = xs.length := by omega
    refine AWP.exit ?_
    refine AWP.seq ?_
    refine AWP.region rfl ?_
    refine AOps.val (Gv.assign (v := .int _ _) rfl) ?_
    refine AOps.nil ?_
    refine AWP.ret ?_
    repeat (first | refine aseqQ_ret ?_ | refine ablockQ_ret ?_)
    refine afin.t1 (x := .int _ _) rfl ?_
    rw [firstI_drop p xs k hk hall, hkn, List.drop_length, firstI]
theorem containsFuncP_spec {p : PPhi → Bool} {fn : FuncId} {c : List AV} (xs : List PPhi) (hl : xs.length ≤ 281474976710656) (hp : ∀ x ∈ xs, AFun Tryz.prog E fn ([.agg (encPhi x)] ++ c) (.bool (p x))) :
    AFun Tryz.prog E 38 [.fro 3 (xs.map encPhi), .fn fn [] c] (.bool (xs.any p)) := by
  refine ACall.intro Tryz.func38 rfl (by decide) rfl ?_
  refine AWP.seq ?_
  refine AWP.region rfl ?_
  refine AOps.val (Gv.assign (v := .bool _) rfl) ?_
  refine AOps.nil ?_
  refine AWP.seq ?_
  refine AWP.region rfl ?_
  refine AOps.val (Gv.move (v := .fro _ _) rfl) ?_
  refine AOps.val (Gv.move (v := .fn _ _ _) rfl) ?_
  refine AOps.callP (indexFuncP_spec xs hl hp) rfl ?_
  refine AOps.val (Gv.geq rfl rfl) ?_
  refine AOps.val (Gv.assign (v := .bool _) rfl) ?_
  refine AOps.nil ?_
  refine AWP.ret ?_
  repeat (first | refine aseqQ_ret ?_ | refine ablockQ_ret ?_)
  refine afin.t1 (x := .bool _) rfl ?_
  rw [firstI_ge]
theorem indexFuncX_spec {p : PInst → Bool} {fn : FuncId} {c : List AV} (xs : List PInst) (hl : xs.length ≤ 281474976710656) (hp : ∀ x ∈ xs, AFun Tryz.prog E fn ([.agg (encInst x)] ++ c) (.bool (p x))) :
    AFun Tryz.prog E 70 [.fro 4 (xs.map encInst), .fn fn [] c] (.int .i64 (firstI p xs 0)) := by
  refine ACall.intro Tryz.func70 rfl (by decide) rfl ?_
  refine AWP.seq ?_
  refine AWP.region rfl ?_
  refine AOps.val (Gv.assign (v := .int _ _) rfl) ?_
  refine AOps.nil ?_
  refine AWP.seq ?_
  refine AWP.seq ?_
  refine AWP.region rfl ?_
  refine AOps.val (Gv.move (v := .fro _ _) rfl) ?_
  refine AOps.val (Gv.lenM Tryz.underlying42 rfl) ?_
  refine AOps.val (Gv.move (v := .int _ _) rfl) ?_
  refine AOps.nil ?_
  refine AWP.block ?_
  refine AWP.loop (γ := Nat) [0, 1, 7] (fun k => [(8, .int .i64 k)]) (fun k => []) (fun k => k ≤ xs.length ∧ (xs.take k).all (fun x => !p x)) (fun k => xs.length - k) 0 ⟨rfl, trivial⟩ ⟨_, (.refl _), rfl⟩ (⟨Nat.zero_le _, rfl⟩) ?_
  rintro k ⟨hk, hall⟩
  refine AWP.seq ?_
  refine AWP.region rfl ?_
  refine AOps.val (Gv.lss rfl rfl) ?_
  refine AOps.nil ?_
  refine AWP.seq ?_
  refine AWP.condP rfl (fun ck => ?_) (fun ck => ?_)
  · skip
    have hk2 : k < xs.length := by omega
    refine AWP.skip ?_
    refine AWP.seq ?_
    refine AWP.block ?_
    refine AWP.seq ?_
    refine AWP.region rfl ?_
    refine AOps.val (Gv.move (v := .int _ _) rfl) ?_
    refine AOps.val (Gv.assign (v := .int _ _) rfl) ?_
    refine AOps.nil ?_
    refine AWP.seq ?_
    refine AWP.region rfl ?_
    refine AOps.val (Gv.move (v := .fn _ _ _) rfl) ?_
    refine AOps.val (Gv.move (v := .fro _ _) rfl) ?_
    refine AOps.val (Gv.move (v := .int _ _) rfl) ?_
    refine AOps.val (Gv.idxM Tryz.underlying42 Tryz.sizeOf67 rfl rfl rfl (List.getElem?_eq_getElem (by omega))) ?_
    refine AOps.val (Gv.loadWF Tryz.isAgg67 Tryz.sizeOf67 rfl rfl) ?_
    refine AOps.callVP rfl (hp _ (List.getElem_mem hk2)) rfl ?_
    refine AOps.nil ?_
    refine AWP.cond rfl (fun cp => ?_) (fun cp => ?_)
    · skip
      refine AWP.seq ?_
      refine AWP.region rfl ?_
      refine AOps.val (Gv.move (v := .int _ _) rfl) ?_
      refine AOps.val (Gv.assign (v := .int _ _) rfl) ?_
      refine AOps.nil ?_
      refine AWP.ret ?_
      repeat (first | refine aseqQ_ret ?_ | refine ablockQ_ret ?_)
      refine afin.t1 (x := .int _ _) rfl ?_
      rw [firstI_drop p xs k hk hall, List.drop_eq_getElem_cons hk2, firstI, if_pos cp]
    · skip
      refine AWP.skip ?_
      refine AWP.region rfl ?_
      refine AOps.val (Gv.add rfl rfl (by unfold I64; omega)) ?_
      refine AOps.val (Gv.move (v := .int _ _) rfl) ?_
      refine AOps.nil ?_
      exact ⟨k + 1, ⟨rfl, rfl, rfl, trivial⟩, ⟨rfl, trivial⟩, ⟨_, (.refl _), rfl⟩, ⟨hk2, by rw [List.take_succ_eq_append_getElem hk2, List.all_append, hall]; simp [cp]⟩, by omega⟩
  · skip
    have hkn : k = xs.length := by omega
    refine AWP.exit ?_
    refine AWP.seq ?_
    refine AWP.region rfl ?_
    refine AOps.val (Gv.assign (v := .int _ _) rfl) ?_
    refine AOps.nil ?_
    refine AWP.ret ?_
    repeat (first | refine aseqQ_ret ?_ | refine ablockQ_ret ?_)
    refine afin.t1 (x := .int _ _) rfl ?_
    rw [firstI_drop p xs k hk hall, hkn, List.drop_length, firstI]
theorem containsFuncX_spec {p : PInst → Bool} {fn : FuncId} {c : List AV} (xs : List PInst) (hl : xs.length ≤ 281474976710656) (hp : ∀ x ∈ xs, AFun Tryz.prog E fn ([.agg (encInst x)] ++ c) (.bool (p x))) :
    AFun Tryz.prog E 41 [.fro 4 (xs.map encInst), .fn fn [] c] (.bool (xs.any p)) := by
  refine ACall.intro Tryz.func41 rfl (by decide) rfl ?_
  refine AWP.seq ?_
  refine AWP.region rfl ?_
  refine AOps.val (Gv.assign (v := .bool _) rfl) ?_
  refine AOps.nil ?_
  refine AWP.seq ?_
  refine AWP.region rfl ?_
  refine AOps.val (Gv.move (v := .fro _ _) rfl) ?_
  refine AOps.val (Gv.move (v := .fn _ _ _) rfl) ?_
  refine AOps.callP (indexFuncX_spec xs hl hp) rfl ?_
  refine AOps.val (Gv.geq rfl rfl) ?_
  refine AOps.val (Gv.assign (v := .bool _) rfl) ?_
  refine AOps.nil ?_
  refine AWP.ret ?_
  repeat (first | refine aseqQ_ret ?_ | refine ablockQ_ret ?_)
  refine afin.t1 (x := .bool _) rfl ?_
  rw [firstI_ge]
theorem shaped1_spec (f : PFunc) (p : PPhi) (hp : okPhi p) : AFun Tryz.prog E 39 ([.agg (encPhi p)] ++ [.pf (encF f)]) (.bool (!phiOK f p)) := by
  refine ACall.intro Tryz.func39 rfl (by decide) rfl ?_
  refine AWP.seq ?_
  refine AWP.region rfl ?_
  refine AOps.boxF (cs := _) rfl rfl rfl ?_
  refine AOps.val (Gv.assign (v := .bool _) rfl) ?_
  refine AOps.nil ?_
  refine AWP.seq ?_
  refine AWP.region rfl ?_
  refine AOps.val (Gv.loadWF Tryz.isAgg27 Tryz.sizeOf27 rfl rfl) ?_
  refine AOps.val (Gv.loadWF Tryz.isAgg64 Tryz.sizeOf64 rfl rfl) ?_
  refine AOps.callP (phi_spec _ _ (by assumption)) rfl ?_
  refine AOps.val (Gv.not rfl) ?_
  refine AOps.val (Gv.assign (v := .bool _) rfl) ?_
  refine AOps.nil ?_
  refine AWP.ret ?_
  repeat (first | refine aseqQ_ret ?_ | refine ablockQ_ret ?_)
  refine afin.t1 (x := .bool _) rfl ?_
  rfl
theorem shaped2_spec (f : PFunc) (x : PInst) (hx : okL x.args) : AFun Tryz.prog E 42 ([.agg (encInst x)] ++ [.pf (encF f)]) (.bool (!instOK f x)) := by
  refine ACall.intro Tryz.func42 rfl (by decide) rfl ?_
  refine AWP.seq ?_
  refine AWP.region rfl ?_
  refine AOps.boxF (cs := _) rfl rfl rfl ?_
  refine AOps.val (Gv.assign (v := .bool _) rfl) ?_
  refine AOps.nil ?_
  refine AWP.seq ?_
  refine AWP.region rfl ?_
  refine AOps.val (Gv.loadWF Tryz.isAgg27 Tryz.sizeOf27 rfl rfl) ?_
  refine AOps.val (Gv.loadWF Tryz.isAgg67 Tryz.sizeOf67 rfl rfl) ?_
  refine AOps.callP (inst_spec _ _ (by assumption)) rfl ?_
  refine AOps.val (Gv.not rfl) ?_
  refine AOps.val (Gv.assign (v := .bool _) rfl) ?_
  refine AOps.nil ?_
  refine AWP.ret ?_
  repeat (first | refine aseqQ_ret ?_ | refine ablockQ_ret ?_)
  refine afin.t1 (x := .bool _) rfl ?_
  rfl
def blkOK (f : PFunc) (b : PBlock) : Bool := !(b.phis.any fun p => !phiOK f p) && !(b.insts.any fun x => !instOK f x) && termOK f b.term
theorem blk_bad1 {f : PFunc} {b : PBlock} (h : (b.phis.any fun p => !phiOK f p) = true) : blkOK f b = false := by unfold blkOK; rw [h]; rfl
theorem blk_bad2 {f : PFunc} {b : PBlock} (h : (b.insts.any fun x => !instOK f x) = true) : blkOK f b = false := by unfold blkOK; rw [h]; simp
theorem blk_bad3 {f : PFunc} {b : PBlock} (h : (!termOK f b.term) = true) : blkOK f b = false := by unfold blkOK; rw [show termOK f b.term = false by simpa using h]; simp
theorem blk_good {f : PFunc} {b : PBlock} (h1 : (b.phis.any fun p => !phiOK f p) = false) (h2 : (b.insts.any fun x => !instOK f x) = false) (h3 : (!termOK f b.term) = false) : blkOK f b = true := by unfold blkOK; rw [h1, h2, show termOK f b.term = true by simpa using h3]; rfl
def shapedB (f : PFunc) : Bool := decide (NamesP f) && (f.blocks.all (blkOK f) && decide (sumTo f.blocks ≤ 1024))
theorem Shaped_spec (f : PFunc) (hf : okFunc f) (h1 : f.vars.length ≤ 100000000) (h2 : f.blocks.length ≤ 100000000) (hp : f.params.length ≤ 100000000) (hn : okNames f) (hL : Letters E) : AFun Tryz.prog E 16 [.agg (encF f)] (.bool (shapedB f)) := by
  refine ACall.intro Tryz.func16 rfl (by decide) rfl ?_
  refine AWP.seq ?_
  refine AWP.region rfl ?_
  refine AOps.boxF (cs := _) rfl rfl rfl ?_
  refine AOps.val (Gv.assign (v := .bool _) rfl) ?_
  refine AOps.nil ?_
  refine AWP.seq ?_
  refine AWP.seq ?_
  refine AWP.region rfl ?_
  refine AOps.val (Gv.loadWF Tryz.isAgg27 Tryz.sizeOf27 rfl rfl) ?_
  refine AOps.callP (pnames_spec _ (by omega) (by omega) (by omega) (by assumption) hL) rfl ?_
  refine AOps.val (Gv.not rfl) ?_
  refine AOps.nil ?_
  refine AWP.cond rfl (fun cn => ?_) (fun cn => ?_)
  · skip
    refine AWP.seq ?_
    refine AWP.region rfl ?_
    refine AOps.val (Gv.assign (v := .bool _) rfl) ?_
    refine AOps.nil ?_
    refine AWP.ret ?_
    repeat (first | refine aseqQ_ret ?_ | refine ablockQ_ret ?_)
    refine afin.t1 (x := .bool _) rfl ?_
    exact jb (by unfold shapedB; rw [show decide (NamesP f) = false by simpa using cn]; rfl)
  · skip
    have hN : NamesP f := by simpa using cn
    have hbl := hN.2.2.1.2.2.2.2
    refine AWP.skip ?_
    refine AWP.seq ?_
    refine AWP.region rfl ?_
    refine AOps.val (Gv.assign (v := .int _ _) rfl) ?_
    refine AOps.nil ?_
    refine AWP.seq ?_
    refine AWP.seq ?_
    refine AWP.region rfl ?_
    refine AOps.val (Gv.fieldF Tryz.underlying27 rfl Tryz.sizeOf25 (by decide) rfl rfl) ?_
    refine AOps.val (Gv.load1F (c := .fro _ _) Tryz.isAgg25 rfl) ?_
    refine AOps.val (Gv.lenM Tryz.underlying25 rfl) ?_
    refine AOps.val (Gv.move (v := .int _ _) rfl) ?_
    refine AOps.nil ?_
    refine AWP.block ?_
    refine AWP.loop (γ := Nat) [1, 11, 12] (fun k => [(3, .int .i64 (sumTo (f.blocks.take k))), (13, .int .i64 k)]) (fun k => []) (fun k => k ≤ f.blocks.length ∧ sumTo (f.blocks.take k) ≤ k * 562949953421312 ∧ (f.blocks.take k).all (blkOK f) = true) (fun k => f.blocks.length - k) 0 ⟨rfl, rfl, trivial⟩ ⟨_, (.refl _), rfl⟩ (⟨Nat.zero_le _, Nat.zero_le _, rfl⟩) ?_
    rintro k ⟨hk, hsum, hall⟩
    refine AWP.seq ?_
    refine AWP.region rfl ?_
    refine AOps.val (Gv.lss rfl rfl) ?_
    refine AOps.nil ?_
    refine AWP.seq ?_
    refine AWP.condP rfl (fun ck => ?_) (fun ck => ?_)
    · skip
      have hk2 : k < f.blocks.length := by simp at ck; omega
      obtain ⟨b, hbk⟩ : ∃ b, f.blocks[k] = b := ⟨_, rfl⟩
      have hget : f.blocks[k]? = some b := by rw [List.getElem?_eq_getElem hk2, hbk]
      have hb := hf.2.2.2 b (hbk ▸ List.getElem_mem hk2)
      have hb1 := hb.1.lt
      have hb2 := hb.2.1.lt
      have hsucc := sumTo_succ f.blocks k hk2
      rw [hbk] at hsucc
      refine AWP.skip ?_
      refine AWP.seq ?_
      refine AWP.block ?_
      refine AWP.seq ?_
      refine AWP.region rfl ?_
      refine AOps.val (Gv.idxM (j := k) Tryz.underlying25 Tryz.sizeOf48 rfl rfl rfl hget) ?_
      refine AOps.val (Gv.loadWF Tryz.isAgg48 Tryz.sizeOf48 rfl rfl) ?_
      refine AOps.alloc (cs := [.str ⟨#[]⟩, .raw (.slice none 0 0), .raw (.slice none 0 0), .int .i64 0, .int .i64 0, .int .i64 0, .int .i64 0]) Tryz.zeroValue48 rfl rfl ?_
      intro i5
      refine AOps.storeW Tryz.sizeOf48 rfl rfl rfl rfl rfl rfl .head rfl ?_
      refine AOps.nil ?_
      refine AWP.seq ?_
      refine AWP.region rfl ?_
      refine AOps.val (Gv.move (v := .int _ _) rfl) ?_
      refine AOps.val (Gv.fieldO Tryz.underlying48 rfl Tryz.sizeOf41 (by decide) rfl rfl) ?_
      refine AOps.val (Gv.load1C (c := .fro _ _) Tryz.isAgg41 rfl ⟨_, .head⟩ rfl) ?_
      refine AOps.val (Gv.lenM Tryz.underlying41 rfl) ?_
      refine AOps.val (Gv.fieldO Tryz.underlying48 rfl Tryz.sizeOf42 (by decide) rfl rfl) ?_
      refine AOps.val (Gv.load1C (c := .fro _ _) Tryz.isAgg42 rfl ⟨_, .head⟩ rfl) ?_
      refine AOps.val (Gv.lenM Tryz.underlying42 rfl) ?_
      refine AOps.val (Gv.add rfl rfl (by unfold I64; omega)) ?_
      refine AOps.val (Gv.add rfl rfl (by unfold I64; omega)) ?_
      refine AOps.val (Gv.assign (v := .int _ _) rfl) ?_
      refine AOps.nil ?_
      refine AWP.seq ?_
      refine AWP.region rfl ?_
      refine AOps.val (Gv.fieldO Tryz.underlying48 rfl Tryz.sizeOf41 (by decide) rfl rfl) ?_
      refine AOps.val (Gv.load1C (c := .fro _ _) Tryz.isAgg41 rfl ⟨_, .head⟩ rfl) ?_
      refine AOps.val (Gv.func rfl rfl) ?_
      refine AOps.callP (containsFuncP_spec b.phis (by omega) (fun p hp => shaped1_spec f p (hb.2.2.1 p hp))) rfl ?_
      refine AOps.val (Gv.move (v := .bool _) rfl) ?_
      refine AOps.case (s := 30) rfl (fun c1 => ?_) (fun c1 => ?_)
      · skip
        refine AOps.guardFd rfl rfl c1 ?_
        refine AOps.guardFd rfl rfl c1 ?_
        refine AOps.guardFd rfl rfl c1 ?_
        refine AOps.guardFd rfl rfl c1 ?_
        refine AOps.val (Gv.pickT (v := .bool _) rfl c1 rfl) ?_
        refine AOps.val (Gv.assign (v := .bool _) rfl) ?_
        refine AOps.nil ?_
        refine AWP.seq ?_
        refine AWP.region rfl ?_
        refine AOps.val (Gv.move (v := .bool _) rfl) ?_
        refine AOps.val (Gv.move (v := .bool _) rfl) ?_
        refine AOps.guardFd rfl rfl rfl ?_
        refine AOps.guardFd rfl rfl rfl ?_
        refine AOps.guardFd rfl rfl rfl ?_
        refine AOps.guardFd rfl rfl rfl ?_
        refine AOps.guardFd rfl rfl rfl ?_
        refine AOps.val (Gv.pickT (v := .bool _) rfl rfl rfl) ?_
        refine AOps.nil ?_
        refine AWP.condT rfl rfl ?_
        refine AWP.seq ?_
        refine AWP.region rfl ?_
        refine AOps.val (Gv.assign (v := .bool _) rfl) ?_
        refine AOps.nil ?_
        refine AWP.ret ?_
        repeat (first | refine aseqQ_ret ?_ | refine ablockQ_ret ?_)
        refine afin.t1 (x := .bool _) rfl ?_
        exact jb (by unfold shapedB; rw [show f.blocks.all (blkOK f) = false from Bool.eq_false_iff.2 (all_bad hk2 (by rw [hbk]; first | exact blk_bad1 (by assumption) | exact blk_bad2 (by assumption) | exact blk_bad3 (by assumption)))]; simp)
      · skip
        refine AOps.guardT rfl rfl c1 ?_
        refine AOps.val (Gv.fieldO Tryz.underlying48 rfl Tryz.sizeOf42 (by decide) rfl rfl) ?_
        refine AOps.guardT rfl rfl c1 ?_
        refine AOps.val (Gv.load1C (c := .fro _ _) Tryz.isAgg42 rfl ⟨_, .head⟩ rfl) ?_
        refine AOps.guardT rfl rfl c1 ?_
        refine AOps.val (Gv.func rfl rfl) ?_
        refine AOps.guardT rfl rfl c1 ?_
        refine AOps.callP (containsFuncX_spec b.insts (by omega) (fun x hx => shaped2_spec f x (hb.2.2.2 x hx))) rfl ?_
        refine AOps.val (Gv.pickF (v := .bool _) rfl c1 rfl) ?_
        refine AOps.val (Gv.assign (v := .bool _) rfl) ?_
        refine AOps.nil ?_
        refine AWP.seq ?_
        refine AWP.region rfl ?_
        refine AOps.val (Gv.move (v := .bool _) rfl) ?_
        refine AOps.val (Gv.move (v := .bool _) rfl) ?_
        refine AOps.case (s := 37) rfl (fun c2 => ?_) (fun c2 => ?_)
        · skip
          refine AOps.guardFd rfl rfl c2 ?_
          refine AOps.guardFd rfl rfl c2 ?_
          refine AOps.guardFd rfl rfl c2 ?_
          refine AOps.guardFd rfl rfl c2 ?_
          refine AOps.guardFd rfl rfl c2 ?_
          refine AOps.val (Gv.pickT (v := .bool _) rfl c2 rfl) ?_
          refine AOps.nil ?_
          refine AWP.condT rfl rfl ?_
          refine AWP.seq ?_
          refine AWP.region rfl ?_
          refine AOps.val (Gv.assign (v := .bool _) rfl) ?_
          refine AOps.nil ?_
          refine AWP.ret ?_
          repeat (first | refine aseqQ_ret ?_ | refine ablockQ_ret ?_)
          refine afin.t1 (x := .bool _) rfl ?_
          exact jb (by unfold shapedB; rw [show f.blocks.all (blkOK f) = false from Bool.eq_false_iff.2 (all_bad hk2 (by rw [hbk]; first | exact blk_bad1 (by assumption) | exact blk_bad2 (by assumption) | exact blk_bad3 (by assumption)))]; simp)
        · skip
          refine AOps.guardT rfl rfl c2 ?_
          refine AOps.val (Gv.loadWF Tryz.isAgg27 Tryz.sizeOf27 rfl rfl) ?_
          refine AOps.guardT rfl rfl c2 ?_
          refine AOps.val (Gv.fieldO Tryz.underlying48 rfl Tryz.sizeOf46 (by decide) rfl rfl) ?_
          refine AOps.guardT rfl rfl c2 ?_
          refine AOps.val (Gv.loadAC (l := [_, _, _, _]) Tryz.isAgg46 Tryz.sizeOf46 rfl ⟨_, .head⟩ rfl rfl) ?_
          refine AOps.guardT rfl rfl c2 ?_
          refine AOps.callP (term_spec _ _) rfl ?_
          refine AOps.guardT rfl rfl c2 ?_
          refine AOps.val (Gv.not rfl) ?_
          refine AOps.val (Gv.pickF (v := .bool _) rfl c2 rfl) ?_
          refine AOps.nil ?_
          refine AWP.cond rfl (fun c3 => ?_) (fun c3 => ?_)
          · skip
            refine AWP.seq ?_
            refine AWP.region rfl ?_
            refine AOps.val (Gv.assign (v := .bool _) rfl) ?_
            refine AOps.nil ?_
            refine AWP.ret ?_
            repeat (first | refine aseqQ_ret ?_ | refine ablockQ_ret ?_)
            refine afin.t1 (x := .bool _) rfl ?_
            exact jb (by unfold shapedB; rw [show f.blocks.all (blkOK f) = false from Bool.eq_false_iff.2 (all_bad hk2 (by rw [hbk]; first | exact blk_bad1 (by assumption) | exact blk_bad2 (by assumption) | exact blk_bad3 (by assumption)))]; simp)
          · skip
            refine AWP.skip ?_
            refine AWP.region rfl ?_
            refine AOps.val (Gv.add rfl rfl (by unfold I64; omega)) ?_
            refine AOps.val (Gv.move (v := .int _ _) rfl) ?_
            refine AOps.nil ?_
            exact ⟨k + 1, ⟨rfl, rfl, rfl, trivial⟩, ⟨congrArg (AV.int .i64) (by rw [hsucc]; omega), rfl, trivial⟩, ⟨_, (.drop (.refl _)), rfl⟩, ⟨hk2, by rw [hsucc]; omega, all_take hk2 hall (by rw [hbk]; exact blk_good (by assumption) (by assumption) (by assumption))⟩, by omega⟩
    · skip
      have hkn : k = f.blocks.length := by simp at ck; omega
      subst hkn
      rw [List.take_length] at hall ⊢
      refine AWP.exit ?_
      refine AWP.seq ?_
      refine AWP.region rfl ?_
      refine AOps.val (Gv.move (v := .int _ _) rfl) ?_
      refine AOps.val (Gv.leq rfl rfl) ?_
      refine AOps.val (Gv.assign (v := .bool _) rfl) ?_
      refine AOps.nil ?_
      refine AWP.ret ?_
      repeat (first | refine aseqQ_ret ?_ | refine ablockQ_ret ?_)
      refine afin.t1 (x := .bool _) rfl ?_
      exact jb (by unfold shapedB; rw [decide_eq_true hN, hall]; simp; omega)
theorem phiOK_iff (f : PFunc) (p : PPhi) : phiOK f p = true ↔ PhiP f p := by
  unfold phiOK PhiP
  simp only [Bool.and_eq_true, Bool.not_eq_true', decide_eq_false_iff_not, decide_eq_true_eq]
  constructor
  · rintro ⟨⟨⟨⟨h1, h2⟩, h3⟩, h4⟩, h5⟩; exact ⟨h3, h2, by omega, h4, h5⟩
  · rintro ⟨h3, h2, h1, h4, h5⟩; exact ⟨⟨⟨⟨by omega, h2⟩, h3⟩, h4⟩, h5⟩
theorem tyWord_ne (t : Int) : ¬ tyWord t = ⟨#[]⟩ ↔ 0 ≤ t ∧ t ≤ 2 := by
  unfold tyWord
  constructor
  · intro h
    by_cases h0 : t = 0
    · omega
    · by_cases h1 : t = 1
      · omega
      · by_cases h2 : t = 2
        · omega
        · rw [if_neg h0, if_neg h1, if_neg h2] at h; exact absurd rfl h
  · intro h e
    have : t = 0 ∨ t = 1 ∨ t = 2 := by omega
    rcases this with rfl | rfl | rfl <;> exact absurd e (by decide)
theorem blkOK_iff (f : PFunc) (b : PBlock) : blkOK f b = true ↔ BlkP f b := by
  unfold blkOK BlkP
  simp only [Bool.and_eq_true, Bool.not_eq_true', List.any_eq_false, Bool.not_eq_false]
  constructor
  · rintro ⟨⟨h1, h2⟩, h3⟩
    exact ⟨fun p hp => (phiOK_iff f p).1 (by simpa using h1 p hp), fun x hx => (instOK_iff f x).1 (by simpa using h2 x hx), h3⟩
  · rintro ⟨h1, h2, h3⟩
    exact ⟨⟨fun p hp => by simpa using (phiOK_iff f p).2 (h1 p hp), fun x hx => by simpa using (instOK_iff f x).2 (h2 x hx)⟩, h3⟩
theorem unlP_iff {l : List ByteArray} : UnlP l ↔ ∀ i (h : i < l.length), scanName l[i] = true ∧ l[i] ∉ l.take i := by
  unfold UnlP
  constructor <;> intro h i hi
  · exact ⟨(h i hi).1, fun hm => by have := inB_iff.2 hm; rw [(h i hi).2] at this; cases this⟩
  · exact ⟨(h i hi).1, Bool.eq_false_iff.2 fun hm => (h i hi).2 (inB_iff.1 hm)⟩
theorem vn_getE {f : PFunc} {i : Nat} (h : i < (VNames f).length) (h' : i < f.vars.length) : (VNames f)[i] = f.vars[i].name := by
  have : (VNames f)[i]? = some f.vars[i].name := by unfold VNames; rw [List.getElem?_map, List.getElem?_eq_getElem h']; rfl
  rw [List.getElem?_eq_getElem h] at this
  simpa using this
theorem bn_getE {f : PFunc} {i : Nat} (h : i < (BNames f).length) (h' : i < f.blocks.length) : (BNames f)[i] = f.blocks[i].name := by
  have : (BNames f)[i]? = some f.blocks[i].name := by unfold BNames; rw [List.getElem?_map, List.getElem?_eq_getElem h']; rfl
  rw [List.getElem?_eq_getElem h] at this
  simpa using this
theorem shapedB_eq (f : PFunc) : shapedB f = decide (ShapedP f) := by
  rw [Bool.eq_iff_iff, decide_eq_true_iff]
  unfold shapedB
  simp only [Bool.and_eq_true, decide_eq_true_iff, List.all_eq_true, blkOK_iff]
  unfold NamesP LensP ShapedP bad1
  simp only [unlP_iff]
  constructor
  · rintro ⟨⟨h1, h2, ⟨g1, g2, g3, g4, g5⟩, h4, h5⟩, h6, h7⟩
    refine ⟨?_, h2, fun i h => ?_, fun i h => ?_, h7, h6⟩
    · simp; omega
    · have ht := (tyWord_ne _).1 (h1 i h)
      have hu := h4 i (by unfold VNames; simpa using h)
      have e := vn_getE (f := f) (i := i) (by unfold VNames; simpa using h) h
      rw [e] at hu
      exact ⟨by rw [name_eq]; exact hu.1, ht.1, ht.2, fun s hs e2 => hu.2 (by unfold VNames; rw [← List.map_take, ← e2]; exact hs)⟩
    · have hu := h5 i (by unfold BNames; simpa using h)
      have e := bn_getE (f := f) (i := i) (by unfold BNames; simpa using h) h
      rw [e] at hu
      exact ⟨by rw [name_eq]; exact hu.1, fun s hs e2 => hu.2 (by unfold BNames; rw [← List.map_take, ← e2]; exact hs)⟩
  · rintro ⟨h1, h2, h3, h4, h7, h6⟩
    simp at h1
    refine ⟨⟨fun i h => (tyWord_ne _).2 ⟨(h3 i h).2.1, (h3 i h).2.2.1⟩, h2, by omega, fun i h => ?_, fun i h => ?_⟩, h6, h7⟩
    · have h' : i < f.vars.length := by simpa using h
      have e := vn_getE h h'
      rw [e]
      exact ⟨by rw [← name_eq]; exact (h3 i h').1, fun hm => (h3 i h').2.2.2 _ (by unfold VNames at hm; rw [← List.map_take] at hm; exact hm) rfl⟩
    · have h' : i < f.blocks.length := by simpa using h
      have e := bn_getE h h'
      rw [e]
      exact ⟨by rw [← name_eq]; exact (h4 i h').1, fun hm => (h4 i h').2 _ (by unfold BNames at hm; rw [← List.map_take] at hm; exact hm) rfl⟩
end Go.Proofs.YtdkhlgiohpdihaaGreatDoor
namespace Go.Proofs.YtdkhlgiohpdihaaGreatDoor
open Go.Proofs Go.Lib Go.Shelf Go.RowKit
set_option maxRecDepth 20000
structure FOk (f : PFunc) : Prop where
  vars : ∀ v ∈ f.vars, scanName v.name = true ∧ 0 ≤ v.ty ∧ v.ty ≤ 2
  blks : ∀ b ∈ f.blocks, scanName b.name = true ∧ BlkP f b
theorem vname_ok {f : PFunc} (hf : FOk f) {v : Int} (h : hasV f v = true) : scanName (vname f v) = true := by
  obtain ⟨h1, _, _, h2⟩ := has_get h
  rw [h2]; exact (hf.vars _ (List.getElem_mem h1)).1
theorem bname_ok {f : PFunc} (hf : FOk f) {v : Int} (h : hasB f v = true) : scanName (bname f v) = true := by
  obtain ⟨h1, _, _, h2⟩ := hasB_get h
  rw [h2]; exact (hf.blks _ (List.getElem_mem h1)).1
theorem namesOk_map {α : Type} {g : α → ByteArray} {l : List α} (h : ∀ x ∈ l, scanName (g x) = true) : namesOk (l.map g) = true := by
  unfold namesOk
  rw [List.all_map]
  exact List.all_eq_true.2 h
def inter : List ByteArray → List ByteArray → List ByteArray
  | a :: l, b :: m => a :: b :: inter l m
  | _, _ => []
theorem inter_ok : ∀ {l m : List ByteArray}, l.length = m.length → evens (inter l m) = l ∧ odds (inter l m) = m ∧ (inter l m).length = 2 * l.length
  | [], [], _ => ⟨rfl, rfl, rfl⟩
  | [], _ :: _, h => by cases h
  | _ :: _, [], h => by cases h
  | a :: l, b :: m, h => by
    obtain ⟨h1, h2, h3⟩ := inter_ok (l := l) (m := m) (by simpa using h)
    exact ⟨by rw [inter, evens, h1], by rw [inter, odds, h2], by rw [inter, List.length_cons, List.length_cons, List.length_cons, h3]; omega⟩
theorem inter_mem : ∀ {l m : List ByteArray} {x : ByteArray}, x ∈ inter l m → x ∈ l ∨ x ∈ m
  | [], _, x, h => by unfold inter at h; cases h
  | _ :: _, [], x, h => by unfold inter at h; cases h
  | a :: l, b :: m, x, h => by
    rw [inter] at h
    rcases List.mem_cons.1 h with rfl | h
    · exact .inl (.head _)
    · rcases List.mem_cons.1 h with rfl | h
      · exact .inr (.head _)
      · exact (inter_mem h).imp (fun h => .tail _ h) (fun h => .tail _ h)
def phiL (f : PFunc) (p : PPhi) : List ByteArray := vname f p.dst :: eqS :: phiS :: inter (p.from_.map (bname f)) (p.args.map (vname f))
def termL (f : PFunc) (t : PTerm) : List ByteArray :=
  if t.kind = 0 then [jumpS, bname f t.to0] else if t.kind = 1 then [ifS, vname f t.var, bname f t.to0, bname f t.to1] else [retS, vname f t.var]
def blkL (f : PFunc) (b : PBlock) : List (List ByteArray) := [blockS, b.name] :: (b.phis.map (phiL f) ++ (b.insts.map (wordsOf f) ++ [termL f b.term]))
def headL (f : PFunc) : List ByteArray := funcS :: (f.vars.take f.params.length).map pairW
def varL (v : PVar) : List ByteArray := [varS, pairW v]
def linesF (f : PFunc) : List (List ByteArray) := headL f :: ((f.vars.drop f.params.length).map varL ++ f.blocks.flatMap (blkL f))
def toPhi (f : PFunc) (p : PPhi) : PItem := .phi (vname f p.dst) (p.from_.map (bname f)) (p.args.map (vname f))
def toInst (f : PFunc) (x : PInst) : PItem := .inst x.op (if x.dst = -1 then ⟨#[]⟩ else vname f x.dst) (x.args.map (vname f)) x.num
def toHead (f : PFunc) (b : PBlock) : PHead :=
  if b.term.kind = 0 then ⟨b.name, 0, ⟨#[]⟩, [bname f b.term.to0], true⟩
  else if b.term.kind = 1 then ⟨b.name, 1, vname f b.term.var, [bname f b.term.to0, bname f b.term.to1], true⟩
  else ⟨b.name, 2, vname f b.term.var, [], true⟩
def toB (f : PFunc) (b : PBlock) : PHead × List PItem := (toHead f b, b.phis.map (toPhi f) ++ b.insts.map (toInst f))
def mkP (ps vs : List PVar) (bs : List (PHead × List PItem)) : PProg := ⟨ps, vs, bs.dropLast, bs.getLast?⟩
def progF (f : PFunc) : PProg := mkP (f.vars.take f.params.length) (f.vars.drop f.params.length) (f.blocks.map (toB f))
theorem notB_len {w : List ByteArray} (h : w.length ≠ 2) : isBlockLine w = false := by unfold isBlockLine; exact decide_eq_false fun h2 => h h2.2.1
theorem notB_head {w : List ByteArray} (h : atW w 0 ≠ blockS) : isBlockLine w = false := by unfold isBlockLine; exact decide_eq_false fun h2 => h h2.1
theorem namesOk_eq (l : List ByteArray) : namesOk (eqS :: l) = false := by unfold namesOk; rw [List.all_cons, eq_not_name]; rfl
theorem endB_eq {h : PHead} {a : ByteArray} {l : List ByteArray} : endB h (a :: eqS :: l) = none := by
  unfold endB
  rw [if_pos (.inr (by show ¬ namesOk (eqS :: l) = true; rw [namesOk_eq]; simp))]
theorem phi_line {f : PFunc} (hf : FOk f) {p : PPhi} (hp : PhiP f p) {h : PHead} (he : h.ended = false) {items : List PItem} (hi : ∀ x ∈ items, x.isPhi = true) :
    isBlockLine (phiL f p) = false ∧ lineB h items (phiL f p) = some (h, items ++ [toPhi f p]) := by
  obtain ⟨h1, h2, h3, h4, h5⟩ := hp
  have h4 := List.all_eq_true.1 h4
  have h5 := List.all_eq_true.1 h5
  obtain ⟨e1, e2, e3⟩ := inter_ok (l := p.from_.map (bname f)) (m := p.args.map (vname f)) (by simp [h2])
  rw [List.length_map] at e3
  have hlen : (phiL f p).length = 2 * p.from_.length + 3 := by unfold phiL; rw [List.length_cons, List.length_cons, List.length_cons, e3]
  refine ⟨notB_len (by omega), ?_⟩
  have hend : endB h (phiL f p) = none := endB_eq
  have hnm : namesOk (inter (p.from_.map (bname f)) (p.args.map (vname f))) = true := List.all_eq_true.2 fun x hx => by
    rcases inter_mem hx with hx | hx
    · obtain ⟨b, hb, rfl⟩ := List.mem_map.1 hx; exact bname_ok hf (h5 b hb)
    · obtain ⟨a, ha, rfl⟩ := List.mem_map.1 hx; exact vname_ok hf (h4 a ha)
  have hphi : phiOk (inter (p.from_.map (bname f)) (p.args.map (vname f))) = true := by
    unfold phiOk
    rw [hnm, e3]
    have a1 : (2 : Int) ≤ ((2 * p.from_.length : Nat) : Int) := by omega
    have a2 : ((2 * p.from_.length : Nat) : Int).tmod 2 = 0 := (Int.ofNat_tmod (2 * p.from_.length) 2).symm.trans (by simp)
    rw [decide_eq_true a1, decide_eq_true a2]; rfl
  have hit : instrItem (phiL f p) = some (toPhi f p) := by
    unfold instrItem
    have b1 : atW (phiL f p) 1 = eqS := rfl
    have b0 : atW (phiL f p) 0 = vname f p.dst := rfl
    have b2 : atW (phiL f p) 2 = phiS := rfl
    rw [if_neg (by rintro (h | h); omega; exact h b1), if_neg (by rintro (h | h); exact h (by rw [b0]; exact vname_ok hf h1); omega), if_pos b2, b0]
    show phiItem (vname f p.dst) (inter (p.from_.map (bname f)) (p.args.map (vname f))) = _
    unfold phiItem
    rw [if_pos hphi, e1, e2]; rfl
  unfold lineB
  rw [if_neg (by rw [he]; simp), hend]
  dsimp only
  rw [hit]
  dsimp only
  rw [if_neg]
  rintro ⟨_, hl⟩
  cases hg : items.getLast? with
  | none => rw [hg] at hl; cases hl
  | some y =>
    rw [hg] at hl
    have := hi y (List.mem_of_getLast? hg)
    simp only [Option.map_some, Option.some.injEq] at hl
    rw [this] at hl; cases hl
theorem op_words : ∀ j : Nat, j < 27 → isOpW (kRow (j : Int)).1 = true ∧ opOf (kRow (j : Int)).1 = (j : Int) ∧ (kRow (j : Int)).1 ≠ jumpS ∧ (kRow (j : Int)).1 ≠ ifS ∧ (kRow (j : Int)).1 ≠ retS ∧ (kRow (j : Int)).1 ≠ blockS ∧ (kRow (j : Int)).1 ≠ phiS ∧ (isNum (j : Int) = true → makesB (j : Int) = true) := by decide
theorem op_word {op : Int} (h : 0 ≤ op ∧ op ≤ 26) : isOpW (kRow op).1 = true ∧ opOf (kRow op).1 = op ∧ (kRow op).1 ≠ jumpS ∧ (kRow op).1 ≠ ifS ∧ (kRow op).1 ≠ retS ∧ (kRow op).1 ≠ blockS ∧ (kRow op).1 ≠ phiS ∧ (isNum op = true → makesB op = true) := by
  obtain ⟨n, rfl⟩ : ∃ n : Nat, op = n := ⟨op.toNat, by omega⟩
  exact op_words n (by omega)
theorem endB_head {h : PHead} {w : List ByteArray} (h1 : atW w 0 ≠ jumpS) (h2 : atW w 0 ≠ ifS) (h3 : atW w 0 ≠ retS) : endB h w = none := by
  unfold endB
  split
  · rfl
  · rw [if_neg (fun h => h1 h.1), if_neg (fun h => h2 h.1), if_neg (fun h => h3 h.1)]
structure InstF (f : PFunc) (x : PInst) : Prop where
  op : 0 ≤ x.op ∧ x.op ≤ 26
  len : x.args.length = (takesL x.op).length
  dst : (makesB x.op = false ∧ x.dst = -1) ∨ (makesB x.op = true ∧ x.dst ≠ -1 ∧ hasV f x.dst = true)
  num : isNum x.op = false → x.num = 0
  args : ∀ a ∈ x.args, hasV f a = true
theorem instP_F {f : PFunc} {x : PInst} (h : InstP f x) : InstF f x := by
  obtain ⟨h1, h2, h3, h4⟩ := h
  have hw := wordB_num ⟨h1, h2⟩
  unfold bad2 at h3
  simp only [Bool.or_eq_false_iff, Bool.not_eq_false', decide_eq_true_eq, Bool.and_eq_false_iff, beq_iff_eq] at h3
  obtain ⟨g1, g2, g3, g4⟩ := h3
  refine ⟨⟨h1, h2⟩, by rw [takes_len]; omega, ?_, fun hn => ?_, List.all_eq_true.1 h4⟩
  · rw [makesB_eq]
    by_cases hd : x.dst = -1
    · left
      rw [decide_eq_true hd] at g2
      exact ⟨by rw [g2]; rfl, hd⟩
    · right
      rw [decide_eq_false hd] at g2
      refine ⟨by rw [g2]; rfl, hd, ?_⟩
      rcases g3 with g | g
      · exact absurd g hd
      · exact g
  · rcases g4 with g | g
    · exact g
    · rw [hw, hn] at g; cases g
theorem inst_item {f : PFunc} (hf : FOk f) {x : PInst} (hx : InstF f x) (hI : -9223372036854775808 ≤ x.num ∧ x.num ≤ 9223372036854775807) :
    isBlockLine (wordsOf f x) = false ∧ (∀ h : PHead, endB h (wordsOf f x) = none) ∧ instrItem (wordsOf f x) = some (toInst f x) := by
  obtain ⟨w1, w2, w3, w4, w5, w6, w7, w8⟩ := op_word hx.op
  have hargs : namesOk (x.args.map (vname f)) = true := namesOk_map fun a ha => vname_ok hf (hx.args a ha)
  have hwo : wordsOf f x = words1 f x ++ [(kRow x.op).1] ++ x.args.map (vname f) ++ (if isNum x.op then [strL (itoa x.num)] else []) := by
    unfold wordsOf words2; rw [List.take_length]; rfl
  rcases hx.dst with ⟨d1, d2⟩ | ⟨d1, d2, d3⟩
  · have hn : isNum x.op = false := by
      cases h : isNum x.op with
      | false => rfl
      | true => rw [w8 h] at d1; cases d1
    have hw : wordsOf f x = (kRow x.op).1 :: x.args.map (vname f) := by
      rw [hwo, hn]; unfold words1; rw [if_neg (by omega)]; simp
    have h0 : atW (wordsOf f x) 0 = (kRow x.op).1 := by rw [hw]; rfl
    refine ⟨notB_head (by rw [h0]; exact w6), fun h => endB_head (by rw [h0]; exact w3) (by rw [h0]; exact w4) (by rw [h0]; exact w5), ?_⟩
    have hop : opItem ⟨#[]⟩ (wordsOf f x) = some (toInst f x) := by
      rw [hw]
      show opCons ⟨#[]⟩ (kRow x.op).1 (x.args.map (vname f)) = _
      unfold opCons
      rw [w2, if_pos ⟨w1, by rw [d1]; rfl⟩, if_neg (by rw [hn]; simp), if_pos ⟨by rw [List.length_map]; exact hx.len, hargs⟩]
      unfold toInst
      rw [if_pos d2, hx.num hn]
    unfold instrItem
    rw [if_pos, hop]
    by_cases hl : (wordsOf f x).length < 2
    · exact .inl hl
    · right
      intro he
      rw [hw] at hl he
      cases ha : x.args with
      | nil => rw [ha] at hl; simp at hl
      | cons a r =>
        rw [ha] at he
        have he : vname f a = eqS := he
        exact name_ne_eq (vname_ok hf (hx.args a (by rw [ha]; exact .head _))) he
  · have hd0 : 0 ≤ x.dst := by unfold hasV at d3; simp at d3; exact d3.1
    have hvn := vname_ok hf d3
    obtain ⟨rest, hrest⟩ : ∃ rest, x.args.map (vname f) ++ (if isNum x.op then [strL (itoa x.num)] else []) = rest := ⟨_, rfl⟩
    have hw : wordsOf f x = vname f x.dst :: eqS :: (kRow x.op).1 :: rest := by
      rw [hwo]; unfold words1; rw [if_pos hd0, ← hrest]; simp; rfl
    have hlen : (wordsOf f x).length = rest.length + 3 := by rw [hw]; rfl
    refine ⟨notB_len (by omega), fun h => by rw [hw]; exact endB_eq, ?_⟩
    have b0 : atW (wordsOf f x) 0 = vname f x.dst := by rw [hw]; rfl
    have b1 : atW (wordsOf f x) 1 = eqS := by rw [hw]; rfl
    have b2 : atW (wordsOf f x) 2 = (kRow x.op).1 := by rw [hw]; rfl
    unfold instrItem
    rw [if_neg (by rintro (h | h); omega; exact h b1), if_neg (by rintro (h | h); exact h (by rw [b0]; exact hvn); omega), if_neg (by rw [b2]; exact w7), b0, hw]
    show opCons (vname f x.dst) (kRow x.op).1 rest = _
    unfold opCons
    rw [w2, if_pos ⟨w1, by rw [d1, decide_eq_false (name_ne hvn)]; rfl⟩]
    have hti : toInst f x = .inst x.op (vname f x.dst) (x.args.map (vname f)) x.num := by unfold toInst; rw [if_neg d2]
    rw [hti]
    cases hn : isNum x.op with
    | false =>
      rw [hn] at hrest
      have hrest : rest = x.args.map (vname f) := by rw [← hrest]; simp
      rw [if_neg (by simp), if_pos ⟨by rw [hrest, List.length_map]; exact hx.len, by rw [hrest]; exact hargs⟩, hrest, hx.num hn]
    | true =>
      rw [hn] at hrest
      have hrest : rest = x.args.map (vname f) ++ [strL (itoa x.num)] := by rw [← hrest]; rfl
      have hk : (x.args.map (vname f)).length = (takesL x.op).length := by rw [List.length_map]; exact hx.len
      have hat : atW rest (takesL x.op).length = strL (itoa x.num) := by unfold atW; rw [hrest, ← hk, List.getElem?_append_right (Nat.le_refl _), Nat.sub_self]; rfl
      have htk : rest.take (takesL x.op).length = x.args.map (vname f) := by rw [hrest, ← hk, List.take_left]
      have hp := pint_itoa hI
      have hno : numOk (strL (itoa x.num)) = true := by unfold numOk; rw [hp]; exact decide_eq_true rfl
      have hnv : numV (strL (itoa x.num)) = x.num := by unfold numV; rw [if_pos hno, hp]; rfl
      rw [if_pos rfl, hat, htk, if_pos ⟨by rw [hrest, List.length_append, hk]; rfl, hno, hargs⟩, hnv]
theorem inst_line {f : PFunc} (hf : FOk f) {x : PInst} (hx : InstF f x) (hI : -9223372036854775808 ≤ x.num ∧ x.num ≤ 9223372036854775807) {h : PHead} (he : h.ended = false) {items : List PItem} :
    isBlockLine (wordsOf f x) = false ∧ lineB h items (wordsOf f x) = some (h, items ++ [toInst f x]) := by
  obtain ⟨h1, h2, h3⟩ := inst_item hf hx hI
  refine ⟨h1, ?_⟩
  unfold lineB
  rw [if_neg (by rw [he]; simp), h2 h]
  dsimp only
  rw [h3]
  dsimp only
  rw [if_neg]
  rintro ⟨h4, _⟩
  unfold toInst at h4
  cases h4
theorem term_line {f : PFunc} (hf : FOk f) {b : PBlock} (ht : termOK f b.term = true) {items : List PItem} :
    isBlockLine (termL f b.term) = false ∧ lineB (newHead b.name) items (termL f b.term) = some (toHead f b, items) := by
  have key : ∀ {w : List ByteArray} {h' : PHead}, endB (newHead b.name) w = some h' → lineB (newHead b.name) items w = some (h', items) := fun {w h'} he => by
    unfold lineB; rw [if_neg (by show ¬ false = true; simp), he]
  unfold termL toHead
  by_cases k0 : b.term.kind = 0
  · have hb := bname_ok hf (termOK_0 ht k0)
    rw [if_pos k0, if_pos k0]
    refine ⟨notB_head (by show jumpS ≠ blockS; decide), key ?_⟩
    unfold endB
    rw [if_neg, if_pos ⟨rfl, rfl⟩]; rfl
    rintro (h | h)
    · have : (2 : Nat) < 2 := h; omega
    · exact h (by show namesOk [bname f b.term.to0] = true; unfold namesOk; simp [hb])
  · rw [if_neg k0, if_neg k0]
    by_cases k1 : b.term.kind = 1
    · obtain ⟨t1, t2, t3⟩ := termOK_1 ht k1
      have h1 := vname_ok hf t1
      have h2 := bname_ok hf t2
      have h3 := bname_ok hf t3
      rw [if_pos k1, if_pos k1]
      refine ⟨notB_len (by show 4 ≠ 2; decide), key ?_⟩
      unfold endB
      rw [if_neg, if_neg, if_pos ⟨rfl, rfl⟩]; rfl
      · rintro ⟨_, h⟩; cases h
      · rintro (h | h)
        · have : (4 : Nat) < 2 := h; omega
        · exact h (by show namesOk [vname f b.term.var, bname f b.term.to0, bname f b.term.to1] = true; unfold namesOk; simp [h1, h2, h3])
    · have h1 := vname_ok hf (termOK_2 ht k0 k1)
      rw [if_neg k1, if_neg k1]
      refine ⟨notB_head (by show retS ≠ blockS; decide), key ?_⟩
      unfold endB
      rw [if_neg, if_neg, if_neg, if_pos ⟨rfl, rfl⟩]; rfl
      · rintro ⟨_, h⟩; cases h
      · rintro ⟨h, _⟩; have h : retS = jumpS := h; revert h; decide
      · rintro (h | h)
        · have : (2 : Nat) < 2 := h; omega
        · exact h (by show namesOk [vname f b.term.var] = true; unfold namesOk; simp [h1])
end Go.Proofs.YtdkhlgiohpdihaaGreatDoor
namespace Go.Proofs.YtdkhlgiohpdihaaGreatDoor
open Go.Proofs Go.Lib Go.Shelf Go.RowKit
set_option maxRecDepth 20000
def runW (S : PProg) (ws : List (List ByteArray)) : Option PProg := runLines S (ws.map wline)
theorem runW_nil (S : PProg) : runW S [] = some S := rfl
theorem runW_cons {S S' : PProg} {w : List ByteArray} (ws : List (List ByteArray)) (h : lineP S w = some S') : runW S (w :: ws) = runW S' ws := by
  unfold runW
  rw [List.map_cons, runLines, show (wline w).2 = w from rfl, h]; rfl
theorem runW_app : ∀ {S S' : PProg} {a : List (List ByteArray)} (b : List (List ByteArray)), runW S a = some S' → runW S (a ++ b) = runW S' b
  | S, S', [], b, h => by cases h; rfl
  | S, S', w :: a, b, h => by
    cases hl : lineP S w with
    | none => unfold runW at h; rw [List.map_cons, runLines, show (wline w).2 = w from rfl, hl] at h; cases h
    | some S1 =>
      rw [runW_cons a hl] at h
      rw [List.cons_append, runW_cons (a ++ b) hl]
      exact runW_app b h
theorem mkP_last (ps vs : List PVar) (bs : List (PHead × List PItem)) (b : PHead × List PItem) : mkP ps vs (bs ++ [b]) = ⟨ps, vs, bs, some b⟩ := by
  unfold mkP; simp
theorem begin_line {ps vs : List PVar} {bs : List (PHead × List PItem)} (h : ∀ b ∈ bs, b.1.ended = true) {nm : ByteArray} (hn : scanName nm = true) :
    lineP (mkP ps vs bs) [blockS, nm] = some ⟨ps, vs, bs, some (newHead nm, [])⟩ := by
  have hb : isBlockLine [blockS, nm] = true := by unfold isBlockLine; exact decide_eq_true ⟨rfl, rfl, hn⟩
  rcases snoc_cases bs with rfl | ⟨pre, y, rfl⟩
  · show lineP0 _ _ = _
    unfold lineP0; rw [if_pos hb]; rfl
  · rw [mkP_last]
    show lineP1 _ y _ = _
    unfold lineP1; rw [if_pos hb, if_pos (h y (by simp))]; rfl
theorem item_line {ps vs : List PVar} {bs : List (PHead × List PItem)} {h : PHead} {it : List PItem} {w : List ByteArray} {r : PHead × List PItem} (h1 : isBlockLine w = false) (h2 : lineB h it w = some r) :
    lineP ⟨ps, vs, bs, some (h, it)⟩ w = some ⟨ps, vs, bs, some r⟩ := by
  show lineP1 _ (h, it) w = _
  unfold lineP1; rw [if_neg (by rw [h1]; simp), h2]; rfl
theorem phis_run {f : PFunc} (hf : FOk f) {ps vs : List PVar} {bs : List (PHead × List PItem)} {h : PHead} (he : h.ended = false) : ∀ {l : List PPhi} {it : List PItem}, (∀ p ∈ l, PhiP f p) → (∀ x ∈ it, x.isPhi = true) →
    runW ⟨ps, vs, bs, some (h, it)⟩ (l.map (phiL f)) = some ⟨ps, vs, bs, some (h, it ++ l.map (toPhi f))⟩
  | [], it, _, _ => by simp [runW_nil]
  | p :: l, it, hl, hit => by
    obtain ⟨h1, h2⟩ := phi_line hf (hl p (.head _)) he hit
    rw [List.map_cons, runW_cons _ (item_line h1 h2), phis_run hf he (fun x hx => hl x (.tail _ hx)) (fun x hx => by
      rcases List.mem_append.1 hx with hx | hx
      · exact hit x hx
      · rw [List.mem_singleton.1 hx]; rfl)]
    simp
theorem insts_run {f : PFunc} (hf : FOk f) {ps vs : List PVar} {bs : List (PHead × List PItem)} {h : PHead} (he : h.ended = false) : ∀ {l : List PInst} {it : List PItem}, (∀ x ∈ l, InstF f x ∧ -9223372036854775808 ≤ x.num ∧ x.num ≤ 9223372036854775807) →
    runW ⟨ps, vs, bs, some (h, it)⟩ (l.map (wordsOf f)) = some ⟨ps, vs, bs, some (h, it ++ l.map (toInst f))⟩
  | [], it, _ => by simp [runW_nil]
  | x :: l, it, hl => by
    obtain ⟨h1, h2⟩ := inst_line hf (hl x (.head _)).1 (hl x (.head _)).2 he (items := it)
    rw [List.map_cons, runW_cons _ (item_line h1 h2), insts_run hf he (fun y hy => hl y (.tail _ hy))]
    simp
def NumsOk (f : PFunc) : Prop := ∀ b ∈ f.blocks, ∀ x ∈ b.insts, -9223372036854775808 ≤ x.num ∧ x.num ≤ 9223372036854775807
theorem blk_run {f : PFunc} (hf : FOk f) {ps vs : List PVar} {bs : List (PHead × List PItem)} (h : ∀ b ∈ bs, b.1.ended = true) {b : PBlock} (hb : scanName b.name = true) (hp : BlkP f b) (hn : ∀ x ∈ b.insts, -9223372036854775808 ≤ x.num ∧ x.num ≤ 9223372036854775807) :
    runW (mkP ps vs bs) (blkL f b) = some (mkP ps vs (bs ++ [toB f b])) := by
  obtain ⟨h1, h2, h3⟩ := hp
  obtain ⟨t1, t2⟩ := term_line hf h3 (items := b.phis.map (toPhi f) ++ b.insts.map (toInst f))
  unfold blkL
  rw [runW_cons _ (begin_line h hb), runW_app _ (phis_run hf rfl h1 (by simp)), List.nil_append, runW_app _ (insts_run hf rfl fun x hx => ⟨instP_F (h2 x hx), hn x hx⟩), runW_cons _ (item_line t1 t2), runW_nil, mkP_last]
  rfl
theorem toHead_ended (f : PFunc) (b : PBlock) : (toHead f b).ended = true := by unfold toHead; split; rfl; split <;> rfl
theorem blks_run {f : PFunc} (hf : FOk f) {ps vs : List PVar} : ∀ {l : List PBlock} {bs : List (PHead × List PItem)}, (∀ b ∈ bs, b.1.ended = true) → (∀ b ∈ l, scanName b.name = true ∧ BlkP f b ∧ ∀ x ∈ b.insts, -9223372036854775808 ≤ x.num ∧ x.num ≤ 9223372036854775807) →
    runW (mkP ps vs bs) (l.flatMap (blkL f)) = some (mkP ps vs (bs ++ l.map (toB f)))
  | [], bs, _, _ => by simp [runW_nil]
  | b :: l, bs, h, hl => by
    obtain ⟨h1, h2, h3⟩ := hl b (.head _)
    rw [List.flatMap_cons, runW_app _ (blk_run hf h h1 h2 h3), blks_run hf (fun x hx => by
      rcases List.mem_append.1 hx with hx | hx
      · exact h x hx
      · rw [List.mem_singleton.1 hx]; exact toHead_ended f b) (fun x hx => hl x (.tail _ hx))]
    simp
theorem vars_run {ps : List PVar} : ∀ {l vs : List PVar}, (∀ v ∈ l, scanName v.name = true ∧ 0 ≤ v.ty ∧ v.ty ≤ 2) → runW (mkP ps vs []) (l.map varL) = some (mkP ps (vs ++ l) [])
  | [], vs, _ => by simp [runW_nil]
  | v :: l, vs, h => by
    obtain ⟨h1, h2⟩ := pairs_read (l := [v]) (fun x hx => by rw [List.mem_singleton.1 hx]; exact h v (.head _))
    have hl : lineP (mkP ps vs []) (varL v) = some (mkP ps (vs ++ [v]) []) := by
      show lineP0 _ _ = _
      unfold lineP0
      rw [if_neg (by rw [notB_head (by show varS ≠ blockS; decide)]; simp), if_pos ⟨by unfold isVarLine; exact decide_eq_true ⟨rfl, by show 1 < 2; omega⟩, h1⟩]
      show some _ = some _
      rw [show (varL v).drop 1 = [v].map pairW from rfl, h2]; rfl
    rw [List.map_cons, runW_cons _ hl, vars_run fun x hx => h x (.tail _ hx)]
    simp
theorem read_lines {f : PFunc} (hf : FOk f) (hn : NumsOk f) (hb : f.blocks ≠ []) : readW (linesF f) = some (progF f) := by
  have hpar : ∀ v ∈ f.vars.take f.params.length, scanName v.name = true ∧ 0 ≤ v.ty ∧ v.ty ≤ 2 := fun v hv => hf.vars v (List.mem_of_mem_take hv)
  obtain ⟨p1, p2⟩ := pairs_read hpar
  show (if atW (headL f) 0 = funcS then (tgt (wline (headL f)) (((f.vars.drop f.params.length).map varL ++ f.blocks.flatMap (blkL f)).map wline)).bind endP else none) = _
  rw [if_pos (show atW (headL f) 0 = funcS from rfl)]
  unfold tgt
  have hd : (wline (headL f)).2.drop 1 = (f.vars.take f.params.length).map pairW := rfl
  have hst : start (wline (headL f)).2 = mkP (f.vars.take f.params.length) [] [] := by unfold start; rw [hd, p2]; rfl
  rw [hd, if_pos p1, hst]
  show (runW _ ((f.vars.drop f.params.length).map varL ++ f.blocks.flatMap (blkL f))).bind endP = _
  rw [runW_app _ (vars_run fun v hv => hf.vars v (List.mem_of_mem_drop hv)), blks_run hf (by simp) fun b hb2 => ⟨(hf.blks b hb2).1, (hf.blks b hb2).2, hn b hb2⟩]
  show endP (mkP _ _ _) = _
  rw [List.nil_append, List.nil_append]
  unfold progF
  rcases snoc_cases f.blocks with h | ⟨pre, y, h⟩
  · exact absurd h hb
  · rw [h, List.map_append, List.map_cons, List.map_nil, mkP_last]
    show (if (toB f y).1.ended = true then _ else none) = _
    rw [if_pos (show (toB f y).1.ended = true from toHead_ended f y)]
end Go.Proofs.YtdkhlgiohpdihaaGreatDoor
namespace Go.Proofs.YtdkhlgiohpdihaaGreatDoor
open Go.Proofs Go.Lib Go.Shelf Go.RowKit
set_option maxRecDepth 20000
def Unlike (ns : List ByteArray) : Prop := ∀ i (h : i < ns.length), ns[i] ∉ ns.take i
def mapFrom : List ByteArray → Nat → NMap
  | [], _ => []
  | n :: ns, k => (n, (k : Int)) :: mapFrom ns (k + 1)
theorem mapFrom_len : ∀ (ns : List ByteArray) (k : Nat), (mapFrom ns k).length = ns.length
  | [], _ => rfl
  | _ :: ns, k => by rw [mapFrom, List.length_cons, List.length_cons, mapFrom_len ns]
theorem mapFrom_app : ∀ (ns ms : List ByteArray) (k : Nat), mapFrom (ns ++ ms) k = mapFrom ns k ++ mapFrom ms (k + ns.length)
  | [], _, _ => rfl
  | n :: ns, ms, k => by rw [List.cons_append, mapFrom, mapFrom_app ns ms, mapFrom, List.cons_append, List.length_cons]; congr 3; omega
theorem mget_no {s : ByteArray} : ∀ {ns : List ByteArray} {k : Nat}, s ∉ ns → mget s (mapFrom ns k) = none
  | [], _, _ => rfl
  | n :: ns, k, h => by
    rw [mapFrom, mget, if_neg (fun e => h (by rw [e]; exact .head _))]
    exact mget_no fun hm => h (.tail _ hm)
theorem mset_new {s : ByteArray} {v : Int} : ∀ {es : NMap}, mget s es = none → mset s v es = es ++ [(s, v)]
  | [], _ => rfl
  | (k, u) :: es, h => by
    rw [mget] at h
    split at h
    · cases h
    · rename_i hk
      rw [mset, if_neg hk, mset_new h]; rfl
theorem Unlike.cons {n : ByteArray} {ns : List ByteArray} (h : Unlike (n :: ns)) : n ∉ ns ∧ Unlike ns := by
  constructor
  · intro hm
    obtain ⟨i, hi, e⟩ := List.getElem_of_mem hm
    have := h (i + 1) (by simp; omega)
    exact this (by rw [List.getElem_cons_succ, e, List.take_succ_cons]; exact .head _)
  · intro i hi hm
    have := h (i + 1) (by simp; omega)
    exact this (by rw [List.getElem_cons_succ, List.take_succ_cons]; exact .tail _ hm)
theorem mget_at {s : ByteArray} : ∀ {ns : List ByteArray} {k i : Nat}, Unlike ns → ns[i]? = some s → mget s (mapFrom ns k) = some (((k + i : Nat) : Int))
  | [], _, _, _, h => by simp at h
  | n :: ns, k, 0, _, h => by
    simp at h; subst h
    rw [mapFrom, mget, if_pos rfl]; rfl
  | n :: ns, k, i + 1, hu, h => by
    obtain ⟨h1, h2⟩ := hu.cons
    have h : ns[i]? = some s := by simpa using h
    have hne : ¬ s = n := fun e => h1 (by rw [← e]; exact List.mem_of_getElem? h)
    rw [mapFrom, mget, if_neg hne, mget_at h2 h]
    congr 2; omega
theorem putAll_un {l0 : Bool} {ns : List ByteArray} (h : Unlike ns) : ∀ k, k ≤ ns.length → putAll ([], l0) (ns.take k) = (mapFrom (ns.take k) 0, l0)
  | 0, _ => rfl
  | k + 1, hk => by
    have hk2 : k < ns.length := by omega
    have hno : mget ns[k] (mapFrom (ns.take k) 0) = none := mget_no (h k hk2)
    rw [putAll_step hk2, putAll_un h k (by omega)]
    unfold putS hasM
    dsimp only
    rw [hno, mset_new hno, List.take_succ_eq_append_getElem hk2, mapFrom_app, mapFrom_len, List.length_take, Nat.min_eq_left (by omega), Nat.zero_add]
    simp [mapFrom]
theorem putAll_all {l0 : Bool} {ns : List ByteArray} (h : Unlike ns) : putAll ([], l0) ns = (mapFrom ns 0, l0) := by
  have := putAll_un (l0 := l0) h ns.length (Nat.le_refl _)
  rwa [List.take_length] at this
theorem shaped_ok {f : PFunc} (h : ShapedP f) : FOk f ∧ Unlike (f.vars.map PVar.name) ∧ Unlike (f.blocks.map PBlock.name) ∧ f.blocks ≠ [] := by
  obtain ⟨h1, h2, h3, h4, h5, h6⟩ := h
  refine ⟨⟨fun v hv => ?_, fun b hb => ?_⟩, fun i hi hm => ?_, fun i hi hm => ?_, fun e => ?_⟩
  · obtain ⟨i, hi, rfl⟩ := List.getElem_of_mem hv
    obtain ⟨g1, g2, g3, _⟩ := h3 i hi
    exact ⟨by rw [← name_eq]; exact g1, g2, g3⟩
  · obtain ⟨i, hi, rfl⟩ := List.getElem_of_mem hb
    exact ⟨by rw [← name_eq]; exact (h4 i hi).1, h6 _ hb⟩
  · have hi2 : i < f.vars.length := by simpa using hi
    rw [List.getElem_map, ← List.map_take] at hm
    exact (h3 i hi2).2.2.2 _ hm rfl
  · have hi2 : i < f.blocks.length := by simpa using hi
    rw [List.getElem_map, ← List.map_take] at hm
    exact (h4 i hi2).2 _ hm rfl
  · unfold bad1 at h1; rw [e] at h1; simp at h1
theorem var_at {f : PFunc} (hu : Unlike (f.vars.map PVar.name)) {v : Int} (h : hasV f v = true) : mget (vname f v) (mapFrom (f.vars.map PVar.name) 0) = some v := by
  obtain ⟨h1, h2, h3, h4⟩ := has_get h
  have := mget_at (s := vname f v) (k := 0) (i := v.toNat) hu (by rw [List.getElem?_map, h2, h4]; rfl)
  rw [this]; congr 1; omega
theorem blk_at {f : PFunc} (hu : Unlike (f.blocks.map PBlock.name)) {v : Int} (h : hasB f v = true) : mget (bname f v) (mapFrom (f.blocks.map PBlock.name) 0) = some v := by
  obtain ⟨h1, h2, h3, h4⟩ := hasB_get h
  have := mget_at (s := bname f v) (k := 0) (i := v.toNat) hu (by rw [List.getElem?_map, h2, h4]; rfl)
  rw [this]; congr 1; omega
section
variable {f : PFunc} (hf : FOk f) (hu : Unlike (f.vars.map PVar.name)) (hb : Unlike (f.blocks.map PBlock.name))
theorem getV {v : Int} (hu : Unlike (f.vars.map PVar.name)) (h : hasV f v = true) : getI (mapFrom (f.vars.map PVar.name) 0) (vname f v) = v ∧ hasM (mapFrom (f.vars.map PVar.name) 0) (vname f v) = true := by
  unfold getI hasM; rw [var_at hu h]; exact ⟨rfl, rfl⟩
theorem getB {v : Int} (hb : Unlike (f.blocks.map PBlock.name)) (h : hasB f v = true) : getI (mapFrom (f.blocks.map PBlock.name) 0) (bname f v) = v ∧ hasM (mapFrom (f.blocks.map PBlock.name) 0) (bname f v) = true := by
  unfold getI hasM; rw [blk_at hb h]; exact ⟨rfl, rfl⟩
theorem map_back {g : Int → ByteArray} {k : ByteArray → Int} : ∀ {l : List Int}, (∀ a ∈ l, k (g a) = a) → (l.map g).map k = l
  | [], _ => rfl
  | a :: l, h => by rw [List.map_cons, List.map_cons, h a (.head _), map_back fun x hx => h x (.tail _ hx)]
theorem any_back {g : Int → ByteArray} {k : ByteArray → Bool} {l : List Int} (h : ∀ a ∈ l, k (g a) = true) : (l.map g).any (fun s => !k s) = false := by
  rw [List.any_map]
  exact List.any_eq_false.2 fun a ha => by simp [h a ha]
theorem phi_back (hf : FOk f) (hu : Unlike (f.vars.map PVar.name)) (hb : Unlike (f.blocks.map PBlock.name)) {p : PPhi} (hp : PhiP f p) :
    phiOf (mapFrom (f.vars.map PVar.name) 0) (mapFrom (f.blocks.map PBlock.name) 0) (toPhi f p) = some p ∧ lostI (mapFrom (f.vars.map PVar.name) 0) (mapFrom (f.blocks.map PBlock.name) 0) (toPhi f p) = false := by
  obtain ⟨h1, _, _, h4, h5⟩ := hp
  have h4 := List.all_eq_true.1 h4
  have h5 := List.all_eq_true.1 h5
  have hne := name_ne (vname_ok hf h1)
  constructor
  · unfold toPhi phiOf dstI
    dsimp only
    rw [if_neg hne, (getV hu h1).1, map_back fun a ha => (getV hu (h4 a ha)).1, map_back fun a ha => (getB hb (h5 a ha)).1]
  · unfold toPhi lostI dstL
    dsimp only
    rw [(getV hu h1).2, any_back fun a ha => (getV hu (h4 a ha)).2, any_back fun a ha => (getB hb (h5 a ha)).2]; simp
theorem inst_back (hf : FOk f) (hu : Unlike (f.vars.map PVar.name)) {bm : NMap} {x : PInst} (hx : InstF f x) :
    instOf (mapFrom (f.vars.map PVar.name) 0) (toInst f x) = some x ∧ lostI (mapFrom (f.vars.map PVar.name) 0) bm (toInst f x) = false := by
  have hd : dstI (mapFrom (f.vars.map PVar.name) 0) (if x.dst = -1 then ⟨#[]⟩ else vname f x.dst) = x.dst ∧ dstL (mapFrom (f.vars.map PVar.name) 0) (if x.dst = -1 then ⟨#[]⟩ else vname f x.dst) = false := by
    rcases hx.dst with ⟨_, d2⟩ | ⟨_, d2, d3⟩
    · rw [if_pos d2]; unfold dstI dstL; rw [if_pos rfl, d2]; exact ⟨rfl, rfl⟩
    · rw [if_neg d2]; unfold dstI dstL
      rw [if_neg (name_ne (vname_ok hf d3)), (getV hu d3).1, (getV hu d3).2]; exact ⟨rfl, by simp⟩
  constructor
  · unfold toInst instOf
    dsimp only
    rw [hd.1, map_back fun a ha => (getV hu (hx.args a ha)).1]
  · unfold toInst lostI
    dsimp only
    rw [hd.2, any_back fun a ha => (getV hu (hx.args a ha)).2]; rfl
theorem fm_some {α β γ : Type} {g : α → β} {k : β → Option γ} {j : α → γ} : ∀ {l : List α}, (∀ a ∈ l, k (g a) = some (j a)) → (l.map g).filterMap k = l.map j
  | [], _ => rfl
  | a :: l, h => by rw [List.map_cons, List.filterMap_cons, h a (.head _)]; dsimp only; rw [fm_some fun x hx => h x (.tail _ hx)]; rfl
theorem fm_none {α β γ : Type} {g : α → β} {k : β → Option γ} : ∀ {l : List α}, (∀ a ∈ l, k (g a) = none) → (l.map g).filterMap k = []
  | [], _ => rfl
  | a :: l, h => by rw [List.map_cons, List.filterMap_cons, h a (.head _)]; dsimp only; exact fm_none fun x hx => h x (.tail _ hx)
theorem blk_back (hf : FOk f) (hu : Unlike (f.vars.map PVar.name)) (hb : Unlike (f.blocks.map PBlock.name)) {b : PBlock} (hp : BlkP f b) :
    blockOf (mapFrom (f.vars.map PVar.name) 0) (mapFrom (f.blocks.map PBlock.name) 0) (toB f b) = b ∧ lostBlk (mapFrom (f.vars.map PVar.name) 0) (mapFrom (f.blocks.map PBlock.name) 0) (toB f b) = false := by
  obtain ⟨h1, h2, h3⟩ := hp
  have e1 : (toB f b).2.filterMap (phiOf (mapFrom (f.vars.map PVar.name) 0) (mapFrom (f.blocks.map PBlock.name) 0)) = b.phis := by
    show (b.phis.map (toPhi f) ++ b.insts.map (toInst f)).filterMap _ = _
    rw [List.filterMap_append, fm_some (j := id) fun p hp => (phi_back hf hu hb (h1 p hp)).1, fm_none fun x _ => rfl]; simp
  have e2 : (toB f b).2.filterMap (instOf (mapFrom (f.vars.map PVar.name) 0)) = b.insts := by
    show (b.phis.map (toPhi f) ++ b.insts.map (toInst f)).filterMap _ = _
    rw [List.filterMap_append, fm_none fun x _ => rfl, fm_some (j := id) fun x hx => (inst_back (bm := []) hf hu (instP_F (h2 x hx))).1]; simp
  have e3 : (toB f b).2.any (lostI (mapFrom (f.vars.map PVar.name) 0) (mapFrom (f.blocks.map PBlock.name) 0)) = false := by
    show (b.phis.map (toPhi f) ++ b.insts.map (toInst f)).any _ = _
    rw [List.any_append, List.any_map, List.any_map]
    rw [List.any_eq_false.2 fun p hp => by simp [(phi_back hf hu hb (h1 p hp)).2], List.any_eq_false.2 fun x hx => by simp [(inst_back hf hu (instP_F (h2 x hx))).2]]; rfl
  have e4 : (toHead f b).name = b.name := by unfold toHead; split; rfl; split <;> rfl
  have e5 : termOf (mapFrom (f.vars.map PVar.name) 0) (mapFrom (f.blocks.map PBlock.name) 0) (toHead f b) = b.term ∧ ((!decide ((toHead f b).v = ⟨#[]⟩) && !hasM (mapFrom (f.vars.map PVar.name) 0) (toHead f b).v) = false ∧ (toHead f b).tos.any (fun s => !hasM (mapFrom (f.blocks.map PBlock.name) 0) s) = false) := by
    obtain ⟨bn, bp, bi, ⟨tk, tv, t0, t1⟩⟩ := b
    unfold toHead
    by_cases k0 : tk = 0
    · have hb0 := termOK_0 h3 k0
      have h3' := h3
      unfold termOK at h3'
      rw [if_pos k0] at h3'
      simp only [Bool.and_eq_true, decide_eq_true_eq] at h3'
      rw [if_pos k0]
      refine ⟨?_, ?_, ?_⟩
      · unfold termOf
        rw [if_pos rfl]
        simp only [List.map_cons, List.map_nil]
        rw [(getB hb hb0).1]
        simp [k0, h3']
      · simp
      · simp [(getB hb hb0).2]
    · rw [if_neg k0]
      by_cases k1 : tk = 1
      · obtain ⟨g1, g2, g3⟩ := termOK_1 h3 k1
        have hne := name_ne (vname_ok hf g1)
        rw [if_pos k1]
        refine ⟨?_, ?_, ?_⟩
        · unfold termOf
          dsimp only
          rw [if_neg hne, (getV hu g1).1]
          simp only [List.map_cons, List.map_nil]
          rw [(getB hb g2).1, (getB hb g3).1]
          simp [k1]
        · dsimp only; rw [(getV hu g1).2]; simp
        · simp [(getB hb g2).2, (getB hb g3).2]
      · have g1 := termOK_2 h3 k0 k1
        have hne := name_ne (vname_ok hf g1)
        have h3' := h3
        unfold termOK at h3'
        rw [if_neg k0, if_neg k1] at h3'
        rw [if_neg k1]
        refine ⟨?_, ?_, ?_⟩
        · unfold termOf
          dsimp only
          rw [if_neg hne, (getV hu g1).1]
          split at h3'
          · rename_i k2
            simp only [Bool.and_eq_true, decide_eq_true_eq] at h3'
            have k2 : tk = 2 := k2
            simp [k2, h3']
          · cases h3'
        · dsimp only; rw [(getV hu g1).2]; simp
        · rfl
  constructor
  · unfold blockOf
    rw [e1, e2]
    show PBlock.mk (toHead f b).name b.phis b.insts (termOf _ _ (toHead f b)) = b
    rw [e4, e5.1]
  · unfold lostBlk
    rw [e3]
    show (false || (!decide ((toHead f b).v = ⟨#[]⟩) && !hasM _ (toHead f b).v) || (toHead f b).tos.any _) = false
    rw [e5.2.1, e5.2.2]; rfl
end
end Go.Proofs.YtdkhlgiohpdihaaGreatDoor
namespace Go.Proofs.YtdkhlgiohpdihaaGreatDoor
open Go.Proofs Go.Lib Go.Shelf Go.RowKit
set_option maxRecDepth 20000
theorem mkP_blocks (ps vs : List PVar) (bs : List (PHead × List PItem)) : blocksOf (mkP ps vs bs) = bs := by
  rcases snoc_cases bs with rfl | ⟨pre, y, rfl⟩
  · rfl
  · rw [mkP_last]; rfl
theorem toHead_name (f : PFunc) (b : PBlock) : (toHead f b).name = b.name := by unfold toHead; split; rfl; split <;> rfl
theorem parL_eq {ps : List Int} (h : ∀ i (h : i < ps.length), ps[i] = (i : Int)) {m : Nat} (hm : ps.length ≤ m) : parL ps.length m = ps := by
  unfold parL
  rw [Nat.min_eq_right hm]
  apply List.ext_getElem
  · simp
  · intro i h1 h2
    rw [List.getElem_map, List.getElem_range, h i h2]
theorem build_back {f : PFunc} (hS : ShapedP f) : buildP (progF f) = some f := by
  obtain ⟨hf, hu, hb, hne⟩ := shaped_ok hS
  obtain ⟨s1, s2, s3, s4, s5, s6⟩ := hS
  have hpl : f.params.length ≤ f.vars.length := by unfold bad1 at s1; simp at s1; omega
  have hvn : varNames (progF f) = f.vars.map PVar.name := by
    show (f.vars.take f.params.length ++ f.vars.drop f.params.length).map PVar.name = _
    rw [List.take_append_drop]
  have hbo : blocksOf (progF f) = f.blocks.map (toB f) := mkP_blocks _ _ _
  have hbn : blkNames (progF f) = f.blocks.map PBlock.name := by
    unfold blkNames; rw [hbo, List.map_map]; exact List.map_congr_left fun b _ => toHead_name f b
  have hv : vState (progF f) = (mapFrom (f.vars.map PVar.name) 0, false) := by unfold vState; rw [hvn, putAll_all hu]
  have hbs : bState (progF f) = (mapFrom (f.blocks.map PBlock.name) 0, false) := by unfold bState; rw [hbn, hv, putAll_all hb]
  have hback : ∀ b ∈ f.blocks, blockOf (vState (progF f)).1 (bState (progF f)).1 (toB f b) = b ∧ lostBlk (vState (progF f)).1 (bState (progF f)).1 (toB f b) = false := fun b hm => by
    rw [hv, hbs]; exact blk_back hf hu hb (s6 b hm)
  have hlost : lostP (progF f) = false := by
    unfold lostP
    rw [hbo, List.any_map]
    rw [List.any_eq_false.2 fun b hm => by simp [(hback b hm).2], hbs]; rfl
  unfold buildP
  rw [if_neg (by rw [hlost]; simp)]
  unfold funcP
  rw [hbo, List.map_map]
  have e1 : f.blocks.map (blockOf (vState (progF f)).1 (bState (progF f)).1 ∘ toB f) = f.blocks := by
    conv => rhs; rw [← List.map_id f.blocks]
    exact List.map_congr_left fun b hm => (hback b hm).1
  have e2 : (progF f).params ++ (progF f).vars = f.vars := List.take_append_drop _ _
  have e3 : (progF f).params.length = f.params.length := by show (f.vars.take f.params.length).length = _; rw [List.length_take]; omega
  rw [e1, e2, e3, parL_eq s2 hpl]
theorem items_sum (f : PFunc) : ∀ l : List PBlock, itemsN (l.map (toB f)) = sumTo l
  | [] => rfl
  | b :: l => by
    have ih := items_sum f l
    unfold itemsN sumTo at ih ⊢
    rw [List.map_cons, List.map_cons, List.sum_cons, List.map_cons, List.sum_cons, ih]
    show (b.phis.map (toPhi f) ++ b.insts.map (toInst f)).length + _ = _
    rw [List.length_append, List.length_map, List.length_map]
theorem fits_back {f : PFunc} (hS : ShapedP f) : fitsP (progF f) = true := by
  obtain ⟨s1, s2, s3, s4, s5, s6⟩ := hS
  have hbo : blocksOf (progF f) = f.blocks.map (toB f) := mkP_blocks _ _ _
  have e2 : (progF f).params.length + (progF f).vars.length = f.vars.length := by
    show (f.vars.take f.params.length).length + (f.vars.drop f.params.length).length = _
    rw [List.length_take, List.length_drop]; omega
  have e3 : (progF f).params.length ≤ f.params.length := by show (f.vars.take f.params.length).length ≤ _; rw [List.length_take]; omega
  unfold bad1 at s1
  simp at s1
  unfold fitsP
  rw [hbo, items_sum, List.length_map]
  simp only [Bool.and_eq_true, decide_eq_true_eq]
  omega
theorem wf_words {f : PFunc} (hf : FOk f) (hn : NumsOk f) : ∀ l ∈ linesF f, l ≠ [] ∧ ∀ w ∈ l, okW w := by
  have hkw : ∀ l : List UInt8, asciiW l = true → okW (strL l) := fun l h => okW_ascii h
  intro l hl
  unfold linesF at hl
  rcases List.mem_cons.1 hl with rfl | hl
  · refine ⟨by unfold headL; simp, fun w hw => ?_⟩
    unfold headL at hw
    rcases List.mem_cons.1 hw with rfl | hw
    · exact hkw [102, 117, 110, 99] (by decide)
    · obtain ⟨v, hv, rfl⟩ := List.mem_map.1 hw
      have := hf.vars v (List.mem_of_mem_take hv)
      exact pair_okW this.1 this.2
  · rcases List.mem_append.1 hl with hl | hl
    · obtain ⟨v, hv, rfl⟩ := List.mem_map.1 hl
      have := hf.vars v (List.mem_of_mem_drop hv)
      refine ⟨by unfold varL; simp, fun w hw => ?_⟩
      unfold varL at hw
      rcases List.mem_cons.1 hw with rfl | hw
      · exact hkw [118, 97, 114] (by decide)
      · rw [List.mem_singleton.1 hw]; exact pair_okW this.1 this.2
    · obtain ⟨b, hb, hl⟩ := List.mem_flatMap.1 hl
      obtain ⟨hbn, h1, h2, h3⟩ := hf.blks b hb
      unfold blkL at hl
      rcases List.mem_cons.1 hl with rfl | hl
      · refine ⟨by simp, fun w hw => ?_⟩
        rcases List.mem_cons.1 hw with rfl | hw
        · exact hkw [98, 108, 111, 99, 107] (by decide)
        · rw [List.mem_singleton.1 hw]; exact name_okW hbn
      · rcases List.mem_append.1 hl with hl | hl
        · obtain ⟨p, hp, rfl⟩ := List.mem_map.1 hl
          obtain ⟨g1, _, _, g4, g5⟩ := h1 p hp
          refine ⟨by unfold phiL; simp, fun w hw => ?_⟩
          unfold phiL at hw
          rcases List.mem_cons.1 hw with rfl | hw
          · exact name_okW (vname_ok hf g1)
          · rcases List.mem_cons.1 hw with rfl | hw
            · exact hkw [61] (by decide)
            · rcases List.mem_cons.1 hw with rfl | hw
              · exact hkw [112, 104, 105] (by decide)
              · rcases inter_mem hw with hw | hw
                · obtain ⟨x, hx, rfl⟩ := List.mem_map.1 hw; exact name_okW (bname_ok hf (List.all_eq_true.1 g5 x hx))
                · obtain ⟨x, hx, rfl⟩ := List.mem_map.1 hw; exact name_okW (vname_ok hf (List.all_eq_true.1 g4 x hx))
        · rcases List.mem_append.1 hl with hl | hl
          · obtain ⟨x, hx, rfl⟩ := List.mem_map.1 hl
            have hF := instP_F (h2 x hx)
            have hwo : wordsOf f x = words1 f x ++ [(kRow x.op).1] ++ x.args.map (vname f) ++ (if isNum x.op then [strL (itoa x.num)] else []) := by
              unfold wordsOf words2; rw [List.take_length]; rfl
            refine ⟨by rw [hwo]; simp, fun w hw => ?_⟩
            rw [hwo] at hw
            rcases List.mem_append.1 hw with hw | hw
            · rcases List.mem_append.1 hw with hw | hw
              · rcases List.mem_append.1 hw with hw | hw
                · unfold words1 at hw
                  split at hw
                  · rename_i hd
                    rcases List.mem_cons.1 hw with rfl | hw
                    · rcases hF.dst with ⟨_, d⟩ | ⟨_, _, d⟩
                      · omega
                      · exact name_okW (vname_ok hf d)
                    · rw [List.mem_singleton.1 hw]; exact hkw [61] (by decide)
                  · cases hw
                · rw [List.mem_singleton.1 hw]
                  have hk : ∀ j : Nat, j < 27 → asciiW (kRow (j : Int)).1.data.toList = true := by decide
                  have := hk x.op.toNat (by have := hF.op; omega)
                  rw [Int.toNat_of_nonneg hF.op.1] at this
                  rw [← strL_of (kRow x.op).1]
                  exact hkw _ this
              · obtain ⟨a, ha, rfl⟩ := List.mem_map.1 hw; exact name_okW (vname_ok hf (hF.args a ha))
            · split at hw
              · rw [List.mem_singleton.1 hw]
                refine hkw _ ?_
                have hdec : ∀ u : Nat, ∀ b ∈ decDigits u, 48 ≤ b.toNat ∧ b.toNat ≤ 57 := fun u => by
                  have key : ∀ n u, u ≤ n → ∀ b ∈ decDigits u, 48 ≤ b.toNat ∧ b.toNat ≤ 57 := by
                    intro n
                    induction n with
                    | zero => intro u hu b hb; rw [decDigits, dif_pos (by omega)] at hb; rw [List.mem_singleton.1 hb, UInt8.toNat_ofNat']; omega
                    | succ n ih =>
                      intro u hu b hb
                      rw [decDigits] at hb
                      by_cases h10 : u < 10
                      · rw [dif_pos h10] at hb; rw [List.mem_singleton.1 hb, UInt8.toNat_ofNat']; omega
                      · rw [dif_neg h10] at hb
                        rcases List.mem_append.1 hb with hb | hb
                        · exact ih (u / 10) (by omega) b hb
                        · rw [List.mem_singleton.1 hb, UInt8.toNat_ofNat']; omega
                  exact key u u (Nat.le_refl _)
                unfold asciiW itoa
                split
                · simp only [List.isEmpty_cons, Bool.not_false, Bool.true_and, List.all_cons, Bool.and_eq_true, List.all_eq_true]
                  exact ⟨by decide, fun b hb => by have := hdec _ b hb; simp; omega⟩
                · obtain ⟨c, r, e, _⟩ := dec_ne x.num.toNat
                  simp only [Bool.and_eq_true, List.all_eq_true]
                  exact ⟨by rw [e]; rfl, fun b hb => by have := hdec _ b hb; simp; omega⟩
              · cases hw
          · rw [List.mem_singleton.1 hl]
            unfold termL
            by_cases k0 : b.term.kind = 0
            · rw [if_pos k0]
              refine ⟨by simp, fun w hw => ?_⟩
              rcases List.mem_cons.1 hw with rfl | hw
              · exact hkw [106, 117, 109, 112] (by decide)
              · rw [List.mem_singleton.1 hw]; exact name_okW (bname_ok hf (termOK_0 h3 k0))
            · rw [if_neg k0]
              by_cases k1 : b.term.kind = 1
              · obtain ⟨t1, t2, t3⟩ := termOK_1 h3 k1
                rw [if_pos k1]
                refine ⟨by simp, fun w hw => ?_⟩
                rcases List.mem_cons.1 hw with rfl | hw
                · exact hkw [105, 102] (by decide)
                · rcases List.mem_cons.1 hw with rfl | hw
                  · exact name_okW (vname_ok hf t1)
                  · rcases List.mem_cons.1 hw with rfl | hw
                    · exact name_okW (bname_ok hf t2)
                    · rw [List.mem_singleton.1 hw]; exact name_okW (bname_ok hf t3)
              · rw [if_neg k1]
                refine ⟨by simp, fun w hw => ?_⟩
                rcases List.mem_cons.1 hw with rfl | hw
                · exact hkw [114, 101, 116] (by decide)
                · rw [List.mem_singleton.1 hw]; exact name_okW (vname_ok hf (termOK_2 h3 k0 k1))
def textF (f : PFunc) : ByteArray := unB (linesF f)
theorem parse_text {f : PFunc} (hS : ShapedP f) (hn : NumsOk f) : parseC (textF f) = if 16384 < (textF f).size then (4, none) else (0, some f) := by
  obtain ⟨hf, hu, hb, hne⟩ := shaped_ok hS
  by_cases hsz : 16384 < (textF f).size
  · have hr : rightE (textF f) = 4 := by unfold rightE; rw [if_pos hsz]
    rw [if_pos hsz]
    unfold parseC
    rw [if_neg (by rw [hr]; decide), hr]
  · obtain ⟨h1, h2⟩ := un_lines (wf_words hf hn) (by show (textF f).size ≤ 16384; omega)
    rw [if_neg hsz]
    unfold parseC
    rw [if_pos (show rightE (textF f) = 0 from h1), readP_W, show (linesOf (textF f)).map (·.2) = linesF f from h2, read_lines hf hn hne]
    dsimp only
    rw [if_pos (fits_back hS), build_back hS]
end Go.Proofs.YtdkhlgiohpdihaaGreatDoor
