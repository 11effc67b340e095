/- Copies. Of programs that are little. -/
import Derived.Test.YtdkhlgiohpdihaaGreatDoorZd
set_option linter.unusedVariables false
set_option linter.unusedSimpArgs false
set_option linter.unusedSectionVars false
namespace Go.Proofs.YtdkhlgiohpdihaaGreatDoor
open Go.Proofs Go.Lib Go.Shelf Go.RowKit
set_option maxRecDepth 20000
variable {E : World}
def PhiP (f : PFunc) (p : PPhi) : Prop := hasV f p.dst = true ∧ p.args.length = p.from_.length ∧ 1 ≤ p.args.length ∧ p.args.all (hasV f) = true ∧ p.from_.all (hasB f) = true
def wordB (x : PInst) : Bool := decide ((kRow x.op).1 = ⟨#[99, 111, 110, 115, 116]⟩) || decide ((kRow x.op).1 = ⟨#[112, 105]⟩)
def bad2 (f : PFunc) (x : PInst) : Bool := !decide ((x.args.length : Int) = ((kRow x.op).2.1.size : Int)) || (!(decide ((kRow x.op).2.2 = ⟨#[]⟩) == decide (x.dst = -1)) || ((!decide (x.dst = -1) && !hasV f x.dst) || (!decide (x.num = 0) && !wordB x)))
def InstP (f : PFunc) (x : PInst) : Prop := 0 ≤ x.op ∧ x.op ≤ 26 ∧ bad2 f x = false ∧ x.args.all (hasV f) = true
def BlkP (f : PFunc) (b : PBlock) : Prop := (∀ p ∈ b.phis, PhiP f p) ∧ (∀ x ∈ b.insts, InstP f x) ∧ termOK f b.term = true
def sumTo (l : List PBlock) : Nat := (l.map fun b => b.phis.length + b.insts.length).sum
def bad1 (f : PFunc) : Bool := decide ((512 : Int) < f.vars.length) || (decide ((8 : Int) < f.params.length) || (decide ((f.vars.length : Int) < f.params.length) || (decide ((f.blocks.length : Int) < 1) || decide ((64 : Int) < f.blocks.length))))
def VarP (f : PFunc) (i : Nat) (v : PVar) : Prop := nameB v.name = true ∧ 0 ≤ v.ty ∧ v.ty ≤ 2 ∧ ∀ s ∈ (f.vars.take i).map (·.name), s ≠ v.name
def NamP (f : PFunc) (i : Nat) (b : PBlock) : Prop := nameB b.name = true ∧ ∀ s ∈ (f.blocks.take i).map (·.name), s ≠ b.name
def ShapedP (f : PFunc) : Prop := bad1 f = false ∧ (∀ i (h : i < f.params.length), f.params[i] = (i : Int)) ∧ (∀ i (h : i < f.vars.length), VarP f i f.vars[i]) ∧ (∀ i (h : i < f.blocks.length), NamP f i f.blocks[i]) ∧ sumTo f.blocks ≤ 1024 ∧ ∀ b ∈ f.blocks, BlkP f b
instance (f : PFunc) (p : PPhi) : Decidable (PhiP f p) := by unfold PhiP; infer_instance
instance (f : PFunc) (x : PInst) : Decidable (InstP f x) := by unfold InstP; infer_instance
instance (f : PFunc) (b : PBlock) : Decidable (BlkP f b) := by unfold BlkP; infer_instance
instance (f : PFunc) (i : Nat) (v : PVar) : Decidable (VarP f i v) := by unfold VarP; infer_instance
instance (f : PFunc) (i : Nat) (b : PBlock) : Decidable (NamP f i b) := by unfold NamP; infer_instance
instance (f : PFunc) : Decidable (ShapedP f) := by unfold ShapedP; infer_instance
theorem sumTo_take (l : List PBlock) (k : Nat) : sumTo (l.take k) ≤ sumTo l := by
  have : sumTo l = sumTo (l.take k) + sumTo (l.drop k) := by
    unfold sumTo; rw [← List.sum_append, ← List.map_append, List.take_append_drop]
  omega
theorem sumTo_succ (l : List PBlock) (k : Nat) (h : k < l.length) : sumTo (l.take (k + 1)) = sumTo (l.take k) + (l[k].phis.length + l[k].insts.length) := by
  unfold sumTo; rw [List.take_succ_eq_append_getElem h, List.map_append, List.sum_append]; simp only [List.map_cons, List.map_nil, List.sum_cons, List.sum_nil, Nat.add_zero]
theorem not_take {α : Type} {g : α → ByteArray} {l : List α} {k : Nat} {s : ByteArray} (h : k < l.length) (h1 : ∀ x ∈ (l.take k).map g, x ≠ s) (h2 : ¬ g l[k] = s) : ∀ x ∈ (l.take (k + 1)).map g, x ≠ s := by
  rw [List.take_succ_eq_append_getElem h, List.map_append]
  intro x hx
  rcases List.mem_append.1 hx with hx | hx
  · exact h1 x hx
  · simp only [List.map_cons, List.map_nil, List.mem_singleton] at hx; rw [hx]; exact h2
theorem in_take {α : Type} {g : α → ByteArray} {l : List α} {k i : Nat} {s : ByteArray} (h : k < l.length) (hk : k < i) (h1 : ∀ x ∈ (l.take i).map g, x ≠ s) : ¬ g l[k] = s := by
  refine h1 _ (List.mem_map.2 ⟨l[k], ?_, rfl⟩)
  refine List.mem_iff_getElem?.2 ⟨k, ?_⟩
  rw [List.getElem?_take, if_pos hk, List.getElem?_eq_getElem h]
theorem all_take {α : Type} {p : α → Bool} {l : List α} {k : Nat} (h : k < l.length) (h1 : (l.take k).all p = true) (h2 : p l[k] = true) : (l.take (k + 1)).all p = true := by
  rw [List.take_succ_eq_append_getElem h, List.all_append, h1]; simp [h2]
theorem all_bad {α : Type} {p : α → Bool} {l : List α} {k : Nat} (h : k < l.length) (h2 : p l[k] = false) : ¬ l.all p = true := fun h3 => by
  have := List.all_eq_true.1 h3 _ (List.getElem_mem h); rw [h2] at this; cases this
theorem take_len {α : Type} {l : List α} {k : Nat} (h : l.length ≤ k) : l.take k = l := List.take_of_length_le h
theorem forall_take {α : Type} {p : α → Prop} {l : List α} {k : Nat} (h : k < l.length) (h1 : ∀ x ∈ l.take k, p x) (h2 : p l[k]) : ∀ x ∈ l.take (k + 1), p x := by
  rw [List.take_succ_eq_append_getElem h]
  intro x hx
  rcases List.mem_append.1 hx with hx | hx
  · exact h1 x hx
  · rw [List.mem_singleton.1 hx]; exact h2
def okNames (f : PFunc) : Prop := (∀ v ∈ f.vars, v.name.size ≤ 140737488355328) ∧ ∀ b ∈ f.blocks, b.name.size ≤ 140737488355328
set_option maxHeartbeats 8000000 in
theorem refShaped_spec (f : PFunc) (hf : okFunc f) (hn : okNames f) (hL : Letters E) : AFun Tryz.prog E 21 [.agg (encF f)] (.bool (decide (ShapedP f))) := by
  obtain ⟨hf1, hf2, hf3, hf4⟩ := hf
  have hl1 := hf1.lt
  have hl2 := hf2.lt
  have hl3 := hf3.lt
  refine ACall.intro Tryz.func21 rfl (by decide) rfl ?_
  refine AWP.seq ?_
  refine AWP.region rfl ?_
  refine AOps.boxF (cs := _) rfl rfl rfl ?_
  refine AOps.val (Gv.assign (v := .bool _) rfl) ?_
  refine AOps.nil ?_
  refine AWP.seq ?_
  refine AWP.region rfl ?_
  refine AOps.val (Gv.fieldF Tryz.underlying27 rfl Tryz.sizeOf23 (by decide) rfl rfl) ?_
  refine AOps.val (Gv.load1F (c := .fro _ _) Tryz.isAgg23 rfl) ?_
  refine AOps.val (Gv.lenM Tryz.underlying23 rfl) ?_
  refine AOps.val (Gv.assign (v := .int _ _) rfl) ?_
  refine AOps.nil ?_
  refine AWP.seq ?_
  refine AWP.seq ?_
  refine AWP.cutS (γ := Unit) [1, 3] (fun u => [(53, .bool (bad1 f))]) (fun u => []) (fun u => True) ?_ (fun _ _ h => h) ?_
  · skip
    refine AWP.region rfl ?_
    refine AOps.val (Gv.move (v := .int _ _) rfl) ?_
    refine AOps.val (Gv.gtr rfl rfl) ?_
    refine AOps.val (Gv.move (v := .bool _) rfl) ?_
    refine AOps.case (s := 29) rfl (fun c1 => ?_) (fun c1 => ?_)
    · skip
      refine AOps.guardFd rfl rfl c1 ?_
      refine AOps.guardFd rfl rfl c1 ?_
      refine AOps.guardFd rfl rfl c1 ?_
      refine AOps.guardFd rfl rfl c1 ?_
      refine AOps.val (Gv.pickT (v := .bool _) rfl c1 rfl) ?_
      refine AOps.val (Gv.move (v := .bool _) rfl) ?_
      refine AOps.guardFd rfl rfl rfl ?_
      refine AOps.guardFd rfl rfl rfl ?_
      refine AOps.guardFd rfl rfl rfl ?_
      refine AOps.guardFd rfl rfl rfl ?_
      refine AOps.guardFd rfl rfl rfl ?_
      refine AOps.val (Gv.pickT (v := .bool _) rfl rfl rfl) ?_
      refine AOps.val (Gv.move (v := .bool _) rfl) ?_
      refine AOps.guardFd rfl rfl rfl ?_
      refine AOps.guardFd rfl rfl rfl ?_
      refine AOps.guardFd rfl rfl rfl ?_
      refine AOps.guardFd rfl rfl rfl ?_
      refine AOps.val (Gv.pickT (v := .bool _) rfl rfl rfl) ?_
      refine AOps.val (Gv.move (v := .bool _) rfl) ?_
      refine AOps.guardFd rfl rfl rfl ?_
      refine AOps.guardFd rfl rfl rfl ?_
      refine AOps.guardFd rfl rfl rfl ?_
      refine AOps.guardFd rfl rfl rfl ?_
      refine AOps.val (Gv.pickT (v := .bool _) rfl rfl rfl) ?_
      refine AOps.nil ?_
      exact ⟨(), ⟨rfl, rfl, trivial⟩, ⟨jb (by simp_all [bad1] <;> grind), trivial⟩, ⟨_, (.refl _), rfl⟩, trivial⟩
    · skip
      refine AOps.guardT rfl rfl c1 ?_
      refine AOps.val (Gv.fieldF Tryz.underlying27 rfl Tryz.sizeOf24 (by decide) rfl rfl) ?_
      refine AOps.guardT rfl rfl c1 ?_
      refine AOps.val (Gv.load1F (c := .fro _ _) Tryz.isAgg24 rfl) ?_
      refine AOps.guardT rfl rfl c1 ?_
      refine AOps.val (Gv.lenM Tryz.underlying24 rfl) ?_
      refine AOps.guardT rfl rfl c1 ?_
      refine AOps.val (Gv.gtr rfl rfl) ?_
      refine AOps.val (Gv.pickF (v := .bool _) rfl c1 rfl) ?_
      refine AOps.val (Gv.move (v := .bool _) rfl) ?_
      refine AOps.case (s := 35) rfl (fun c2 => ?_) (fun c2 => ?_)
      · skip
        refine AOps.guardFd rfl rfl c2 ?_
        refine AOps.guardFd rfl rfl c2 ?_
        refine AOps.guardFd rfl rfl c2 ?_
        refine AOps.guardFd rfl rfl c2 ?_
        refine AOps.guardFd rfl rfl c2 ?_
        refine AOps.val (Gv.pickT (v := .bool _) rfl c2 rfl) ?_
        refine AOps.val (Gv.move (v := .bool _) rfl) ?_
        refine AOps.guardFd rfl rfl rfl ?_
        refine AOps.guardFd rfl rfl rfl ?_
        refine AOps.guardFd rfl rfl rfl ?_
        refine AOps.guardFd rfl rfl rfl ?_
        refine AOps.val (Gv.pickT (v := .bool _) rfl rfl rfl) ?_
        refine AOps.val (Gv.move (v := .bool _) rfl) ?_
        refine AOps.guardFd rfl rfl rfl ?_
        refine AOps.guardFd rfl rfl rfl ?_
        refine AOps.guardFd rfl rfl rfl ?_
        refine AOps.guardFd rfl rfl rfl ?_
        refine AOps.val (Gv.pickT (v := .bool _) rfl rfl rfl) ?_
        refine AOps.nil ?_
        exact ⟨(), ⟨rfl, rfl, trivial⟩, ⟨jb (by simp_all [bad1] <;> grind), trivial⟩, ⟨_, (.refl _), rfl⟩, trivial⟩
      · skip
        refine AOps.guardT rfl rfl c2 ?_
        refine AOps.val (Gv.fieldF Tryz.underlying27 rfl Tryz.sizeOf24 (by decide) rfl rfl) ?_
        refine AOps.guardT rfl rfl c2 ?_
        refine AOps.val (Gv.load1F (c := .fro _ _) Tryz.isAgg24 rfl) ?_
        refine AOps.guardT rfl rfl c2 ?_
        refine AOps.val (Gv.lenM Tryz.underlying24 rfl) ?_
        refine AOps.guardT rfl rfl c2 ?_
        refine AOps.val (Gv.move (v := .int _ _) rfl) ?_
        refine AOps.guardT rfl rfl c2 ?_
        refine AOps.val (Gv.gtr rfl rfl) ?_
        refine AOps.val (Gv.pickF (v := .bool _) rfl c2 rfl) ?_
        refine AOps.val (Gv.move (v := .bool _) rfl) ?_
        refine AOps.case (s := 42) rfl (fun c3 => ?_) (fun c3 => ?_)
        · skip
          refine AOps.guardFd rfl rfl c3 ?_
          refine AOps.guardFd rfl rfl c3 ?_
          refine AOps.guardFd rfl rfl c3 ?_
          refine AOps.guardFd rfl rfl c3 ?_
          refine AOps.val (Gv.pickT (v := .bool _) rfl c3 rfl) ?_
          refine AOps.val (Gv.move (v := .bool _) rfl) ?_
          refine AOps.guardFd rfl rfl rfl ?_
          refine AOps.guardFd rfl rfl rfl ?_
          refine AOps.guardFd rfl rfl rfl ?_
          refine AOps.guardFd rfl rfl rfl ?_
          refine AOps.val (Gv.pickT (v := .bool _) rfl rfl rfl) ?_
          refine AOps.nil ?_
          exact ⟨(), ⟨rfl, rfl, trivial⟩, ⟨jb (by simp_all [bad1] <;> grind), trivial⟩, ⟨_, (.refl _), rfl⟩, trivial⟩
        · skip
          refine AOps.guardT rfl rfl c3 ?_
          refine AOps.val (Gv.fieldF Tryz.underlying27 rfl Tryz.sizeOf25 (by decide) rfl rfl) ?_
          refine AOps.guardT rfl rfl c3 ?_
          refine AOps.val (Gv.load1F (c := .fro _ _) Tryz.isAgg25 rfl) ?_
          refine AOps.guardT rfl rfl c3 ?_
          refine AOps.val (Gv.lenM Tryz.underlying25 rfl) ?_
          refine AOps.guardT rfl rfl c3 ?_
          refine AOps.val (Gv.lss rfl rfl) ?_
          refine AOps.val (Gv.pickF (v := .bool _) rfl c3 rfl) ?_
          refine AOps.val (Gv.move (v := .bool _) rfl) ?_
          refine AOps.case (s := 48) rfl (fun c4 => ?_) (fun c4 => ?_)
          · skip
            refine AOps.guardFd rfl rfl c4 ?_
            refine AOps.guardFd rfl rfl c4 ?_
            refine AOps.guardFd rfl rfl c4 ?_
            refine AOps.guardFd rfl rfl c4 ?_
            refine AOps.val (Gv.pickT (v := .bool _) rfl c4 rfl) ?_
            refine AOps.nil ?_
            exact ⟨(), ⟨rfl, rfl, trivial⟩, ⟨jb (by simp_all [bad1] <;> grind), trivial⟩, ⟨_, (.refl _), rfl⟩, trivial⟩
          · skip
            refine AOps.guardT rfl rfl c4 ?_
            refine AOps.val (Gv.fieldF Tryz.underlying27 rfl Tryz.sizeOf25 (by decide) rfl rfl) ?_
            refine AOps.guardT rfl rfl c4 ?_
            refine AOps.val (Gv.load1F (c := .fro _ _) Tryz.isAgg25 rfl) ?_
            refine AOps.guardT rfl rfl c4 ?_
            refine AOps.val (Gv.lenM Tryz.underlying25 rfl) ?_
            refine AOps.guardT rfl rfl c4 ?_
            refine AOps.val (Gv.gtr rfl rfl) ?_
            refine AOps.val (Gv.pickF (v := .bool _) rfl c4 rfl) ?_
            refine AOps.nil ?_
            exact ⟨(), ⟨rfl, rfl, trivial⟩, ⟨jb (by simp_all [bad1] <;> grind), trivial⟩, ⟨_, (.refl _), rfl⟩, trivial⟩
  · skip
    rintro _ _
    refine AWP.cond rfl (fun c1 => ?_) (fun c1 => ?_)
    · skip
      refine AWP.seq ?_
      refine AWP.region rfl ?_
      refine AOps.val (Gv.assign (v := .bool _) rfl) ?_
      refine AOps.nil ?_
      refine AWP.ret ?_
      repeat (first | refine aseqQ_ret ?_ | refine ablockQ_ret ?_)
      refine afin.t1 (x := .bool _) rfl ?_
      rw [decide_eq_false (fun h => by rw [h.1] at c1; cases c1)]
    · skip
      have hsz : f.vars.length ≤ 512 ∧ f.params.length ≤ 8 ∧ f.params.length ≤ f.vars.length ∧ 1 ≤ f.blocks.length ∧ f.blocks.length ≤ 64 := by unfold bad1 at c1; simp at c1; omega
      refine AWP.skip ?_
      refine AWP.seq ?_
      refine AWP.seq ?_
      refine AWP.region rfl ?_
      refine AOps.val (Gv.fieldF Tryz.underlying27 rfl Tryz.sizeOf24 (by decide) rfl rfl) ?_
      refine AOps.val (Gv.load1F (c := .fro _ _) Tryz.isAgg24 rfl) ?_
      refine AOps.val (Gv.lenM Tryz.underlying24 rfl) ?_
      refine AOps.val (Gv.move (v := .int _ _) rfl) ?_
      refine AOps.nil ?_
      refine AWP.block ?_
      refine AWP.loop (γ := Nat) [1, 3, 55, 56] (fun k => [(57, .int .i64 k)]) (fun k => []) (fun k => k ≤ f.params.length ∧ ∀ i (h : i < f.params.length), i < k → f.params[i] = (i : Int)) (fun k => f.params.length - k) 0 ⟨rfl, trivial⟩ ⟨_, (.refl _), rfl⟩ (⟨Nat.zero_le _, fun i h hk => by omega⟩) ?_
      rintro k ⟨hk, hpar⟩
      refine AWP.seq ?_
      refine AWP.region rfl ?_
      refine AOps.val (Gv.lss rfl rfl) ?_
      refine AOps.nil ?_
      refine AWP.seq ?_
      refine AWP.condP rfl (fun ck => ?_) (fun ck => ?_)
      · skip
        have hk2 : k < f.params.length := by omega
        refine AWP.skip ?_
        refine AWP.seq ?_
        refine AWP.block ?_
        refine AWP.seq ?_
        refine AWP.region rfl ?_
        refine AOps.val (Gv.move (v := .int _ _) rfl) ?_
        refine AOps.val (Gv.idxM Tryz.underlying24 Tryz.sizeOf3 rfl rfl rfl (List.getElem?_eq_getElem (by omega))) ?_
        refine AOps.val (Gv.load1F (c := .int _ _) Tryz.isAgg3 rfl) ?_
        refine AOps.val (Gv.assign (v := .int _ _) rfl) ?_
        refine AOps.val (Gv.assign (v := .int _ _) rfl) ?_
        refine AOps.nil ?_
        refine AWP.seq ?_
        refine AWP.region rfl ?_
        refine AOps.val (Gv.move (v := .int _ _) rfl) ?_
        refine AOps.val (Gv.move (v := .int _ _) rfl) ?_
        refine AOps.val (Gv.neqI rfl rfl) ?_
        refine AOps.nil ?_
        refine AWP.cond rfl (fun cp => ?_) (fun cp => ?_)
        · skip
          refine AWP.seq ?_
          refine AWP.region rfl ?_
          refine AOps.val (Gv.assign (v := .bool _) rfl) ?_
          refine AOps.nil ?_
          refine AWP.ret ?_
          repeat (first | refine aseqQ_ret ?_ | refine ablockQ_ret ?_)
          refine afin.t1 (x := .bool _) rfl ?_
          rw [decide_eq_false (fun h => by have := h.2.1 k hk2; simp [this] at cp)]
        · skip
          refine AWP.skip ?_
          refine AWP.region rfl ?_
          refine AOps.val (Gv.add rfl rfl (by unfold I64; omega)) ?_
          refine AOps.val (Gv.move (v := .int _ _) rfl) ?_
          refine AOps.nil ?_
          exact ⟨k + 1, ⟨rfl, rfl, rfl, rfl, trivial⟩, ⟨rfl, trivial⟩, ⟨_, (.refl _), rfl⟩, ⟨hk2, fun i h hi => by rcases Nat.lt_or_ge i k with h3 | h3; exact hpar i h h3; obtain rfl : i = k := (by omega); simpa using cp⟩, by omega⟩
      · skip
        have hpars : ∀ i (h : i < f.params.length), f.params[i] = (i : Int) := fun i h => hpar i h (by omega)
        refine AWP.exit ?_
        refine AWP.seq ?_
        refine AWP.seq ?_
        refine AWP.region rfl ?_
        refine AOps.val (Gv.fieldF Tryz.underlying27 rfl Tryz.sizeOf23 (by decide) rfl rfl) ?_
        refine AOps.val (Gv.load1F (c := .fro _ _) Tryz.isAgg23 rfl) ?_
        refine AOps.val (Gv.lenM Tryz.underlying23 rfl) ?_
        refine AOps.val (Gv.move (v := .int _ _) rfl) ?_
        refine AOps.nil ?_
        refine AWP.block ?_
        refine AWP.loop (γ := Nat) [1, 3, 67, 68] (fun k => [(69, .int .i64 k)]) (fun k => []) (fun k => k ≤ f.vars.length ∧ ∀ i (h : i < f.vars.length), i < k → VarP f i f.vars[i]) (fun k => f.vars.length - k) 0 ⟨rfl, trivial⟩ ⟨_, (.refl _), rfl⟩ (⟨Nat.zero_le _, fun i h hk => by omega⟩) ?_
        rintro k ⟨hk, hvar⟩
        refine AWP.seq ?_
        refine AWP.region rfl ?_
        refine AOps.val (Gv.lss rfl rfl) ?_
        refine AOps.nil ?_
        refine AWP.seq ?_
        refine AWP.condP rfl (fun ck => ?_) (fun ck => ?_)
        · skip
          have hk2 : k < f.vars.length := by omega
          have hnk : f.vars[k].name.size ≤ 140737488355328 := hn.1 _ (List.getElem_mem hk2)
          refine AWP.skip ?_
          refine AWP.seq ?_
          refine AWP.block ?_
          refine AWP.seq ?_
          refine AWP.region rfl ?_
          refine AOps.val (Gv.move (v := .int _ _) rfl) ?_
          refine AOps.val (Gv.idxM Tryz.underlying23 Tryz.sizeOf38 rfl rfl rfl (List.getElem?_eq_getElem (by omega))) ?_
          refine AOps.val (Gv.loadWF Tryz.isAgg38 Tryz.sizeOf38 rfl rfl) ?_
          refine AOps.alloc (cs := [.str ⟨#[]⟩, .int .i64 0]) Tryz.zeroValue38 rfl rfl ?_
          intro i7
          refine AOps.val (Gv.assign (v := .int _ _) rfl) ?_
          refine AOps.storeW Tryz.sizeOf38 rfl rfl rfl rfl rfl rfl .head rfl ?_
          refine AOps.nil ?_
          refine AWP.seq ?_
          refine AWP.seq ?_
          refine AWP.cutS (γ := Unit) [1, 3, 6, 7, 67, 68, 69] (fun u => [(87, .bool (!nameB f.vars[k].name || (decide (f.vars[k].ty < 0) || decide (2 < f.vars[k].ty))))]) (fun u => [(i7, .cells 38 (encVar f.vars[k]))]) (fun u => True) ?_ (fun _ _ h => h) ?_
          · skip
            refine AWP.region rfl ?_
            refine AOps.val (Gv.fieldO Tryz.underlying38 rfl Tryz.sizeOf9 (by decide) rfl rfl) ?_
            refine AOps.val (Gv.load1C (c := .str _) Tryz.isAgg9 rfl ⟨_, .head⟩ rfl) ?_
            refine AOps.callP (name_spec _ (by assumption) hL) rfl ?_
            refine AOps.val (Gv.not rfl) ?_
            refine AOps.val (Gv.move (v := .bool _) rfl) ?_
            refine AOps.case (s := 78) rfl (fun c5 => ?_) (fun c5 => ?_)
            · skip
              refine AOps.guardFd rfl rfl c5 ?_
              refine AOps.guardFd rfl rfl c5 ?_
              refine AOps.guardFd rfl rfl c5 ?_
              refine AOps.val (Gv.pickT (v := .bool _) rfl c5 rfl) ?_
              refine AOps.val (Gv.move (v := .bool _) rfl) ?_
              refine AOps.guardFd rfl rfl rfl ?_
              refine AOps.guardFd rfl rfl rfl ?_
              refine AOps.guardFd rfl rfl rfl ?_
              refine AOps.val (Gv.pickT (v := .bool _) rfl rfl rfl) ?_
              refine AOps.nil ?_
              exact ⟨(), ⟨rfl, rfl, rfl, rfl, rfl, rfl, rfl, trivial⟩, ⟨jb (by simp_all <;> grind), trivial⟩, ⟨_, (.refl _), rfl⟩, trivial⟩
            · skip
              refine AOps.guardT rfl rfl c5 ?_
              refine AOps.val (Gv.fieldO Tryz.underlying38 rfl Tryz.sizeOf36 (by decide) rfl rfl) ?_
              refine AOps.guardT rfl rfl c5 ?_
              refine AOps.val (Gv.load1C (c := .int _ _) Tryz.isAgg36 rfl ⟨_, .head⟩ rfl) ?_
              refine AOps.guardT rfl rfl c5 ?_
              refine AOps.val (Gv.lss rfl rfl) ?_
              refine AOps.val (Gv.pickF (v := .bool _) rfl c5 rfl) ?_
              refine AOps.val (Gv.move (v := .bool _) rfl) ?_
              refine AOps.case (s := 83) rfl (fun c6 => ?_) (fun c6 => ?_)
              · skip
                refine AOps.guardFd rfl rfl c6 ?_
                refine AOps.guardFd rfl rfl c6 ?_
                refine AOps.guardFd rfl rfl c6 ?_
                refine AOps.val (Gv.pickT (v := .bool _) rfl c6 rfl) ?_
                refine AOps.nil ?_
                exact ⟨(), ⟨rfl, rfl, rfl, rfl, rfl, rfl, rfl, trivial⟩, ⟨jb (by simp_all <;> grind), trivial⟩, ⟨_, (.refl _), rfl⟩, trivial⟩
              · skip
                refine AOps.guardT rfl rfl c6 ?_
                refine AOps.val (Gv.fieldO Tryz.underlying38 rfl Tryz.sizeOf36 (by decide) rfl rfl) ?_
                refine AOps.guardT rfl rfl c6 ?_
                refine AOps.val (Gv.load1C (c := .int _ _) Tryz.isAgg36 rfl ⟨_, .head⟩ rfl) ?_
                refine AOps.guardT rfl rfl c6 ?_
                refine AOps.val (Gv.gtr rfl rfl) ?_
                refine AOps.val (Gv.pickF (v := .bool _) rfl c6 rfl) ?_
                refine AOps.nil ?_
                exact ⟨(), ⟨rfl, rfl, rfl, rfl, rfl, rfl, rfl, trivial⟩, ⟨jb (by simp_all <;> grind), trivial⟩, ⟨_, (.refl _), rfl⟩, trivial⟩
          · skip
            rintro _ _
            refine AWP.cond rfl (fun cv => ?_) (fun cv => ?_)
            · skip
              refine AWP.seq ?_
              refine AWP.region rfl ?_
              refine AOps.val (Gv.assign (v := .bool _) rfl) ?_
              refine AOps.nil ?_
              refine AWP.ret ?_
              repeat (first | refine aseqQ_ret ?_ | refine ablockQ_ret ?_)
              refine afin.t1 (x := .bool _) rfl ?_
              rw [decide_eq_false (fun h => by have := h.2.2.1 k hk2; obtain ⟨h1, h2, h3, _⟩ := this; simp [h1] at cv; omega)]
            · skip
              have hv3 : nameB f.vars[k].name = true ∧ 0 ≤ f.vars[k].ty ∧ f.vars[k].ty ≤ 2 := by simp at cv; omega
              refine AWP.skip ?_
              refine AWP.seq ?_
              refine AWP.region rfl ?_
              refine AOps.val (Gv.move (v := .int _ _) rfl) ?_
              refine AOps.val (Gv.move (v := .int _ _) rfl) ?_
              refine AOps.nil ?_
              refine AWP.block ?_
              refine AWP.loop (γ := Nat) [1, 3, 7, 67, 68, 69, 88] (fun j => [(89, .int .i64 j)]) (fun j => [(i7, .cells 38 (encVar f.vars[k]))]) (fun j => j ≤ k ∧ ∀ s ∈ (f.vars.take j).map (·.name), s ≠ f.vars[k].name) (fun j => k - j) 0 ⟨rfl, trivial⟩ ⟨_, (.refl _), rfl⟩ (⟨Nat.zero_le _, by simp⟩) ?_
              rintro j ⟨hj, hno⟩
              refine AWP.seq ?_
              refine AWP.region rfl ?_
              refine AOps.val (Gv.lss rfl rfl) ?_
              refine AOps.nil ?_
              refine AWP.seq ?_
              refine AWP.condP rfl (fun cj => ?_) (fun cj => ?_)
              · skip
                have hj1 : j < f.vars.length := by omega
                refine AWP.skip ?_
                refine AWP.seq ?_
                refine AWP.block ?_
                refine AWP.seq ?_
                refine AWP.region rfl ?_
                refine AOps.val (Gv.move (v := .int _ _) rfl) ?_
                refine AOps.val (Gv.assign (v := .int _ _) rfl) ?_
                refine AOps.nil ?_
                refine AWP.seq ?_
                refine AWP.regionDraw (fun j => false) (by kernel_rfl) rfl (Part.perm (.r (.rest _))) ?_
                refine AAny.take (i := 0) rfl (by kernel_rfl) (by kernel_rfl) (by kernel_rfl) (by kernel_rfl) (by kernel_rfl) (by kernel_rfl) (Gv.fieldF Tryz.underlying27 rfl Tryz.sizeOf23 (by decide) rfl rfl) ?_
                refine AAny.take (i := 1) rfl (by kernel_rfl) (by kernel_rfl) (by kernel_rfl) (by kernel_rfl) (by kernel_rfl) (by kernel_rfl) (Gv.load1F (c := .fro _ _) Tryz.isAgg23 rfl) ?_
                refine AAny.take (i := 2) rfl (by kernel_rfl) (by kernel_rfl) (by kernel_rfl) (by kernel_rfl) (by kernel_rfl) (by kernel_rfl) (Gv.move (v := .int _ _) rfl) ?_
                refine AAny.take (i := 3) rfl (by kernel_rfl) (by kernel_rfl) (by kernel_rfl) (by kernel_rfl) (by kernel_rfl) (by kernel_rfl) (Gv.idxM Tryz.underlying23 Tryz.sizeOf38 rfl rfl rfl (List.getElem?_eq_getElem (by omega))) ?_
                refine AAny.take (i := 4) rfl (by kernel_rfl) (by kernel_rfl) (by kernel_rfl) (by kernel_rfl) (by kernel_rfl) (by kernel_rfl) (Gv.fieldF Tryz.underlying38 rfl Tryz.sizeOf9 (by decide) rfl rfl) ?_
                refine AAny.take (i := 5) rfl (by kernel_rfl) (by kernel_rfl) (by kernel_rfl) (by kernel_rfl) (by kernel_rfl) (by kernel_rfl) (Gv.load1F (c := .str _) Tryz.isAgg9 rfl) ?_
                refine AAny.take (i := 6) rfl (by kernel_rfl) (by kernel_rfl) (by kernel_rfl) (by kernel_rfl) (by kernel_rfl) (by kernel_rfl) (Gv.fieldO Tryz.underlying38 rfl Tryz.sizeOf9 (by decide) rfl rfl) ?_
                refine AAny.take (i := 7) rfl (by kernel_rfl) (by kernel_rfl) (by kernel_rfl) (by kernel_rfl) (by kernel_rfl) (by kernel_rfl) (Gv.load1C (c := .str _) Tryz.isAgg9 rfl ⟨_, .head⟩ rfl) ?_
                refine AAny.take (i := 8) rfl (by kernel_rfl) (by kernel_rfl) (by kernel_rfl) (by kernel_rfl) (by kernel_rfl) (by kernel_rfl) (Gv.eqlT rfl rfl) ?_
                refine AAny.done (by kernel_rfl) ?_
                refine AWP.condP rfl (fun ce => ?_) (fun ce => ?_)
                · skip
                  refine AWP.seq ?_
                  refine AWP.region rfl ?_
                  refine AOps.val (Gv.assign (v := .bool _) rfl) ?_
                  refine AOps.nil ?_
                  refine AWP.ret ?_
                  repeat (first | refine aseqQ_ret ?_ | refine ablockQ_ret ?_)
                  refine afin.t1 (x := .bool _) rfl ?_
                  rw [decide_eq_false (fun h => by exact in_take (g := PVar.name) hj1 (by omega) (h.2.2.1 k hk2).2.2.2 ce)]
                · skip
                  refine AWP.skip ?_
                  refine AWP.region rfl ?_
                  refine AOps.val (Gv.add rfl rfl (by unfold I64; omega)) ?_
                  refine AOps.val (Gv.move (v := .int _ _) rfl) ?_
                  refine AOps.nil ?_
                  exact ⟨j + 1, ⟨rfl, rfl, rfl, rfl, rfl, rfl, rfl, trivial⟩, ⟨rfl, trivial⟩, ⟨_, (.refl _), rfl⟩, ⟨by omega, not_take hj1 hno ce⟩, by omega⟩
              · skip
                obtain rfl : j = k := by omega
                refine AWP.exit ?_
                refine AWP.region rfl ?_
                refine AOps.val (Gv.add rfl rfl (by unfold I64; omega)) ?_
                refine AOps.val (Gv.move (v := .int _ _) rfl) ?_
                refine AOps.nil ?_
                exact ⟨j + 1, ⟨rfl, rfl, rfl, rfl, trivial⟩, ⟨rfl, trivial⟩, ⟨_, (.drop (.refl _)), rfl⟩, ⟨hk2, fun i h hi => by rcases Nat.lt_or_ge i j with h3 | h3; exact hvar i h h3; obtain rfl : i = j := (by omega); exact ⟨hv3.1, hv3.2.1, hv3.2.2, hno⟩⟩, by omega⟩
        · skip
          have hvars : ∀ i (h : i < f.vars.length), VarP f i f.vars[i] := fun i h => hvar i h (by omega)
          refine AWP.exit ?_
          refine AWP.seq ?_
          refine AWP.region rfl ?_
          refine AOps.val (Gv.fieldF Tryz.underlying27 rfl Tryz.sizeOf25 (by decide) rfl rfl) ?_
          refine AOps.val (Gv.load1F (c := .fro _ _) Tryz.isAgg25 rfl) ?_
          refine AOps.val (Gv.lenM Tryz.underlying25 rfl) ?_
          refine AOps.val (Gv.assign (v := .int _ _) rfl) ?_
          refine AOps.nil ?_
          refine AWP.seq ?_
          refine AWP.region rfl ?_
          refine AOps.val (Gv.assign (v := .int _ _) rfl) ?_
          refine AOps.nil ?_
          refine AWP.seq ?_
          refine AWP.seq ?_
          refine AWP.region rfl ?_
          refine AOps.val (Gv.fieldF Tryz.underlying27 rfl Tryz.sizeOf25 (by decide) rfl rfl) ?_
          refine AOps.val (Gv.load1F (c := .fro _ _) Tryz.isAgg25 rfl) ?_
          refine AOps.val (Gv.lenM Tryz.underlying25 rfl) ?_
          refine AOps.val (Gv.move (v := .int _ _) rfl) ?_
          refine AOps.nil ?_
          refine AWP.block ?_
          refine AWP.loop (γ := Nat) [1, 3, 9, 107, 108] (fun g => [(109, .int .i64 g), (10, .int .i64 (sumTo (f.blocks.take g)))]) (fun g => []) (fun g => g ≤ f.blocks.length ∧ (∀ i (h : i < f.blocks.length), i < g → NamP f i f.blocks[i]) ∧ sumTo (f.blocks.take g) ≤ 1024 ∧ ∀ b ∈ f.blocks.take g, BlkP f b) (fun g => f.blocks.length - g) 0 ⟨rfl, rfl, trivial⟩ ⟨_, (.refl _), rfl⟩ (⟨Nat.zero_le _, fun i h hk => by omega, by simp [sumTo], by simp⟩) ?_
          rintro k ⟨hk, hnam, hsum, hblk⟩
          refine AWP.seq ?_
          refine AWP.region rfl ?_
          refine AOps.val (Gv.lss rfl rfl) ?_
          refine AOps.nil ?_
          refine AWP.seq ?_
          refine AWP.condP rfl (fun ck => ?_) (fun ck => ?_)
          · skip
            have hk2 : k < f.blocks.length := by omega
            have hnk : f.blocks[k].name.size ≤ 140737488355328 := hn.2 _ (List.getElem_mem hk2)
            obtain ⟨hb1, hb2, hb3, hb4⟩ := hf4 _ (List.getElem_mem hk2)
            have hl4 := hb1.lt
            have hl5 := hb2.lt
            refine AWP.skip ?_
            refine AWP.seq ?_
            refine AWP.block ?_
            refine AWP.seq ?_
            refine AWP.region rfl ?_
            refine AOps.val (Gv.move (v := .int _ _) rfl) ?_
            refine AOps.val (Gv.idxM Tryz.underlying25 Tryz.sizeOf48 rfl rfl rfl (List.getElem?_eq_getElem (by omega))) ?_
            refine AOps.val (Gv.loadWF Tryz.isAgg48 Tryz.sizeOf48 rfl rfl) ?_
            refine AOps.alloc (cs := [.str ⟨#[]⟩, .raw (.slice none 0 0), .raw (.slice none 0 0), .int .i64 0, .int .i64 0, .int .i64 0, .int .i64 0]) Tryz.zeroValue48 rfl rfl ?_
            intro i12
            refine AOps.val (Gv.assign (v := .int _ _) rfl) ?_
            refine AOps.storeW Tryz.sizeOf48 rfl rfl rfl rfl rfl rfl .head rfl ?_
            refine AOps.nil ?_
            refine AWP.seq ?_
            refine AWP.seq ?_
            refine AWP.region rfl ?_
            refine AOps.val (Gv.fieldO Tryz.underlying48 rfl Tryz.sizeOf9 (by decide) rfl rfl) ?_
            refine AOps.val (Gv.load1C (c := .str _) Tryz.isAgg9 rfl ⟨_, .head⟩ rfl) ?_
            refine AOps.callP (name_spec _ (by assumption) hL) rfl ?_
            refine AOps.val (Gv.not rfl) ?_
            refine AOps.nil ?_
            refine AWP.cond rfl (fun cv => ?_) (fun cv => ?_)
            · skip
              refine AWP.seq ?_
              refine AWP.region rfl ?_
              refine AOps.val (Gv.assign (v := .bool _) rfl) ?_
              refine AOps.nil ?_
              refine AWP.ret ?_
              repeat (first | refine aseqQ_ret ?_ | refine ablockQ_ret ?_)
              refine afin.t1 (x := .bool _) rfl ?_
              rw [decide_eq_false (fun h => by have := (h.2.2.2.1 k hk2).1; simp [this] at cv)]
            · skip
              refine AWP.skip ?_
              refine AWP.seq ?_
              refine AWP.seq ?_
              refine AWP.region rfl ?_
              refine AOps.val (Gv.move (v := .int _ _) rfl) ?_
              refine AOps.val (Gv.move (v := .int _ _) rfl) ?_
              refine AOps.nil ?_
              refine AWP.block ?_
              refine AWP.loop (γ := Nat) [1, 3, 9, 10, 12, 107, 108, 109, 118] (fun j => [(119, .int .i64 j)]) (fun j => [(i12, .cells 48 (encBlk f.blocks[k]))]) (fun j => j ≤ k ∧ ∀ s ∈ (f.blocks.take j).map (·.name), s ≠ f.blocks[k].name) (fun j => k - j) 0 ⟨rfl, trivial⟩ ⟨_, (.refl _), rfl⟩ (⟨Nat.zero_le _, by simp⟩) ?_
              rintro j ⟨hj, hno⟩
              refine AWP.seq ?_
              refine AWP.region rfl ?_
              refine AOps.val (Gv.lss rfl rfl) ?_
              refine AOps.nil ?_
              refine AWP.seq ?_
              refine AWP.condP rfl (fun cj => ?_) (fun cj => ?_)
              · skip
                have hj1 : j < f.blocks.length := by omega
                refine AWP.skip ?_
                refine AWP.seq ?_
                refine AWP.block ?_
                refine AWP.seq ?_
                refine AWP.region rfl ?_
                refine AOps.val (Gv.move (v := .int _ _) rfl) ?_
                refine AOps.val (Gv.assign (v := .int _ _) rfl) ?_
                refine AOps.nil ?_
                refine AWP.seq ?_
                refine AWP.regionDraw (fun j => false) (by kernel_rfl) rfl (Part.perm (.r (.rest _))) ?_
                refine AAny.take (i := 0) rfl (by kernel_rfl) (by kernel_rfl) (by kernel_rfl) (by kernel_rfl) (by kernel_rfl) (by kernel_rfl) (Gv.fieldF Tryz.underlying27 rfl Tryz.sizeOf25 (by decide) rfl rfl) ?_
                refine AAny.take (i := 1) rfl (by kernel_rfl) (by kernel_rfl) (by kernel_rfl) (by kernel_rfl) (by kernel_rfl) (by kernel_rfl) (Gv.load1F (c := .fro _ _) Tryz.isAgg25 rfl) ?_
                refine AAny.take (i := 2) rfl (by kernel_rfl) (by kernel_rfl) (by kernel_rfl) (by kernel_rfl) (by kernel_rfl) (by kernel_rfl) (Gv.move (v := .int _ _) rfl) ?_
                refine AAny.take (i := 3) rfl (by kernel_rfl) (by kernel_rfl) (by kernel_rfl) (by kernel_rfl) (by kernel_rfl) (by kernel_rfl) (Gv.idxM Tryz.underlying25 Tryz.sizeOf48 rfl rfl rfl (List.getElem?_eq_getElem (by omega))) ?_
                refine AAny.take (i := 4) rfl (by kernel_rfl) (by kernel_rfl) (by kernel_rfl) (by kernel_rfl) (by kernel_rfl) (by kernel_rfl) (Gv.fieldF Tryz.underlying48 rfl Tryz.sizeOf9 (by decide) rfl rfl) ?_
                refine AAny.take (i := 5) rfl (by kernel_rfl) (by kernel_rfl) (by kernel_rfl) (by kernel_rfl) (by kernel_rfl) (by kernel_rfl) (Gv.load1F (c := .str _) Tryz.isAgg9 rfl) ?_
                refine AAny.take (i := 6) rfl (by kernel_rfl) (by kernel_rfl) (by kernel_rfl) (by kernel_rfl) (by kernel_rfl) (by kernel_rfl) (Gv.fieldO Tryz.underlying48 rfl Tryz.sizeOf9 (by decide) rfl rfl) ?_
                refine AAny.take (i := 7) rfl (by kernel_rfl) (by kernel_rfl) (by kernel_rfl) (by kernel_rfl) (by kernel_rfl) (by kernel_rfl) (Gv.load1C (c := .str _) Tryz.isAgg9 rfl ⟨_, .head⟩ rfl) ?_
                refine AAny.take (i := 8) rfl (by kernel_rfl) (by kernel_rfl) (by kernel_rfl) (by kernel_rfl) (by kernel_rfl) (by kernel_rfl) (Gv.eqlT rfl rfl) ?_
                refine AAny.done (by kernel_rfl) ?_
                refine AWP.condP rfl (fun ce => ?_) (fun ce => ?_)
                · skip
                  refine AWP.seq ?_
                  refine AWP.region rfl ?_
                  refine AOps.val (Gv.assign (v := .bool _) rfl) ?_
                  refine AOps.nil ?_
                  refine AWP.ret ?_
                  repeat (first | refine aseqQ_ret ?_ | refine ablockQ_ret ?_)
                  refine afin.t1 (x := .bool _) rfl ?_
                  rw [decide_eq_false (fun h => by exact in_take (g := PBlock.name) hj1 (by omega) (h.2.2.2.1 k hk2).2 ce)]
                · skip
                  refine AWP.skip ?_
                  refine AWP.region rfl ?_
                  refine AOps.val (Gv.add rfl rfl (by unfold I64; omega)) ?_
                  refine AOps.val (Gv.move (v := .int _ _) rfl) ?_
                  refine AOps.nil ?_
                  exact ⟨j + 1, ⟨rfl, rfl, rfl, rfl, rfl, rfl, rfl, rfl, rfl, trivial⟩, ⟨rfl, trivial⟩, ⟨_, (.refl _), rfl⟩, ⟨by omega, not_take hj1 hno ce⟩, by omega⟩
              · skip
                obtain rfl : j = k := by omega
                have hs1 := sumTo_succ f.blocks j hk2
                refine AWP.exit ?_
                refine AWP.seq ?_
                refine AWP.region rfl ?_
                refine AOps.val (Gv.move (v := .int _ _) rfl) ?_
                refine AOps.val (Gv.fieldO Tryz.underlying48 rfl Tryz.sizeOf41 (by decide) rfl rfl) ?_
                refine AOps.val (Gv.load1C (c := .fro _ _) Tryz.isAgg41 rfl ⟨_, .head⟩ rfl) ?_
                refine AOps.val (Gv.lenM Tryz.underlying41 rfl) ?_
                refine AOps.val (Gv.add rfl rfl (by unfold I64; omega)) ?_
                refine AOps.val (Gv.fieldO Tryz.underlying48 rfl Tryz.sizeOf42 (by decide) rfl rfl) ?_
                refine AOps.val (Gv.load1C (c := .fro _ _) Tryz.isAgg42 rfl ⟨_, .head⟩ rfl) ?_
                refine AOps.val (Gv.lenM Tryz.underlying42 rfl) ?_
                refine AOps.val (Gv.add rfl rfl (by unfold I64; omega)) ?_
                refine AOps.val (Gv.assign (v := .int _ _) rfl) ?_
                refine AOps.nil ?_
                refine AWP.seq ?_
                refine AWP.seq ?_
                refine AWP.region rfl ?_
                refine AOps.val (Gv.move (v := .int _ _) rfl) ?_
                refine AOps.val (Gv.gtr rfl rfl) ?_
                refine AOps.nil ?_
                refine AWP.condP rfl (fun cs => ?_) (fun cs => ?_)
                · skip
                  refine AWP.seq ?_
                  refine AWP.region rfl ?_
                  refine AOps.val (Gv.assign (v := .bool _) rfl) ?_
                  refine AOps.nil ?_
                  refine AWP.ret ?_
                  repeat (first | refine aseqQ_ret ?_ | refine ablockQ_ret ?_)
                  refine afin.t1 (x := .bool _) rfl ?_
                  rw [decide_eq_false (fun h => by have := h.2.2.2.2.1; have := sumTo_take f.blocks (j + 1); omega)]
                · skip
                  refine AWP.skip ?_
                  refine AWP.seq ?_
                  refine AWP.seq ?_
                  refine AWP.region rfl ?_
                  refine AOps.val (Gv.fieldO Tryz.underlying48 rfl Tryz.sizeOf41 (by decide) rfl rfl) ?_
                  refine AOps.val (Gv.load1C (c := .fro _ _) Tryz.isAgg41 rfl ⟨_, .head⟩ rfl) ?_
                  refine AOps.val (Gv.lenM Tryz.underlying41 rfl) ?_
                  refine AOps.val (Gv.move (v := .int _ _) rfl) ?_
                  refine AOps.nil ?_
                  refine AWP.block ?_
                  refine AWP.loop (γ := Nat) [1, 3, 9, 10, 12, 107, 108, 109, 144, 145] (fun p => [(146, .int .i64 p)]) (fun p => [(i12, .cells 48 (encBlk f.blocks[j]))]) (fun p => p ≤ f.blocks[j].phis.length ∧ ∀ q ∈ f.blocks[j].phis.take p, PhiP f q) (fun p => f.blocks[j].phis.length - p) 0 ⟨rfl, trivial⟩ ⟨_, (.refl _), rfl⟩ (⟨Nat.zero_le _, by simp⟩) ?_
                  rintro p ⟨hp, hphi⟩
                  refine AWP.seq ?_
                  refine AWP.region rfl ?_
                  refine AOps.val (Gv.lss rfl rfl) ?_
                  refine AOps.nil ?_
                  refine AWP.seq ?_
                  refine AWP.condP rfl (fun cp => ?_) (fun cp => ?_)
                  · skip
                    have hp2 : p < f.blocks[j].phis.length := by omega
                    obtain ⟨hq1, hq2⟩ := hb3 _ (List.getElem_mem hp2)
                    have hl6 := hq1.lt
                    have hl7 := hq2.lt
                    refine AWP.skip ?_
                    refine AWP.seq ?_
                    refine AWP.block ?_
                    refine AWP.seq ?_
                    refine AWP.region rfl ?_
                    refine AOps.val (Gv.idxM Tryz.underlying41 Tryz.sizeOf64 rfl rfl rfl (List.getElem?_eq_getElem (by omega))) ?_
                    refine AOps.val (Gv.loadWF Tryz.isAgg64 Tryz.sizeOf64 rfl rfl) ?_
                    refine AOps.alloc (cs := [.int .i64 0, .raw (.slice none 0 0), .raw (.slice none 0 0)]) Tryz.zeroValue64 rfl rfl ?_
                    intro i15
                    refine AOps.storeW Tryz.sizeOf64 rfl rfl rfl rfl rfl rfl .head rfl ?_
                    refine AOps.nil ?_
                    refine AWP.seq ?_
                    refine AWP.seq ?_
                    refine AWP.cutS (γ := Unit) [1, 3, 9, 10, 12, 15, 107, 108, 109, 144, 145, 146] (fun u => [(169, .bool (!hasV f f.blocks[j].phis[p].dst || (!decide ((f.blocks[j].phis[p].args.length : Int) = f.blocks[j].phis[p].from_.length) || decide ((f.blocks[j].phis[p].args.length : Int) < 1))))]) (fun u => [(i15, .cells 64 (encPhi f.blocks[j].phis[p])), (i12, .cells 48 (encBlk f.blocks[j]))]) (fun u => True) ?_ (fun _ _ h => h) ?_
                    · skip
                      refine AWP.region rfl ?_
                      refine AOps.val (Gv.fieldO Tryz.underlying64 rfl Tryz.sizeOf3 (by decide) rfl rfl) ?_
                      refine AOps.val (Gv.load1C (c := .int _ _) Tryz.isAgg3 rfl ⟨_, .head⟩ rfl) ?_
                      refine AOps.val (Gv.move (v := .int _ _) rfl) ?_
                      refine AOps.callP (in_spec _ _) rfl ?_
                      refine AOps.val (Gv.not rfl) ?_
                      refine AOps.val (Gv.move (v := .bool _) rfl) ?_
                      refine AOps.case (s := 155) rfl (fun c7 => ?_) (fun c7 => ?_)
                      · skip
                        refine AOps.guardFd rfl rfl c7 ?_
                        refine AOps.guardFd rfl rfl c7 ?_
                        refine AOps.guardFd rfl rfl c7 ?_
                        refine AOps.guardFd rfl rfl c7 ?_
                        refine AOps.guardFd rfl rfl c7 ?_
                        refine AOps.guardFd rfl rfl c7 ?_
                        refine AOps.guardFd rfl rfl c7 ?_
                        refine AOps.val (Gv.pickT (v := .bool _) rfl c7 rfl) ?_
                        refine AOps.val (Gv.move (v := .bool _) rfl) ?_
                        refine AOps.guardFd rfl rfl rfl ?_
                        refine AOps.guardFd rfl rfl rfl ?_
                        refine AOps.guardFd rfl rfl rfl ?_
                        refine AOps.guardFd rfl rfl rfl ?_
                        refine AOps.val (Gv.pickT (v := .bool _) rfl rfl rfl) ?_
                        refine AOps.nil ?_
                        exact ⟨(), ⟨rfl, rfl, rfl, rfl, rfl, rfl, rfl, rfl, rfl, rfl, rfl, rfl, trivial⟩, ⟨jb (by simp_all [hasV] <;> grind), trivial⟩, ⟨_, (.refl _), rfl⟩, trivial⟩
                      · skip
                        refine AOps.guardT rfl rfl c7 ?_
                        refine AOps.val (Gv.fieldO Tryz.underlying64 rfl Tryz.sizeOf24 (by decide) rfl rfl) ?_
                        refine AOps.guardT rfl rfl c7 ?_
                        refine AOps.val (Gv.load1C (c := .fro _ _) Tryz.isAgg24 rfl ⟨_, .head⟩ rfl) ?_
                        refine AOps.guardT rfl rfl c7 ?_
                        refine AOps.val (Gv.lenM Tryz.underlying24 rfl) ?_
                        refine AOps.guardT rfl rfl c7 ?_
                        refine AOps.val (Gv.fieldO Tryz.underlying64 rfl Tryz.sizeOf24 (by decide) rfl rfl) ?_
                        refine AOps.guardT rfl rfl c7 ?_
                        refine AOps.val (Gv.load1C (c := .fro _ _) Tryz.isAgg24 rfl ⟨_, .head⟩ rfl) ?_
                        refine AOps.guardT rfl rfl c7 ?_
                        refine AOps.val (Gv.lenM Tryz.underlying24 rfl) ?_
                        refine AOps.guardT rfl rfl c7 ?_
                        refine AOps.val (Gv.neqI rfl rfl) ?_
                        refine AOps.val (Gv.pickF (v := .bool _) rfl c7 rfl) ?_
                        refine AOps.val (Gv.move (v := .bool _) rfl) ?_
                        refine AOps.case (s := 164) rfl (fun c8 => ?_) (fun c8 => ?_)
                        · skip
                          refine AOps.guardFd rfl rfl c8 ?_
                          refine AOps.guardFd rfl rfl c8 ?_
                          refine AOps.guardFd rfl rfl c8 ?_
                          refine AOps.guardFd rfl rfl c8 ?_
                          refine AOps.val (Gv.pickT (v := .bool _) rfl c8 rfl) ?_
                          refine AOps.nil ?_
                          exact ⟨(), ⟨rfl, rfl, rfl, rfl, rfl, rfl, rfl, rfl, rfl, rfl, rfl, rfl, trivial⟩, ⟨jb (by simp_all [hasV] <;> grind), trivial⟩, ⟨_, (.refl _), rfl⟩, trivial⟩
                        · skip
                          refine AOps.guardT rfl rfl c8 ?_
                          refine AOps.val (Gv.fieldO Tryz.underlying64 rfl Tryz.sizeOf24 (by decide) rfl rfl) ?_
                          refine AOps.guardT rfl rfl c8 ?_
                          refine AOps.val (Gv.load1C (c := .fro _ _) Tryz.isAgg24 rfl ⟨_, .head⟩ rfl) ?_
                          refine AOps.guardT rfl rfl c8 ?_
                          refine AOps.val (Gv.lenM Tryz.underlying24 rfl) ?_
                          refine AOps.guardT rfl rfl c8 ?_
                          refine AOps.val (Gv.lss rfl rfl) ?_
                          refine AOps.val (Gv.pickF (v := .bool _) rfl c8 rfl) ?_
                          refine AOps.nil ?_
                          exact ⟨(), ⟨rfl, rfl, rfl, rfl, rfl, rfl, rfl, rfl, rfl, rfl, rfl, rfl, trivial⟩, ⟨jb (by simp_all [hasV] <;> grind), trivial⟩, ⟨_, (.refl _), rfl⟩, trivial⟩
                    · skip
                      rintro _ _
                      refine AWP.cond rfl (fun cq => ?_) (fun cq => ?_)
                      · skip
                        refine AWP.seq ?_
                        refine AWP.region rfl ?_
                        refine AOps.val (Gv.assign (v := .bool _) rfl) ?_
                        refine AOps.nil ?_
                        refine AWP.ret ?_
                        repeat (first | refine aseqQ_ret ?_ | refine ablockQ_ret ?_)
                        refine afin.t1 (x := .bool _) rfl ?_
                        rw [decide_eq_false (fun h => by have := (h.2.2.2.2.2 _ (List.getElem_mem hk2)).1 _ (List.getElem_mem hp2); obtain ⟨h1, h2, h3, _⟩ := this; rw [h1, h2] at cq; simp only [Bool.not_true, Bool.false_or, decide_true, decide_eq_true_eq] at cq; omega)]
                      · skip
                        have hq3 : hasV f f.blocks[j].phis[p].dst = true ∧ f.blocks[j].phis[p].args.length = f.blocks[j].phis[p].from_.length ∧ 1 ≤ f.blocks[j].phis[p].args.length := by
                          rcases Bool.or_eq_false_iff.1 cq with ⟨a1, a2⟩
                          rcases Bool.or_eq_false_iff.1 a2 with ⟨a3, a4⟩
                          exact ⟨by simpa using a1, by simp only [Bool.not_eq_false', decide_eq_true_eq] at a3; omega, by have := of_decide_eq_false a4; omega⟩
                        refine AWP.skip ?_
                        refine AWP.seq ?_
                        refine AWP.region rfl ?_
                        refine AOps.val (Gv.fieldO Tryz.underlying64 rfl Tryz.sizeOf24 (by decide) rfl rfl) ?_
                        refine AOps.val (Gv.load1C (c := .fro _ _) Tryz.isAgg24 rfl ⟨_, .head⟩ rfl) ?_
                        refine AOps.val (Gv.lenM Tryz.underlying24 rfl) ?_
                        refine AOps.val (Gv.move (v := .int _ _) rfl) ?_
                        refine AOps.nil ?_
                        refine AWP.block ?_
                        refine AWP.loop (γ := Nat) [1, 3, 9, 10, 12, 15, 107, 108, 109, 144, 145, 146, 172] (fun m => [(173, .int .i64 m)]) (fun m => [(i15, .cells 64 (encPhi f.blocks[j].phis[p])), (i12, .cells 48 (encBlk f.blocks[j]))]) (fun m => m ≤ f.blocks[j].phis[p].args.length ∧ (f.blocks[j].phis[p].args.take m).all (hasV f) = true ∧ (f.blocks[j].phis[p].from_.take m).all (hasB f) = true) (fun m => f.blocks[j].phis[p].args.length - m) 0 ⟨rfl, trivial⟩ ⟨_, (.refl _), rfl⟩ (⟨Nat.zero_le _, rfl, rfl⟩) ?_
                        rintro m ⟨hm, ha1, ha2⟩
                        refine AWP.seq ?_
                        refine AWP.region rfl ?_
                        refine AOps.val (Gv.lss rfl rfl) ?_
                        refine AOps.nil ?_
                        refine AWP.seq ?_
                        refine AWP.condP rfl (fun cm => ?_) (fun cm => ?_)
                        · skip
                          have hm1 : m < f.blocks[j].phis[p].args.length := by omega
                          have hm2 : m < f.blocks[j].phis[p].from_.length := by omega
                          refine AWP.skip ?_
                          refine AWP.seq ?_
                          refine AWP.block ?_
                          refine AWP.seq ?_
                          refine AWP.region rfl ?_
                          refine AOps.val (Gv.move (v := .int _ _) rfl) ?_
                          refine AOps.val (Gv.assign (v := .int _ _) rfl) ?_
                          refine AOps.nil ?_
                          refine AWP.seq ?_
                          refine AWP.cutS (γ := Unit) [1, 3, 9, 10, 12, 15, 107, 108, 109, 144, 145, 146, 172, 173] (fun u => [(193, .bool (!hasV f f.blocks[j].phis[p].args[m] || !hasB f f.blocks[j].phis[p].from_[m]))]) (fun u => [(i15, .cells 64 (encPhi f.blocks[j].phis[p])), (i12, .cells 48 (encBlk f.blocks[j]))]) (fun u => True) ?_ (fun _ _ h => h) ?_
                          · skip
                            refine AWP.region rfl ?_
                            refine AOps.val (Gv.fieldO Tryz.underlying64 rfl Tryz.sizeOf24 (by decide) rfl rfl) ?_
                            refine AOps.val (Gv.load1C (c := .fro _ _) Tryz.isAgg24 rfl ⟨_, .head⟩ rfl) ?_
                            refine AOps.val (Gv.move (v := .int _ _) rfl) ?_
                            refine AOps.val (Gv.idxM Tryz.underlying24 Tryz.sizeOf3 rfl rfl rfl (List.getElem?_eq_getElem (by omega))) ?_
                            refine AOps.val (Gv.load1F (c := .int _ _) Tryz.isAgg3 rfl) ?_
                            refine AOps.val (Gv.move (v := .int _ _) rfl) ?_
                            refine AOps.callP (in_spec _ _) rfl ?_
                            refine AOps.val (Gv.not rfl) ?_
                            refine AOps.val (Gv.move (v := .bool _) rfl) ?_
                            refine AOps.case (s := 184) rfl (fun c9 => ?_) (fun c9 => ?_)
                            · skip
                              refine AOps.guardFd rfl rfl c9 ?_
                              refine AOps.guardFd rfl rfl c9 ?_
                              refine AOps.guardFd rfl rfl c9 ?_
                              refine AOps.guardFd rfl rfl c9 ?_
                              refine AOps.guardFd rfl rfl c9 ?_
                              refine AOps.guardFd rfl rfl c9 ?_
                              refine AOps.guardFd rfl rfl c9 ?_
                              refine AOps.guardFd rfl rfl c9 ?_
                              refine AOps.val (Gv.pickT (v := .bool _) rfl c9 rfl) ?_
                              refine AOps.nil ?_
                              exact ⟨(), ⟨rfl, rfl, rfl, rfl, rfl, rfl, rfl, rfl, rfl, rfl, rfl, rfl, rfl, rfl, trivial⟩, ⟨jb (by simp_all [hasV, hasB] <;> grind), trivial⟩, ⟨_, (.refl _), rfl⟩, trivial⟩
                            · skip
                              refine AOps.guardT rfl rfl c9 ?_
                              refine AOps.val (Gv.fieldO Tryz.underlying64 rfl Tryz.sizeOf24 (by decide) rfl rfl) ?_
                              refine AOps.guardT rfl rfl c9 ?_
                              refine AOps.val (Gv.load1C (c := .fro _ _) Tryz.isAgg24 rfl ⟨_, .head⟩ rfl) ?_
                              refine AOps.guardT rfl rfl c9 ?_
                              refine AOps.val (Gv.move (v := .int _ _) rfl) ?_
                              refine AOps.guardT rfl rfl c9 ?_
                              refine AOps.val (Gv.idxM Tryz.underlying24 Tryz.sizeOf3 rfl rfl rfl (List.getElem?_eq_getElem (by omega))) ?_
                              refine AOps.guardT rfl rfl c9 ?_
                              refine AOps.val (Gv.load1F (c := .int _ _) Tryz.isAgg3 rfl) ?_
                              refine AOps.guardT rfl rfl c9 ?_
                              refine AOps.val (Gv.move (v := .int _ _) rfl) ?_
                              refine AOps.guardT rfl rfl c9 ?_
                              refine AOps.callP (in_spec _ _) rfl ?_
                              refine AOps.guardT rfl rfl c9 ?_
                              refine AOps.val (Gv.not rfl) ?_
                              refine AOps.val (Gv.pickF (v := .bool _) rfl c9 rfl) ?_
                              refine AOps.nil ?_
                              exact ⟨(), ⟨rfl, rfl, rfl, rfl, rfl, rfl, rfl, rfl, rfl, rfl, rfl, rfl, rfl, rfl, trivial⟩, ⟨jb (by simp_all [hasV, hasB] <;> grind), trivial⟩, ⟨_, (.refl _), rfl⟩, trivial⟩
                          · skip
                            rintro _ _
                            refine AWP.cond rfl (fun cw => ?_) (fun cw => ?_)
                            · skip
                              refine AWP.seq ?_
                              refine AWP.region rfl ?_
                              refine AOps.val (Gv.assign (v := .bool _) rfl) ?_
                              refine AOps.nil ?_
                              refine AWP.ret ?_
                              repeat (first | refine aseqQ_ret ?_ | refine ablockQ_ret ?_)
                              refine afin.t1 (x := .bool _) rfl ?_
                              rw [decide_eq_false (fun h => by have := (h.2.2.2.2.2 _ (List.getElem_mem hk2)).1 _ (List.getElem_mem hp2); obtain ⟨_, _, _, h4, h5⟩ := this; have h6 := List.all_eq_true.1 h4 _ (List.getElem_mem hm1); have h7 := List.all_eq_true.1 h5 _ (List.getElem_mem hm2); rw [h6, h7] at cw; cases cw)]
                            · skip
                              refine AWP.skip ?_
                              refine AWP.region rfl ?_
                              refine AOps.val (Gv.add rfl rfl (by unfold I64; omega)) ?_
                              refine AOps.val (Gv.move (v := .int _ _) rfl) ?_
                              refine AOps.nil ?_
                              exact ⟨m + 1, ⟨rfl, rfl, rfl, rfl, rfl, rfl, rfl, rfl, rfl, rfl, rfl, rfl, rfl, trivial⟩, ⟨rfl, trivial⟩, ⟨_, (.refl _), rfl⟩, ⟨hm1, all_take hm1 ha1 (by simp at cw; exact cw.1), all_take hm2 ha2 (by simp at cw; exact cw.2)⟩, by omega⟩
                        · skip
                          rw [take_len (by omega)] at ha1
                          rw [take_len (by omega)] at ha2
                          refine AWP.exit ?_
                          refine AWP.region rfl ?_
                          refine AOps.val (Gv.add rfl rfl (by unfold I64; omega)) ?_
                          refine AOps.val (Gv.move (v := .int _ _) rfl) ?_
                          refine AOps.nil ?_
                          exact ⟨p + 1, ⟨rfl, rfl, rfl, rfl, rfl, rfl, rfl, rfl, rfl, rfl, trivial⟩, ⟨rfl, trivial⟩, ⟨_, (.drop (.refl _)), rfl⟩, ⟨hp2, forall_take hp2 hphi ⟨hq3.1, hq3.2.1, hq3.2.2, ha1, ha2⟩⟩, by omega⟩
                  · skip
                    rw [take_len (by omega)] at hphi
                    refine AWP.exit ?_
                    refine AWP.seq ?_
                    refine AWP.seq ?_
                    refine AWP.region rfl ?_
                    refine AOps.val (Gv.fieldO Tryz.underlying48 rfl Tryz.sizeOf42 (by decide) rfl rfl) ?_
                    refine AOps.val (Gv.load1C (c := .fro _ _) Tryz.isAgg42 rfl ⟨_, .head⟩ rfl) ?_
                    refine AOps.val (Gv.lenM Tryz.underlying42 rfl) ?_
                    refine AOps.val (Gv.move (v := .int _ _) rfl) ?_
                    refine AOps.nil ?_
                    refine AWP.block ?_
                    refine AWP.loop (γ := Nat) [1, 3, 9, 10, 12, 107, 108, 109, 197, 198] (fun p => [(199, .int .i64 p)]) (fun p => [(i12, .cells 48 (encBlk f.blocks[j]))]) (fun p => p ≤ f.blocks[j].insts.length ∧ ∀ q ∈ f.blocks[j].insts.take p, InstP f q) (fun p => f.blocks[j].insts.length - p) 0 ⟨rfl, trivial⟩ ⟨_, (.refl _), rfl⟩ (⟨Nat.zero_le _, by simp⟩) ?_
                    rintro p ⟨hp, hins⟩
                    refine AWP.seq ?_
                    refine AWP.region rfl ?_
                    refine AOps.val (Gv.lss rfl rfl) ?_
                    refine AOps.nil ?_
                    refine AWP.seq ?_
                    refine AWP.condP rfl (fun cp => ?_) (fun cp => ?_)
                    · skip
                      have hp2 : p < f.blocks[j].insts.length := by omega
                      have hq1 := hb4 _ (List.getElem_mem hp2)
                      have hl6 := hq1.lt
                      refine AWP.skip ?_
                      refine AWP.seq ?_
                      refine AWP.block ?_
                      refine AWP.seq ?_
                      refine AWP.region rfl ?_
                      refine AOps.val (Gv.idxM Tryz.underlying42 Tryz.sizeOf67 rfl rfl rfl (List.getElem?_eq_getElem (by omega))) ?_
                      refine AOps.val (Gv.loadWF Tryz.isAgg67 Tryz.sizeOf67 rfl rfl) ?_
                      refine AOps.alloc (cs := [.int .i64 0, .int .i64 0, .raw (.slice none 0 0), .int .i64 0]) Tryz.zeroValue67 rfl rfl ?_
                      intro i18
                      refine AOps.storeW Tryz.sizeOf67 rfl rfl rfl rfl rfl rfl .head rfl ?_
                      refine AOps.nil ?_
                      refine AWP.seq ?_
                      refine AWP.seq ?_
                      refine AWP.cutS (γ := Unit) [1, 3, 9, 10, 12, 18, 107, 108, 109, 197, 198, 199] (fun u => [(210, .bool (decide (f.blocks[j].insts[p].op < 0) || decide (26 < f.blocks[j].insts[p].op)))]) (fun u => [(i18, .cells 67 (encInst f.blocks[j].insts[p])), (i12, .cells 48 (encBlk f.blocks[j]))]) (fun u => True) ?_ (fun _ _ h => h) ?_
                      · skip
                        refine AWP.region rfl ?_
                        refine AOps.val (Gv.fieldO Tryz.underlying67 rfl Tryz.sizeOf65 (by decide) rfl rfl) ?_
                        refine AOps.val (Gv.load1C (c := .int _ _) Tryz.isAgg65 rfl ⟨_, .head⟩ rfl) ?_
                        refine AOps.val (Gv.lss rfl rfl) ?_
                        refine AOps.val (Gv.move (v := .bool _) rfl) ?_
                        refine AOps.case (s := 206) rfl (fun c10 => ?_) (fun c10 => ?_)
                        · skip
                          refine AOps.guardFd rfl rfl c10 ?_
                          refine AOps.guardFd rfl rfl c10 ?_
                          refine AOps.guardFd rfl rfl c10 ?_
                          refine AOps.val (Gv.pickT (v := .bool _) rfl c10 rfl) ?_
                          refine AOps.nil ?_
                          exact ⟨(), ⟨rfl, rfl, rfl, rfl, rfl, rfl, rfl, rfl, rfl, rfl, rfl, rfl, trivial⟩, ⟨jb (by simp_all <;> grind), trivial⟩, ⟨_, (.refl _), rfl⟩, trivial⟩
                        · skip
                          refine AOps.guardT rfl rfl c10 ?_
                          refine AOps.val (Gv.fieldO Tryz.underlying67 rfl Tryz.sizeOf65 (by decide) rfl rfl) ?_
                          refine AOps.guardT rfl rfl c10 ?_
                          refine AOps.val (Gv.load1C (c := .int _ _) Tryz.isAgg65 rfl ⟨_, .head⟩ rfl) ?_
                          refine AOps.guardT rfl rfl c10 ?_
                          refine AOps.val (Gv.gtr rfl rfl) ?_
                          refine AOps.val (Gv.pickF (v := .bool _) rfl c10 rfl) ?_
                          refine AOps.nil ?_
                          exact ⟨(), ⟨rfl, rfl, rfl, rfl, rfl, rfl, rfl, rfl, rfl, rfl, rfl, rfl, trivial⟩, ⟨jb (by simp_all <;> grind), trivial⟩, ⟨_, (.refl _), rfl⟩, trivial⟩
                      · skip
                        rintro _ _
                        refine AWP.cond rfl (fun cq => ?_) (fun cq => ?_)
                        · skip
                          refine AWP.seq ?_
                          refine AWP.region rfl ?_
                          refine AOps.val (Gv.assign (v := .bool _) rfl) ?_
                          refine AOps.nil ?_
                          refine AWP.ret ?_
                          repeat (first | refine aseqQ_ret ?_ | refine ablockQ_ret ?_)
                          refine afin.t1 (x := .bool _) rfl ?_
                          rw [decide_eq_false (fun h => by have := (h.2.2.2.2.2 _ (List.getElem_mem hk2)).2.1 _ (List.getElem_mem hp2); obtain ⟨h1, h2, _⟩ := this; simp at cq; omega)]
                        · skip
                          have hop : 0 ≤ f.blocks[j].insts[p].op ∧ f.blocks[j].insts[p].op ≤ 26 := by simp at cq; omega
                          have hrow : kindT[f.blocks[j].insts[p].op.toNat]? = some (kRow f.blocks[j].insts[p].op) := by unfold kRow; rw [if_pos hop.1, List.getElem?_eq_getElem (show _ < 27 by omega)]; rfl
                          refine AWP.skip ?_
                          refine AWP.seq ?_
                          refine AWP.cutS (γ := Nat) [1, 3, 9, 10, 12, 18, 107, 108, 109, 197, 198, 199] (fun i => [(19, .po i 0)]) (fun i => [(i18, .cells 67 (encInst f.blocks[j].insts[p])), (i, .cells 116 (encK (kRow f.blocks[j].insts[p].op))), (i12, .cells 48 (encBlk f.blocks[j]))]) (fun i => True) ?_ (fun _ _ h => h) ?_
                          · skip
                            refine AWP.regionDraw (fun j => Nat.beq j 6) (by kernel_rfl) rfl (Part.perm (.r (.rest _))) ?_
                            refine AAny.take (i := 1) rfl (by kernel_rfl) (by kernel_rfl) (by kernel_rfl) (by kernel_rfl) (by kernel_rfl) (by kernel_rfl) (Gv.fieldO Tryz.underlying67 rfl Tryz.sizeOf65 (by decide) rfl rfl) ?_
                            refine AAny.take (i := 2) rfl (by kernel_rfl) (by kernel_rfl) (by kernel_rfl) (by kernel_rfl) (by kernel_rfl) (by kernel_rfl) (Gv.load1C (c := .int _ _) Tryz.isAgg65 rfl ⟨_, .head⟩ rfl) ?_
                            refine AAny.two (i := 0) (j := 5) rfl rfl (by kernel_rfl) ?_ ?_
                            · skip
                              refine AOps.callP (rows_spec) rfl ?_
                              refine AOps.nil ?_
                              refine AAny.take (i := 3) rfl (by kernel_rfl) (by kernel_rfl) (by kernel_rfl) (by kernel_rfl) (by kernel_rfl) (by kernel_rfl) (Gv.idxM (j := (f.blocks[j].insts[p].op.toNat)) Tryz.underlying117 Tryz.sizeOf116 rfl rfl (Int.toNat_of_nonneg hop.1).symm hrow) ?_
                              refine AAny.take (i := 4) rfl (by kernel_rfl) (by kernel_rfl) (by kernel_rfl) (by kernel_rfl) (by kernel_rfl) (by kernel_rfl) (Gv.loadWF Tryz.isAgg116 Tryz.sizeOf116 rfl rfl) ?_
                              refine AAny.one (i := 5) rfl (by kernel_rfl) ?_
                              refine AOps.alloc (cs := [.str ⟨#[]⟩, .str ⟨#[]⟩, .str ⟨#[]⟩]) Tryz.zeroValue116 rfl rfl ?_
                              intro i19
                              refine AOps.nil ?_
                              refine AAny.writes ?_
                              refine AAnyW.one (i := 6) rfl (by kernel_rfl) (by kernel_rfl) ?_
                              refine AOps.storeW Tryz.sizeOf116 rfl rfl rfl rfl rfl rfl (.tail .head) rfl ?_
                              refine AOps.nil ?_
                              refine AAnyW.done (by kernel_rfl) ?_
                              exact ⟨i19, ⟨rfl, rfl, rfl, rfl, rfl, rfl, rfl, rfl, rfl, rfl, rfl, rfl, trivial⟩, ⟨rfl, trivial⟩, ⟨_, (.refl _), rfl⟩, trivial⟩
                            · skip
                              refine AOps.alloc (cs := [.str ⟨#[]⟩, .str ⟨#[]⟩, .str ⟨#[]⟩]) Tryz.zeroValue116 rfl rfl ?_
                              intro i19
                              refine AOps.nil ?_
                              refine AAny.one (i := 0) rfl (by kernel_rfl) ?_
                              refine AOps.callP (rows_spec) rfl ?_
                              refine AOps.nil ?_
                              refine AAny.take (i := 3) rfl (by kernel_rfl) (by kernel_rfl) (by kernel_rfl) (by kernel_rfl) (by kernel_rfl) (by kernel_rfl) (Gv.idxM (j := (f.blocks[j].insts[p].op.toNat)) Tryz.underlying117 Tryz.sizeOf116 rfl rfl (Int.toNat_of_nonneg hop.1).symm hrow) ?_
                              refine AAny.take (i := 4) rfl (by kernel_rfl) (by kernel_rfl) (by kernel_rfl) (by kernel_rfl) (by kernel_rfl) (by kernel_rfl) (Gv.loadWF Tryz.isAgg116 Tryz.sizeOf116 rfl rfl) ?_
                              refine AAny.writes ?_
                              refine AAnyW.one (i := 6) rfl (by kernel_rfl) (by kernel_rfl) ?_
                              refine AOps.storeW Tryz.sizeOf116 rfl rfl rfl rfl rfl rfl (.tail .head) rfl ?_
                              refine AOps.nil ?_
                              refine AAnyW.done (by kernel_rfl) ?_
                              exact ⟨i19, ⟨rfl, rfl, rfl, rfl, rfl, rfl, rfl, rfl, rfl, rfl, rfl, rfl, trivial⟩, ⟨rfl, trivial⟩, ⟨_, (.refl _), rfl⟩, trivial⟩
                          · skip
                            rintro i19 _
                            refine AWP.seq ?_
                            refine AWP.seq ?_
                            refine AWP.cutS (γ := Unit) [1, 3, 9, 10, 12, 18, 107, 108, 109, 197, 198, 199] (fun u => [(258, .bool (bad2 f f.blocks[j].insts[p]))]) (fun u => [(i18, .cells 67 (encInst f.blocks[j].insts[p])), (i19, .cells 116 (encK (kRow f.blocks[j].insts[p].op))), (i12, .cells 48 (encBlk f.blocks[j]))]) (fun u => True) ?_ (fun _ _ h => h) ?_
                            · skip
                              refine AWP.region rfl ?_
                              refine AOps.val (Gv.fieldO Tryz.underlying67 rfl Tryz.sizeOf24 (by decide) rfl rfl) ?_
                              refine AOps.val (Gv.load1C (c := .fro _ _) Tryz.isAgg24 rfl ⟨_, .head⟩ rfl) ?_
                              refine AOps.val (Gv.lenM Tryz.underlying24 rfl) ?_
                              refine AOps.val (Gv.fieldO Tryz.underlying116 rfl Tryz.sizeOf9 (by decide) rfl rfl) ?_
                              refine AOps.val (Gv.load1C (c := .str _) Tryz.isAgg9 rfl ⟨_, (.tail .head)⟩ rfl) ?_
                              refine AOps.val (Gv.lenT Tryz.underlying9 rfl) ?_
                              refine AOps.val (Gv.neqI rfl rfl) ?_
                              refine AOps.val (Gv.move (v := .bool _) rfl) ?_
                              refine AOps.case (s := 223) rfl (fun c11 => ?_) (fun c11 => ?_)
                              · skip
                                refine AOps.guardFd rfl rfl c11 ?_
                                refine AOps.guardFd rfl rfl c11 ?_
                                refine AOps.guardFd rfl rfl c11 ?_
                                refine AOps.guardFd rfl rfl c11 ?_
                                refine AOps.guardFd rfl rfl c11 ?_
                                refine AOps.guardFd rfl rfl c11 ?_
                                refine AOps.guardFd rfl rfl c11 ?_
                                refine AOps.val (Gv.pickT (v := .bool _) rfl c11 rfl) ?_
                                refine AOps.val (Gv.move (v := .bool _) rfl) ?_
                                refine AOps.guardFd rfl rfl rfl ?_
                                refine AOps.guardFd rfl rfl rfl ?_
                                refine AOps.guardFd rfl rfl rfl ?_
                                refine AOps.guardFd rfl rfl rfl ?_
                                refine AOps.guardUd rfl rfl ?_
                                refine AOps.guardUd rfl rfl ?_
                                refine AOps.guardUd rfl rfl ?_
                                refine AOps.guardUd rfl rfl ?_
                                refine AOps.guardUd rfl rfl ?_
                                refine AOps.guardFd rfl rfl rfl ?_
                                refine AOps.val (Gv.pickT (v := .bool _) rfl rfl rfl) ?_
                                refine AOps.val (Gv.move (v := .bool _) rfl) ?_
                                refine AOps.guardFd rfl rfl rfl ?_
                                refine AOps.guardFd rfl rfl rfl ?_
                                refine AOps.guardFd rfl rfl rfl ?_
                                refine AOps.guardFd rfl rfl rfl ?_
                                refine AOps.guardUd rfl rfl ?_
                                refine AOps.guardUd rfl rfl ?_
                                refine AOps.guardUd rfl rfl ?_
                                refine AOps.guardFd rfl rfl rfl ?_
                                refine AOps.guardFd rfl rfl rfl ?_
                                refine AOps.guardUd rfl rfl ?_
                                refine AOps.guardUd rfl rfl ?_
                                refine AOps.guardUd rfl rfl ?_
                                refine AOps.guardFd rfl rfl rfl ?_
                                refine AOps.val (Gv.pickT (v := .bool _) rfl rfl rfl) ?_
                                refine AOps.nil ?_
                                exact ⟨(), ⟨rfl, rfl, rfl, rfl, rfl, rfl, rfl, rfl, rfl, rfl, rfl, rfl, trivial⟩, ⟨jb (by simp_all [bad2, wordB, hasV] <;> grind), trivial⟩, ⟨_, (.refl _), rfl⟩, trivial⟩
                              · skip
                                refine AOps.guardT rfl rfl c11 ?_
                                refine AOps.val (Gv.fieldO Tryz.underlying116 rfl Tryz.sizeOf9 (by decide) rfl rfl) ?_
                                refine AOps.guardT rfl rfl c11 ?_
                                refine AOps.val (Gv.load1C (c := .str _) Tryz.isAgg9 rfl ⟨_, (.tail .head)⟩ rfl) ?_
                                refine AOps.guardT rfl rfl c11 ?_
                                refine AOps.val (Gv.eqlT rfl rfl) ?_
                                refine AOps.guardT rfl rfl c11 ?_
                                refine AOps.val (Gv.fieldO Tryz.underlying67 rfl Tryz.sizeOf3 (by decide) rfl rfl) ?_
                                refine AOps.guardT rfl rfl c11 ?_
                                refine AOps.val (Gv.load1C (c := .int _ _) Tryz.isAgg3 rfl ⟨_, .head⟩ rfl) ?_
                                refine AOps.guardT rfl rfl c11 ?_
                                refine AOps.val (Gv.eqlI rfl rfl) ?_
                                refine AOps.guardT rfl rfl c11 ?_
                                refine AOps.val (Gv.neqB Tryz.underlying4 rfl rfl) ?_
                                refine AOps.val (Gv.pickF (v := .bool _) rfl c11 rfl) ?_
                                refine AOps.val (Gv.move (v := .bool _) rfl) ?_
                                refine AOps.case (s := 232) rfl (fun c12 => ?_) (fun c12 => ?_)
                                · skip
                                  refine AOps.guardFd rfl rfl c12 ?_
                                  refine AOps.guardFd rfl rfl c12 ?_
                                  refine AOps.guardFd rfl rfl c12 ?_
                                  refine AOps.guardFd rfl rfl c12 ?_
                                  refine AOps.guardUd rfl rfl ?_
                                  refine AOps.guardUd rfl rfl ?_
                                  refine AOps.guardUd rfl rfl ?_
                                  refine AOps.guardUd rfl rfl ?_
                                  refine AOps.guardUd rfl rfl ?_
                                  refine AOps.guardFd rfl rfl c12 ?_
                                  refine AOps.val (Gv.pickT (v := .bool _) rfl c12 rfl) ?_
                                  refine AOps.val (Gv.move (v := .bool _) rfl) ?_
                                  refine AOps.guardFd rfl rfl rfl ?_
                                  refine AOps.guardFd rfl rfl rfl ?_
                                  refine AOps.guardFd rfl rfl rfl ?_
                                  refine AOps.guardFd rfl rfl rfl ?_
                                  refine AOps.guardUd rfl rfl ?_
                                  refine AOps.guardUd rfl rfl ?_
                                  refine AOps.guardUd rfl rfl ?_
                                  refine AOps.guardFd rfl rfl rfl ?_
                                  refine AOps.guardFd rfl rfl rfl ?_
                                  refine AOps.guardUd rfl rfl ?_
                                  refine AOps.guardUd rfl rfl ?_
                                  refine AOps.guardUd rfl rfl ?_
                                  refine AOps.guardFd rfl rfl rfl ?_
                                  refine AOps.val (Gv.pickT (v := .bool _) rfl rfl rfl) ?_
                                  refine AOps.nil ?_
                                  exact ⟨(), ⟨rfl, rfl, rfl, rfl, rfl, rfl, rfl, rfl, rfl, rfl, rfl, rfl, trivial⟩, ⟨jb (by simp_all [bad2, wordB, hasV] <;> grind), trivial⟩, ⟨_, (.refl _), rfl⟩, trivial⟩
                                · skip
                                  refine AOps.guardT rfl rfl c12 ?_
                                  refine AOps.val (Gv.fieldO Tryz.underlying67 rfl Tryz.sizeOf3 (by decide) rfl rfl) ?_
                                  refine AOps.guardT rfl rfl c12 ?_
                                  refine AOps.val (Gv.load1C (c := .int _ _) Tryz.isAgg3 rfl ⟨_, .head⟩ rfl) ?_
                                  refine AOps.guardT rfl rfl c12 ?_
                                  refine AOps.val (Gv.neqI rfl rfl) ?_
                                  refine AOps.guardT rfl rfl c12 ?_
                                  refine AOps.val (Gv.move (v := .bool _) rfl) ?_
                                  refine AOps.case (s := 236) rfl (fun c13 => ?_) (fun c13 => ?_)
                                  · skip
                                    refine AOps.guardT rfl rfl c13 ?_
                                    refine AOps.val (Gv.fieldO Tryz.underlying67 rfl Tryz.sizeOf3 (by decide) rfl rfl) ?_
                                    refine AOps.guardT rfl rfl c13 ?_
                                    refine AOps.val (Gv.load1C (c := .int _ _) Tryz.isAgg3 rfl ⟨_, .head⟩ rfl) ?_
                                    refine AOps.guardT rfl rfl c13 ?_
                                    refine AOps.val (Gv.move (v := .int _ _) rfl) ?_
                                    refine AOps.guardT rfl rfl c13 ?_
                                    refine AOps.callP (in_spec _ _) rfl ?_
                                    refine AOps.guardT rfl rfl c13 ?_
                                    refine AOps.val (Gv.not rfl) ?_
                                    refine AOps.guardT rfl rfl c12 ?_
                                    refine AOps.val (Gv.pickT (v := .bool _) rfl c13 rfl) ?_
                                    refine AOps.val (Gv.pickF (v := .bool _) rfl c12 rfl) ?_
                                    refine AOps.val (Gv.move (v := .bool _) rfl) ?_
                                    refine AOps.case (s := 244) rfl (fun c14 => ?_) (fun c14 => ?_)
                                    · skip
                                      refine AOps.guardFd rfl rfl c14 ?_
                                      refine AOps.guardFd rfl rfl c14 ?_
                                      refine AOps.guardFd rfl rfl c14 ?_
                                      refine AOps.guardFd rfl rfl c14 ?_
                                      refine AOps.guardUd rfl rfl ?_
                                      refine AOps.guardUd rfl rfl ?_
                                      refine AOps.guardUd rfl rfl ?_
                                      refine AOps.guardFd rfl rfl c14 ?_
                                      refine AOps.guardFd rfl rfl c14 ?_
                                      refine AOps.guardUd rfl rfl ?_
                                      refine AOps.guardUd rfl rfl ?_
                                      refine AOps.guardUd rfl rfl ?_
                                      refine AOps.guardFd rfl rfl c14 ?_
                                      refine AOps.val (Gv.pickT (v := .bool _) rfl c14 rfl) ?_
                                      refine AOps.nil ?_
                                      exact ⟨(), ⟨rfl, rfl, rfl, rfl, rfl, rfl, rfl, rfl, rfl, rfl, rfl, rfl, trivial⟩, ⟨jb (by simp_all [bad2, wordB, hasV] <;> grind), trivial⟩, ⟨_, (.refl _), rfl⟩, trivial⟩
                                    · skip
                                      refine AOps.guardT rfl rfl c14 ?_
                                      refine AOps.val (Gv.fieldO Tryz.underlying67 rfl Tryz.sizeOf2 (by decide) rfl rfl) ?_
                                      refine AOps.guardT rfl rfl c14 ?_
                                      refine AOps.val (Gv.load1C (c := .int _ _) Tryz.isAgg2 rfl ⟨_, .head⟩ rfl) ?_
                                      refine AOps.guardT rfl rfl c14 ?_
                                      refine AOps.val (Gv.neqI rfl rfl) ?_
                                      refine AOps.guardT rfl rfl c14 ?_
                                      refine AOps.val (Gv.move (v := .bool _) rfl) ?_
                                      refine AOps.case (s := 248) rfl (fun c15 => ?_) (fun c15 => ?_)
                                      · skip
                                        refine AOps.guardT rfl rfl c15 ?_
                                        refine AOps.val (Gv.fieldO Tryz.underlying116 rfl Tryz.sizeOf9 (by decide) rfl rfl) ?_
                                        refine AOps.guardT rfl rfl c15 ?_
                                        refine AOps.val (Gv.load1C (c := .str _) Tryz.isAgg9 rfl ⟨_, (.tail .head)⟩ rfl) ?_
                                        refine AOps.guardT rfl rfl c15 ?_
                                        refine AOps.val (Gv.neqT rfl rfl) ?_
                                        refine AOps.guardT rfl rfl c14 ?_
                                        refine AOps.val (Gv.pickT (v := .bool _) rfl c15 rfl) ?_
                                        refine AOps.guardT rfl rfl c14 ?_
                                        refine AOps.val (Gv.move (v := .bool _) rfl) ?_
                                        refine AOps.case (s := 253) rfl (fun c16 => ?_) (fun c16 => ?_)
                                        · skip
                                          refine AOps.guardT rfl rfl c16 ?_
                                          refine AOps.val (Gv.fieldO Tryz.underlying116 rfl Tryz.sizeOf9 (by decide) rfl rfl) ?_
                                          refine AOps.guardT rfl rfl c16 ?_
                                          refine AOps.val (Gv.load1C (c := .str _) Tryz.isAgg9 rfl ⟨_, (.tail .head)⟩ rfl) ?_
                                          refine AOps.guardT rfl rfl c16 ?_
                                          refine AOps.val (Gv.neqT rfl rfl) ?_
                                          refine AOps.guardT rfl rfl c14 ?_
                                          refine AOps.val (Gv.pickT (v := .bool _) rfl c16 rfl) ?_
                                          refine AOps.val (Gv.pickF (v := .bool _) rfl c14 rfl) ?_
                                          refine AOps.nil ?_
                                          exact ⟨(), ⟨rfl, rfl, rfl, rfl, rfl, rfl, rfl, rfl, rfl, rfl, rfl, rfl, trivial⟩, ⟨jb (by simp_all [bad2, wordB, hasV] <;> grind), trivial⟩, ⟨_, (.refl _), rfl⟩, trivial⟩
                                        · skip
                                          refine AOps.guardFd rfl rfl c16 ?_
                                          refine AOps.guardFd rfl rfl c16 ?_
                                          refine AOps.guardFd rfl rfl c16 ?_
                                          refine AOps.guardT rfl rfl c14 ?_
                                          refine AOps.val (Gv.pickF (v := .bool _) rfl c16 rfl) ?_
                                          refine AOps.val (Gv.pickF (v := .bool _) rfl c14 rfl) ?_
                                          refine AOps.nil ?_
                                          exact ⟨(), ⟨rfl, rfl, rfl, rfl, rfl, rfl, rfl, rfl, rfl, rfl, rfl, rfl, trivial⟩, ⟨jb (by simp_all [bad2, wordB, hasV] <;> grind), trivial⟩, ⟨_, (.refl _), rfl⟩, trivial⟩
                                      · skip
                                        refine AOps.guardFd rfl rfl c15 ?_
                                        refine AOps.guardFd rfl rfl c15 ?_
                                        refine AOps.guardFd rfl rfl c15 ?_
                                        refine AOps.guardT rfl rfl c14 ?_
                                        refine AOps.val (Gv.pickF (v := .bool _) rfl c15 rfl) ?_
                                        refine AOps.guardT rfl rfl c14 ?_
                                        refine AOps.val (Gv.move (v := .bool _) rfl) ?_
                                        refine AOps.guardFd rfl rfl rfl ?_
                                        refine AOps.guardFd rfl rfl rfl ?_
                                        refine AOps.guardFd rfl rfl rfl ?_
                                        refine AOps.guardT rfl rfl c14 ?_
                                        refine AOps.val (Gv.pickF (v := .bool _) rfl rfl rfl) ?_
                                        refine AOps.val (Gv.pickF (v := .bool _) rfl c14 rfl) ?_
                                        refine AOps.nil ?_
                                        exact ⟨(), ⟨rfl, rfl, rfl, rfl, rfl, rfl, rfl, rfl, rfl, rfl, rfl, rfl, trivial⟩, ⟨jb (by simp_all [bad2, wordB, hasV] <;> grind), trivial⟩, ⟨_, (.refl _), rfl⟩, trivial⟩
                                  · skip
                                    refine AOps.guardFd rfl rfl c13 ?_
                                    refine AOps.guardFd rfl rfl c13 ?_
                                    refine AOps.guardFd rfl rfl c13 ?_
                                    refine AOps.guardFd rfl rfl c13 ?_
                                    refine AOps.guardFd rfl rfl c13 ?_
                                    refine AOps.guardT rfl rfl c12 ?_
                                    refine AOps.val (Gv.pickF (v := .bool _) rfl c13 rfl) ?_
                                    refine AOps.val (Gv.pickF (v := .bool _) rfl c12 rfl) ?_
                                    refine AOps.val (Gv.move (v := .bool _) rfl) ?_
                                    refine AOps.guardT rfl rfl rfl ?_
                                    refine AOps.val (Gv.fieldO Tryz.underlying67 rfl Tryz.sizeOf2 (by decide) rfl rfl) ?_
                                    refine AOps.guardT rfl rfl rfl ?_
                                    refine AOps.val (Gv.load1C (c := .int _ _) Tryz.isAgg2 rfl ⟨_, .head⟩ rfl) ?_
                                    refine AOps.guardT rfl rfl rfl ?_
                                    refine AOps.val (Gv.neqI rfl rfl) ?_
                                    refine AOps.guardT rfl rfl rfl ?_
                                    refine AOps.val (Gv.move (v := .bool _) rfl) ?_
                                    refine AOps.case (s := 248) rfl (fun c17 => ?_) (fun c17 => ?_)
                                    · skip
                                      refine AOps.guardT rfl rfl c17 ?_
                                      refine AOps.val (Gv.fieldO Tryz.underlying116 rfl Tryz.sizeOf9 (by decide) rfl rfl) ?_
                                      refine AOps.guardT rfl rfl c17 ?_
                                      refine AOps.val (Gv.load1C (c := .str _) Tryz.isAgg9 rfl ⟨_, (.tail .head)⟩ rfl) ?_
                                      refine AOps.guardT rfl rfl c17 ?_
                                      refine AOps.val (Gv.neqT rfl rfl) ?_
                                      refine AOps.guardT rfl rfl rfl ?_
                                      refine AOps.val (Gv.pickT (v := .bool _) rfl c17 rfl) ?_
                                      refine AOps.guardT rfl rfl rfl ?_
                                      refine AOps.val (Gv.move (v := .bool _) rfl) ?_
                                      refine AOps.case (s := 253) rfl (fun c18 => ?_) (fun c18 => ?_)
                                      · skip
                                        refine AOps.guardT rfl rfl c18 ?_
                                        refine AOps.val (Gv.fieldO Tryz.underlying116 rfl Tryz.sizeOf9 (by decide) rfl rfl) ?_
                                        refine AOps.guardT rfl rfl c18 ?_
                                        refine AOps.val (Gv.load1C (c := .str _) Tryz.isAgg9 rfl ⟨_, (.tail .head)⟩ rfl) ?_
                                        refine AOps.guardT rfl rfl c18 ?_
                                        refine AOps.val (Gv.neqT rfl rfl) ?_
                                        refine AOps.guardT rfl rfl rfl ?_
                                        refine AOps.val (Gv.pickT (v := .bool _) rfl c18 rfl) ?_
                                        refine AOps.val (Gv.pickF (v := .bool _) rfl rfl rfl) ?_
                                        refine AOps.nil ?_
                                        exact ⟨(), ⟨rfl, rfl, rfl, rfl, rfl, rfl, rfl, rfl, rfl, rfl, rfl, rfl, trivial⟩, ⟨jb (by simp_all [bad2, wordB, hasV] <;> grind), trivial⟩, ⟨_, (.refl _), rfl⟩, trivial⟩
                                      · skip
                                        refine AOps.guardFd rfl rfl c18 ?_
                                        refine AOps.guardFd rfl rfl c18 ?_
                                        refine AOps.guardFd rfl rfl c18 ?_
                                        refine AOps.guardT rfl rfl rfl ?_
                                        refine AOps.val (Gv.pickF (v := .bool _) rfl c18 rfl) ?_
                                        refine AOps.val (Gv.pickF (v := .bool _) rfl rfl rfl) ?_
                                        refine AOps.nil ?_
                                        exact ⟨(), ⟨rfl, rfl, rfl, rfl, rfl, rfl, rfl, rfl, rfl, rfl, rfl, rfl, trivial⟩, ⟨jb (by simp_all [bad2, wordB, hasV] <;> grind), trivial⟩, ⟨_, (.refl _), rfl⟩, trivial⟩
                                    · skip
                                      refine AOps.guardFd rfl rfl c17 ?_
                                      refine AOps.guardFd rfl rfl c17 ?_
                                      refine AOps.guardFd rfl rfl c17 ?_
                                      refine AOps.guardT rfl rfl rfl ?_
                                      refine AOps.val (Gv.pickF (v := .bool _) rfl c17 rfl) ?_
                                      refine AOps.guardT rfl rfl rfl ?_
                                      refine AOps.val (Gv.move (v := .bool _) rfl) ?_
                                      refine AOps.guardFd rfl rfl rfl ?_
                                      refine AOps.guardFd rfl rfl rfl ?_
                                      refine AOps.guardFd rfl rfl rfl ?_
                                      refine AOps.guardT rfl rfl rfl ?_
                                      refine AOps.val (Gv.pickF (v := .bool _) rfl rfl rfl) ?_
                                      refine AOps.val (Gv.pickF (v := .bool _) rfl rfl rfl) ?_
                                      refine AOps.nil ?_
                                      exact ⟨(), ⟨rfl, rfl, rfl, rfl, rfl, rfl, rfl, rfl, rfl, rfl, rfl, rfl, trivial⟩, ⟨jb (by simp_all [bad2, wordB, hasV] <;> grind), trivial⟩, ⟨_, (.refl _), rfl⟩, trivial⟩
                            · skip
                              rintro _ _
                              refine AWP.cond rfl (fun cw => ?_) (fun cw => ?_)
                              · skip
                                refine AWP.seq ?_
                                refine AWP.region rfl ?_
                                refine AOps.val (Gv.assign (v := .bool _) rfl) ?_
                                refine AOps.nil ?_
                                refine AWP.ret ?_
                                repeat (first | refine aseqQ_ret ?_ | refine ablockQ_ret ?_)
                                refine afin.t1 (x := .bool _) rfl ?_
                                rw [decide_eq_false (fun h => by have := (h.2.2.2.2.2 _ (List.getElem_mem hk2)).2.1 _ (List.getElem_mem hp2); rw [this.2.2.1] at cw; cases cw)]
                              · skip
                                refine AWP.skip ?_
                                refine AWP.seq ?_
                                refine AWP.region rfl ?_
                                refine AOps.val (Gv.fieldO Tryz.underlying67 rfl Tryz.sizeOf24 (by decide) rfl rfl) ?_
                                refine AOps.val (Gv.load1C (c := .fro _ _) Tryz.isAgg24 rfl ⟨_, .head⟩ rfl) ?_
                                refine AOps.val (Gv.lenM Tryz.underlying24 rfl) ?_
                                refine AOps.val (Gv.move (v := .int _ _) rfl) ?_
                                refine AOps.nil ?_
                                refine AWP.block ?_
                                refine AWP.loop (γ := Nat) [1, 3, 9, 10, 12, 107, 108, 109, 197, 198, 199, 260, 261] (fun m => [(262, .int .i64 m)]) (fun m => [(i18, .cells 67 (encInst f.blocks[j].insts[p])), (i12, .cells 48 (encBlk f.blocks[j]))]) (fun m => m ≤ f.blocks[j].insts[p].args.length ∧ (f.blocks[j].insts[p].args.take m).all (hasV f) = true) (fun m => f.blocks[j].insts[p].args.length - m) 0 ⟨rfl, trivial⟩ ⟨_, (.keep (.drop (.refl _))), rfl⟩ (⟨Nat.zero_le _, rfl⟩) ?_
                                rintro m ⟨hm, ha1⟩
                                refine AWP.seq ?_
                                refine AWP.region rfl ?_
                                refine AOps.val (Gv.lss rfl rfl) ?_
                                refine AOps.nil ?_
                                refine AWP.seq ?_
                                refine AWP.condP rfl (fun cm => ?_) (fun cm => ?_)
                                · skip
                                  have hm1 : m < f.blocks[j].insts[p].args.length := by omega
                                  refine AWP.skip ?_
                                  refine AWP.seq ?_
                                  refine AWP.block ?_
                                  refine AWP.seq ?_
                                  refine AWP.region rfl ?_
                                  refine AOps.val (Gv.idxM Tryz.underlying24 Tryz.sizeOf3 rfl rfl rfl (List.getElem?_eq_getElem (by omega))) ?_
                                  refine AOps.val (Gv.load1F (c := .int _ _) Tryz.isAgg3 rfl) ?_
                                  refine AOps.val (Gv.assign (v := .int _ _) rfl) ?_
                                  refine AOps.nil ?_
                                  refine AWP.seq ?_
                                  refine AWP.region rfl ?_
                                  refine AOps.val (Gv.move (v := .int _ _) rfl) ?_
                                  refine AOps.val (Gv.move (v := .int _ _) rfl) ?_
                                  refine AOps.callP (in_spec _ _) rfl ?_
                                  refine AOps.val (Gv.not rfl) ?_
                                  refine AOps.nil ?_
                                  refine AWP.cond rfl (fun ca => ?_) (fun ca => ?_)
                                  · skip
                                    have ca : hasV f f.blocks[j].insts[p].args[m] = false := by simp [hasV] at ca ⊢; omega
                                    refine AWP.seq ?_
                                    refine AWP.region rfl ?_
                                    refine AOps.val (Gv.assign (v := .bool _) rfl) ?_
                                    refine AOps.nil ?_
                                    refine AWP.ret ?_
                                    repeat (first | refine aseqQ_ret ?_ | refine ablockQ_ret ?_)
                                    refine afin.t1 (x := .bool _) rfl ?_
                                    rw [decide_eq_false (fun h => by have := (h.2.2.2.2.2 _ (List.getElem_mem hk2)).2.1 _ (List.getElem_mem hp2); have h6 := List.all_eq_true.1 this.2.2.2 _ (List.getElem_mem hm1); rw [ca] at h6; cases h6)]
                                  · skip
                                    have ca : hasV f f.blocks[j].insts[p].args[m] = true := by simp [hasV] at ca ⊢; omega
                                    refine AWP.skip ?_
                                    refine AWP.region rfl ?_
                                    refine AOps.val (Gv.add rfl rfl (by unfold I64; omega)) ?_
                                    refine AOps.val (Gv.move (v := .int _ _) rfl) ?_
                                    refine AOps.nil ?_
                                    exact ⟨m + 1, ⟨rfl, rfl, rfl, rfl, rfl, rfl, rfl, rfl, rfl, rfl, rfl, rfl, rfl, trivial⟩, ⟨rfl, trivial⟩, ⟨_, (.refl _), rfl⟩, ⟨hm1, all_take hm1 ha1 ca⟩, by omega⟩
                                · skip
                                  rw [take_len (by omega)] at ha1
                                  refine AWP.exit ?_
                                  refine AWP.region rfl ?_
                                  refine AOps.val (Gv.add rfl rfl (by unfold I64; omega)) ?_
                                  refine AOps.val (Gv.move (v := .int _ _) rfl) ?_
                                  refine AOps.nil ?_
                                  exact ⟨p + 1, ⟨rfl, rfl, rfl, rfl, rfl, rfl, rfl, rfl, rfl, rfl, trivial⟩, ⟨rfl, trivial⟩, ⟨_, (.drop (.refl _)), rfl⟩, ⟨hp2, forall_take hp2 hins ⟨hop.1, hop.2, cw, ha1⟩⟩, by omega⟩
                    · skip
                      rw [take_len (by omega)] at hins
                      refine AWP.exit ?_
                      refine AWP.seq ?_
                      refine AWP.region rfl ?_
                      refine AOps.val (Gv.fieldO Tryz.underlying48 rfl Tryz.sizeOf46 (by decide) rfl rfl) ?_
                      refine AOps.val (Gv.loadAC (l := [_, _, _, _]) Tryz.isAgg46 Tryz.sizeOf46 rfl ⟨_, .head⟩ rfl rfl) ?_
                      refine AOps.alloc (cs := [.int .i64 0, .int .i64 0, .int .i64 0, .int .i64 0]) Tryz.zeroValue46 rfl rfl ?_
                      intro i22
                      refine AOps.storeW Tryz.sizeOf46 rfl rfl rfl rfl rfl rfl .head rfl ?_
                      refine AOps.nil ?_
                      refine AWP.seq ?_
                      refine AWP.region rfl ?_
                      refine AOps.val (Gv.assign (v := .bool _) rfl) ?_
                      refine AOps.nil ?_
                      refine AWP.seq ?_
                      refine AWP.seq ?_
                      refine AWP.region rfl ?_
                      refine AOps.val (Gv.fieldO Tryz.underlying46 rfl Tryz.sizeOf43 (by decide) rfl rfl) ?_
                      refine AOps.val (Gv.load1C (c := .int _ _) Tryz.isAgg43 rfl ⟨_, .head⟩ rfl) ?_
                      refine AOps.nil ?_
                      refine AWP.cutS (γ := Unit) [1, 3, 9, 10, 107, 108, 109] (fun u => [(23, .bool (termOK f f.blocks[j].term))]) (fun u => []) (fun u => True) ?_ (fun _ _ h => h) ?_
                      · skip
                        refine AWP.block ?_
                        refine AWP.seq ?_
                        refine AWP.region rfl ?_
                        refine AOps.val (Gv.eqlI rfl rfl) ?_
                        refine AOps.val (Gv.assign (v := .bool _) rfl) ?_
                        refine AOps.nil ?_
                        refine AWP.cond rfl (fun c19 => ?_) (fun c19 => ?_)
                        · skip
                          refine AWP.region rfl ?_
                          refine AOps.val (Gv.fieldO Tryz.underlying46 rfl Tryz.sizeOf44 (by decide) rfl rfl) ?_
                          refine AOps.val (Gv.idxAO (j := 0) Tryz.underlying44 Tryz.sizeOf3 rfl rfl rfl (by decide) rfl) ?_
                          refine AOps.val (Gv.load1C (c := .int _ _) Tryz.isAgg3 rfl ⟨_, .head⟩ rfl) ?_
                          refine AOps.val (Gv.move (v := .int _ _) rfl) ?_
                          refine AOps.callP (in_spec _ _) rfl ?_
                          refine AOps.val (Gv.move (v := .bool _) rfl) ?_
                          refine AOps.case (s := 283) rfl (fun c20 => ?_) (fun c20 => ?_)
                          · skip
                            refine AOps.guardT rfl rfl c20 ?_
                            refine AOps.val (Gv.fieldO Tryz.underlying46 rfl Tryz.sizeOf44 (by decide) rfl rfl) ?_
                            refine AOps.guardT rfl rfl c20 ?_
                            refine AOps.val (Gv.idxAO (j := 1) Tryz.underlying44 Tryz.sizeOf3 rfl rfl rfl (by decide) rfl) ?_
                            refine AOps.guardT rfl rfl c20 ?_
                            refine AOps.val (Gv.load1C (c := .int _ _) Tryz.isAgg3 rfl ⟨_, .head⟩ rfl) ?_
                            refine AOps.guardT rfl rfl c20 ?_
                            refine AOps.val (Gv.eqlI rfl rfl) ?_
                            refine AOps.val (Gv.pickT (v := .bool _) rfl c20 rfl) ?_
                            refine AOps.val (Gv.move (v := .bool _) rfl) ?_
                            refine AOps.case (s := 289) rfl (fun c21 => ?_) (fun c21 => ?_)
                            · skip
                              refine AOps.guardT rfl rfl c21 ?_
                              refine AOps.val (Gv.fieldO Tryz.underlying46 rfl Tryz.sizeOf3 (by decide) rfl rfl) ?_
                              refine AOps.guardT rfl rfl c21 ?_
                              refine AOps.val (Gv.load1C (c := .int _ _) Tryz.isAgg3 rfl ⟨_, .head⟩ rfl) ?_
                              refine AOps.guardT rfl rfl c21 ?_
                              refine AOps.val (Gv.eqlI rfl rfl) ?_
                              refine AOps.val (Gv.pickT (v := .bool _) rfl c21 rfl) ?_
                              refine AOps.val (Gv.assign (v := .bool _) rfl) ?_
                              refine AOps.nil ?_
                              exact ⟨(), ⟨rfl, rfl, rfl, rfl, rfl, rfl, rfl, trivial⟩, ⟨jb (by simp_all [termOK, hasV, hasB] <;> grind), trivial⟩, ⟨_, (.drop (.drop (.refl _))), rfl⟩, trivial⟩
                            · skip
                              refine AOps.guardFd rfl rfl c21 ?_
                              refine AOps.guardFd rfl rfl c21 ?_
                              refine AOps.guardFd rfl rfl c21 ?_
                              refine AOps.val (Gv.pickF (v := .bool _) rfl c21 rfl) ?_
                              refine AOps.val (Gv.assign (v := .bool _) rfl) ?_
                              refine AOps.nil ?_
                              exact ⟨(), ⟨rfl, rfl, rfl, rfl, rfl, rfl, rfl, trivial⟩, ⟨jb (by simp_all [termOK, hasV, hasB] <;> grind), trivial⟩, ⟨_, (.drop (.drop (.refl _))), rfl⟩, trivial⟩
                          · skip
                            refine AOps.guardFd rfl rfl c20 ?_
                            refine AOps.guardFd rfl rfl c20 ?_
                            refine AOps.guardFd rfl rfl c20 ?_
                            refine AOps.guardFd rfl rfl c20 ?_
                            refine AOps.val (Gv.pickF (v := .bool _) rfl c20 rfl) ?_
                            refine AOps.val (Gv.move (v := .bool _) rfl) ?_
                            refine AOps.guardFd rfl rfl rfl ?_
                            refine AOps.guardFd rfl rfl rfl ?_
                            refine AOps.guardFd rfl rfl rfl ?_
                            refine AOps.val (Gv.pickF (v := .bool _) rfl rfl rfl) ?_
                            refine AOps.val (Gv.assign (v := .bool _) rfl) ?_
                            refine AOps.nil ?_
                            exact ⟨(), ⟨rfl, rfl, rfl, rfl, rfl, rfl, rfl, trivial⟩, ⟨jb (by simp_all [termOK, hasV, hasB] <;> grind), trivial⟩, ⟨_, (.drop (.drop (.refl _))), rfl⟩, trivial⟩
                        · skip
                          refine AWP.seq ?_
                          refine AWP.region rfl ?_
                          refine AOps.val (Gv.eqlI rfl rfl) ?_
                          refine AOps.val (Gv.assign (v := .bool _) rfl) ?_
                          refine AOps.nil ?_
                          refine AWP.cond rfl (fun c22 => ?_) (fun c22 => ?_)
                          · skip
                            refine AWP.region rfl ?_
                            refine AOps.val (Gv.fieldO Tryz.underlying46 rfl Tryz.sizeOf3 (by decide) rfl rfl) ?_
                            refine AOps.val (Gv.load1C (c := .int _ _) Tryz.isAgg3 rfl ⟨_, .head⟩ rfl) ?_
                            refine AOps.val (Gv.move (v := .int _ _) rfl) ?_
                            refine AOps.callP (in_spec _ _) rfl ?_
                            refine AOps.val (Gv.move (v := .bool _) rfl) ?_
                            refine AOps.case (s := 300) rfl (fun c23 => ?_) (fun c23 => ?_)
                            · skip
                              refine AOps.guardT rfl rfl c23 ?_
                              refine AOps.val (Gv.fieldO Tryz.underlying46 rfl Tryz.sizeOf44 (by decide) rfl rfl) ?_
                              refine AOps.guardT rfl rfl c23 ?_
                              refine AOps.val (Gv.idxAO (j := 0) Tryz.underlying44 Tryz.sizeOf3 rfl rfl rfl (by decide) rfl) ?_
                              refine AOps.guardT rfl rfl c23 ?_
                              refine AOps.val (Gv.load1C (c := .int _ _) Tryz.isAgg3 rfl ⟨_, .head⟩ rfl) ?_
                              refine AOps.guardT rfl rfl c23 ?_
                              refine AOps.val (Gv.move (v := .int _ _) rfl) ?_
                              refine AOps.guardT rfl rfl c23 ?_
                              refine AOps.callP (in_spec _ _) rfl ?_
                              refine AOps.val (Gv.pickT (v := .bool _) rfl c23 rfl) ?_
                              refine AOps.val (Gv.move (v := .bool _) rfl) ?_
                              refine AOps.case (s := 307) rfl (fun c24 => ?_) (fun c24 => ?_)
                              · skip
                                refine AOps.guardT rfl rfl c24 ?_
                                refine AOps.val (Gv.fieldO Tryz.underlying46 rfl Tryz.sizeOf44 (by decide) rfl rfl) ?_
                                refine AOps.guardT rfl rfl c24 ?_
                                refine AOps.val (Gv.idxAO (j := 1) Tryz.underlying44 Tryz.sizeOf3 rfl rfl rfl (by decide) rfl) ?_
                                refine AOps.guardT rfl rfl c24 ?_
                                refine AOps.val (Gv.load1C (c := .int _ _) Tryz.isAgg3 rfl ⟨_, .head⟩ rfl) ?_
                                refine AOps.guardT rfl rfl c24 ?_
                                refine AOps.val (Gv.move (v := .int _ _) rfl) ?_
                                refine AOps.guardT rfl rfl c24 ?_
                                refine AOps.callP (in_spec _ _) rfl ?_
                                refine AOps.val (Gv.pickT (v := .bool _) rfl c24 rfl) ?_
                                refine AOps.val (Gv.assign (v := .bool _) rfl) ?_
                                refine AOps.nil ?_
                                exact ⟨(), ⟨rfl, rfl, rfl, rfl, rfl, rfl, rfl, trivial⟩, ⟨jb (by simp_all [termOK, hasV, hasB] <;> grind), trivial⟩, ⟨_, (.drop (.drop (.refl _))), rfl⟩, trivial⟩
                              · skip
                                refine AOps.guardFd rfl rfl c24 ?_
                                refine AOps.guardFd rfl rfl c24 ?_
                                refine AOps.guardFd rfl rfl c24 ?_
                                refine AOps.guardFd rfl rfl c24 ?_
                                refine AOps.guardFd rfl rfl c24 ?_
                                refine AOps.val (Gv.pickF (v := .bool _) rfl c24 rfl) ?_
                                refine AOps.val (Gv.assign (v := .bool _) rfl) ?_
                                refine AOps.nil ?_
                                exact ⟨(), ⟨rfl, rfl, rfl, rfl, rfl, rfl, rfl, trivial⟩, ⟨jb (by simp_all [termOK, hasV, hasB] <;> grind), trivial⟩, ⟨_, (.drop (.drop (.refl _))), rfl⟩, trivial⟩
                            · skip
                              refine AOps.guardFd rfl rfl c23 ?_
                              refine AOps.guardFd rfl rfl c23 ?_
                              refine AOps.guardFd rfl rfl c23 ?_
                              refine AOps.guardFd rfl rfl c23 ?_
                              refine AOps.guardFd rfl rfl c23 ?_
                              refine AOps.val (Gv.pickF (v := .bool _) rfl c23 rfl) ?_
                              refine AOps.val (Gv.move (v := .bool _) rfl) ?_
                              refine AOps.guardFd rfl rfl rfl ?_
                              refine AOps.guardFd rfl rfl rfl ?_
                              refine AOps.guardFd rfl rfl rfl ?_
                              refine AOps.guardFd rfl rfl rfl ?_
                              refine AOps.guardFd rfl rfl rfl ?_
                              refine AOps.val (Gv.pickF (v := .bool _) rfl rfl rfl) ?_
                              refine AOps.val (Gv.assign (v := .bool _) rfl) ?_
                              refine AOps.nil ?_
                              exact ⟨(), ⟨rfl, rfl, rfl, rfl, rfl, rfl, rfl, trivial⟩, ⟨jb (by simp_all [termOK, hasV, hasB] <;> grind), trivial⟩, ⟨_, (.drop (.drop (.refl _))), rfl⟩, trivial⟩
                          · skip
                            refine AWP.seq ?_
                            refine AWP.region rfl ?_
                            refine AOps.val (Gv.eqlI rfl rfl) ?_
                            refine AOps.val (Gv.assign (v := .bool _) rfl) ?_
                            refine AOps.nil ?_
                            refine AWP.cond rfl (fun c25 => ?_) (fun c25 => ?_)
                            · skip
                              refine AWP.region rfl ?_
                              refine AOps.val (Gv.fieldO Tryz.underlying46 rfl Tryz.sizeOf3 (by decide) rfl rfl) ?_
                              refine AOps.val (Gv.load1C (c := .int _ _) Tryz.isAgg3 rfl ⟨_, .head⟩ rfl) ?_
                              refine AOps.val (Gv.move (v := .int _ _) rfl) ?_
                              refine AOps.callP (in_spec _ _) rfl ?_
                              refine AOps.val (Gv.move (v := .bool _) rfl) ?_
                              refine AOps.case (s := 320) rfl (fun c26 => ?_) (fun c26 => ?_)
                              · skip
                                refine AOps.guardT rfl rfl c26 ?_
                                refine AOps.val (Gv.fieldO Tryz.underlying46 rfl Tryz.sizeOf44 (by decide) rfl rfl) ?_
                                refine AOps.guardT rfl rfl c26 ?_
                                refine AOps.val (Gv.loadAC (l := [_, _]) Tryz.isAgg44 Tryz.sizeOf44 rfl ⟨_, .head⟩ rfl rfl) ?_
                                refine AOps.guardT rfl rfl c26 ?_
                                refine AOps.val (Gv.buildA (cps := []) (rs := [.int .i64 0, .int .i64 0]) pl44 rfl rfl rfl) ?_
                                refine AOps.guardT rfl rfl c26 ?_
                                refine AOps.val (Gv.eqlP (xs := [.int _ _, .int _ _]) (ys := [.int _ _, .int _ _]) (by kernel_rfl) rfl rfl (fun w => eq_arr10 _ _ _ _ w)) ?_
                                refine AOps.val (Gv.pickT (v := .bool _) rfl c26 rfl) ?_
                                refine AOps.val (Gv.assign (v := .bool _) rfl) ?_
                                refine AOps.nil ?_
                                exact ⟨(), ⟨rfl, rfl, rfl, rfl, rfl, rfl, rfl, trivial⟩, ⟨jb (by simp_all [termOK, hasV, hasB] <;> grind), trivial⟩, ⟨_, (.drop (.drop (.refl _))), rfl⟩, trivial⟩
                              · skip
                                refine AOps.guardFd rfl rfl c26 ?_
                                refine AOps.guardFd rfl rfl c26 ?_
                                refine AOps.guardFd rfl rfl c26 ?_
                                refine AOps.guardFd rfl rfl c26 ?_
                                refine AOps.val (Gv.pickF (v := .bool _) rfl c26 rfl) ?_
                                refine AOps.val (Gv.assign (v := .bool _) rfl) ?_
                                refine AOps.nil ?_
                                exact ⟨(), ⟨rfl, rfl, rfl, rfl, rfl, rfl, rfl, trivial⟩, ⟨jb (by simp_all [termOK, hasV, hasB] <;> grind), trivial⟩, ⟨_, (.drop (.drop (.refl _))), rfl⟩, trivial⟩
                            · skip
                              refine AWP.skip ?_
                              exact ⟨(), ⟨rfl, rfl, rfl, rfl, rfl, rfl, rfl, trivial⟩, ⟨jb (by simp_all [termOK, hasV, hasB] <;> grind), trivial⟩, ⟨_, (.drop (.drop (.refl _))), rfl⟩, trivial⟩
                      · skip
                        rintro _ _
                        refine AWP.seq ?_
                        refine AWP.region rfl ?_
                        refine AOps.val (Gv.move (v := .bool _) rfl) ?_
                        refine AOps.val (Gv.not rfl) ?_
                        refine AOps.nil ?_
                        refine AWP.cond rfl (fun ct => ?_) (fun ct => ?_)
                        · skip
                          refine AWP.seq ?_
                          refine AWP.region rfl ?_
                          refine AOps.val (Gv.assign (v := .bool _) rfl) ?_
                          refine AOps.nil ?_
                          refine AWP.ret ?_
                          repeat (first | refine aseqQ_ret ?_ | refine ablockQ_ret ?_)
                          refine afin.t1 (x := .bool _) rfl ?_
                          rw [decide_eq_false (fun h => by have := (h.2.2.2.2.2 _ (List.getElem_mem hk2)).2.2; rw [this] at ct; cases ct)]
                        · skip
                          have ct : termOK f f.blocks[j].term = true := by simpa using ct
                          refine AWP.skip ?_
                          refine AWP.region rfl ?_
                          refine AOps.val (Gv.add rfl rfl (by unfold I64; omega)) ?_
                          refine AOps.val (Gv.move (v := .int _ _) rfl) ?_
                          refine AOps.nil ?_
                          exact ⟨j + 1, ⟨rfl, rfl, rfl, rfl, rfl, trivial⟩, ⟨rfl, (congrArg (AV.int .i64) (by rw [hs1]; omega)), trivial⟩, ⟨_, (.refl _), rfl⟩, ⟨hk2, fun i h hi => by rcases Nat.lt_or_ge i j with h3 | h3; exact hnam i h h3; obtain rfl : i = j := (by omega); exact ⟨by simpa using cv, hno⟩, by omega, forall_take hk2 hblk ⟨hphi, hins, ct⟩⟩, by omega⟩
          · skip
            have hkn : k = f.blocks.length := by omega
            subst hkn
            rw [List.take_length] at hsum hblk
            refine AWP.exit ?_
            refine AWP.seq ?_
            refine AWP.region rfl ?_
            refine AOps.val (Gv.assign (v := .bool _) rfl) ?_
            refine AOps.nil ?_
            refine AWP.ret ?_
            repeat (first | refine aseqQ_ret ?_ | refine ablockQ_ret ?_)
            refine afin.t1 (x := .bool _) rfl ?_
            rw [decide_eq_true (show ShapedP f from ⟨c1, hpars, hvars, fun i h => hnam i h h, hsum, hblk⟩)]
end Go.Proofs.YtdkhlgiohpdihaaGreatDoor
namespace Go.Proofs.YtdkhlgiohpdihaaGreatDoor
theorem Pick.perm {O O' : OL} {i : Nat} {o : AObj} (h : Pick O i o O') : O.Perm ((i, o) :: O') := by
  induction h with
  | head => exact .refl _
  | tail _ ih => exact (ih.cons _).trans (.swap _ _ _)
section
variable {E : World} {P : Program} {f : FuncId} {as0 : List AV} {O : OL}
theorem ACall.exact {γ : Type} {x : γ → AV} {M : γ → OL} {p : γ → Prop} (h : ACall P E f as0 O (fun y O' => ∃ g, y = x g ∧ Left O' (M g) ∧ p g)) : ACall P E f as0 O (fun y O' => ∃ g, y = x g ∧ O' = M g ∧ p g) :=
  h.know fun I F w v y O' ⟨g, e, hl, hp⟩ h1 h2 => ⟨I, y, M g, .refl _, h1, hl.sla h2, g, e, rfl, hp⟩
theorem ACall.frozen {k m : Nat} {T : TypeId} {rows : List (List AV)} (h : ACall P E f as0 [] (fun y O' => ∃ i : Nat, y = .own i m ∧ Left O' [(i, .grow k T rows.flatten)] ∧ True)) (hk : ∀ r ∈ rows, r.length = k) (hk0 : 0 < k) (hm : rows.length = m) : AFun P E f as0 (.fro k rows) :=
  h.know fun I F w v y O' ⟨i, e, hl, _⟩ h1 h2 => by
    subst e
    obtain ⟨J, h3, h4, h5⟩ := Go.Proofs.YtdkhlgiohpdihaaGreatDoor.know .head hk hk0 hm (hl.sla h2)
    exact ⟨J, _, [], h3, h5 _ h1, h4, rfl⟩
end
end Go.Proofs.YtdkhlgiohpdihaaGreatDoor
namespace Go.Proofs.YtdkhlgiohpdihaaGreatDoor
open Go.Proofs Go.Lib Go.Shelf Go.RowKit
set_option maxRecDepth 20000
variable {E : World}
def smallBlk (b : PBlock) : Prop := b.name.size ≤ 1000 ∧ b.phis.length ≤ 1000 ∧ b.insts.length ≤ 1000 ∧ (∀ p ∈ b.phis, p.args.length ≤ 1000 ∧ p.from_.length ≤ 1000) ∧ ∀ x ∈ b.insts, x.args.length ≤ 1000
def small (f : PFunc) : Prop := f.vars.length ≤ 1000 ∧ f.params.length ≤ 1000 ∧ f.blocks.length ≤ 1000 ∧ (∀ v ∈ f.vars, v.name.size ≤ 1000) ∧ ∀ b ∈ f.blocks, smallBlk b
theorem small.ok {f : PFunc} (h : small f) : okFunc f := by
  obtain ⟨h1, h2, h3, h4, h5⟩ := h
  refine ⟨by unfold okL; omega, by unfold okL; omega, by unfold okL; omega, fun b hb => ?_⟩
  obtain ⟨g1, g2, g3, g4, g5⟩ := h5 b hb
  exact ⟨by unfold okL; omega, by unfold okL; omega, fun p hp => ⟨by have := g4 p hp; unfold okL; omega, by have := g4 p hp; unfold okL; omega⟩, fun x hx => by have := g5 x hx; unfold okL; omega⟩
theorem small.names {f : PFunc} (h : small f) : okNames f := ⟨fun v hv => by have := h.2.2.2.1 v hv; omega, fun b hb => by have := (h.2.2.2.2 b hb).1; omega⟩
end Go.Proofs.YtdkhlgiohpdihaaGreatDoor
