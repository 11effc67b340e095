/- What is little; an instruction's line by the document; an end's line. No conditions but bounds. -/
import Derived.Test.YtlfhoiakmbcnlaaDoorPf
namespace Go.Proofs.YtlfhoiakmbcnlaaDoor
open Go.Proofs Go.Lib Go.Shelf Go.RowKit

set_option maxRecDepth 20000
variable {E : World}

def wV (l : List PVar) : Nat := (l.map fun v => v.name.size).sum
def wP (l : List PPhi) : Nat := (l.map fun p => p.args.length + p.from_.length).sum
def wX (l : List PInst) : Nat := (l.map fun x => x.args.length).sum
def wB (b : PBlock) : Nat := b.name.size + 10 * (b.phis.length + b.insts.length) + wP b.phis + wX b.insts
def wBs (l : List PBlock) : Nat := (l.map wB).sum
theorem wV_succ {l : List PVar} {k : Nat} (h : k < l.length) : wV (l.take (k + 1)) = wV (l.take k) + l[k].name.size := by
  unfold wV; rw [List.take_succ_eq_append_getElem h, List.map_append, List.sum_append]; simp only [List.map_cons, List.map_nil, List.sum_cons, List.sum_nil, Nat.add_zero]
theorem wP_succ {l : List PPhi} {k : Nat} (h : k < l.length) : wP (l.take (k + 1)) = wP (l.take k) + (l[k].args.length + l[k].from_.length) := by
  unfold wP; rw [List.take_succ_eq_append_getElem h, List.map_append, List.sum_append]; simp only [List.map_cons, List.map_nil, List.sum_cons, List.sum_nil, Nat.add_zero]
theorem wX_succ {l : List PInst} {k : Nat} (h : k < l.length) : wX (l.take (k + 1)) = wX (l.take k) + l[k].args.length := by
  unfold wX; rw [List.take_succ_eq_append_getElem h, List.map_append, List.sum_append]; simp only [List.map_cons, List.map_nil, List.sum_cons, List.sum_nil, Nat.add_zero]
theorem wBs_succ {l : List PBlock} {k : Nat} (h : k < l.length) : wBs (l.take (k + 1)) = wBs (l.take k) + wB l[k] := by
  unfold wBs; rw [List.take_succ_eq_append_getElem h, List.map_append, List.sum_append]; simp only [List.map_cons, List.map_nil, List.sum_cons, List.sum_nil, Nat.add_zero]

/-- What Few promises. -/
def littleB (b : PBlock) : Prop := b.name.size ≤ 400 ∧ b.phis.length ≤ 400 ∧ b.insts.length ≤ 400 ∧ (∀ p ∈ b.phis, p.args.length ≤ 400 ∧ p.from_.length ≤ 400) ∧ ∀ x ∈ b.insts, x.args.length ≤ 400
def little (f : PFunc) : Prop := f.vars.length ≤ 100 ∧ f.blocks.length ≤ 40 ∧ f.params.length ≤ 20 ∧ (∀ v ∈ f.vars, v.name.size ≤ 400) ∧ (∀ b ∈ f.blocks, littleB b) ∧ (f.blocks ≠ [] → wV f.vars + wBs f.blocks ≤ 4000)
theorem little.small {f : PFunc} (h : little f) : small f := by
  obtain ⟨h1, h2, h3, h4, h5, _⟩ := h
  refine ⟨by omega, by omega, by omega, fun v hv => by have := h4 v hv; omega, fun b hb => ?_⟩
  obtain ⟨g1, g2, g3, g4, g5⟩ := h5 b hb
  exact ⟨by omega, by omega, by omega, fun p hp => by have := g4 p hp; omega, fun x hx => by have := g5 x hx; omega⟩

def wL {α : Type} (l : List α) : Prop := l.length ≤ 9223372036854775807
def wPhi (p : PPhi) : Prop := wL p.args ∧ wL p.from_
def wBlk (b : PBlock) : Prop := wL b.phis ∧ wL b.insts ∧ (∀ p ∈ b.phis, wPhi p) ∧ (∀ x ∈ b.insts, wL x.args)
def wFunc (f : PFunc) : Prop := wL f.vars ∧ wL f.params ∧ wL f.blocks ∧ ∀ b ∈ f.blocks, wBlk b
theorem wL.lt {α : Type} {l : List α} (h : wL l) : l.length ≤ 9223372036854775807 := h

def few1 (f : PFunc) : Bool := decide ((100 : Int) < f.vars.length) || (decide ((40 : Int) < f.blocks.length) || decide ((20 : Int) < f.params.length))
def few2 (b : PBlock) : Bool := decide ((400 : Int) < b.name.size) || (decide ((400 : Int) < b.phis.length) || decide ((400 : Int) < b.insts.length))

set_option maxHeartbeats 8000000 in
theorem few_spec (f : PFunc) (hf : wFunc f) : ACall Tryd.prog E 6 [.agg (encF f)] [] (fun x _ => ∃ b : Bool, x = .bool b ∧ (b = true → little f)) := by
  obtain ⟨hf1, hf2, hf3, hf4⟩ := hf
  have hl1 := hf1.lt
  have hl3 := hf3.lt
  refine ACall.intro Tryd.func6 rfl (by decide) rfl ?_
  refine AWP.seq ?_
  refine AWP.region rfl ?_
  refine AOps.boxF (cs := _) rfl rfl rfl ?_
  refine AOps.val (Gv.assign (v := .bool _) rfl) ?_
  refine AOps.nil ?_
  refine AWP.seq ?_
  refine AWP.seq ?_
  refine AWP.cutS (γ := Unit) [1] (fun u => [(27, .bool (few1 f))]) (fun u => []) (fun u => True) ?_ (fun _ _ h => h) ?_
  · skip
    refine AWP.region rfl ?_
    refine AOps.val (Gv.fieldF Tryd.underlying26 rfl Tryd.sizeOf22 (by decide) rfl rfl) ?_
    refine AOps.val (Gv.load1F (c := .fro _ _) Tryd.isAgg22 rfl) ?_
    refine AOps.val (Gv.lenM Tryd.underlying22 rfl) ?_
    refine AOps.val (Gv.gtr rfl rfl) ?_
    refine AOps.val (Gv.move (v := .bool _) rfl) ?_
    refine AOps.case (s := 16) rfl (fun c1 => ?_) (fun c1 => ?_)
    · skip
      refine AOps.guardFd rfl rfl c1 ?_
      refine AOps.guardFd rfl rfl c1 ?_
      refine AOps.guardFd rfl rfl c1 ?_
      refine AOps.guardFd rfl rfl c1 ?_
      refine AOps.val (Gv.pickT (v := .bool _) rfl c1 rfl) ?_
      refine AOps.val (Gv.move (v := .bool _) rfl) ?_
      refine AOps.guardFd rfl rfl rfl ?_
      refine AOps.guardFd rfl rfl rfl ?_
      refine AOps.guardFd rfl rfl rfl ?_
      refine AOps.guardFd rfl rfl rfl ?_
      refine AOps.val (Gv.pickT (v := .bool _) rfl rfl rfl) ?_
      refine AOps.nil ?_
      exact ⟨(), ⟨rfl, trivial⟩, ⟨jb (by simp_all [few1] <;> grind), trivial⟩, ⟨_, (.refl _), rfl⟩, trivial⟩
    · skip
      refine AOps.guardT rfl rfl c1 ?_
      refine AOps.val (Gv.fieldF Tryd.underlying26 rfl Tryd.sizeOf24 (by decide) rfl rfl) ?_
      refine AOps.guardT rfl rfl c1 ?_
      refine AOps.val (Gv.load1F (c := .fro _ _) Tryd.isAgg24 rfl) ?_
      refine AOps.guardT rfl rfl c1 ?_
      refine AOps.val (Gv.lenM Tryd.underlying24 rfl) ?_
      refine AOps.guardT rfl rfl c1 ?_
      refine AOps.val (Gv.gtr rfl rfl) ?_
      refine AOps.val (Gv.pickF (v := .bool _) rfl c1 rfl) ?_
      refine AOps.val (Gv.move (v := .bool _) rfl) ?_
      refine AOps.case (s := 22) rfl (fun c2 => ?_) (fun c2 => ?_)
      · skip
        refine AOps.guardFd rfl rfl c2 ?_
        refine AOps.guardFd rfl rfl c2 ?_
        refine AOps.guardFd rfl rfl c2 ?_
        refine AOps.guardFd rfl rfl c2 ?_
        refine AOps.val (Gv.pickT (v := .bool _) rfl c2 rfl) ?_
        refine AOps.nil ?_
        exact ⟨(), ⟨rfl, trivial⟩, ⟨jb (by simp_all [few1] <;> grind), trivial⟩, ⟨_, (.refl _), rfl⟩, trivial⟩
      · skip
        refine AOps.guardT rfl rfl c2 ?_
        refine AOps.val (Gv.fieldF Tryd.underlying26 rfl Tryd.sizeOf23 (by decide) rfl rfl) ?_
        refine AOps.guardT rfl rfl c2 ?_
        refine AOps.val (Gv.load1F (c := .fro _ _) Tryd.isAgg23 rfl) ?_
        refine AOps.guardT rfl rfl c2 ?_
        refine AOps.val (Gv.lenM Tryd.underlying23 rfl) ?_
        refine AOps.guardT rfl rfl c2 ?_
        refine AOps.val (Gv.gtr rfl rfl) ?_
        refine AOps.val (Gv.pickF (v := .bool _) rfl c2 rfl) ?_
        refine AOps.nil ?_
        exact ⟨(), ⟨rfl, trivial⟩, ⟨jb (by simp_all [few1] <;> grind), trivial⟩, ⟨_, (.refl _), rfl⟩, trivial⟩
  · skip
    rintro _ _
    refine AWP.cond rfl (fun c1 => ?_) (fun c1 => ?_)
    · skip
      refine AWP.seq ?_
      refine AWP.region rfl ?_
      refine AOps.val (Gv.assign (v := .bool _) rfl) ?_
      refine AOps.nil ?_
      refine AWP.ret ?_
      repeat (first | refine aseqQ_ret ?_ | refine ablockQ_ret ?_)
      refine afin.t1 (x := .bool _) rfl ?_
      exact ⟨_, rfl, fun h => by cases h⟩
    · skip
      have hsz : f.vars.length ≤ 100 ∧ f.blocks.length ≤ 40 ∧ f.params.length ≤ 20 := by unfold few1 at c1; simp at c1; omega
      refine AWP.skip ?_
      refine AWP.seq ?_
      refine AWP.region rfl ?_
      refine AOps.val (Gv.assign (v := .int _ _) rfl) ?_
      refine AOps.nil ?_
      refine AWP.seq ?_
      refine AWP.seq ?_
      refine AWP.region rfl ?_
      refine AOps.val (Gv.fieldF Tryd.underlying26 rfl Tryd.sizeOf22 (by decide) rfl rfl) ?_
      refine AOps.val (Gv.load1F (c := .fro _ _) Tryd.isAgg22 rfl) ?_
      refine AOps.val (Gv.lenM Tryd.underlying22 rfl) ?_
      refine AOps.val (Gv.move (v := .int _ _) rfl) ?_
      refine AOps.nil ?_
      refine AWP.block ?_
      refine AWP.loop (γ := Nat) [1, 29, 30] (fun k => [(31, .int .i64 k), (3, .int .i64 (wV (f.vars.take k)))]) (fun k => []) (fun k => k ≤ f.vars.length ∧ wV (f.vars.take k) ≤ 400 * k ∧ ∀ v ∈ f.vars.take k, v.name.size ≤ 400) (fun k => f.vars.length - k) 0 ⟨rfl, rfl, trivial⟩ ⟨_, (.refl _), rfl⟩ (⟨Nat.zero_le _, Nat.le_refl _, by simp⟩) ?_
      rintro k ⟨hk, hw, hv⟩
      refine AWP.seq ?_
      refine AWP.region rfl ?_
      refine AOps.val (Gv.lss rfl rfl) ?_
      refine AOps.nil ?_
      refine AWP.seq ?_
      refine AWP.condP rfl (fun ck => ?_) (fun ck => ?_)
      · skip
        have hk1 : k < f.vars.length := by omega
        have hs := wV_succ hk1
        refine AWP.skip ?_
        refine AWP.seq ?_
        refine AWP.block ?_
        refine AWP.seq ?_
        refine AWP.region rfl ?_
        refine AOps.val (Gv.idxM Tryd.underlying22 Tryd.sizeOf47 rfl rfl rfl (List.getElem?_eq_getElem (by omega))) ?_
        refine AOps.val (Gv.loadWF Tryd.isAgg47 Tryd.sizeOf47 rfl rfl) ?_
        refine AOps.alloc (cs := [.str ⟨#[]⟩, .int .i64 0]) Tryd.zeroValue47 rfl rfl ?_
        intro i5
        refine AOps.storeW Tryd.sizeOf47 rfl rfl rfl rfl rfl rfl .head rfl ?_
        refine AOps.nil ?_
        refine AWP.seq ?_
        refine AWP.seq ?_
        refine AWP.region rfl ?_
        refine AOps.val (Gv.fieldO Tryd.underlying47 rfl Tryd.sizeOf9 (by decide) rfl rfl) ?_
        refine AOps.val (Gv.load1C (c := .str _) Tryd.isAgg9 rfl ⟨_, .head⟩ rfl) ?_
        refine AOps.val (Gv.lenT Tryd.underlying9 rfl) ?_
        refine AOps.val (Gv.gtr rfl rfl) ?_
        refine AOps.nil ?_
        refine AWP.condP rfl (fun cn => ?_) (fun cn => ?_)
        · skip
          refine AWP.seq ?_
          refine AWP.region rfl ?_
          refine AOps.val (Gv.assign (v := .bool _) rfl) ?_
          refine AOps.nil ?_
          refine AWP.ret ?_
          repeat (first | refine aseqQ_ret ?_ | refine ablockQ_ret ?_)
          refine afin.t1 (x := .bool _) rfl ?_
          exact ⟨_, rfl, fun h => by cases h⟩
        · skip
          refine AWP.skip ?_
          refine AWP.region rfl ?_
          refine AOps.val (Gv.move (v := .int _ _) rfl) ?_
          refine AOps.val (Gv.fieldO Tryd.underlying47 rfl Tryd.sizeOf9 (by decide) rfl rfl) ?_
          refine AOps.val (Gv.load1C (c := .str _) Tryd.isAgg9 rfl ⟨_, .head⟩ rfl) ?_
          refine AOps.val (Gv.lenT Tryd.underlying9 rfl) ?_
          refine AOps.val (Gv.add rfl rfl (by unfold I64; omega)) ?_
          refine AOps.val (Gv.assign (v := .int _ _) rfl) ?_
          refine AOps.nil ?_
          refine AWP.region rfl ?_
          refine AOps.val (Gv.add rfl rfl (by unfold I64; omega)) ?_
          refine AOps.val (Gv.move (v := .int _ _) rfl) ?_
          refine AOps.nil ?_
          exact ⟨k + 1, ⟨rfl, rfl, rfl, trivial⟩, ⟨rfl, congrArg (AV.int .i64) (by rw [hs]; omega), trivial⟩, ⟨_, (.drop (.refl _)), rfl⟩, ⟨hk1, by omega, forall_take hk1 hv (by omega)⟩, by omega⟩
      · skip
        obtain rfl : k = f.vars.length := by omega
        rw [List.take_length] at hw hv
        rw [List.take_length]
        refine AWP.exit ?_
        refine AWP.seq ?_
        refine AWP.seq ?_
        refine AWP.region rfl ?_
        refine AOps.val (Gv.fieldF Tryd.underlying26 rfl Tryd.sizeOf24 (by decide) rfl rfl) ?_
        refine AOps.val (Gv.load1F (c := .fro _ _) Tryd.isAgg24 rfl) ?_
        refine AOps.val (Gv.lenM Tryd.underlying24 rfl) ?_
        refine AOps.val (Gv.move (v := .int _ _) rfl) ?_
        refine AOps.nil ?_
        refine AWP.block ?_
        refine AWP.loop (γ := Nat) [46, 47] (fun k => [(48, .int .i64 k), (3, .int .i64 (wV f.vars + wBs (f.blocks.take k) : Nat))]) (fun k => []) (fun k => k ≤ f.blocks.length ∧ (0 < k → wV f.vars + wBs (f.blocks.take k) ≤ 4000) ∧ wBs (f.blocks.take k) ≤ 4000 ∧ ∀ b ∈ f.blocks.take k, littleB b) (fun k => f.blocks.length - k) 0 ⟨rfl, rfl, trivial⟩ ⟨_, (.refl _), rfl⟩ (⟨Nat.zero_le _, by omega, by simp [wBs], by simp⟩) ?_
        rintro k ⟨hk, hw2, hw3, hb⟩
        refine AWP.seq ?_
        refine AWP.region rfl ?_
        refine AOps.val (Gv.lss rfl rfl) ?_
        refine AOps.nil ?_
        refine AWP.seq ?_
        refine AWP.condP rfl (fun ck => ?_) (fun ck => ?_)
        · skip
          have hk1 : k < f.blocks.length := by omega
          obtain ⟨hb1, hb2, hb3, hb4⟩ := hf4 _ (List.getElem_mem hk1)
          have hs := wBs_succ hk1
          refine AWP.skip ?_
          refine AWP.seq ?_
          refine AWP.block ?_
          refine AWP.seq ?_
          refine AWP.region rfl ?_
          refine AOps.val (Gv.idxM Tryd.underlying24 Tryd.sizeOf39 rfl rfl rfl (List.getElem?_eq_getElem (by omega))) ?_
          refine AOps.val (Gv.loadWF Tryd.isAgg39 Tryd.sizeOf39 rfl rfl) ?_
          refine AOps.alloc (cs := [.str ⟨#[]⟩, .raw (.slice none 0 0), .raw (.slice none 0 0), .int .i64 0, .int .i64 0, .int .i64 0, .int .i64 0]) Tryd.zeroValue39 rfl rfl ?_
          intro i7
          refine AOps.storeW Tryd.sizeOf39 rfl rfl rfl rfl rfl rfl .head rfl ?_
          refine AOps.nil ?_
          refine AWP.seq ?_
          refine AWP.seq ?_
          refine AWP.cutS (γ := Unit) [3, 7, 46, 47, 48] (fun u => [(67, .bool (few2 f.blocks[k]))]) (fun u => [(i7, .cells 39 (encBlk f.blocks[k]))]) (fun u => True) ?_ (fun _ _ h => h) ?_
          · skip
            refine AWP.region rfl ?_
            refine AOps.val (Gv.fieldO Tryd.underlying39 rfl Tryd.sizeOf9 (by decide) rfl rfl) ?_
            refine AOps.val (Gv.load1C (c := .str _) Tryd.isAgg9 rfl ⟨_, .head⟩ rfl) ?_
            refine AOps.val (Gv.lenT Tryd.underlying9 rfl) ?_
            refine AOps.val (Gv.gtr rfl rfl) ?_
            refine AOps.val (Gv.move (v := .bool _) rfl) ?_
            refine AOps.case (s := 56) rfl (fun c3 => ?_) (fun c3 => ?_)
            · skip
              refine AOps.guardFd rfl rfl c3 ?_
              refine AOps.guardFd rfl rfl c3 ?_
              refine AOps.guardFd rfl rfl c3 ?_
              refine AOps.guardFd rfl rfl c3 ?_
              refine AOps.val (Gv.pickT (v := .bool _) rfl c3 rfl) ?_
              refine AOps.val (Gv.move (v := .bool _) rfl) ?_
              refine AOps.guardFd rfl rfl rfl ?_
              refine AOps.guardFd rfl rfl rfl ?_
              refine AOps.guardFd rfl rfl rfl ?_
              refine AOps.guardFd rfl rfl rfl ?_
              refine AOps.val (Gv.pickT (v := .bool _) rfl rfl rfl) ?_
              refine AOps.nil ?_
              exact ⟨(), ⟨rfl, rfl, rfl, rfl, rfl, trivial⟩, ⟨jb (by simp_all [few2] <;> grind), trivial⟩, ⟨_, (.refl _), rfl⟩, trivial⟩
            · skip
              refine AOps.guardT rfl rfl c3 ?_
              refine AOps.val (Gv.fieldO Tryd.underlying39 rfl Tryd.sizeOf32 (by decide) rfl rfl) ?_
              refine AOps.guardT rfl rfl c3 ?_
              refine AOps.val (Gv.load1C (c := .fro _ _) Tryd.isAgg32 rfl ⟨_, .head⟩ rfl) ?_
              refine AOps.guardT rfl rfl c3 ?_
              refine AOps.val (Gv.lenM Tryd.underlying32 rfl) ?_
              refine AOps.guardT rfl rfl c3 ?_
              refine AOps.val (Gv.gtr rfl rfl) ?_
              refine AOps.val (Gv.pickF (v := .bool _) rfl c3 rfl) ?_
              refine AOps.val (Gv.move (v := .bool _) rfl) ?_
              refine AOps.case (s := 62) rfl (fun c4 => ?_) (fun c4 => ?_)
              · skip
                refine AOps.guardFd rfl rfl c4 ?_
                refine AOps.guardFd rfl rfl c4 ?_
                refine AOps.guardFd rfl rfl c4 ?_
                refine AOps.guardFd rfl rfl c4 ?_
                refine AOps.val (Gv.pickT (v := .bool _) rfl c4 rfl) ?_
                refine AOps.nil ?_
                exact ⟨(), ⟨rfl, rfl, rfl, rfl, rfl, trivial⟩, ⟨jb (by simp_all [few2] <;> grind), trivial⟩, ⟨_, (.refl _), rfl⟩, trivial⟩
              · skip
                refine AOps.guardT rfl rfl c4 ?_
                refine AOps.val (Gv.fieldO Tryd.underlying39 rfl Tryd.sizeOf33 (by decide) rfl rfl) ?_
                refine AOps.guardT rfl rfl c4 ?_
                refine AOps.val (Gv.load1C (c := .fro _ _) Tryd.isAgg33 rfl ⟨_, .head⟩ rfl) ?_
                refine AOps.guardT rfl rfl c4 ?_
                refine AOps.val (Gv.lenM Tryd.underlying33 rfl) ?_
                refine AOps.guardT rfl rfl c4 ?_
                refine AOps.val (Gv.gtr rfl rfl) ?_
                refine AOps.val (Gv.pickF (v := .bool _) rfl c4 rfl) ?_
                refine AOps.nil ?_
                exact ⟨(), ⟨rfl, rfl, rfl, rfl, rfl, trivial⟩, ⟨jb (by simp_all [few2] <;> grind), trivial⟩, ⟨_, (.refl _), rfl⟩, trivial⟩
          · skip
            rintro _ _
            refine AWP.cond rfl (fun c2 => ?_) (fun c2 => ?_)
            · skip
              refine AWP.seq ?_
              refine AWP.region rfl ?_
              refine AOps.val (Gv.assign (v := .bool _) rfl) ?_
              refine AOps.nil ?_
              refine AWP.ret ?_
              repeat (first | refine aseqQ_ret ?_ | refine ablockQ_ret ?_)
              refine afin.t1 (x := .bool _) rfl ?_
              exact ⟨_, rfl, fun h => by cases h⟩
            · skip
              have hsb : f.blocks[k].name.size ≤ 400 ∧ f.blocks[k].phis.length ≤ 400 ∧ f.blocks[k].insts.length ≤ 400 := by unfold few2 at c2; simp at c2; omega
              refine AWP.skip ?_
              refine AWP.seq ?_
              refine AWP.region rfl ?_
              refine AOps.val (Gv.move (v := .int _ _) rfl) ?_
              refine AOps.val (Gv.fieldO Tryd.underlying39 rfl Tryd.sizeOf9 (by decide) rfl rfl) ?_
              refine AOps.val (Gv.load1C (c := .str _) Tryd.isAgg9 rfl ⟨_, .head⟩ rfl) ?_
              refine AOps.val (Gv.lenT Tryd.underlying9 rfl) ?_
              refine AOps.val (Gv.fieldO Tryd.underlying39 rfl Tryd.sizeOf32 (by decide) rfl rfl) ?_
              refine AOps.val (Gv.load1C (c := .fro _ _) Tryd.isAgg32 rfl ⟨_, .head⟩ rfl) ?_
              refine AOps.val (Gv.lenM Tryd.underlying32 rfl) ?_
              refine AOps.val (Gv.fieldO Tryd.underlying39 rfl Tryd.sizeOf33 (by decide) rfl rfl) ?_
              refine AOps.val (Gv.load1C (c := .fro _ _) Tryd.isAgg33 rfl ⟨_, .head⟩ rfl) ?_
              refine AOps.val (Gv.lenM Tryd.underlying33 rfl) ?_
              refine AOps.val (Gv.add rfl rfl (by unfold I64; omega)) ?_
              refine AOps.val (Gv.mul rfl rfl (by unfold I64; omega)) ?_
              refine AOps.val (Gv.add rfl rfl (by unfold I64; omega)) ?_
              refine AOps.val (Gv.add rfl rfl (by unfold I64; omega)) ?_
              refine AOps.val (Gv.assign (v := .int _ _) rfl) ?_
              refine AOps.nil ?_
              refine AWP.seq ?_
              refine AWP.seq ?_
              refine AWP.region rfl ?_
              refine AOps.val (Gv.fieldO Tryd.underlying39 rfl Tryd.sizeOf32 (by decide) rfl rfl) ?_
              refine AOps.val (Gv.load1C (c := .fro _ _) Tryd.isAgg32 rfl ⟨_, .head⟩ rfl) ?_
              refine AOps.val (Gv.lenM Tryd.underlying32 rfl) ?_
              refine AOps.val (Gv.move (v := .int _ _) rfl) ?_
              refine AOps.nil ?_
              refine AWP.block ?_
              refine AWP.loop (γ := Nat) [7, 46, 47, 48, 83, 84] (fun m => [(85, .int .i64 m), (3, .int .i64 (wV f.vars + wBs (f.blocks.take k) + (f.blocks[k].name.size + 10 * (f.blocks[k].phis.length + f.blocks[k].insts.length)) + wP (f.blocks[k].phis.take m) : Nat))]) (fun m => [(i7, .cells 39 (encBlk f.blocks[k]))]) (fun m => m ≤ f.blocks[k].phis.length ∧ wP (f.blocks[k].phis.take m) ≤ 800 * m ∧ ∀ p ∈ f.blocks[k].phis.take m, p.args.length ≤ 400 ∧ p.from_.length ≤ 400) (fun m => f.blocks[k].phis.length - m) 0 ⟨rfl, (congrArg (AV.int .i64) (by simp [wP] <;> omega)), trivial⟩ ⟨_, (.refl _), rfl⟩ (⟨Nat.zero_le _, by simp [wP], by simp⟩) ?_
              rintro m ⟨hm, hwp, hp⟩
              refine AWP.seq ?_
              refine AWP.region rfl ?_
              refine AOps.val (Gv.lss rfl rfl) ?_
              refine AOps.nil ?_
              refine AWP.seq ?_
              refine AWP.condP rfl (fun cm => ?_) (fun cm => ?_)
              · skip
                have hm1 : m < f.blocks[k].phis.length := by omega
                obtain ⟨hq1, hq2⟩ := hb3 _ (List.getElem_mem hm1)
                have hl6 := hq1.lt
                have hl7 := hq2.lt
                have hs2 := wP_succ hm1
                refine AWP.skip ?_
                refine AWP.seq ?_
                refine AWP.block ?_
                refine AWP.seq ?_
                refine AWP.region rfl ?_
                refine AOps.val (Gv.idxM Tryd.underlying32 Tryd.sizeOf44 rfl rfl rfl (List.getElem?_eq_getElem (by omega))) ?_
                refine AOps.val (Gv.loadWF Tryd.isAgg44 Tryd.sizeOf44 rfl rfl) ?_
                refine AOps.alloc (cs := [.int .i64 0, .raw (.slice none 0 0), .raw (.slice none 0 0)]) Tryd.zeroValue44 rfl rfl ?_
                intro i9
                refine AOps.storeW Tryd.sizeOf44 rfl rfl rfl rfl rfl rfl .head rfl ?_
                refine AOps.nil ?_
                refine AWP.seq ?_
                refine AWP.seq ?_
                refine AWP.cutS (γ := Unit) [3, 7, 9, 46, 47, 48, 83, 84, 85] (fun u => [(102, .bool (decide ((4000 : Int) < (wV f.vars + wBs (f.blocks.take k) + (f.blocks[k].name.size + 10 * (f.blocks[k].phis.length + f.blocks[k].insts.length)) + wP (f.blocks[k].phis.take m) : Nat)) || (decide ((400 : Int) < f.blocks[k].phis[m].args.length) || decide ((400 : Int) < f.blocks[k].phis[m].from_.length))))]) (fun u => [(i9, .cells 44 (encPhi f.blocks[k].phis[m])), (i7, .cells 39 (encBlk f.blocks[k]))]) (fun u => True) ?_ (fun _ _ h => h) ?_
                · skip
                  refine AWP.region rfl ?_
                  refine AOps.val (Gv.move (v := .int _ _) rfl) ?_
                  refine AOps.val (Gv.gtr rfl rfl) ?_
                  refine AOps.val (Gv.move (v := .bool _) rfl) ?_
                  refine AOps.case (s := 91) rfl (fun c5 => ?_) (fun c5 => ?_)
                  · skip
                    refine AOps.guardFd rfl rfl c5 ?_
                    refine AOps.guardFd rfl rfl c5 ?_
                    refine AOps.guardFd rfl rfl c5 ?_
                    refine AOps.guardFd rfl rfl c5 ?_
                    refine AOps.val (Gv.pickT (v := .bool _) rfl c5 rfl) ?_
                    refine AOps.val (Gv.move (v := .bool _) rfl) ?_
                    refine AOps.guardFd rfl rfl rfl ?_
                    refine AOps.guardFd rfl rfl rfl ?_
                    refine AOps.guardFd rfl rfl rfl ?_
                    refine AOps.guardFd rfl rfl rfl ?_
                    refine AOps.val (Gv.pickT (v := .bool _) rfl rfl rfl) ?_
                    refine AOps.nil ?_
                    exact ⟨(), ⟨rfl, rfl, rfl, rfl, rfl, rfl, rfl, rfl, rfl, trivial⟩, ⟨jb (by simp_all <;> grind), trivial⟩, ⟨_, (.refl _), rfl⟩, trivial⟩
                  · skip
                    refine AOps.guardT rfl rfl c5 ?_
                    refine AOps.val (Gv.fieldO Tryd.underlying44 rfl Tryd.sizeOf23 (by decide) rfl rfl) ?_
                    refine AOps.guardT rfl rfl c5 ?_
                    refine AOps.val (Gv.load1C (c := .fro _ _) Tryd.isAgg23 rfl ⟨_, .head⟩ rfl) ?_
                    refine AOps.guardT rfl rfl c5 ?_
                    refine AOps.val (Gv.lenM Tryd.underlying23 rfl) ?_
                    refine AOps.guardT rfl rfl c5 ?_
                    refine AOps.val (Gv.gtr rfl rfl) ?_
                    refine AOps.val (Gv.pickF (v := .bool _) rfl c5 rfl) ?_
                    refine AOps.val (Gv.move (v := .bool _) rfl) ?_
                    refine AOps.case (s := 97) rfl (fun c6 => ?_) (fun c6 => ?_)
                    · skip
                      refine AOps.guardFd rfl rfl c6 ?_
                      refine AOps.guardFd rfl rfl c6 ?_
                      refine AOps.guardFd rfl rfl c6 ?_
                      refine AOps.guardFd rfl rfl c6 ?_
                      refine AOps.val (Gv.pickT (v := .bool _) rfl c6 rfl) ?_
                      refine AOps.nil ?_
                      exact ⟨(), ⟨rfl, rfl, rfl, rfl, rfl, rfl, rfl, rfl, rfl, trivial⟩, ⟨jb (by simp_all <;> grind), trivial⟩, ⟨_, (.refl _), rfl⟩, trivial⟩
                    · skip
                      refine AOps.guardT rfl rfl c6 ?_
                      refine AOps.val (Gv.fieldO Tryd.underlying44 rfl Tryd.sizeOf23 (by decide) rfl rfl) ?_
                      refine AOps.guardT rfl rfl c6 ?_
                      refine AOps.val (Gv.load1C (c := .fro _ _) Tryd.isAgg23 rfl ⟨_, .head⟩ rfl) ?_
                      refine AOps.guardT rfl rfl c6 ?_
                      refine AOps.val (Gv.lenM Tryd.underlying23 rfl) ?_
                      refine AOps.guardT rfl rfl c6 ?_
                      refine AOps.val (Gv.gtr rfl rfl) ?_
                      refine AOps.val (Gv.pickF (v := .bool _) rfl c6 rfl) ?_
                      refine AOps.nil ?_
                      exact ⟨(), ⟨rfl, rfl, rfl, rfl, rfl, rfl, rfl, rfl, rfl, trivial⟩, ⟨jb (by simp_all <;> grind), trivial⟩, ⟨_, (.refl _), rfl⟩, trivial⟩
                · skip
                  rintro _ _
                  refine AWP.cond rfl (fun cp => ?_) (fun cp => ?_)
                  · skip
                    refine AWP.seq ?_
                    refine AWP.region rfl ?_
                    refine AOps.val (Gv.assign (v := .bool _) rfl) ?_
                    refine AOps.nil ?_
                    refine AWP.ret ?_
                    repeat (first | refine aseqQ_ret ?_ | refine ablockQ_ret ?_)
                    refine afin.t1 (x := .bool _) rfl ?_
                    exact ⟨_, rfl, fun h => by cases h⟩
                  · skip
                    rcases Bool.or_eq_false_iff.1 cp with ⟨a1, a2⟩
                    rcases Bool.or_eq_false_iff.1 a2 with ⟨a3, a4⟩
                    have a3 := of_decide_eq_false a3
                    have a4 := of_decide_eq_false a4
                    refine AWP.skip ?_
                    refine AWP.region rfl ?_
                    refine AOps.val (Gv.move (v := .int _ _) rfl) ?_
                    refine AOps.val (Gv.fieldO Tryd.underlying44 rfl Tryd.sizeOf23 (by decide) rfl rfl) ?_
                    refine AOps.val (Gv.load1C (c := .fro _ _) Tryd.isAgg23 rfl ⟨_, .head⟩ rfl) ?_
                    refine AOps.val (Gv.lenM Tryd.underlying23 rfl) ?_
                    refine AOps.val (Gv.fieldO Tryd.underlying44 rfl Tryd.sizeOf23 (by decide) rfl rfl) ?_
                    refine AOps.val (Gv.load1C (c := .fro _ _) Tryd.isAgg23 rfl ⟨_, .head⟩ rfl) ?_
                    refine AOps.val (Gv.lenM Tryd.underlying23 rfl) ?_
                    refine AOps.val (Gv.add rfl rfl (by unfold I64; omega)) ?_
                    refine AOps.val (Gv.add rfl rfl (by unfold I64; omega)) ?_
                    refine AOps.val (Gv.assign (v := .int _ _) rfl) ?_
                    refine AOps.nil ?_
                    refine AWP.region rfl ?_
                    refine AOps.val (Gv.add rfl rfl (by unfold I64; omega)) ?_
                    refine AOps.val (Gv.move (v := .int _ _) rfl) ?_
                    refine AOps.nil ?_
                    exact ⟨m + 1, ⟨rfl, rfl, rfl, rfl, rfl, rfl, trivial⟩, ⟨rfl, congrArg (AV.int .i64) (by rw [hs2]; omega), trivial⟩, ⟨_, (.drop (.refl _)), rfl⟩, ⟨hm1, by omega, forall_take hm1 hp ⟨by omega, by omega⟩⟩, by omega⟩
              · skip
                obtain rfl : m = f.blocks[k].phis.length := by omega
                rw [List.take_length] at hwp hp
                rw [List.take_length]
                refine AWP.exit ?_
                refine AWP.seq ?_
                refine AWP.seq ?_
                refine AWP.region rfl ?_
                refine AOps.val (Gv.fieldO Tryd.underlying39 rfl Tryd.sizeOf33 (by decide) rfl rfl) ?_
                refine AOps.val (Gv.load1C (c := .fro _ _) Tryd.isAgg33 rfl ⟨_, .head⟩ rfl) ?_
                refine AOps.val (Gv.lenM Tryd.underlying33 rfl) ?_
                refine AOps.val (Gv.move (v := .int _ _) rfl) ?_
                refine AOps.nil ?_
                refine AWP.block ?_
                refine AWP.loop (γ := Nat) [46, 47, 48, 114, 115] (fun m => [(116, .int .i64 m), (3, .int .i64 (wV f.vars + wBs (f.blocks.take k) + (f.blocks[k].name.size + 10 * (f.blocks[k].phis.length + f.blocks[k].insts.length)) + wP f.blocks[k].phis + wX (f.blocks[k].insts.take m) : Nat))]) (fun m => [(i7, .cells 39 (encBlk f.blocks[k]))]) (fun m => m ≤ f.blocks[k].insts.length ∧ wX (f.blocks[k].insts.take m) ≤ 400 * m ∧ ∀ p ∈ f.blocks[k].insts.take m, p.args.length ≤ 400) (fun m => f.blocks[k].insts.length - m) 0 ⟨rfl, (congrArg (AV.int .i64) (by simp [wX] <;> omega)), trivial⟩ ⟨_, (.refl _), rfl⟩ (⟨Nat.zero_le _, by simp [wX], by simp⟩) ?_
                rintro m ⟨hm, hwx, hx⟩
                refine AWP.seq ?_
                refine AWP.region rfl ?_
                refine AOps.val (Gv.lss rfl rfl) ?_
                refine AOps.nil ?_
                refine AWP.seq ?_
                refine AWP.condP rfl (fun cm => ?_) (fun cm => ?_)
                · skip
                  have hm1 : m < f.blocks[k].insts.length := by omega
                  have hq1 := hb4 _ (List.getElem_mem hm1)
                  have hl6 := hq1.lt
                  have hs2 := wX_succ hm1
                  refine AWP.skip ?_
                  refine AWP.seq ?_
                  refine AWP.block ?_
                  refine AWP.seq ?_
                  refine AWP.region rfl ?_
                  refine AOps.val (Gv.idxM Tryd.underlying33 Tryd.sizeOf42 rfl rfl rfl (List.getElem?_eq_getElem (by omega))) ?_
                  refine AOps.val (Gv.loadWF Tryd.isAgg42 Tryd.sizeOf42 rfl rfl) ?_
                  refine AOps.alloc (cs := [.int .i64 0, .int .i64 0, .raw (.slice none 0 0), .int .i64 0]) Tryd.zeroValue42 rfl rfl ?_
                  intro i11
                  refine AOps.storeW Tryd.sizeOf42 rfl rfl rfl rfl rfl rfl .head rfl ?_
                  refine AOps.nil ?_
                  refine AWP.seq ?_
                  refine AWP.seq ?_
                  refine AWP.cutS (γ := Unit) [3, 11, 46, 47, 48, 114, 115, 116] (fun u => [(127, .bool (decide ((4000 : Int) < (wV f.vars + wBs (f.blocks.take k) + (f.blocks[k].name.size + 10 * (f.blocks[k].phis.length + f.blocks[k].insts.length)) + wP f.blocks[k].phis + wX (f.blocks[k].insts.take m) : Nat)) || decide ((400 : Int) < f.blocks[k].insts[m].args.length)))]) (fun u => [(i11, .cells 42 (encInst f.blocks[k].insts[m])), (i7, .cells 39 (encBlk f.blocks[k]))]) (fun u => True) ?_ (fun _ _ h => h) ?_
                  · skip
                    refine AWP.region rfl ?_
                    refine AOps.val (Gv.move (v := .int _ _) rfl) ?_
                    refine AOps.val (Gv.gtr rfl rfl) ?_
                    refine AOps.val (Gv.move (v := .bool _) rfl) ?_
                    refine AOps.case (s := 122) rfl (fun c7 => ?_) (fun c7 => ?_)
                    · skip
                      refine AOps.guardFd rfl rfl c7 ?_
                      refine AOps.guardFd rfl rfl c7 ?_
                      refine AOps.guardFd rfl rfl c7 ?_
                      refine AOps.guardFd rfl rfl c7 ?_
                      refine AOps.val (Gv.pickT (v := .bool _) rfl c7 rfl) ?_
                      refine AOps.nil ?_
                      exact ⟨(), ⟨rfl, rfl, rfl, rfl, rfl, rfl, rfl, rfl, trivial⟩, ⟨jb (by simp_all <;> grind), trivial⟩, ⟨_, (.refl _), rfl⟩, trivial⟩
                    · skip
                      refine AOps.guardT rfl rfl c7 ?_
                      refine AOps.val (Gv.fieldO Tryd.underlying42 rfl Tryd.sizeOf23 (by decide) rfl rfl) ?_
                      refine AOps.guardT rfl rfl c7 ?_
                      refine AOps.val (Gv.load1C (c := .fro _ _) Tryd.isAgg23 rfl ⟨_, .head⟩ rfl) ?_
                      refine AOps.guardT rfl rfl c7 ?_
                      refine AOps.val (Gv.lenM Tryd.underlying23 rfl) ?_
                      refine AOps.guardT rfl rfl c7 ?_
                      refine AOps.val (Gv.gtr rfl rfl) ?_
                      refine AOps.val (Gv.pickF (v := .bool _) rfl c7 rfl) ?_
                      refine AOps.nil ?_
                      exact ⟨(), ⟨rfl, rfl, rfl, rfl, rfl, rfl, rfl, rfl, trivial⟩, ⟨jb (by simp_all <;> grind), trivial⟩, ⟨_, (.refl _), rfl⟩, trivial⟩
                  · skip
                    rintro _ _
                    refine AWP.cond rfl (fun cp => ?_) (fun cp => ?_)
                    · skip
                      refine AWP.seq ?_
                      refine AWP.region rfl ?_
                      refine AOps.val (Gv.assign (v := .bool _) rfl) ?_
                      refine AOps.nil ?_
                      refine AWP.ret ?_
                      repeat (first | refine aseqQ_ret ?_ | refine ablockQ_ret ?_)
                      refine afin.t1 (x := .bool _) rfl ?_
                      exact ⟨_, rfl, fun h => by cases h⟩
                    · skip
                      rcases Bool.or_eq_false_iff.1 cp with ⟨a1, a2⟩
                      have a2 := of_decide_eq_false a2
                      refine AWP.skip ?_
                      refine AWP.region rfl ?_
                      refine AOps.val (Gv.move (v := .int _ _) rfl) ?_
                      refine AOps.val (Gv.fieldO Tryd.underlying42 rfl Tryd.sizeOf23 (by decide) rfl rfl) ?_
                      refine AOps.val (Gv.load1C (c := .fro _ _) Tryd.isAgg23 rfl ⟨_, .head⟩ rfl) ?_
                      refine AOps.val (Gv.lenM Tryd.underlying23 rfl) ?_
                      refine AOps.val (Gv.add rfl rfl (by unfold I64; omega)) ?_
                      refine AOps.val (Gv.assign (v := .int _ _) rfl) ?_
                      refine AOps.nil ?_
                      refine AWP.region rfl ?_
                      refine AOps.val (Gv.add rfl rfl (by unfold I64; omega)) ?_
                      refine AOps.val (Gv.move (v := .int _ _) rfl) ?_
                      refine AOps.nil ?_
                      exact ⟨m + 1, ⟨rfl, rfl, rfl, rfl, rfl, trivial⟩, ⟨rfl, congrArg (AV.int .i64) (by rw [hs2]; omega), trivial⟩, ⟨_, (.drop (.refl _)), rfl⟩, ⟨hm1, by omega, forall_take hm1 hx (by omega)⟩, by omega⟩
                · skip
                  obtain rfl : m = f.blocks[k].insts.length := by omega
                  rw [List.take_length] at hwx hx
                  rw [List.take_length]
                  refine AWP.exit ?_
                  refine AWP.seq ?_
                  refine AWP.region rfl ?_
                  refine AOps.val (Gv.move (v := .int _ _) rfl) ?_
                  refine AOps.val (Gv.gtr rfl rfl) ?_
                  refine AOps.nil ?_
                  refine AWP.condP rfl (fun cz => ?_) (fun cz => ?_)
                  · skip
                    refine AWP.seq ?_
                    refine AWP.region rfl ?_
                    refine AOps.val (Gv.assign (v := .bool _) rfl) ?_
                    refine AOps.nil ?_
                    refine AWP.ret ?_
                    repeat (first | refine aseqQ_ret ?_ | refine ablockQ_ret ?_)
                    refine afin.t1 (x := .bool _) rfl ?_
                    exact ⟨_, rfl, fun h => by cases h⟩
                  · skip
                    have hwb : wB f.blocks[k] = f.blocks[k].name.size + 10 * (f.blocks[k].phis.length + f.blocks[k].insts.length) + wP f.blocks[k].phis + wX f.blocks[k].insts := rfl
                    refine AWP.skip ?_
                    refine AWP.region rfl ?_
                    refine AOps.val (Gv.add rfl rfl (by unfold I64; omega)) ?_
                    refine AOps.val (Gv.move (v := .int _ _) rfl) ?_
                    refine AOps.nil ?_
                    exact ⟨k + 1, ⟨rfl, rfl, trivial⟩, ⟨rfl, congrArg (AV.int .i64) (by rw [hs]; omega), trivial⟩, ⟨_, (.drop (.refl _)), rfl⟩, ⟨hk1, by omega, by omega, forall_take hk1 hb ⟨hsb.1, hsb.2.1, hsb.2.2, hp, hx⟩⟩, by omega⟩
        · skip
          obtain rfl : k = f.blocks.length := by omega
          rw [List.take_length] at hw2 hw3 hb
          refine AWP.exit ?_
          refine AWP.seq ?_
          refine AWP.region rfl ?_
          refine AOps.val (Gv.assign (v := .bool _) rfl) ?_
          refine AOps.nil ?_
          refine AWP.ret ?_
          repeat (first | refine aseqQ_ret ?_ | refine ablockQ_ret ?_)
          refine afin.t1 (x := .bool _) rfl ?_
          exact ⟨_, rfl, fun _ => ⟨hsz.1, hsz.2.1, hsz.2.2, hv, hb, fun hne => hw2 (List.length_pos_iff.2 hne)⟩⟩
end Go.Proofs.YtlfhoiakmbcnlaaDoor
