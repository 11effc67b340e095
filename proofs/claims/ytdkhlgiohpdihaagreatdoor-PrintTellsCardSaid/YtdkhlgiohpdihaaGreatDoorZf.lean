/- Lines: the printer's is the document's. No conditions but bounds. -/
import Derived.Test.YtdkhlgiohpdihaaGreatDoorZe
set_option linter.unusedVariables false
set_option linter.unusedSimpArgs false
set_option linter.unusedSectionVars false
namespace Go.Proofs.YtdkhlgiohpdihaaGreatDoor
open Go.Proofs Go.Lib Go.Shelf Go.RowKit
set_option maxRecDepth 20000
variable {E : World}
def headDiff (f g : PFunc) : Bool := !decide ((f.vars.length : Int) = g.vars.length) || (!decide (f.params = g.params) || !decide ((f.blocks.length : Int) = g.blocks.length))
def blkDiff (x y : PBlock) : Bool := !decide (x.name = y.name) || (!decide (x.term.kind = y.term.kind ∧ x.term.var = y.term.var ∧ x.term.to0 = y.term.to0 ∧ x.term.to1 = y.term.to1) || (!decide ((x.phis.length : Int) = y.phis.length) || !decide ((x.insts.length : Int) = y.insts.length)))
theorem headDiff_f {f g : PFunc} (h : headDiff f g = false) : f.vars.length = g.vars.length ∧ f.params = g.params ∧ f.blocks.length = g.blocks.length := by
  unfold headDiff at h; simp at h; exact ⟨by omega, h.2.1, by omega⟩
theorem blkDiff_f {f g : PBlock} (h : blkDiff f g = false) : (f.name = g.name ∧ f.term = g.term) ∧ f.phis.length = g.phis.length ∧ f.insts.length = g.insts.length := by
  unfold blkDiff at h; simp at h
  obtain ⟨h1, h2, h3, h4⟩ := h
  refine ⟨⟨h1, ?_⟩, by omega, by omega⟩
  obtain ⟨a, b, c, ⟨d1, d2, d3, d4⟩⟩ := f; obtain ⟨a', b', c', ⟨d1', d2', d3', d4'⟩⟩ := g
  simp_all
theorem blk_ext {x y : PBlock} (h1 : x.name = y.name) (h2 : x.term = y.term) (h3 : x.phis = y.phis) (h4 : x.insts = y.insts) : x = y := by
  cases x; cases y; simp_all
theorem func_ext {x y : PFunc} (h1 : x.vars = y.vars) (h2 : x.params = y.params) (h3 : x.blocks = y.blocks) : x = y := by
  cases x; cases y; simp_all
theorem phi_diff (x y : PPhi) : decide (x = y) = !(!decide (x.dst = y.dst) || (!decide (x.args = y.args) || !decide (x.from_ = y.from_))) := by
  rw [phi_iff]; simp [Bool.and_assoc]
theorem inst_diff (x y : PInst) : decide (x = y) = !(!decide (x.op = y.op) || (!decide (x.dst = y.dst) || (!decide (x.num = y.num) || !decide (x.args = y.args)))) := by
  rw [inst_iff]; simp [Bool.and_assoc]
set_option maxHeartbeats 8000000 in
theorem refSame_spec (f g : PFunc) (hf : okFunc f) : AFun Tryz.prog E 10 [.agg (encF f), .agg (encF g)] (.bool (decide (f = g))) := by
  obtain ⟨hf1, hf2, hf3, hf4⟩ := hf
  have hl1 := hf1.lt
  have hl3 := hf3.lt
  refine ACall.intro Tryz.func10 rfl (by decide) rfl ?_
  refine AWP.seq ?_
  refine AWP.region rfl ?_
  refine AOps.boxF (cs := _) rfl rfl rfl ?_
  refine AOps.boxF (cs := _) rfl rfl rfl ?_
  refine AOps.val (Gv.assign (v := .bool _) rfl) ?_
  refine AOps.nil ?_
  refine AWP.seq ?_
  refine AWP.seq ?_
  refine AWP.cutS (γ := Unit) [2, 3] (fun u => [(38, .bool (headDiff f g))]) (fun u => []) (fun u => True) ?_ (fun _ _ h => h) ?_
  · skip
    refine AWP.region rfl ?_
    refine AOps.val (Gv.fieldF Tryz.underlying27 rfl Tryz.sizeOf23 (by decide) rfl rfl) ?_
    refine AOps.val (Gv.load1F (c := .fro _ _) Tryz.isAgg23 rfl) ?_
    refine AOps.val (Gv.lenM Tryz.underlying23 rfl) ?_
    refine AOps.val (Gv.fieldF Tryz.underlying27 rfl Tryz.sizeOf23 (by decide) rfl rfl) ?_
    refine AOps.val (Gv.load1F (c := .fro _ _) Tryz.isAgg23 rfl) ?_
    refine AOps.val (Gv.lenM Tryz.underlying23 rfl) ?_
    refine AOps.val (Gv.neqI rfl rfl) ?_
    refine AOps.val (Gv.move (v := .bool _) rfl) ?_
    refine AOps.case (s := 22) rfl (fun c1 => ?_) (fun c1 => ?_)
    · skip
      refine AOps.guardFd rfl rfl c1 ?_
      refine AOps.guardFd rfl rfl c1 ?_
      refine AOps.guardFd rfl rfl c1 ?_
      refine AOps.guardFd rfl rfl c1 ?_
      refine AOps.guardFd rfl rfl c1 ?_
      refine AOps.guardFd rfl rfl c1 ?_
      refine AOps.val (Gv.pickT (v := .bool _) rfl c1 rfl) ?_
      refine AOps.val (Gv.move (v := .bool _) rfl) ?_
      refine AOps.guardFd rfl rfl rfl ?_
      refine AOps.guardFd rfl rfl rfl ?_
      refine AOps.guardFd rfl rfl rfl ?_
      refine AOps.guardFd rfl rfl rfl ?_
      refine AOps.guardFd rfl rfl rfl ?_
      refine AOps.guardFd rfl rfl rfl ?_
      refine AOps.guardFd rfl rfl rfl ?_
      refine AOps.val (Gv.pickT (v := .bool _) rfl rfl rfl) ?_
      refine AOps.nil ?_
      exact ⟨(), ⟨rfl, rfl, trivial⟩, ⟨jb (by simp_all [headDiff]), trivial⟩, ⟨_, (.refl _), rfl⟩, trivial⟩
    · skip
      refine AOps.guardT rfl rfl c1 ?_
      refine AOps.val (Gv.fieldF Tryz.underlying27 rfl Tryz.sizeOf24 (by decide) rfl rfl) ?_
      refine AOps.guardT rfl rfl c1 ?_
      refine AOps.val (Gv.load1F (c := .fro _ _) Tryz.isAgg24 rfl) ?_
      refine AOps.guardT rfl rfl c1 ?_
      refine AOps.val (Gv.fieldF Tryz.underlying27 rfl Tryz.sizeOf24 (by decide) rfl rfl) ?_
      refine AOps.guardT rfl rfl c1 ?_
      refine AOps.val (Gv.load1F (c := .fro _ _) Tryz.isAgg24 rfl) ?_
      refine AOps.guardT rfl rfl c1 ?_
      refine AOps.callP (ints_spec _ _ (by assumption)) rfl ?_
      refine AOps.guardT rfl rfl c1 ?_
      refine AOps.val (Gv.not rfl) ?_
      refine AOps.val (Gv.pickF (v := .bool _) rfl c1 rfl) ?_
      refine AOps.val (Gv.move (v := .bool _) rfl) ?_
      refine AOps.case (s := 30) rfl (fun c2 => ?_) (fun c2 => ?_)
      · skip
        refine AOps.guardFd rfl rfl c2 ?_
        refine AOps.guardFd rfl rfl c2 ?_
        refine AOps.guardFd rfl rfl c2 ?_
        refine AOps.guardFd rfl rfl c2 ?_
        refine AOps.guardFd rfl rfl c2 ?_
        refine AOps.guardFd rfl rfl c2 ?_
        refine AOps.guardFd rfl rfl c2 ?_
        refine AOps.val (Gv.pickT (v := .bool _) rfl c2 rfl) ?_
        refine AOps.nil ?_
        exact ⟨(), ⟨rfl, rfl, trivial⟩, ⟨jb (by simp_all [headDiff]), trivial⟩, ⟨_, (.refl _), rfl⟩, trivial⟩
      · skip
        refine AOps.guardT rfl rfl c2 ?_
        refine AOps.val (Gv.fieldF Tryz.underlying27 rfl Tryz.sizeOf25 (by decide) rfl rfl) ?_
        refine AOps.guardT rfl rfl c2 ?_
        refine AOps.val (Gv.load1F (c := .fro _ _) Tryz.isAgg25 rfl) ?_
        refine AOps.guardT rfl rfl c2 ?_
        refine AOps.val (Gv.lenM Tryz.underlying25 rfl) ?_
        refine AOps.guardT rfl rfl c2 ?_
        refine AOps.val (Gv.fieldF Tryz.underlying27 rfl Tryz.sizeOf25 (by decide) rfl rfl) ?_
        refine AOps.guardT rfl rfl c2 ?_
        refine AOps.val (Gv.load1F (c := .fro _ _) Tryz.isAgg25 rfl) ?_
        refine AOps.guardT rfl rfl c2 ?_
        refine AOps.val (Gv.lenM Tryz.underlying25 rfl) ?_
        refine AOps.guardT rfl rfl c2 ?_
        refine AOps.val (Gv.neqI rfl rfl) ?_
        refine AOps.val (Gv.pickF (v := .bool _) rfl c2 rfl) ?_
        refine AOps.nil ?_
        exact ⟨(), ⟨rfl, rfl, trivial⟩, ⟨jb (by simp_all [headDiff]), trivial⟩, ⟨_, (.refl _), rfl⟩, trivial⟩
  · skip
    rintro _ _
    refine AWP.cond rfl (fun c0 => ?_) (fun c0 => ?_)
    · skip
      refine AWP.seq ?_
      refine AWP.region rfl ?_
      refine AOps.val (Gv.assign (v := .bool _) rfl) ?_
      refine AOps.nil ?_
      refine AWP.ret ?_
      repeat (first | refine aseqQ_ret ?_ | refine ablockQ_ret ?_)
      refine afin.t1 (x := .bool _) rfl ?_
      rw [decide_eq_false (fun e => by subst e; simp [headDiff] at c0)]
    · skip
      obtain ⟨hv, hpar, hbl⟩ := headDiff_f c0
      refine AWP.skip ?_
      refine AWP.seq ?_
      refine AWP.seq ?_
      refine AWP.region rfl ?_
      refine AOps.val (Gv.fieldF Tryz.underlying27 rfl Tryz.sizeOf23 (by decide) rfl rfl) ?_
      refine AOps.val (Gv.load1F (c := .fro _ _) Tryz.isAgg23 rfl) ?_
      refine AOps.val (Gv.lenM Tryz.underlying23 rfl) ?_
      refine AOps.val (Gv.move (v := .int _ _) rfl) ?_
      refine AOps.nil ?_
      refine AWP.block ?_
      refine AWP.loop (γ := Nat) [2, 3, 41] (fun k => [(42, .int .i64 k)]) (fun k => []) (fun k => k ≤ f.vars.length ∧ f.vars.take k = g.vars.take k) (fun k => f.vars.length - k) 0 ⟨rfl, trivial⟩ ⟨_, (.refl _), rfl⟩ (⟨Nat.zero_le _, rfl⟩) ?_
      rintro k ⟨hk, hpre⟩
      refine AWP.seq ?_
      refine AWP.region rfl ?_
      refine AOps.val (Gv.lss rfl rfl) ?_
      refine AOps.nil ?_
      refine AWP.seq ?_
      refine AWP.condP rfl (fun ck => ?_) (fun ck => ?_)
      · skip
        have hk1 : k < f.vars.length := by omega
        have hk2 : k < g.vars.length := by omega
        refine AWP.skip ?_
        refine AWP.seq ?_
        refine AWP.block ?_
        refine AWP.seq ?_
        refine AWP.region rfl ?_
        refine AOps.val (Gv.move (v := .int _ _) rfl) ?_
        refine AOps.val (Gv.assign (v := .int _ _) rfl) ?_
        refine AOps.nil ?_
        refine AWP.seq ?_
        refine AWP.regionDraw (fun j => false) (by kernel_rfl) rfl (Part.perm (.rest _)) ?_
        refine AAny.take (i := 0) rfl (by kernel_rfl) (by kernel_rfl) (by kernel_rfl) (by kernel_rfl) (by kernel_rfl) (by kernel_rfl) (Gv.fieldF Tryz.underlying27 rfl Tryz.sizeOf23 (by decide) rfl rfl) ?_
        refine AAny.take (i := 1) rfl (by kernel_rfl) (by kernel_rfl) (by kernel_rfl) (by kernel_rfl) (by kernel_rfl) (by kernel_rfl) (Gv.load1F (c := .fro _ _) Tryz.isAgg23 rfl) ?_
        refine AAny.take (i := 2) rfl (by kernel_rfl) (by kernel_rfl) (by kernel_rfl) (by kernel_rfl) (by kernel_rfl) (by kernel_rfl) (Gv.move (v := .int _ _) rfl) ?_
        refine AAny.take (i := 3) rfl (by kernel_rfl) (by kernel_rfl) (by kernel_rfl) (by kernel_rfl) (by kernel_rfl) (by kernel_rfl) (Gv.idxM Tryz.underlying23 Tryz.sizeOf38 rfl rfl rfl (List.getElem?_eq_getElem (by omega))) ?_
        refine AAny.take (i := 4) rfl (by kernel_rfl) (by kernel_rfl) (by kernel_rfl) (by kernel_rfl) (by kernel_rfl) (by kernel_rfl) (Gv.loadWF Tryz.isAgg38 Tryz.sizeOf38 rfl rfl) ?_
        refine AAny.take (i := 5) rfl (by kernel_rfl) (by kernel_rfl) (by kernel_rfl) (by kernel_rfl) (by kernel_rfl) (by kernel_rfl) (Gv.fieldF Tryz.underlying27 rfl Tryz.sizeOf23 (by decide) rfl rfl) ?_
        refine AAny.take (i := 6) rfl (by kernel_rfl) (by kernel_rfl) (by kernel_rfl) (by kernel_rfl) (by kernel_rfl) (by kernel_rfl) (Gv.load1F (c := .fro _ _) Tryz.isAgg23 rfl) ?_
        refine AAny.take (i := 7) rfl (by kernel_rfl) (by kernel_rfl) (by kernel_rfl) (by kernel_rfl) (by kernel_rfl) (by kernel_rfl) (Gv.move (v := .int _ _) rfl) ?_
        refine AAny.take (i := 8) rfl (by kernel_rfl) (by kernel_rfl) (by kernel_rfl) (by kernel_rfl) (by kernel_rfl) (by kernel_rfl) (Gv.idxM Tryz.underlying23 Tryz.sizeOf38 rfl rfl rfl (List.getElem?_eq_getElem (by omega))) ?_
        refine AAny.take (i := 9) rfl (by kernel_rfl) (by kernel_rfl) (by kernel_rfl) (by kernel_rfl) (by kernel_rfl) (by kernel_rfl) (Gv.loadWF Tryz.isAgg38 Tryz.sizeOf38 rfl rfl) ?_
        refine AAny.take (i := 10) rfl (by kernel_rfl) (by kernel_rfl) (by kernel_rfl) (by kernel_rfl) (by kernel_rfl) (by kernel_rfl) (Gv.neqP (xs := [.string _, .int _ _]) (ys := [.string _, .int _ _]) (by kernel_rfl) rfl rfl (fun w => eq_var _ _ _ _ w)) ?_
        refine AAny.done (by kernel_rfl) ?_
        refine AWP.cond rfl (fun cd => ?_) (fun cd => ?_)
        · skip
          refine AWP.seq ?_
          refine AWP.region rfl ?_
          refine AOps.val (Gv.assign (v := .bool _) rfl) ?_
          refine AOps.nil ?_
          refine AWP.ret ?_
          repeat (first | refine aseqQ_ret ?_ | refine ablockQ_ret ?_)
          refine afin.t1 (x := .bool _) rfl ?_
          rw [decide_eq_false (fun e => by subst e; simp at cd)]
        · skip
          refine AWP.skip ?_
          refine AWP.region rfl ?_
          refine AOps.val (Gv.add rfl rfl (by unfold I64; omega)) ?_
          refine AOps.val (Gv.move (v := .int _ _) rfl) ?_
          refine AOps.nil ?_
          exact ⟨k + 1, ⟨rfl, rfl, rfl, trivial⟩, ⟨rfl, trivial⟩, ⟨_, (.refl _), rfl⟩, ⟨hk1, take_push hk1 hk2 hpre (var_ext (by simpa using cd))⟩, by omega⟩
      · skip
        have hvars := take_done hv (by omega) hpre
        refine AWP.exit ?_
        refine AWP.seq ?_
        refine AWP.seq ?_
        refine AWP.region rfl ?_
        refine AOps.val (Gv.fieldF Tryz.underlying27 rfl Tryz.sizeOf25 (by decide) rfl rfl) ?_
        refine AOps.val (Gv.load1F (c := .fro _ _) Tryz.isAgg25 rfl) ?_
        refine AOps.val (Gv.lenM Tryz.underlying25 rfl) ?_
        refine AOps.val (Gv.move (v := .int _ _) rfl) ?_
        refine AOps.nil ?_
        refine AWP.block ?_
        refine AWP.loop (γ := Nat) [3, 58, 59] (fun k => [(60, .int .i64 k)]) (fun k => []) (fun k => k ≤ f.blocks.length ∧ f.blocks.take k = g.blocks.take k) (fun k => f.blocks.length - k) 0 ⟨rfl, trivial⟩ ⟨_, (.refl _), rfl⟩ (⟨Nat.zero_le _, rfl⟩) ?_
        rintro k ⟨hk, hpre2⟩
        refine AWP.seq ?_
        refine AWP.region rfl ?_
        refine AOps.val (Gv.lss rfl rfl) ?_
        refine AOps.nil ?_
        refine AWP.seq ?_
        refine AWP.condP rfl (fun ck => ?_) (fun ck => ?_)
        · skip
          have hi1 : k < f.blocks.length := by omega
          have hi2 : k < g.blocks.length := by omega
          obtain ⟨hx1, hx2, hx3, hx4⟩ := hf4 _ (List.getElem_mem hi1)
          have hl4 := hx1.lt
          have hl5 := hx2.lt
          refine AWP.skip ?_
          refine AWP.seq ?_
          refine AWP.block ?_
          refine AWP.seq ?_
          refine AWP.region rfl ?_
          refine AOps.val (Gv.move (v := .int _ _) rfl) ?_
          refine AOps.val (Gv.idxM Tryz.underlying25 Tryz.sizeOf48 rfl rfl rfl (List.getElem?_eq_getElem (by omega))) ?_
          refine AOps.val (Gv.loadWF Tryz.isAgg48 Tryz.sizeOf48 rfl rfl) ?_
          refine AOps.alloc (cs := [.str ⟨#[]⟩, .raw (.slice none 0 0), .raw (.slice none 0 0), .int .i64 0, .int .i64 0, .int .i64 0, .int .i64 0]) Tryz.zeroValue48 rfl rfl ?_
          intro i7
          refine AOps.val (Gv.assign (v := .int _ _) rfl) ?_
          refine AOps.storeW Tryz.sizeOf48 rfl rfl rfl rfl rfl rfl .head rfl ?_
          refine AOps.nil ?_
          refine AWP.seq ?_
          refine AWP.region rfl ?_
          refine AOps.val (Gv.fieldF Tryz.underlying27 rfl Tryz.sizeOf25 (by decide) rfl rfl) ?_
          refine AOps.val (Gv.load1F (c := .fro _ _) Tryz.isAgg25 rfl) ?_
          refine AOps.val (Gv.move (v := .int _ _) rfl) ?_
          refine AOps.val (Gv.idxM Tryz.underlying25 Tryz.sizeOf48 rfl rfl rfl (List.getElem?_eq_getElem (by omega))) ?_
          refine AOps.val (Gv.loadWF Tryz.isAgg48 Tryz.sizeOf48 rfl rfl) ?_
          refine AOps.alloc (cs := [.str ⟨#[]⟩, .raw (.slice none 0 0), .raw (.slice none 0 0), .int .i64 0, .int .i64 0, .int .i64 0, .int .i64 0]) Tryz.zeroValue48 rfl rfl ?_
          intro i8
          refine AOps.storeW Tryz.sizeOf48 rfl rfl rfl rfl rfl rfl .head rfl ?_
          refine AOps.nil ?_
          refine AWP.seq ?_
          refine AWP.seq ?_
          refine AWP.cutS (γ := Unit) [3, 7, 8, 58, 59, 60] (fun u => [(99, .bool (blkDiff f.blocks[k] g.blocks[k]))]) (fun u => [(i8, .cells 48 (encBlk g.blocks[k])), (i7, .cells 48 (encBlk f.blocks[k]))]) (fun u => True) ?_ (fun _ _ h => h) ?_
          · skip
            refine AWP.region rfl ?_
            refine AOps.val (Gv.fieldO Tryz.underlying48 rfl Tryz.sizeOf9 (by decide) rfl rfl) ?_
            refine AOps.val (Gv.load1C (c := .str _) Tryz.isAgg9 rfl ⟨_, (.tail .head)⟩ rfl) ?_
            refine AOps.val (Gv.fieldO Tryz.underlying48 rfl Tryz.sizeOf9 (by decide) rfl rfl) ?_
            refine AOps.val (Gv.load1C (c := .str _) Tryz.isAgg9 rfl ⟨_, .head⟩ rfl) ?_
            refine AOps.val (Gv.neqT rfl rfl) ?_
            refine AOps.val (Gv.move (v := .bool _) rfl) ?_
            refine AOps.case (s := 75) rfl (fun c3 => ?_) (fun c3 => ?_)
            · skip
              refine AOps.guardFd rfl rfl c3 ?_
              refine AOps.guardFd rfl rfl c3 ?_
              refine AOps.guardFd rfl rfl c3 ?_
              refine AOps.guardFd rfl rfl c3 ?_
              refine AOps.guardFd rfl rfl c3 ?_
              refine AOps.val (Gv.pickT (v := .bool _) rfl c3 rfl) ?_
              refine AOps.val (Gv.move (v := .bool _) rfl) ?_
              refine AOps.guardFd rfl rfl rfl ?_
              refine AOps.guardFd rfl rfl rfl ?_
              refine AOps.guardFd rfl rfl rfl ?_
              refine AOps.guardFd rfl rfl rfl ?_
              refine AOps.guardFd rfl rfl rfl ?_
              refine AOps.guardFd rfl rfl rfl ?_
              refine AOps.guardFd rfl rfl rfl ?_
              refine AOps.val (Gv.pickT (v := .bool _) rfl rfl rfl) ?_
              refine AOps.val (Gv.move (v := .bool _) rfl) ?_
              refine AOps.guardFd rfl rfl rfl ?_
              refine AOps.guardFd rfl rfl rfl ?_
              refine AOps.guardFd rfl rfl rfl ?_
              refine AOps.guardFd rfl rfl rfl ?_
              refine AOps.guardFd rfl rfl rfl ?_
              refine AOps.guardFd rfl rfl rfl ?_
              refine AOps.guardFd rfl rfl rfl ?_
              refine AOps.val (Gv.pickT (v := .bool _) rfl rfl rfl) ?_
              refine AOps.nil ?_
              exact ⟨(), ⟨rfl, rfl, rfl, rfl, rfl, rfl, trivial⟩, ⟨jb (by simp_all [blkDiff]), trivial⟩, ⟨_, (.refl _), rfl⟩, trivial⟩
            · skip
              refine AOps.guardT rfl rfl c3 ?_
              refine AOps.val (Gv.fieldO Tryz.underlying48 rfl Tryz.sizeOf46 (by decide) rfl rfl) ?_
              refine AOps.guardT rfl rfl c3 ?_
              refine AOps.val (Gv.loadAC (l := [_, _, _, _]) Tryz.isAgg46 Tryz.sizeOf46 rfl ⟨_, (.tail .head)⟩ rfl rfl) ?_
              refine AOps.guardT rfl rfl c3 ?_
              refine AOps.val (Gv.fieldO Tryz.underlying48 rfl Tryz.sizeOf46 (by decide) rfl rfl) ?_
              refine AOps.guardT rfl rfl c3 ?_
              refine AOps.val (Gv.loadAC (l := [_, _, _, _]) Tryz.isAgg46 Tryz.sizeOf46 rfl ⟨_, .head⟩ rfl rfl) ?_
              refine AOps.guardT rfl rfl c3 ?_
              refine AOps.val (Gv.neqP (xs := [.int _ _, .int _ _, .int _ _, .int _ _]) (ys := [.int _ _, .int _ _, .int _ _, .int _ _]) (by kernel_rfl) rfl rfl (fun w => eq_term _ _ _ _ _ _ _ _ w)) ?_
              refine AOps.val (Gv.pickF (v := .bool _) rfl c3 rfl) ?_
              refine AOps.val (Gv.move (v := .bool _) rfl) ?_
              refine AOps.case (s := 82) rfl (fun c4 => ?_) (fun c4 => ?_)
              · skip
                refine AOps.guardFd rfl rfl c4 ?_
                refine AOps.guardFd rfl rfl c4 ?_
                refine AOps.guardFd rfl rfl c4 ?_
                refine AOps.guardFd rfl rfl c4 ?_
                refine AOps.guardFd rfl rfl c4 ?_
                refine AOps.guardFd rfl rfl c4 ?_
                refine AOps.guardFd rfl rfl c4 ?_
                refine AOps.val (Gv.pickT (v := .bool _) rfl c4 rfl) ?_
                refine AOps.val (Gv.move (v := .bool _) rfl) ?_
                refine AOps.guardFd rfl rfl rfl ?_
                refine AOps.guardFd rfl rfl rfl ?_
                refine AOps.guardFd rfl rfl rfl ?_
                refine AOps.guardFd rfl rfl rfl ?_
                refine AOps.guardFd rfl rfl rfl ?_
                refine AOps.guardFd rfl rfl rfl ?_
                refine AOps.guardFd rfl rfl rfl ?_
                refine AOps.val (Gv.pickT (v := .bool _) rfl rfl rfl) ?_
                refine AOps.nil ?_
                exact ⟨(), ⟨rfl, rfl, rfl, rfl, rfl, rfl, trivial⟩, ⟨jb (by simp_all [blkDiff]), trivial⟩, ⟨_, (.refl _), rfl⟩, trivial⟩
              · skip
                refine AOps.guardT rfl rfl c4 ?_
                refine AOps.val (Gv.fieldO Tryz.underlying48 rfl Tryz.sizeOf41 (by decide) rfl rfl) ?_
                refine AOps.guardT rfl rfl c4 ?_
                refine AOps.val (Gv.load1C (c := .fro _ _) Tryz.isAgg41 rfl ⟨_, (.tail .head)⟩ rfl) ?_
                refine AOps.guardT rfl rfl c4 ?_
                refine AOps.val (Gv.lenM Tryz.underlying41 rfl) ?_
                refine AOps.guardT rfl rfl c4 ?_
                refine AOps.val (Gv.fieldO Tryz.underlying48 rfl Tryz.sizeOf41 (by decide) rfl rfl) ?_
                refine AOps.guardT rfl rfl c4 ?_
                refine AOps.val (Gv.load1C (c := .fro _ _) Tryz.isAgg41 rfl ⟨_, .head⟩ rfl) ?_
                refine AOps.guardT rfl rfl c4 ?_
                refine AOps.val (Gv.lenM Tryz.underlying41 rfl) ?_
                refine AOps.guardT rfl rfl c4 ?_
                refine AOps.val (Gv.neqI rfl rfl) ?_
                refine AOps.val (Gv.pickF (v := .bool _) rfl c4 rfl) ?_
                refine AOps.val (Gv.move (v := .bool _) rfl) ?_
                refine AOps.case (s := 91) rfl (fun c5 => ?_) (fun c5 => ?_)
                · skip
                  refine AOps.guardFd rfl rfl c5 ?_
                  refine AOps.guardFd rfl rfl c5 ?_
                  refine AOps.guardFd rfl rfl c5 ?_
                  refine AOps.guardFd rfl rfl c5 ?_
                  refine AOps.guardFd rfl rfl c5 ?_
                  refine AOps.guardFd rfl rfl c5 ?_
                  refine AOps.guardFd rfl rfl c5 ?_
                  refine AOps.val (Gv.pickT (v := .bool _) rfl c5 rfl) ?_
                  refine AOps.nil ?_
                  exact ⟨(), ⟨rfl, rfl, rfl, rfl, rfl, rfl, trivial⟩, ⟨jb (by simp_all [blkDiff]), trivial⟩, ⟨_, (.refl _), rfl⟩, trivial⟩
                · skip
                  refine AOps.guardT rfl rfl c5 ?_
                  refine AOps.val (Gv.fieldO Tryz.underlying48 rfl Tryz.sizeOf42 (by decide) rfl rfl) ?_
                  refine AOps.guardT rfl rfl c5 ?_
                  refine AOps.val (Gv.load1C (c := .fro _ _) Tryz.isAgg42 rfl ⟨_, (.tail .head)⟩ rfl) ?_
                  refine AOps.guardT rfl rfl c5 ?_
                  refine AOps.val (Gv.lenM Tryz.underlying42 rfl) ?_
                  refine AOps.guardT rfl rfl c5 ?_
                  refine AOps.val (Gv.fieldO Tryz.underlying48 rfl Tryz.sizeOf42 (by decide) rfl rfl) ?_
                  refine AOps.guardT rfl rfl c5 ?_
                  refine AOps.val (Gv.load1C (c := .fro _ _) Tryz.isAgg42 rfl ⟨_, .head⟩ rfl) ?_
                  refine AOps.guardT rfl rfl c5 ?_
                  refine AOps.val (Gv.lenM Tryz.underlying42 rfl) ?_
                  refine AOps.guardT rfl rfl c5 ?_
                  refine AOps.val (Gv.neqI rfl rfl) ?_
                  refine AOps.val (Gv.pickF (v := .bool _) rfl c5 rfl) ?_
                  refine AOps.nil ?_
                  exact ⟨(), ⟨rfl, rfl, rfl, rfl, rfl, rfl, trivial⟩, ⟨jb (by simp_all [blkDiff]), trivial⟩, ⟨_, (.refl _), rfl⟩, trivial⟩
          · skip
            rintro _ _
            refine AWP.cond rfl (fun cb => ?_) (fun cb => ?_)
            · skip
              refine AWP.seq ?_
              refine AWP.region rfl ?_
              refine AOps.val (Gv.assign (v := .bool _) rfl) ?_
              refine AOps.nil ?_
              refine AWP.ret ?_
              repeat (first | refine aseqQ_ret ?_ | refine ablockQ_ret ?_)
              refine afin.t1 (x := .bool _) rfl ?_
              rw [decide_eq_false (fun e => by subst e; simp [blkDiff] at cb)]
            · skip
              obtain ⟨⟨hbn, hbt⟩, hbp, hbi⟩ := blkDiff_f cb
              refine AWP.skip ?_
              refine AWP.seq ?_
              refine AWP.seq ?_
              refine AWP.region rfl ?_
              refine AOps.val (Gv.fieldO Tryz.underlying48 rfl Tryz.sizeOf41 (by decide) rfl rfl) ?_
              refine AOps.val (Gv.load1C (c := .fro _ _) Tryz.isAgg41 rfl ⟨_, (.tail .head)⟩ rfl) ?_
              refine AOps.val (Gv.lenM Tryz.underlying41 rfl) ?_
              refine AOps.val (Gv.move (v := .int _ _) rfl) ?_
              refine AOps.nil ?_
              refine AWP.block ?_
              refine AWP.loop (γ := Nat) [3, 7, 8, 58, 59, 60, 101, 102] (fun m => [(103, .int .i64 m)]) (fun m => [(i8, .cells 48 (encBlk g.blocks[k])), (i7, .cells 48 (encBlk f.blocks[k]))]) (fun m => m ≤ f.blocks[k].phis.length ∧ f.blocks[k].phis.take m = g.blocks[k].phis.take m) (fun m => f.blocks[k].phis.length - m) 0 ⟨rfl, trivial⟩ ⟨_, (.refl _), rfl⟩ (⟨Nat.zero_le _, rfl⟩) ?_
              rintro m ⟨hm, hpre3⟩
              refine AWP.seq ?_
              refine AWP.region rfl ?_
              refine AOps.val (Gv.lss rfl rfl) ?_
              refine AOps.nil ?_
              refine AWP.seq ?_
              refine AWP.condP rfl (fun cm => ?_) (fun cm => ?_)
              · skip
                have hj1 : m < f.blocks[k].phis.length := by omega
                have hj2 : m < g.blocks[k].phis.length := by omega
                obtain ⟨hy1, hy2⟩ := hx3 _ (List.getElem_mem hj1)
                refine AWP.skip ?_
                refine AWP.seq ?_
                refine AWP.block ?_
                refine AWP.seq ?_
                refine AWP.region rfl ?_
                refine AOps.val (Gv.move (v := .int _ _) rfl) ?_
                refine AOps.val (Gv.idxM Tryz.underlying41 Tryz.sizeOf64 rfl rfl rfl (List.getElem?_eq_getElem (by omega))) ?_
                refine AOps.val (Gv.loadWF Tryz.isAgg64 Tryz.sizeOf64 rfl rfl) ?_
                refine AOps.alloc (cs := [.int .i64 0, .raw (.slice none 0 0), .raw (.slice none 0 0)]) Tryz.zeroValue64 rfl rfl ?_
                intro i10
                refine AOps.val (Gv.assign (v := .int _ _) rfl) ?_
                refine AOps.storeW Tryz.sizeOf64 rfl rfl rfl rfl rfl rfl .head rfl ?_
                refine AOps.nil ?_
                refine AWP.seq ?_
                refine AWP.region rfl ?_
                refine AOps.val (Gv.fieldO Tryz.underlying48 rfl Tryz.sizeOf41 (by decide) rfl rfl) ?_
                refine AOps.val (Gv.load1C (c := .fro _ _) Tryz.isAgg41 rfl ⟨_, (.tail .head)⟩ rfl) ?_
                refine AOps.val (Gv.move (v := .int _ _) rfl) ?_
                refine AOps.val (Gv.idxM Tryz.underlying41 Tryz.sizeOf64 rfl rfl rfl (List.getElem?_eq_getElem (by omega))) ?_
                refine AOps.val (Gv.loadWF Tryz.isAgg64 Tryz.sizeOf64 rfl rfl) ?_
                refine AOps.alloc (cs := [.int .i64 0, .raw (.slice none 0 0), .raw (.slice none 0 0)]) Tryz.zeroValue64 rfl rfl ?_
                intro i11
                refine AOps.storeW Tryz.sizeOf64 rfl rfl rfl rfl rfl rfl .head rfl ?_
                refine AOps.nil ?_
                refine AWP.seq ?_
                refine AWP.cutS (γ := Unit) [3, 7, 8, 58, 59, 60, 101, 102, 103] (fun u => [(133, .bool (!decide (f.blocks[k].phis[m] = g.blocks[k].phis[m])))]) (fun u => [(i8, .cells 48 (encBlk g.blocks[k])), (i7, .cells 48 (encBlk f.blocks[k]))]) (fun u => True) ?_ (fun _ _ h => h) ?_
                · skip
                  refine AWP.region rfl ?_
                  refine AOps.val (Gv.fieldO Tryz.underlying64 rfl Tryz.sizeOf3 (by decide) rfl rfl) ?_
                  refine AOps.val (Gv.load1C (c := .int _ _) Tryz.isAgg3 rfl ⟨_, (.tail .head)⟩ rfl) ?_
                  refine AOps.val (Gv.fieldO Tryz.underlying64 rfl Tryz.sizeOf3 (by decide) rfl rfl) ?_
                  refine AOps.val (Gv.load1C (c := .int _ _) Tryz.isAgg3 rfl ⟨_, .head⟩ rfl) ?_
                  refine AOps.val (Gv.neqI rfl rfl) ?_
                  refine AOps.val (Gv.move (v := .bool _) rfl) ?_
                  refine AOps.case (s := 118) rfl (fun c6 => ?_) (fun c6 => ?_)
                  · skip
                    refine AOps.guardFd rfl rfl c6 ?_
                    refine AOps.guardFd rfl rfl c6 ?_
                    refine AOps.guardFd rfl rfl c6 ?_
                    refine AOps.guardFd rfl rfl c6 ?_
                    refine AOps.guardFd rfl rfl c6 ?_
                    refine AOps.guardFd rfl rfl c6 ?_
                    refine AOps.val (Gv.pickT (v := .bool _) rfl c6 rfl) ?_
                    refine AOps.val (Gv.move (v := .bool _) rfl) ?_
                    refine AOps.guardFd rfl rfl rfl ?_
                    refine AOps.guardFd rfl rfl rfl ?_
                    refine AOps.guardFd rfl rfl rfl ?_
                    refine AOps.guardFd rfl rfl rfl ?_
                    refine AOps.guardFd rfl rfl rfl ?_
                    refine AOps.guardFd rfl rfl rfl ?_
                    refine AOps.val (Gv.pickT (v := .bool _) rfl rfl rfl) ?_
                    refine AOps.nil ?_
                    exact ⟨(), ⟨rfl, rfl, rfl, rfl, rfl, rfl, rfl, rfl, rfl, trivial⟩, ⟨jb (by rw [phi_diff, Bool.not_not]; simp_all), trivial⟩, ⟨_, (.drop (.drop (.refl _))), rfl⟩, trivial⟩
                  · skip
                    refine AOps.guardT rfl rfl c6 ?_
                    refine AOps.val (Gv.fieldO Tryz.underlying64 rfl Tryz.sizeOf24 (by decide) rfl rfl) ?_
                    refine AOps.guardT rfl rfl c6 ?_
                    refine AOps.val (Gv.load1C (c := .fro _ _) Tryz.isAgg24 rfl ⟨_, (.tail .head)⟩ rfl) ?_
                    refine AOps.guardT rfl rfl c6 ?_
                    refine AOps.val (Gv.fieldO Tryz.underlying64 rfl Tryz.sizeOf24 (by decide) rfl rfl) ?_
                    refine AOps.guardT rfl rfl c6 ?_
                    refine AOps.val (Gv.load1C (c := .fro _ _) Tryz.isAgg24 rfl ⟨_, .head⟩ rfl) ?_
                    refine AOps.guardT rfl rfl c6 ?_
                    refine AOps.callP (ints_spec _ _ (by assumption)) rfl ?_
                    refine AOps.guardT rfl rfl c6 ?_
                    refine AOps.val (Gv.not rfl) ?_
                    refine AOps.val (Gv.pickF (v := .bool _) rfl c6 rfl) ?_
                    refine AOps.val (Gv.move (v := .bool _) rfl) ?_
                    refine AOps.case (s := 126) rfl (fun c7 => ?_) (fun c7 => ?_)
                    · skip
                      refine AOps.guardFd rfl rfl c7 ?_
                      refine AOps.guardFd rfl rfl c7 ?_
                      refine AOps.guardFd rfl rfl c7 ?_
                      refine AOps.guardFd rfl rfl c7 ?_
                      refine AOps.guardFd rfl rfl c7 ?_
                      refine AOps.guardFd rfl rfl c7 ?_
                      refine AOps.val (Gv.pickT (v := .bool _) rfl c7 rfl) ?_
                      refine AOps.nil ?_
                      exact ⟨(), ⟨rfl, rfl, rfl, rfl, rfl, rfl, rfl, rfl, rfl, trivial⟩, ⟨jb (by rw [phi_diff, Bool.not_not]; simp_all), trivial⟩, ⟨_, (.drop (.drop (.refl _))), rfl⟩, trivial⟩
                    · skip
                      refine AOps.guardT rfl rfl c7 ?_
                      refine AOps.val (Gv.fieldO Tryz.underlying64 rfl Tryz.sizeOf24 (by decide) rfl rfl) ?_
                      refine AOps.guardT rfl rfl c7 ?_
                      refine AOps.val (Gv.load1C (c := .fro _ _) Tryz.isAgg24 rfl ⟨_, (.tail .head)⟩ rfl) ?_
                      refine AOps.guardT rfl rfl c7 ?_
                      refine AOps.val (Gv.fieldO Tryz.underlying64 rfl Tryz.sizeOf24 (by decide) rfl rfl) ?_
                      refine AOps.guardT rfl rfl c7 ?_
                      refine AOps.val (Gv.load1C (c := .fro _ _) Tryz.isAgg24 rfl ⟨_, .head⟩ rfl) ?_
                      refine AOps.guardT rfl rfl c7 ?_
                      refine AOps.callP (ints_spec _ _ (by assumption)) rfl ?_
                      refine AOps.guardT rfl rfl c7 ?_
                      refine AOps.val (Gv.not rfl) ?_
                      refine AOps.val (Gv.pickF (v := .bool _) rfl c7 rfl) ?_
                      refine AOps.nil ?_
                      exact ⟨(), ⟨rfl, rfl, rfl, rfl, rfl, rfl, rfl, rfl, rfl, trivial⟩, ⟨jb (by rw [phi_diff, Bool.not_not]; simp_all), trivial⟩, ⟨_, (.drop (.drop (.refl _))), rfl⟩, trivial⟩
                · skip
                  rintro _ _
                  refine AWP.cond rfl (fun cp => ?_) (fun cp => ?_)
                  · skip
                    refine AWP.seq ?_
                    refine AWP.region rfl ?_
                    refine AOps.val (Gv.assign (v := .bool _) rfl) ?_
                    refine AOps.nil ?_
                    refine AWP.ret ?_
                    repeat (first | refine aseqQ_ret ?_ | refine ablockQ_ret ?_)
                    refine afin.t1 (x := .bool _) rfl ?_
                    rw [decide_eq_false (fun e => by subst e; simp at cp)]
                  · skip
                    refine AWP.skip ?_
                    refine AWP.region rfl ?_
                    refine AOps.val (Gv.add rfl rfl (by unfold I64; omega)) ?_
                    refine AOps.val (Gv.move (v := .int _ _) rfl) ?_
                    refine AOps.nil ?_
                    exact ⟨m + 1, ⟨rfl, rfl, rfl, rfl, rfl, rfl, rfl, rfl, trivial⟩, ⟨rfl, trivial⟩, ⟨_, (.refl _), rfl⟩, ⟨hj1, take_push hj1 hj2 hpre3 (by simpa using cp)⟩, by omega⟩
              · skip
                have hphis := take_done hbp (by omega) hpre3
                refine AWP.exit ?_
                refine AWP.seq ?_
                refine AWP.region rfl ?_
                refine AOps.val (Gv.fieldO Tryz.underlying48 rfl Tryz.sizeOf42 (by decide) rfl rfl) ?_
                refine AOps.val (Gv.load1C (c := .fro _ _) Tryz.isAgg42 rfl ⟨_, (.tail .head)⟩ rfl) ?_
                refine AOps.val (Gv.lenM Tryz.underlying42 rfl) ?_
                refine AOps.val (Gv.move (v := .int _ _) rfl) ?_
                refine AOps.nil ?_
                refine AWP.block ?_
                refine AWP.loop (γ := Nat) [3, 8, 58, 59, 60, 136, 137] (fun m => [(138, .int .i64 m)]) (fun m => [(i8, .cells 48 (encBlk g.blocks[k])), (i7, .cells 48 (encBlk f.blocks[k]))]) (fun m => m ≤ f.blocks[k].insts.length ∧ f.blocks[k].insts.take m = g.blocks[k].insts.take m) (fun m => f.blocks[k].insts.length - m) 0 ⟨rfl, trivial⟩ ⟨_, (.refl _), rfl⟩ (⟨Nat.zero_le _, rfl⟩) ?_
                rintro m ⟨hm, hpre3⟩
                refine AWP.seq ?_
                refine AWP.region rfl ?_
                refine AOps.val (Gv.lss rfl rfl) ?_
                refine AOps.nil ?_
                refine AWP.seq ?_
                refine AWP.condP rfl (fun cm => ?_) (fun cm => ?_)
                · skip
                  have hj1 : m < f.blocks[k].insts.length := by omega
                  have hj2 : m < g.blocks[k].insts.length := by omega
                  have hy1 := hx4 _ (List.getElem_mem hj1)
                  refine AWP.skip ?_
                  refine AWP.seq ?_
                  refine AWP.block ?_
                  refine AWP.seq ?_
                  refine AWP.region rfl ?_
                  refine AOps.val (Gv.move (v := .int _ _) rfl) ?_
                  refine AOps.val (Gv.idxM Tryz.underlying42 Tryz.sizeOf67 rfl rfl rfl (List.getElem?_eq_getElem (by omega))) ?_
                  refine AOps.val (Gv.loadWF Tryz.isAgg67 Tryz.sizeOf67 rfl rfl) ?_
                  refine AOps.alloc (cs := [.int .i64 0, .int .i64 0, .raw (.slice none 0 0), .int .i64 0]) Tryz.zeroValue67 rfl rfl ?_
                  intro i13
                  refine AOps.val (Gv.assign (v := .int _ _) rfl) ?_
                  refine AOps.storeW Tryz.sizeOf67 rfl rfl rfl rfl rfl rfl .head rfl ?_
                  refine AOps.nil ?_
                  refine AWP.seq ?_
                  refine AWP.region rfl ?_
                  refine AOps.val (Gv.fieldO Tryz.underlying48 rfl Tryz.sizeOf42 (by decide) rfl rfl) ?_
                  refine AOps.val (Gv.load1C (c := .fro _ _) Tryz.isAgg42 rfl ⟨_, (.tail .head)⟩ rfl) ?_
                  refine AOps.val (Gv.move (v := .int _ _) rfl) ?_
                  refine AOps.val (Gv.idxM Tryz.underlying42 Tryz.sizeOf67 rfl rfl rfl (List.getElem?_eq_getElem (by omega))) ?_
                  refine AOps.val (Gv.loadWF Tryz.isAgg67 Tryz.sizeOf67 rfl rfl) ?_
                  refine AOps.alloc (cs := [.int .i64 0, .int .i64 0, .raw (.slice none 0 0), .int .i64 0]) Tryz.zeroValue67 rfl rfl ?_
                  intro i14
                  refine AOps.storeW Tryz.sizeOf67 rfl rfl rfl rfl rfl rfl .head rfl ?_
                  refine AOps.nil ?_
                  refine AWP.seq ?_
                  refine AWP.cutS (γ := Unit) [3, 8, 58, 59, 60, 136, 137, 138] (fun u => [(174, .bool (!decide (f.blocks[k].insts[m] = g.blocks[k].insts[m])))]) (fun u => [(i8, .cells 48 (encBlk g.blocks[k])), (i7, .cells 48 (encBlk f.blocks[k]))]) (fun u => True) ?_ (fun _ _ h => h) ?_
                  · skip
                    refine AWP.region rfl ?_
                    refine AOps.val (Gv.fieldO Tryz.underlying67 rfl Tryz.sizeOf65 (by decide) rfl rfl) ?_
                    refine AOps.val (Gv.load1C (c := .int _ _) Tryz.isAgg65 rfl ⟨_, (.tail .head)⟩ rfl) ?_
                    refine AOps.val (Gv.fieldO Tryz.underlying67 rfl Tryz.sizeOf65 (by decide) rfl rfl) ?_
                    refine AOps.val (Gv.load1C (c := .int _ _) Tryz.isAgg65 rfl ⟨_, .head⟩ rfl) ?_
                    refine AOps.val (Gv.neqI rfl rfl) ?_
                    refine AOps.val (Gv.move (v := .bool _) rfl) ?_
                    refine AOps.case (s := 153) rfl (fun c8 => ?_) (fun c8 => ?_)
                    · skip
                      refine AOps.guardFd rfl rfl c8 ?_
                      refine AOps.guardFd rfl rfl c8 ?_
                      refine AOps.guardFd rfl rfl c8 ?_
                      refine AOps.guardFd rfl rfl c8 ?_
                      refine AOps.guardFd rfl rfl c8 ?_
                      refine AOps.val (Gv.pickT (v := .bool _) rfl c8 rfl) ?_
                      refine AOps.val (Gv.move (v := .bool _) rfl) ?_
                      refine AOps.guardFd rfl rfl rfl ?_
                      refine AOps.guardFd rfl rfl rfl ?_
                      refine AOps.guardFd rfl rfl rfl ?_
                      refine AOps.guardFd rfl rfl rfl ?_
                      refine AOps.guardFd rfl rfl rfl ?_
                      refine AOps.val (Gv.pickT (v := .bool _) rfl rfl rfl) ?_
                      refine AOps.val (Gv.move (v := .bool _) rfl) ?_
                      refine AOps.guardFd rfl rfl rfl ?_
                      refine AOps.guardFd rfl rfl rfl ?_
                      refine AOps.guardFd rfl rfl rfl ?_
                      refine AOps.guardFd rfl rfl rfl ?_
                      refine AOps.guardFd rfl rfl rfl ?_
                      refine AOps.guardFd rfl rfl rfl ?_
                      refine AOps.val (Gv.pickT (v := .bool _) rfl rfl rfl) ?_
                      refine AOps.nil ?_
                      exact ⟨(), ⟨rfl, rfl, rfl, rfl, rfl, rfl, rfl, rfl, trivial⟩, ⟨jb (by rw [inst_diff, Bool.not_not]; simp_all), trivial⟩, ⟨_, (.drop (.drop (.refl _))), rfl⟩, trivial⟩
                    · skip
                      refine AOps.guardT rfl rfl c8 ?_
                      refine AOps.val (Gv.fieldO Tryz.underlying67 rfl Tryz.sizeOf3 (by decide) rfl rfl) ?_
                      refine AOps.guardT rfl rfl c8 ?_
                      refine AOps.val (Gv.load1C (c := .int _ _) Tryz.isAgg3 rfl ⟨_, (.tail .head)⟩ rfl) ?_
                      refine AOps.guardT rfl rfl c8 ?_
                      refine AOps.val (Gv.fieldO Tryz.underlying67 rfl Tryz.sizeOf3 (by decide) rfl rfl) ?_
                      refine AOps.guardT rfl rfl c8 ?_
                      refine AOps.val (Gv.load1C (c := .int _ _) Tryz.isAgg3 rfl ⟨_, .head⟩ rfl) ?_
                      refine AOps.guardT rfl rfl c8 ?_
                      refine AOps.val (Gv.neqI rfl rfl) ?_
                      refine AOps.val (Gv.pickF (v := .bool _) rfl c8 rfl) ?_
                      refine AOps.val (Gv.move (v := .bool _) rfl) ?_
                      refine AOps.case (s := 160) rfl (fun c9 => ?_) (fun c9 => ?_)
                      · skip
                        refine AOps.guardFd rfl rfl c9 ?_
                        refine AOps.guardFd rfl rfl c9 ?_
                        refine AOps.guardFd rfl rfl c9 ?_
                        refine AOps.guardFd rfl rfl c9 ?_
                        refine AOps.guardFd rfl rfl c9 ?_
                        refine AOps.val (Gv.pickT (v := .bool _) rfl c9 rfl) ?_
                        refine AOps.val (Gv.move (v := .bool _) rfl) ?_
                        refine AOps.guardFd rfl rfl rfl ?_
                        refine AOps.guardFd rfl rfl rfl ?_
                        refine AOps.guardFd rfl rfl rfl ?_
                        refine AOps.guardFd rfl rfl rfl ?_
                        refine AOps.guardFd rfl rfl rfl ?_
                        refine AOps.guardFd rfl rfl rfl ?_
                        refine AOps.val (Gv.pickT (v := .bool _) rfl rfl rfl) ?_
                        refine AOps.nil ?_
                        exact ⟨(), ⟨rfl, rfl, rfl, rfl, rfl, rfl, rfl, rfl, trivial⟩, ⟨jb (by rw [inst_diff, Bool.not_not]; simp_all), trivial⟩, ⟨_, (.drop (.drop (.refl _))), rfl⟩, trivial⟩
                      · skip
                        refine AOps.guardT rfl rfl c9 ?_
                        refine AOps.val (Gv.fieldO Tryz.underlying67 rfl Tryz.sizeOf2 (by decide) rfl rfl) ?_
                        refine AOps.guardT rfl rfl c9 ?_
                        refine AOps.val (Gv.load1C (c := .int _ _) Tryz.isAgg2 rfl ⟨_, (.tail .head)⟩ rfl) ?_
                        refine AOps.guardT rfl rfl c9 ?_
                        refine AOps.val (Gv.fieldO Tryz.underlying67 rfl Tryz.sizeOf2 (by decide) rfl rfl) ?_
                        refine AOps.guardT rfl rfl c9 ?_
                        refine AOps.val (Gv.load1C (c := .int _ _) Tryz.isAgg2 rfl ⟨_, .head⟩ rfl) ?_
                        refine AOps.guardT rfl rfl c9 ?_
                        refine AOps.val (Gv.neqI rfl rfl) ?_
                        refine AOps.val (Gv.pickF (v := .bool _) rfl c9 rfl) ?_
                        refine AOps.val (Gv.move (v := .bool _) rfl) ?_
                        refine AOps.case (s := 167) rfl (fun c10 => ?_) (fun c10 => ?_)
                        · skip
                          refine AOps.guardFd rfl rfl c10 ?_
                          refine AOps.guardFd rfl rfl c10 ?_
                          refine AOps.guardFd rfl rfl c10 ?_
                          refine AOps.guardFd rfl rfl c10 ?_
                          refine AOps.guardFd rfl rfl c10 ?_
                          refine AOps.guardFd rfl rfl c10 ?_
                          refine AOps.val (Gv.pickT (v := .bool _) rfl c10 rfl) ?_
                          refine AOps.nil ?_
                          exact ⟨(), ⟨rfl, rfl, rfl, rfl, rfl, rfl, rfl, rfl, trivial⟩, ⟨jb (by rw [inst_diff, Bool.not_not]; simp_all), trivial⟩, ⟨_, (.drop (.drop (.refl _))), rfl⟩, trivial⟩
                        · skip
                          refine AOps.guardT rfl rfl c10 ?_
                          refine AOps.val (Gv.fieldO Tryz.underlying67 rfl Tryz.sizeOf24 (by decide) rfl rfl) ?_
                          refine AOps.guardT rfl rfl c10 ?_
                          refine AOps.val (Gv.load1C (c := .fro _ _) Tryz.isAgg24 rfl ⟨_, (.tail .head)⟩ rfl) ?_
                          refine AOps.guardT rfl rfl c10 ?_
                          refine AOps.val (Gv.fieldO Tryz.underlying67 rfl Tryz.sizeOf24 (by decide) rfl rfl) ?_
                          refine AOps.guardT rfl rfl c10 ?_
                          refine AOps.val (Gv.load1C (c := .fro _ _) Tryz.isAgg24 rfl ⟨_, .head⟩ rfl) ?_
                          refine AOps.guardT rfl rfl c10 ?_
                          refine AOps.callP (ints_spec _ _ (by assumption)) rfl ?_
                          refine AOps.guardT rfl rfl c10 ?_
                          refine AOps.val (Gv.not rfl) ?_
                          refine AOps.val (Gv.pickF (v := .bool _) rfl c10 rfl) ?_
                          refine AOps.nil ?_
                          exact ⟨(), ⟨rfl, rfl, rfl, rfl, rfl, rfl, rfl, rfl, trivial⟩, ⟨jb (by rw [inst_diff, Bool.not_not]; simp_all), trivial⟩, ⟨_, (.drop (.drop (.refl _))), rfl⟩, trivial⟩
                  · skip
                    rintro _ _
                    refine AWP.cond rfl (fun cp => ?_) (fun cp => ?_)
                    · skip
                      refine AWP.seq ?_
                      refine AWP.region rfl ?_
                      refine AOps.val (Gv.assign (v := .bool _) rfl) ?_
                      refine AOps.nil ?_
                      refine AWP.ret ?_
                      repeat (first | refine aseqQ_ret ?_ | refine ablockQ_ret ?_)
                      refine afin.t1 (x := .bool _) rfl ?_
                      rw [decide_eq_false (fun e => by subst e; simp at cp)]
                    · skip
                      refine AWP.skip ?_
                      refine AWP.region rfl ?_
                      refine AOps.val (Gv.add rfl rfl (by unfold I64; omega)) ?_
                      refine AOps.val (Gv.move (v := .int _ _) rfl) ?_
                      refine AOps.nil ?_
                      exact ⟨m + 1, ⟨rfl, rfl, rfl, rfl, rfl, rfl, rfl, trivial⟩, ⟨rfl, trivial⟩, ⟨_, (.refl _), rfl⟩, ⟨hj1, take_push hj1 hj2 hpre3 (by simpa using cp)⟩, by omega⟩
                · skip
                  have hinsts := take_done hbi (by omega) hpre3
                  refine AWP.exit ?_
                  refine AWP.region rfl ?_
                  refine AOps.val (Gv.add rfl rfl (by unfold I64; omega)) ?_
                  refine AOps.val (Gv.move (v := .int _ _) rfl) ?_
                  refine AOps.nil ?_
                  exact ⟨k + 1, ⟨rfl, rfl, rfl, trivial⟩, ⟨rfl, trivial⟩, ⟨_, (.drop (.drop (.refl _))), rfl⟩, ⟨hi1, take_push hi1 hi2 hpre2 (blk_ext hbn hbt hphis hinsts)⟩, by omega⟩
        · skip
          have hblocks := take_done hbl (by omega) hpre2
          refine AWP.exit ?_
          refine AWP.seq ?_
          refine AWP.region rfl ?_
          refine AOps.val (Gv.assign (v := .bool _) rfl) ?_
          refine AOps.nil ?_
          refine AWP.ret ?_
          repeat (first | refine aseqQ_ret ?_ | refine ablockQ_ret ?_)
          refine afin.t1 (x := .bool _) rfl ?_
          rw [decide_eq_true (func_ext hvars hpar hblocks)]
end Go.Proofs.YtdkhlgiohpdihaaGreatDoor
namespace Go.Proofs.YtdkhlgiohpdihaaGreatDoor
open Go.Proofs Go.Lib Go.Shelf Go.RowKit
set_option maxRecDepth 20000
variable {E : World}
def wV (l : List PVar) : Nat := (l.map fun v => v.name.size).sum
def wP (l : List PPhi) : Nat := (l.map fun p => p.args.length + p.from_.length).sum
def wX (l : List PInst) : Nat := (l.map fun x => x.args.length).sum
def wB (b : PBlock) : Nat := b.name.size + 10 * (b.phis.length + b.insts.length) + wP b.phis + wX b.insts
def wBs (l : List PBlock) : Nat := (l.map wB).sum
theorem wV_succ {l : List PVar} {k : Nat} (h : k < l.length) : wV (l.take (k + 1)) = wV (l.take k) + l[k].name.size := by
  unfold wV; rw [List.take_succ_eq_append_getElem h, List.map_append, List.sum_append]; simp only [List.map_cons, List.map_nil, List.sum_cons, List.sum_nil, Nat.add_zero]
theorem wP_succ {l : List PPhi} {k : Nat} (h : k < l.length) : wP (l.take (k + 1)) = wP (l.take k) + (l[k].args.length + l[k].from_.length) := by
  unfold wP; rw [List.take_succ_eq_append_getElem h, List.map_append, List.sum_append]; simp only [List.map_cons, List.map_nil, List.sum_cons, List.sum_nil, Nat.add_zero]
theorem wX_succ {l : List PInst} {k : Nat} (h : k < l.length) : wX (l.take (k + 1)) = wX (l.take k) + l[k].args.length := by
  unfold wX; rw [List.take_succ_eq_append_getElem h, List.map_append, List.sum_append]; simp only [List.map_cons, List.map_nil, List.sum_cons, List.sum_nil, Nat.add_zero]
theorem wBs_succ {l : List PBlock} {k : Nat} (h : k < l.length) : wBs (l.take (k + 1)) = wBs (l.take k) + wB l[k] := by
  unfold wBs; rw [List.take_succ_eq_append_getElem h, List.map_append, List.sum_append]; simp only [List.map_cons, List.map_nil, List.sum_cons, List.sum_nil, Nat.add_zero]
def littleB (b : PBlock) : Prop := b.name.size ≤ 400 ∧ b.phis.length ≤ 400 ∧ b.insts.length ≤ 400 ∧ (∀ p ∈ b.phis, p.args.length ≤ 400 ∧ p.from_.length ≤ 400) ∧ ∀ x ∈ b.insts, x.args.length ≤ 400
def little (f : PFunc) : Prop := f.vars.length ≤ 100 ∧ f.blocks.length ≤ 40 ∧ f.params.length ≤ 20 ∧ (∀ v ∈ f.vars, v.name.size ≤ 400) ∧ (∀ b ∈ f.blocks, littleB b) ∧ (f.blocks ≠ [] → wV f.vars + wBs f.blocks ≤ 4000)
theorem little.small {f : PFunc} (h : little f) : small f := by
  obtain ⟨h1, h2, h3, h4, h5, _⟩ := h
  refine ⟨by omega, by omega, by omega, fun v hv => by have := h4 v hv; omega, fun b hb => ?_⟩
  obtain ⟨g1, g2, g3, g4, g5⟩ := h5 b hb
  exact ⟨by omega, by omega, by omega, fun p hp => by have := g4 p hp; omega, fun x hx => by have := g5 x hx; omega⟩
def wL {α : Type} (l : List α) : Prop := l.length ≤ 9223372036854775807
def wPhi (p : PPhi) : Prop := wL p.args ∧ wL p.from_
def wBlk (b : PBlock) : Prop := wL b.phis ∧ wL b.insts ∧ (∀ p ∈ b.phis, wPhi p) ∧ (∀ x ∈ b.insts, wL x.args)
def wFunc (f : PFunc) : Prop := wL f.vars ∧ wL f.params ∧ wL f.blocks ∧ ∀ b ∈ f.blocks, wBlk b
theorem wL.lt {α : Type} {l : List α} (h : wL l) : l.length ≤ 9223372036854775807 := h
def few1 (f : PFunc) : Bool := decide ((100 : Int) < f.vars.length) || (decide ((40 : Int) < f.blocks.length) || decide ((20 : Int) < f.params.length))
def few2 (b : PBlock) : Bool := decide ((400 : Int) < b.name.size) || (decide ((400 : Int) < b.phis.length) || decide ((400 : Int) < b.insts.length))
set_option maxHeartbeats 8000000 in
theorem few_spec (f : PFunc) (hf : wFunc f) : ACall Tryz.prog E 11 [.agg (encF f)] [] (fun x _ => ∃ b : Bool, x = .bool b ∧ (b = true → little f)) := by
  obtain ⟨hf1, hf2, hf3, hf4⟩ := hf
  have hl1 := hf1.lt
  have hl3 := hf3.lt
  refine ACall.intro Tryz.func11 rfl (by decide) rfl ?_
  refine AWP.seq ?_
  refine AWP.region rfl ?_
  refine AOps.boxF (cs := _) rfl rfl rfl ?_
  refine AOps.val (Gv.assign (v := .bool _) rfl) ?_
  refine AOps.nil ?_
  refine AWP.seq ?_
  refine AWP.seq ?_
  refine AWP.cutS (γ := Unit) [1] (fun u => [(27, .bool (few1 f))]) (fun u => []) (fun u => True) ?_ (fun _ _ h => h) ?_
  · skip
    refine AWP.region rfl ?_
    refine AOps.val (Gv.fieldF Tryz.underlying27 rfl Tryz.sizeOf23 (by decide) rfl rfl) ?_
    refine AOps.val (Gv.load1F (c := .fro _ _) Tryz.isAgg23 rfl) ?_
    refine AOps.val (Gv.lenM Tryz.underlying23 rfl) ?_
    refine AOps.val (Gv.gtr rfl rfl) ?_
    refine AOps.val (Gv.move (v := .bool _) rfl) ?_
    refine AOps.case (s := 16) rfl (fun c1 => ?_) (fun c1 => ?_)
    · skip
      refine AOps.guardFd rfl rfl c1 ?_
      refine AOps.guardFd rfl rfl c1 ?_
      refine AOps.guardFd rfl rfl c1 ?_
      refine AOps.guardFd rfl rfl c1 ?_
      refine AOps.val (Gv.pickT (v := .bool _) rfl c1 rfl) ?_
      refine AOps.val (Gv.move (v := .bool _) rfl) ?_
      refine AOps.guardFd rfl rfl rfl ?_
      refine AOps.guardFd rfl rfl rfl ?_
      refine AOps.guardFd rfl rfl rfl ?_
      refine AOps.guardFd rfl rfl rfl ?_
      refine AOps.val (Gv.pickT (v := .bool _) rfl rfl rfl) ?_
      refine AOps.nil ?_
      exact ⟨(), ⟨rfl, trivial⟩, ⟨jb (by simp_all [few1] <;> grind), trivial⟩, ⟨_, (.refl _), rfl⟩, trivial⟩
    · skip
      refine AOps.guardT rfl rfl c1 ?_
      refine AOps.val (Gv.fieldF Tryz.underlying27 rfl Tryz.sizeOf25 (by decide) rfl rfl) ?_
      refine AOps.guardT rfl rfl c1 ?_
      refine AOps.val (Gv.load1F (c := .fro _ _) Tryz.isAgg25 rfl) ?_
      refine AOps.guardT rfl rfl c1 ?_
      refine AOps.val (Gv.lenM Tryz.underlying25 rfl) ?_
      refine AOps.guardT rfl rfl c1 ?_
      refine AOps.val (Gv.gtr rfl rfl) ?_
      refine AOps.val (Gv.pickF (v := .bool _) rfl c1 rfl) ?_
      refine AOps.val (Gv.move (v := .bool _) rfl) ?_
      refine AOps.case (s := 22) rfl (fun c2 => ?_) (fun c2 => ?_)
      · skip
        refine AOps.guardFd rfl rfl c2 ?_
        refine AOps.guardFd rfl rfl c2 ?_
        refine AOps.guardFd rfl rfl c2 ?_
        refine AOps.guardFd rfl rfl c2 ?_
        refine AOps.val (Gv.pickT (v := .bool _) rfl c2 rfl) ?_
        refine AOps.nil ?_
        exact ⟨(), ⟨rfl, trivial⟩, ⟨jb (by simp_all [few1] <;> grind), trivial⟩, ⟨_, (.refl _), rfl⟩, trivial⟩
      · skip
        refine AOps.guardT rfl rfl c2 ?_
        refine AOps.val (Gv.fieldF Tryz.underlying27 rfl Tryz.sizeOf24 (by decide) rfl rfl) ?_
        refine AOps.guardT rfl rfl c2 ?_
        refine AOps.val (Gv.load1F (c := .fro _ _) Tryz.isAgg24 rfl) ?_
        refine AOps.guardT rfl rfl c2 ?_
        refine AOps.val (Gv.lenM Tryz.underlying24 rfl) ?_
        refine AOps.guardT rfl rfl c2 ?_
        refine AOps.val (Gv.gtr rfl rfl) ?_
        refine AOps.val (Gv.pickF (v := .bool _) rfl c2 rfl) ?_
        refine AOps.nil ?_
        exact ⟨(), ⟨rfl, trivial⟩, ⟨jb (by simp_all [few1] <;> grind), trivial⟩, ⟨_, (.refl _), rfl⟩, trivial⟩
  · skip
    rintro _ _
    refine AWP.cond rfl (fun c1 => ?_) (fun c1 => ?_)
    · skip
      refine AWP.seq ?_
      refine AWP.region rfl ?_
      refine AOps.val (Gv.assign (v := .bool _) rfl) ?_
      refine AOps.nil ?_
      refine AWP.ret ?_
      repeat (first | refine aseqQ_ret ?_ | refine ablockQ_ret ?_)
      refine afin.t1 (x := .bool _) rfl ?_
      exact ⟨_, rfl, fun h => by cases h⟩
    · skip
      have hsz : f.vars.length ≤ 100 ∧ f.blocks.length ≤ 40 ∧ f.params.length ≤ 20 := by unfold few1 at c1; simp at c1; omega
      refine AWP.skip ?_
      refine AWP.seq ?_
      refine AWP.region rfl ?_
      refine AOps.val (Gv.assign (v := .int _ _) rfl) ?_
      refine AOps.nil ?_
      refine AWP.seq ?_
      refine AWP.seq ?_
      refine AWP.region rfl ?_
      refine AOps.val (Gv.fieldF Tryz.underlying27 rfl Tryz.sizeOf23 (by decide) rfl rfl) ?_
      refine AOps.val (Gv.load1F (c := .fro _ _) Tryz.isAgg23 rfl) ?_
      refine AOps.val (Gv.lenM Tryz.underlying23 rfl) ?_
      refine AOps.val (Gv.move (v := .int _ _) rfl) ?_
      refine AOps.nil ?_
      refine AWP.block ?_
      refine AWP.loop (γ := Nat) [1, 29, 30] (fun k => [(31, .int .i64 k), (3, .int .i64 (wV (f.vars.take k)))]) (fun k => []) (fun k => k ≤ f.vars.length ∧ wV (f.vars.take k) ≤ 400 * k ∧ ∀ v ∈ f.vars.take k, v.name.size ≤ 400) (fun k => f.vars.length - k) 0 ⟨rfl, rfl, trivial⟩ ⟨_, (.refl _), rfl⟩ (⟨Nat.zero_le _, Nat.le_refl _, by simp⟩) ?_
      rintro k ⟨hk, hw, hv⟩
      refine AWP.seq ?_
      refine AWP.region rfl ?_
      refine AOps.val (Gv.lss rfl rfl) ?_
      refine AOps.nil ?_
      refine AWP.seq ?_
      refine AWP.condP rfl (fun ck => ?_) (fun ck => ?_)
      · skip
        have hk1 : k < f.vars.length := by omega
        have hs := wV_succ hk1
        refine AWP.skip ?_
        refine AWP.seq ?_
        refine AWP.block ?_
        refine AWP.seq ?_
        refine AWP.region rfl ?_
        refine AOps.val (Gv.idxM Tryz.underlying23 Tryz.sizeOf38 rfl rfl rfl (List.getElem?_eq_getElem (by omega))) ?_
        refine AOps.val (Gv.loadWF Tryz.isAgg38 Tryz.sizeOf38 rfl rfl) ?_
        refine AOps.alloc (cs := [.str ⟨#[]⟩, .int .i64 0]) Tryz.zeroValue38 rfl rfl ?_
        intro i5
        refine AOps.storeW Tryz.sizeOf38 rfl rfl rfl rfl rfl rfl .head rfl ?_
        refine AOps.nil ?_
        refine AWP.seq ?_
        refine AWP.seq ?_
        refine AWP.region rfl ?_
        refine AOps.val (Gv.fieldO Tryz.underlying38 rfl Tryz.sizeOf9 (by decide) rfl rfl) ?_
        refine AOps.val (Gv.load1C (c := .str _) Tryz.isAgg9 rfl ⟨_, .head⟩ rfl) ?_
        refine AOps.val (Gv.lenT Tryz.underlying9 rfl) ?_
        refine AOps.val (Gv.gtr rfl rfl) ?_
        refine AOps.nil ?_
        refine AWP.condP rfl (fun cn => ?_) (fun cn => ?_)
        · skip
          refine AWP.seq ?_
          refine AWP.region rfl ?_
          refine AOps.val (Gv.assign (v := .bool _) rfl) ?_
          refine AOps.nil ?_
          refine AWP.ret ?_
          repeat (first | refine aseqQ_ret ?_ | refine ablockQ_ret ?_)
          refine afin.t1 (x := .bool _) rfl ?_
          exact ⟨_, rfl, fun h => by cases h⟩
        · skip
          refine AWP.skip ?_
          refine AWP.region rfl ?_
          refine AOps.val (Gv.move (v := .int _ _) rfl) ?_
          refine AOps.val (Gv.fieldO Tryz.underlying38 rfl Tryz.sizeOf9 (by decide) rfl rfl) ?_
          refine AOps.val (Gv.load1C (c := .str _) Tryz.isAgg9 rfl ⟨_, .head⟩ rfl) ?_
          refine AOps.val (Gv.lenT Tryz.underlying9 rfl) ?_
          refine AOps.val (Gv.add rfl rfl (by unfold I64; omega)) ?_
          refine AOps.val (Gv.assign (v := .int _ _) rfl) ?_
          refine AOps.nil ?_
          refine AWP.region rfl ?_
          refine AOps.val (Gv.add rfl rfl (by unfold I64; omega)) ?_
          refine AOps.val (Gv.move (v := .int _ _) rfl) ?_
          refine AOps.nil ?_
          exact ⟨k + 1, ⟨rfl, rfl, rfl, trivial⟩, ⟨rfl, congrArg (AV.int .i64) (by rw [hs]; omega), trivial⟩, ⟨_, (.drop (.refl _)), rfl⟩, ⟨hk1, by omega, forall_take hk1 hv (by omega)⟩, by omega⟩
      · skip
        obtain rfl : k = f.vars.length := by omega
        rw [List.take_length] at hw hv
        rw [List.take_length]
        refine AWP.exit ?_
        refine AWP.seq ?_
        refine AWP.seq ?_
        refine AWP.region rfl ?_
        refine AOps.val (Gv.fieldF Tryz.underlying27 rfl Tryz.sizeOf25 (by decide) rfl rfl) ?_
        refine AOps.val (Gv.load1F (c := .fro _ _) Tryz.isAgg25 rfl) ?_
        refine AOps.val (Gv.lenM Tryz.underlying25 rfl) ?_
        refine AOps.val (Gv.move (v := .int _ _) rfl) ?_
        refine AOps.nil ?_
        refine AWP.block ?_
        refine AWP.loop (γ := Nat) [46, 47] (fun k => [(48, .int .i64 k), (3, .int .i64 (wV f.vars + wBs (f.blocks.take k) : Nat))]) (fun k => []) (fun k => k ≤ f.blocks.length ∧ (0 < k → wV f.vars + wBs (f.blocks.take k) ≤ 4000) ∧ wBs (f.blocks.take k) ≤ 4000 ∧ ∀ b ∈ f.blocks.take k, littleB b) (fun k => f.blocks.length - k) 0 ⟨rfl, rfl, trivial⟩ ⟨_, (.refl _), rfl⟩ (⟨Nat.zero_le _, by omega, by simp [wBs], by simp⟩) ?_
        rintro k ⟨hk, hw2, hw3, hb⟩
        refine AWP.seq ?_
        refine AWP.region rfl ?_
        refine AOps.val (Gv.lss rfl rfl) ?_
        refine AOps.nil ?_
        refine AWP.seq ?_
        refine AWP.condP rfl (fun ck => ?_) (fun ck => ?_)
        · skip
          have hk1 : k < f.blocks.length := by omega
          obtain ⟨hb1, hb2, hb3, hb4⟩ := hf4 _ (List.getElem_mem hk1)
          have hs := wBs_succ hk1
          refine AWP.skip ?_
          refine AWP.seq ?_
          refine AWP.block ?_
          refine AWP.seq ?_
          refine AWP.region rfl ?_
          refine AOps.val (Gv.idxM Tryz.underlying25 Tryz.sizeOf48 rfl rfl rfl (List.getElem?_eq_getElem (by omega))) ?_
          refine AOps.val (Gv.loadWF Tryz.isAgg48 Tryz.sizeOf48 rfl rfl) ?_
          refine AOps.alloc (cs := [.str ⟨#[]⟩, .raw (.slice none 0 0), .raw (.slice none 0 0), .int .i64 0, .int .i64 0, .int .i64 0, .int .i64 0]) Tryz.zeroValue48 rfl rfl ?_
          intro i7
          refine AOps.storeW Tryz.sizeOf48 rfl rfl rfl rfl rfl rfl .head rfl ?_
          refine AOps.nil ?_
          refine AWP.seq ?_
          refine AWP.seq ?_
          refine AWP.cutS (γ := Unit) [3, 7, 46, 47, 48] (fun u => [(67, .bool (few2 f.blocks[k]))]) (fun u => [(i7, .cells 48 (encBlk f.blocks[k]))]) (fun u => True) ?_ (fun _ _ h => h) ?_
          · skip
            refine AWP.region rfl ?_
            refine AOps.val (Gv.fieldO Tryz.underlying48 rfl Tryz.sizeOf9 (by decide) rfl rfl) ?_
            refine AOps.val (Gv.load1C (c := .str _) Tryz.isAgg9 rfl ⟨_, .head⟩ rfl) ?_
            refine AOps.val (Gv.lenT Tryz.underlying9 rfl) ?_
            refine AOps.val (Gv.gtr rfl rfl) ?_
            refine AOps.val (Gv.move (v := .bool _) rfl) ?_
            refine AOps.case (s := 56) rfl (fun c3 => ?_) (fun c3 => ?_)
            · skip
              refine AOps.guardFd rfl rfl c3 ?_
              refine AOps.guardFd rfl rfl c3 ?_
              refine AOps.guardFd rfl rfl c3 ?_
              refine AOps.guardFd rfl rfl c3 ?_
              refine AOps.val (Gv.pickT (v := .bool _) rfl c3 rfl) ?_
              refine AOps.val (Gv.move (v := .bool _) rfl) ?_
              refine AOps.guardFd rfl rfl rfl ?_
              refine AOps.guardFd rfl rfl rfl ?_
              refine AOps.guardFd rfl rfl rfl ?_
              refine AOps.guardFd rfl rfl rfl ?_
              refine AOps.val (Gv.pickT (v := .bool _) rfl rfl rfl) ?_
              refine AOps.nil ?_
              exact ⟨(), ⟨rfl, rfl, rfl, rfl, rfl, trivial⟩, ⟨jb (by simp_all [few2] <;> grind), trivial⟩, ⟨_, (.refl _), rfl⟩, trivial⟩
            · skip
              refine AOps.guardT rfl rfl c3 ?_
              refine AOps.val (Gv.fieldO Tryz.underlying48 rfl Tryz.sizeOf41 (by decide) rfl rfl) ?_
              refine AOps.guardT rfl rfl c3 ?_
              refine AOps.val (Gv.load1C (c := .fro _ _) Tryz.isAgg41 rfl ⟨_, .head⟩ rfl) ?_
              refine AOps.guardT rfl rfl c3 ?_
              refine AOps.val (Gv.lenM Tryz.underlying41 rfl) ?_
              refine AOps.guardT rfl rfl c3 ?_
              refine AOps.val (Gv.gtr rfl rfl) ?_
              refine AOps.val (Gv.pickF (v := .bool _) rfl c3 rfl) ?_
              refine AOps.val (Gv.move (v := .bool _) rfl) ?_
              refine AOps.case (s := 62) rfl (fun c4 => ?_) (fun c4 => ?_)
              · skip
                refine AOps.guardFd rfl rfl c4 ?_
                refine AOps.guardFd rfl rfl c4 ?_
                refine AOps.guardFd rfl rfl c4 ?_
                refine AOps.guardFd rfl rfl c4 ?_
                refine AOps.val (Gv.pickT (v := .bool _) rfl c4 rfl) ?_
                refine AOps.nil ?_
                exact ⟨(), ⟨rfl, rfl, rfl, rfl, rfl, trivial⟩, ⟨jb (by simp_all [few2] <;> grind), trivial⟩, ⟨_, (.refl _), rfl⟩, trivial⟩
              · skip
                refine AOps.guardT rfl rfl c4 ?_
                refine AOps.val (Gv.fieldO Tryz.underlying48 rfl Tryz.sizeOf42 (by decide) rfl rfl) ?_
                refine AOps.guardT rfl rfl c4 ?_
                refine AOps.val (Gv.load1C (c := .fro _ _) Tryz.isAgg42 rfl ⟨_, .head⟩ rfl) ?_
                refine AOps.guardT rfl rfl c4 ?_
                refine AOps.val (Gv.lenM Tryz.underlying42 rfl) ?_
                refine AOps.guardT rfl rfl c4 ?_
                refine AOps.val (Gv.gtr rfl rfl) ?_
                refine AOps.val (Gv.pickF (v := .bool _) rfl c4 rfl) ?_
                refine AOps.nil ?_
                exact ⟨(), ⟨rfl, rfl, rfl, rfl, rfl, trivial⟩, ⟨jb (by simp_all [few2] <;> grind), trivial⟩, ⟨_, (.refl _), rfl⟩, trivial⟩
          · skip
            rintro _ _
            refine AWP.cond rfl (fun c2 => ?_) (fun c2 => ?_)
            · skip
              refine AWP.seq ?_
              refine AWP.region rfl ?_
              refine AOps.val (Gv.assign (v := .bool _) rfl) ?_
              refine AOps.nil ?_
              refine AWP.ret ?_
              repeat (first | refine aseqQ_ret ?_ | refine ablockQ_ret ?_)
              refine afin.t1 (x := .bool _) rfl ?_
              exact ⟨_, rfl, fun h => by cases h⟩
            · skip
              have hsb : f.blocks[k].name.size ≤ 400 ∧ f.blocks[k].phis.length ≤ 400 ∧ f.blocks[k].insts.length ≤ 400 := by unfold few2 at c2; simp at c2; omega
              refine AWP.skip ?_
              refine AWP.seq ?_
              refine AWP.region rfl ?_
              refine AOps.val (Gv.move (v := .int _ _) rfl) ?_
              refine AOps.val (Gv.fieldO Tryz.underlying48 rfl Tryz.sizeOf9 (by decide) rfl rfl) ?_
              refine AOps.val (Gv.load1C (c := .str _) Tryz.isAgg9 rfl ⟨_, .head⟩ rfl) ?_
              refine AOps.val (Gv.lenT Tryz.underlying9 rfl) ?_
              refine AOps.val (Gv.fieldO Tryz.underlying48 rfl Tryz.sizeOf41 (by decide) rfl rfl) ?_
              refine AOps.val (Gv.load1C (c := .fro _ _) Tryz.isAgg41 rfl ⟨_, .head⟩ rfl) ?_
              refine AOps.val (Gv.lenM Tryz.underlying41 rfl) ?_
              refine AOps.val (Gv.fieldO Tryz.underlying48 rfl Tryz.sizeOf42 (by decide) rfl rfl) ?_
              refine AOps.val (Gv.load1C (c := .fro _ _) Tryz.isAgg42 rfl ⟨_, .head⟩ rfl) ?_
              refine AOps.val (Gv.lenM Tryz.underlying42 rfl) ?_
              refine AOps.val (Gv.add rfl rfl (by unfold I64; omega)) ?_
              refine AOps.val (Gv.mul rfl rfl (by unfold I64; omega)) ?_
              refine AOps.val (Gv.add rfl rfl (by unfold I64; omega)) ?_
              refine AOps.val (Gv.add rfl rfl (by unfold I64; omega)) ?_
              refine AOps.val (Gv.assign (v := .int _ _) rfl) ?_
              refine AOps.nil ?_
              refine AWP.seq ?_
              refine AWP.seq ?_
              refine AWP.region rfl ?_
              refine AOps.val (Gv.fieldO Tryz.underlying48 rfl Tryz.sizeOf41 (by decide) rfl rfl) ?_
              refine AOps.val (Gv.load1C (c := .fro _ _) Tryz.isAgg41 rfl ⟨_, .head⟩ rfl) ?_
              refine AOps.val (Gv.lenM Tryz.underlying41 rfl) ?_
              refine AOps.val (Gv.move (v := .int _ _) rfl) ?_
              refine AOps.nil ?_
              refine AWP.block ?_
              refine AWP.loop (γ := Nat) [7, 46, 47, 48, 83, 84] (fun m => [(85, .int .i64 m), (3, .int .i64 (wV f.vars + wBs (f.blocks.take k) + (f.blocks[k].name.size + 10 * (f.blocks[k].phis.length + f.blocks[k].insts.length)) + wP (f.blocks[k].phis.take m) : Nat))]) (fun m => [(i7, .cells 48 (encBlk f.blocks[k]))]) (fun m => m ≤ f.blocks[k].phis.length ∧ wP (f.blocks[k].phis.take m) ≤ 800 * m ∧ ∀ p ∈ f.blocks[k].phis.take m, p.args.length ≤ 400 ∧ p.from_.length ≤ 400) (fun m => f.blocks[k].phis.length - m) 0 ⟨rfl, (congrArg (AV.int .i64) (by simp [wP] <;> omega)), trivial⟩ ⟨_, (.refl _), rfl⟩ (⟨Nat.zero_le _, by simp [wP], by simp⟩) ?_
              rintro m ⟨hm, hwp, hp⟩
              refine AWP.seq ?_
              refine AWP.region rfl ?_
              refine AOps.val (Gv.lss rfl rfl) ?_
              refine AOps.nil ?_
              refine AWP.seq ?_
              refine AWP.condP rfl (fun cm => ?_) (fun cm => ?_)
              · skip
                have hm1 : m < f.blocks[k].phis.length := by omega
                obtain ⟨hq1, hq2⟩ := hb3 _ (List.getElem_mem hm1)
                have hl6 := hq1.lt
                have hl7 := hq2.lt
                have hs2 := wP_succ hm1
                refine AWP.skip ?_
                refine AWP.seq ?_
                refine AWP.block ?_
                refine AWP.seq ?_
                refine AWP.region rfl ?_
                refine AOps.val (Gv.idxM Tryz.underlying41 Tryz.sizeOf64 rfl rfl rfl (List.getElem?_eq_getElem (by omega))) ?_
                refine AOps.val (Gv.loadWF Tryz.isAgg64 Tryz.sizeOf64 rfl rfl) ?_
                refine AOps.alloc (cs := [.int .i64 0, .raw (.slice none 0 0), .raw (.slice none 0 0)]) Tryz.zeroValue64 rfl rfl ?_
                intro i9
                refine AOps.storeW Tryz.sizeOf64 rfl rfl rfl rfl rfl rfl .head rfl ?_
                refine AOps.nil ?_
                refine AWP.seq ?_
                refine AWP.seq ?_
                refine AWP.cutS (γ := Unit) [3, 7, 9, 46, 47, 48, 83, 84, 85] (fun u => [(102, .bool (decide ((4000 : Int) < (wV f.vars + wBs (f.blocks.take k) + (f.blocks[k].name.size + 10 * (f.blocks[k].phis.length + f.blocks[k].insts.length)) + wP (f.blocks[k].phis.take m) : Nat)) || (decide ((400 : Int) < f.blocks[k].phis[m].args.length) || decide ((400 : Int) < f.blocks[k].phis[m].from_.length))))]) (fun u => [(i9, .cells 64 (encPhi f.blocks[k].phis[m])), (i7, .cells 48 (encBlk f.blocks[k]))]) (fun u => True) ?_ (fun _ _ h => h) ?_
                · skip
                  refine AWP.region rfl ?_
                  refine AOps.val (Gv.move (v := .int _ _) rfl) ?_
                  refine AOps.val (Gv.gtr rfl rfl) ?_
                  refine AOps.val (Gv.move (v := .bool _) rfl) ?_
                  refine AOps.case (s := 91) rfl (fun c5 => ?_) (fun c5 => ?_)
                  · skip
                    refine AOps.guardFd rfl rfl c5 ?_
                    refine AOps.guardFd rfl rfl c5 ?_
                    refine AOps.guardFd rfl rfl c5 ?_
                    refine AOps.guardFd rfl rfl c5 ?_
                    refine AOps.val (Gv.pickT (v := .bool _) rfl c5 rfl) ?_
                    refine AOps.val (Gv.move (v := .bool _) rfl) ?_
                    refine AOps.guardFd rfl rfl rfl ?_
                    refine AOps.guardFd rfl rfl rfl ?_
                    refine AOps.guardFd rfl rfl rfl ?_
                    refine AOps.guardFd rfl rfl rfl ?_
                    refine AOps.val (Gv.pickT (v := .bool _) rfl rfl rfl) ?_
                    refine AOps.nil ?_
                    exact ⟨(), ⟨rfl, rfl, rfl, rfl, rfl, rfl, rfl, rfl, rfl, trivial⟩, ⟨jb (by simp_all <;> grind), trivial⟩, ⟨_, (.refl _), rfl⟩, trivial⟩
                  · skip
                    refine AOps.guardT rfl rfl c5 ?_
                    refine AOps.val (Gv.fieldO Tryz.underlying64 rfl Tryz.sizeOf24 (by decide) rfl rfl) ?_
                    refine AOps.guardT rfl rfl c5 ?_
                    refine AOps.val (Gv.load1C (c := .fro _ _) Tryz.isAgg24 rfl ⟨_, .head⟩ rfl) ?_
                    refine AOps.guardT rfl rfl c5 ?_
                    refine AOps.val (Gv.lenM Tryz.underlying24 rfl) ?_
                    refine AOps.guardT rfl rfl c5 ?_
                    refine AOps.val (Gv.gtr rfl rfl) ?_
                    refine AOps.val (Gv.pickF (v := .bool _) rfl c5 rfl) ?_
                    refine AOps.val (Gv.move (v := .bool _) rfl) ?_
                    refine AOps.case (s := 97) rfl (fun c6 => ?_) (fun c6 => ?_)
                    · skip
                      refine AOps.guardFd rfl rfl c6 ?_
                      refine AOps.guardFd rfl rfl c6 ?_
                      refine AOps.guardFd rfl rfl c6 ?_
                      refine AOps.guardFd rfl rfl c6 ?_
                      refine AOps.val (Gv.pickT (v := .bool _) rfl c6 rfl) ?_
                      refine AOps.nil ?_
                      exact ⟨(), ⟨rfl, rfl, rfl, rfl, rfl, rfl, rfl, rfl, rfl, trivial⟩, ⟨jb (by simp_all <;> grind), trivial⟩, ⟨_, (.refl _), rfl⟩, trivial⟩
                    · skip
                      refine AOps.guardT rfl rfl c6 ?_
                      refine AOps.val (Gv.fieldO Tryz.underlying64 rfl Tryz.sizeOf24 (by decide) rfl rfl) ?_
                      refine AOps.guardT rfl rfl c6 ?_
                      refine AOps.val (Gv.load1C (c := .fro _ _) Tryz.isAgg24 rfl ⟨_, .head⟩ rfl) ?_
                      refine AOps.guardT rfl rfl c6 ?_
                      refine AOps.val (Gv.lenM Tryz.underlying24 rfl) ?_
                      refine AOps.guardT rfl rfl c6 ?_
                      refine AOps.val (Gv.gtr rfl rfl) ?_
                      refine AOps.val (Gv.pickF (v := .bool _) rfl c6 rfl) ?_
                      refine AOps.nil ?_
                      exact ⟨(), ⟨rfl, rfl, rfl, rfl, rfl, rfl, rfl, rfl, rfl, trivial⟩, ⟨jb (by simp_all <;> grind), trivial⟩, ⟨_, (.refl _), rfl⟩, trivial⟩
                · skip
                  rintro _ _
                  refine AWP.cond rfl (fun cp => ?_) (fun cp => ?_)
                  · skip
                    refine AWP.seq ?_
                    refine AWP.region rfl ?_
                    refine AOps.val (Gv.assign (v := .bool _) rfl) ?_
                    refine AOps.nil ?_
                    refine AWP.ret ?_
                    repeat (first | refine aseqQ_ret ?_ | refine ablockQ_ret ?_)
                    refine afin.t1 (x := .bool _) rfl ?_
                    exact ⟨_, rfl, fun h => by cases h⟩
                  · skip
                    rcases Bool.or_eq_false_iff.1 cp with ⟨a1, a2⟩
                    rcases Bool.or_eq_false_iff.1 a2 with ⟨a3, a4⟩
                    have a3 := of_decide_eq_false a3
                    have a4 := of_decide_eq_false a4
                    refine AWP.skip ?_
                    refine AWP.region rfl ?_
                    refine AOps.val (Gv.move (v := .int _ _) rfl) ?_
                    refine AOps.val (Gv.fieldO Tryz.underlying64 rfl Tryz.sizeOf24 (by decide) rfl rfl) ?_
                    refine AOps.val (Gv.load1C (c := .fro _ _) Tryz.isAgg24 rfl ⟨_, .head⟩ rfl) ?_
                    refine AOps.val (Gv.lenM Tryz.underlying24 rfl) ?_
                    refine AOps.val (Gv.fieldO Tryz.underlying64 rfl Tryz.sizeOf24 (by decide) rfl rfl) ?_
                    refine AOps.val (Gv.load1C (c := .fro _ _) Tryz.isAgg24 rfl ⟨_, .head⟩ rfl) ?_
                    refine AOps.val (Gv.lenM Tryz.underlying24 rfl) ?_
                    refine AOps.val (Gv.add rfl rfl (by unfold I64; omega)) ?_
                    refine AOps.val (Gv.add rfl rfl (by unfold I64; omega)) ?_
                    refine AOps.val (Gv.assign (v := .int _ _) rfl) ?_
                    refine AOps.nil ?_
                    refine AWP.region rfl ?_
                    refine AOps.val (Gv.add rfl rfl (by unfold I64; omega)) ?_
                    refine AOps.val (Gv.move (v := .int _ _) rfl) ?_
                    refine AOps.nil ?_
                    exact ⟨m + 1, ⟨rfl, rfl, rfl, rfl, rfl, rfl, trivial⟩, ⟨rfl, congrArg (AV.int .i64) (by rw [hs2]; omega), trivial⟩, ⟨_, (.drop (.refl _)), rfl⟩, ⟨hm1, by omega, forall_take hm1 hp ⟨by omega, by omega⟩⟩, by omega⟩
              · skip
                obtain rfl : m = f.blocks[k].phis.length := by omega
                rw [List.take_length] at hwp hp
                rw [List.take_length]
                refine AWP.exit ?_
                refine AWP.seq ?_
                refine AWP.seq ?_
                refine AWP.region rfl ?_
                refine AOps.val (Gv.fieldO Tryz.underlying48 rfl Tryz.sizeOf42 (by decide) rfl rfl) ?_
                refine AOps.val (Gv.load1C (c := .fro _ _) Tryz.isAgg42 rfl ⟨_, .head⟩ rfl) ?_
                refine AOps.val (Gv.lenM Tryz.underlying42 rfl) ?_
                refine AOps.val (Gv.move (v := .int _ _) rfl) ?_
                refine AOps.nil ?_
                refine AWP.block ?_
                refine AWP.loop (γ := Nat) [46, 47, 48, 114, 115] (fun m => [(116, .int .i64 m), (3, .int .i64 (wV f.vars + wBs (f.blocks.take k) + (f.blocks[k].name.size + 10 * (f.blocks[k].phis.length + f.blocks[k].insts.length)) + wP f.blocks[k].phis + wX (f.blocks[k].insts.take m) : Nat))]) (fun m => [(i7, .cells 48 (encBlk f.blocks[k]))]) (fun m => m ≤ f.blocks[k].insts.length ∧ wX (f.blocks[k].insts.take m) ≤ 400 * m ∧ ∀ p ∈ f.blocks[k].insts.take m, p.args.length ≤ 400) (fun m => f.blocks[k].insts.length - m) 0 ⟨rfl, (congrArg (AV.int .i64) (by simp [wX] <;> omega)), trivial⟩ ⟨_, (.refl _), rfl⟩ (⟨Nat.zero_le _, by simp [wX], by simp⟩) ?_
                rintro m ⟨hm, hwx, hx⟩
                refine AWP.seq ?_
                refine AWP.region rfl ?_
                refine AOps.val (Gv.lss rfl rfl) ?_
                refine AOps.nil ?_
                refine AWP.seq ?_
                refine AWP.condP rfl (fun cm => ?_) (fun cm => ?_)
                · skip
                  have hm1 : m < f.blocks[k].insts.length := by omega
                  have hq1 := hb4 _ (List.getElem_mem hm1)
                  have hl6 := hq1.lt
                  have hs2 := wX_succ hm1
                  refine AWP.skip ?_
                  refine AWP.seq ?_
                  refine AWP.block ?_
                  refine AWP.seq ?_
                  refine AWP.region rfl ?_
                  refine AOps.val (Gv.idxM Tryz.underlying42 Tryz.sizeOf67 rfl rfl rfl (List.getElem?_eq_getElem (by omega))) ?_
                  refine AOps.val (Gv.loadWF Tryz.isAgg67 Tryz.sizeOf67 rfl rfl) ?_
                  refine AOps.alloc (cs := [.int .i64 0, .int .i64 0, .raw (.slice none 0 0), .int .i64 0]) Tryz.zeroValue67 rfl rfl ?_
                  intro i11
                  refine AOps.storeW Tryz.sizeOf67 rfl rfl rfl rfl rfl rfl .head rfl ?_
                  refine AOps.nil ?_
                  refine AWP.seq ?_
                  refine AWP.seq ?_
                  refine AWP.cutS (γ := Unit) [3, 11, 46, 47, 48, 114, 115, 116] (fun u => [(127, .bool (decide ((4000 : Int) < (wV f.vars + wBs (f.blocks.take k) + (f.blocks[k].name.size + 10 * (f.blocks[k].phis.length + f.blocks[k].insts.length)) + wP f.blocks[k].phis + wX (f.blocks[k].insts.take m) : Nat)) || decide ((400 : Int) < f.blocks[k].insts[m].args.length)))]) (fun u => [(i11, .cells 67 (encInst f.blocks[k].insts[m])), (i7, .cells 48 (encBlk f.blocks[k]))]) (fun u => True) ?_ (fun _ _ h => h) ?_
                  · skip
                    refine AWP.region rfl ?_
                    refine AOps.val (Gv.move (v := .int _ _) rfl) ?_
                    refine AOps.val (Gv.gtr rfl rfl) ?_
                    refine AOps.val (Gv.move (v := .bool _) rfl) ?_
                    refine AOps.case (s := 122) rfl (fun c7 => ?_) (fun c7 => ?_)
                    · skip
                      refine AOps.guardFd rfl rfl c7 ?_
                      refine AOps.guardFd rfl rfl c7 ?_
                      refine AOps.guardFd rfl rfl c7 ?_
                      refine AOps.guardFd rfl rfl c7 ?_
                      refine AOps.val (Gv.pickT (v := .bool _) rfl c7 rfl) ?_
                      refine AOps.nil ?_
                      exact ⟨(), ⟨rfl, rfl, rfl, rfl, rfl, rfl, rfl, rfl, trivial⟩, ⟨jb (by simp_all <;> grind), trivial⟩, ⟨_, (.refl _), rfl⟩, trivial⟩
                    · skip
                      refine AOps.guardT rfl rfl c7 ?_
                      refine AOps.val (Gv.fieldO Tryz.underlying67 rfl Tryz.sizeOf24 (by decide) rfl rfl) ?_
                      refine AOps.guardT rfl rfl c7 ?_
                      refine AOps.val (Gv.load1C (c := .fro _ _) Tryz.isAgg24 rfl ⟨_, .head⟩ rfl) ?_
                      refine AOps.guardT rfl rfl c7 ?_
                      refine AOps.val (Gv.lenM Tryz.underlying24 rfl) ?_
                      refine AOps.guardT rfl rfl c7 ?_
                      refine AOps.val (Gv.gtr rfl rfl) ?_
                      refine AOps.val (Gv.pickF (v := .bool _) rfl c7 rfl) ?_
                      refine AOps.nil ?_
                      exact ⟨(), ⟨rfl, rfl, rfl, rfl, rfl, rfl, rfl, rfl, trivial⟩, ⟨jb (by simp_all <;> grind), trivial⟩, ⟨_, (.refl _), rfl⟩, trivial⟩
                  · skip
                    rintro _ _
                    refine AWP.cond rfl (fun cp => ?_) (fun cp => ?_)
                    · skip
                      refine AWP.seq ?_
                      refine AWP.region rfl ?_
                      refine AOps.val (Gv.assign (v := .bool _) rfl) ?_
                      refine AOps.nil ?_
                      refine AWP.ret ?_
                      repeat (first | refine aseqQ_ret ?_ | refine ablockQ_ret ?_)
                      refine afin.t1 (x := .bool _) rfl ?_
                      exact ⟨_, rfl, fun h => by cases h⟩
                    · skip
                      rcases Bool.or_eq_false_iff.1 cp with ⟨a1, a2⟩
                      have a2 := of_decide_eq_false a2
                      refine AWP.skip ?_
                      refine AWP.region rfl ?_
                      refine AOps.val (Gv.move (v := .int _ _) rfl) ?_
                      refine AOps.val (Gv.fieldO Tryz.underlying67 rfl Tryz.sizeOf24 (by decide) rfl rfl) ?_
                      refine AOps.val (Gv.load1C (c := .fro _ _) Tryz.isAgg24 rfl ⟨_, .head⟩ rfl) ?_
                      refine AOps.val (Gv.lenM Tryz.underlying24 rfl) ?_
                      refine AOps.val (Gv.add rfl rfl (by unfold I64; omega)) ?_
                      refine AOps.val (Gv.assign (v := .int _ _) rfl) ?_
                      refine AOps.nil ?_
                      refine AWP.region rfl ?_
                      refine AOps.val (Gv.add rfl rfl (by unfold I64; omega)) ?_
                      refine AOps.val (Gv.move (v := .int _ _) rfl) ?_
                      refine AOps.nil ?_
                      exact ⟨m + 1, ⟨rfl, rfl, rfl, rfl, rfl, trivial⟩, ⟨rfl, congrArg (AV.int .i64) (by rw [hs2]; omega), trivial⟩, ⟨_, (.drop (.refl _)), rfl⟩, ⟨hm1, by omega, forall_take hm1 hx (by omega)⟩, by omega⟩
                · skip
                  obtain rfl : m = f.blocks[k].insts.length := by omega
                  rw [List.take_length] at hwx hx
                  rw [List.take_length]
                  refine AWP.exit ?_
                  refine AWP.seq ?_
                  refine AWP.region rfl ?_
                  refine AOps.val (Gv.move (v := .int _ _) rfl) ?_
                  refine AOps.val (Gv.gtr rfl rfl) ?_
                  refine AOps.nil ?_
                  refine AWP.condP rfl (fun cz => ?_) (fun cz => ?_)
                  · skip
                    refine AWP.seq ?_
                    refine AWP.region rfl ?_
                    refine AOps.val (Gv.assign (v := .bool _) rfl) ?_
                    refine AOps.nil ?_
                    refine AWP.ret ?_
                    repeat (first | refine aseqQ_ret ?_ | refine ablockQ_ret ?_)
                    refine afin.t1 (x := .bool _) rfl ?_
                    exact ⟨_, rfl, fun h => by cases h⟩
                  · skip
                    have hwb : wB f.blocks[k] = f.blocks[k].name.size + 10 * (f.blocks[k].phis.length + f.blocks[k].insts.length) + wP f.blocks[k].phis + wX f.blocks[k].insts := rfl
                    refine AWP.skip ?_
                    refine AWP.region rfl ?_
                    refine AOps.val (Gv.add rfl rfl (by unfold I64; omega)) ?_
                    refine AOps.val (Gv.move (v := .int _ _) rfl) ?_
                    refine AOps.nil ?_
                    exact ⟨k + 1, ⟨rfl, rfl, trivial⟩, ⟨rfl, congrArg (AV.int .i64) (by rw [hs]; omega), trivial⟩, ⟨_, (.drop (.refl _)), rfl⟩, ⟨hk1, by omega, by omega, forall_take hk1 hb ⟨hsb.1, hsb.2.1, hsb.2.2, hp, hx⟩⟩, by omega⟩
        · skip
          obtain rfl : k = f.blocks.length := by omega
          rw [List.take_length] at hw2 hw3 hb
          refine AWP.exit ?_
          refine AWP.seq ?_
          refine AWP.region rfl ?_
          refine AOps.val (Gv.assign (v := .bool _) rfl) ?_
          refine AOps.nil ?_
          refine AWP.ret ?_
          repeat (first | refine aseqQ_ret ?_ | refine ablockQ_ret ?_)
          refine afin.t1 (x := .bool _) rfl ?_
          exact ⟨_, rfl, fun _ => ⟨hsz.1, hsz.2.1, hsz.2.2, hv, hb, fun hne => hw2 (List.length_pos_iff.2 hne)⟩⟩
end Go.Proofs.YtdkhlgiohpdihaaGreatDoor
namespace Go.Proofs.YtdkhlgiohpdihaaGreatDoor
open Go.Proofs Go.Lib Go.Shelf Go.RowKit
set_option maxRecDepth 20000
variable {E : World}
def bname (f : PFunc) (v : Int) : ByteArray := (f.blocks[v.toNat]?.map (·.name)).getD ⟨#[]⟩
theorem hasB_get {f : PFunc} {v : Int} (h : hasB f v = true) : ∃ (h : v.toNat < f.blocks.length), f.blocks[v.toNat]? = some f.blocks[v.toNat] ∧ 0 ≤ v ∧ bname f v = f.blocks[v.toNat].name := by
  have h2 : 0 ≤ v ∧ v < f.blocks.length := by simpa [hasB] using h
  have h3 : v.toNat < f.blocks.length := by omega
  exact ⟨h3, List.getElem?_eq_getElem h3, h2.1, by unfold bname; rw [List.getElem?_eq_getElem h3]; rfl⟩
def spc : ByteArray := ⟨#[32]⟩
def refWord (f : PFunc) (x : PInst) : ByteArray := if (kRow x.op).2.2 = ⟨#[]⟩ then (kRow x.op).1 else (vname f x.dst ++ ⟨#[32, 61, 32]⟩) ++ (kRow x.op).1
def refArgs (f : PFunc) (x : PInst) (k : Nat) : ByteArray := (x.args.take k).foldl (fun s a => (s ++ spc) ++ vname f a) (refWord f x)
def refLine (f : PFunc) (x : PInst) : ByteArray := if wordB x then (refArgs f x x.args.length ++ spc) ++ strL (itoa x.num) else refArgs f x x.args.length
theorem refArgs_succ (f : PFunc) (x : PInst) {k : Nat} (h : k < x.args.length) : refArgs f x (k + 1) = (refArgs f x k ++ spc) ++ vname f x.args[k] := by
  unfold refArgs; rw [List.take_succ_eq_append_getElem h, List.foldl_append]; rfl
theorem app_size (a b : ByteArray) : (a ++ b).size = a.size + b.size := ByteArray.size_append
theorem refWord_size {f : PFunc} (hnm : ∀ v ∈ f.vars, v.name.size ≤ 1000) (x : PInst) : (refWord f x).size ≤ 1009 := by
  have := word_len x.op
  have h2 := vname_len hnm x.dst
  unfold refWord; split
  · omega
  · rw [app_size, app_size]; show _ + 3 + _ ≤ _; omega
theorem refArgs_size {f : PFunc} (hnm : ∀ v ∈ f.vars, v.name.size ≤ 1000) (x : PInst) : ∀ k, k ≤ x.args.length → (refArgs f x k).size ≤ 1009 + 1001 * k
  | 0, _ => by simpa [refArgs] using refWord_size hnm x
  | k + 1, h => by
    rw [refArgs_succ f x (by omega), app_size, app_size]
    have := refArgs_size hnm x k (by omega)
    have h2 := vname_len hnm x.args[k]
    show _ + 1 + _ ≤ _; omega
theorem refInst_spec (f : PFunc) (x : PInst) (hx : InstP f x) (hd : (kRow x.op).2.2 ≠ ⟨#[]⟩ → hasV f x.dst = true) (hl : x.args.length ≤ 1000) (hnm : ∀ v ∈ f.vars, v.name.size ≤ 1000) (hI : -9223372036854775808 ≤ x.num ∧ x.num ≤ 9223372036854775807) :
    AFun Tryz.prog E 22 [.agg (encF f), .agg (encInst x)] (.str (refLine f x)) := by
  obtain ⟨ho1, ho2, _, hall⟩ := hx
  have hrow : kindT[x.op.toNat]? = some (kRow x.op) := by unfold kRow; rw [if_pos ho1, List.getElem?_eq_getElem (show _ < 27 by omega)]; rfl
  have hws := word_len x.op
  refine ACall.intro Tryz.func22 rfl (by decide) rfl ?_
  refine AWP.seq ?_
  refine AWP.region rfl ?_
  refine AOps.boxF (cs := _) rfl rfl rfl ?_
  refine AOps.boxF (cs := _) rfl rfl rfl ?_
  refine AOps.val (Gv.assign (v := .str _) rfl) ?_
  refine AOps.nil ?_
  refine AWP.seq ?_
  refine AWP.cutS (γ := Nat) [2, 3] (fun i => [(5, .po i 0)]) (fun i => [(i, .cells 116 (encK (kRow x.op)))]) (fun i => True) ?_ (fun _ _ h => h) ?_
  · skip
    refine AWP.regionDraw (fun j => Nat.beq j 6) (by kernel_rfl) rfl (Part.perm (.rest _)) ?_
    refine AAny.take (i := 1) rfl (by kernel_rfl) (by kernel_rfl) (by kernel_rfl) (by kernel_rfl) (by kernel_rfl) (by kernel_rfl) (Gv.fieldF Tryz.underlying67 rfl Tryz.sizeOf65 (by decide) rfl rfl) ?_
    refine AAny.take (i := 2) rfl (by kernel_rfl) (by kernel_rfl) (by kernel_rfl) (by kernel_rfl) (by kernel_rfl) (by kernel_rfl) (Gv.load1F (c := .int _ _) Tryz.isAgg65 rfl) ?_
    refine AAny.two (i := 0) (j := 5) rfl rfl (by kernel_rfl) ?_ ?_
    · skip
      refine AOps.callP (rows_spec) rfl ?_
      refine AOps.nil ?_
      refine AAny.take (i := 3) rfl (by kernel_rfl) (by kernel_rfl) (by kernel_rfl) (by kernel_rfl) (by kernel_rfl) (by kernel_rfl) (Gv.idxM (j := (x.op.toNat)) Tryz.underlying117 Tryz.sizeOf116 rfl rfl (Int.toNat_of_nonneg ho1).symm hrow) ?_
      refine AAny.take (i := 4) rfl (by kernel_rfl) (by kernel_rfl) (by kernel_rfl) (by kernel_rfl) (by kernel_rfl) (by kernel_rfl) (Gv.loadWF Tryz.isAgg116 Tryz.sizeOf116 rfl rfl) ?_
      refine AAny.one (i := 5) rfl (by kernel_rfl) ?_
      refine AOps.alloc (cs := [.str ⟨#[]⟩, .str ⟨#[]⟩, .str ⟨#[]⟩]) Tryz.zeroValue116 rfl rfl ?_
      intro i5
      refine AOps.nil ?_
      refine AAny.writes ?_
      refine AAnyW.one (i := 6) rfl (by kernel_rfl) (by kernel_rfl) ?_
      refine AOps.storeW Tryz.sizeOf116 rfl rfl rfl rfl rfl rfl .head rfl ?_
      refine AOps.nil ?_
      refine AAnyW.done (by kernel_rfl) ?_
      exact ⟨i5, ⟨rfl, rfl, trivial⟩, ⟨rfl, trivial⟩, ⟨_, (.refl _), rfl⟩, trivial⟩
    · skip
      refine AOps.alloc (cs := [.str ⟨#[]⟩, .str ⟨#[]⟩, .str ⟨#[]⟩]) Tryz.zeroValue116 rfl rfl ?_
      intro i5
      refine AOps.nil ?_
      refine AAny.one (i := 0) rfl (by kernel_rfl) ?_
      refine AOps.callP (rows_spec) rfl ?_
      refine AOps.nil ?_
      refine AAny.take (i := 3) rfl (by kernel_rfl) (by kernel_rfl) (by kernel_rfl) (by kernel_rfl) (by kernel_rfl) (by kernel_rfl) (Gv.idxM (j := (x.op.toNat)) Tryz.underlying117 Tryz.sizeOf116 rfl rfl (Int.toNat_of_nonneg ho1).symm hrow) ?_
      refine AAny.take (i := 4) rfl (by kernel_rfl) (by kernel_rfl) (by kernel_rfl) (by kernel_rfl) (by kernel_rfl) (by kernel_rfl) (Gv.loadWF Tryz.isAgg116 Tryz.sizeOf116 rfl rfl) ?_
      refine AAny.writes ?_
      refine AAnyW.one (i := 6) rfl (by kernel_rfl) (by kernel_rfl) ?_
      refine AOps.storeW Tryz.sizeOf116 rfl rfl rfl rfl rfl rfl .head rfl ?_
      refine AOps.nil ?_
      refine AAnyW.done (by kernel_rfl) ?_
      exact ⟨i5, ⟨rfl, rfl, trivial⟩, ⟨rfl, trivial⟩, ⟨_, (.refl _), rfl⟩, trivial⟩
  · skip
    rintro i5 _
    refine AWP.seq ?_
    refine AWP.region rfl ?_
    refine AOps.val (Gv.fieldO Tryz.underlying116 rfl Tryz.sizeOf9 (by decide) rfl rfl) ?_
    refine AOps.val (Gv.load1C (c := .str _) Tryz.isAgg9 rfl ⟨_, .head⟩ rfl) ?_
    refine AOps.val (Gv.assign (v := .str _) rfl) ?_
    refine AOps.nil ?_
    refine AWP.seq ?_
    refine AWP.seq ?_
    refine AWP.region rfl ?_
    refine AOps.val (Gv.fieldO Tryz.underlying116 rfl Tryz.sizeOf9 (by decide) rfl rfl) ?_
    refine AOps.val (Gv.load1C (c := .str _) Tryz.isAgg9 rfl ⟨_, .head⟩ rfl) ?_
    refine AOps.val (Gv.neqT rfl rfl) ?_
    refine AOps.nil ?_
    refine AWP.cutS (γ := Unit) [2, 3, 5] (fun u => [(6, .str (refWord f x))]) (fun u => [(i5, .cells 116 (encK (kRow x.op)))]) (fun u => True) ?_ (fun _ _ h => h) ?_
    · skip
      refine AWP.cond rfl (fun cm => ?_) (fun cm => ?_)
      · skip
        have hm : (kRow x.op).2.2 ≠ ⟨#[]⟩ := by simpa using cm
        obtain ⟨hlt, hg, hnn, hvn⟩ := has_get (hd hm)
        have hv1 := hnm _ (List.getElem_mem hlt)
        refine AWP.regionDraw (fun j => false) (by kernel_rfl) rfl (Part.perm (.r (.rest _))) ?_
        refine AAny.take (i := 0) rfl (by kernel_rfl) (by kernel_rfl) (by kernel_rfl) (by kernel_rfl) (by kernel_rfl) (by kernel_rfl) (Gv.fieldF Tryz.underlying27 rfl Tryz.sizeOf23 (by decide) rfl rfl) ?_
        refine AAny.take (i := 1) rfl (by kernel_rfl) (by kernel_rfl) (by kernel_rfl) (by kernel_rfl) (by kernel_rfl) (by kernel_rfl) (Gv.load1F (c := .fro _ _) Tryz.isAgg23 rfl) ?_
        refine AAny.take (i := 2) rfl (by kernel_rfl) (by kernel_rfl) (by kernel_rfl) (by kernel_rfl) (by kernel_rfl) (by kernel_rfl) (Gv.fieldF Tryz.underlying67 rfl Tryz.sizeOf3 (by decide) rfl rfl) ?_
        refine AAny.take (i := 3) rfl (by kernel_rfl) (by kernel_rfl) (by kernel_rfl) (by kernel_rfl) (by kernel_rfl) (by kernel_rfl) (Gv.load1F (c := .int _ _) Tryz.isAgg3 rfl) ?_
        refine AAny.take (i := 4) rfl (by kernel_rfl) (by kernel_rfl) (by kernel_rfl) (by kernel_rfl) (by kernel_rfl) (by kernel_rfl) (Gv.idxM (j := x.dst.toNat) Tryz.underlying23 Tryz.sizeOf38 rfl rfl (Int.toNat_of_nonneg hnn).symm hg) ?_
        refine AAny.take (i := 5) rfl (by kernel_rfl) (by kernel_rfl) (by kernel_rfl) (by kernel_rfl) (by kernel_rfl) (by kernel_rfl) (Gv.fieldF Tryz.underlying38 rfl Tryz.sizeOf9 (by decide) rfl rfl) ?_
        refine AAny.take (i := 6) rfl (by kernel_rfl) (by kernel_rfl) (by kernel_rfl) (by kernel_rfl) (by kernel_rfl) (by kernel_rfl) (Gv.load1F (c := .str _) Tryz.isAgg9 rfl) ?_
        refine AAny.take (i := 7) rfl (by kernel_rfl) (by kernel_rfl) (by kernel_rfl) (by kernel_rfl) (by kernel_rfl) (by kernel_rfl) (Gv.addT rfl rfl (by (try simp only [app_size]); (have e1 : (⟨#[32, 61, 32]⟩ : ByteArray).size = 3 := rfl); omega)) ?_
        refine AAny.take (i := 8) rfl (by kernel_rfl) (by kernel_rfl) (by kernel_rfl) (by kernel_rfl) (by kernel_rfl) (by kernel_rfl) (Gv.fieldO Tryz.underlying116 rfl Tryz.sizeOf9 (by decide) rfl rfl) ?_
        refine AAny.take (i := 9) rfl (by kernel_rfl) (by kernel_rfl) (by kernel_rfl) (by kernel_rfl) (by kernel_rfl) (by kernel_rfl) (Gv.load1C (c := .str _) Tryz.isAgg9 rfl ⟨_, .head⟩ rfl) ?_
        refine AAny.take (i := 10) rfl (by kernel_rfl) (by kernel_rfl) (by kernel_rfl) (by kernel_rfl) (by kernel_rfl) (by kernel_rfl) (Gv.addT rfl rfl (by (try simp only [app_size]); (have e1 : (⟨#[32, 61, 32]⟩ : ByteArray).size = 3 := rfl); omega)) ?_
        refine AAny.take (i := 11) rfl (by kernel_rfl) (by kernel_rfl) (by kernel_rfl) (by kernel_rfl) (by kernel_rfl) (by kernel_rfl) (Gv.assign (v := .str _) rfl) ?_
        refine AAny.done (by kernel_rfl) ?_
        exact ⟨(), ⟨rfl, rfl, rfl, trivial⟩, ⟨congrArg AV.str (by unfold refWord; rw [if_neg hm, hvn]), trivial⟩, ⟨_, (.refl _), rfl⟩, trivial⟩
      · skip
        have hm : (kRow x.op).2.2 = ⟨#[]⟩ := by simpa using cm
        refine AWP.skip ?_
        exact ⟨(), ⟨rfl, rfl, rfl, trivial⟩, ⟨congrArg AV.str (by unfold refWord; rw [if_pos hm]), trivial⟩, ⟨_, (.refl _), rfl⟩, trivial⟩
    · skip
      rintro _ _
      refine AWP.seq ?_
      refine AWP.seq ?_
      refine AWP.region rfl ?_
      refine AOps.val (Gv.fieldF Tryz.underlying67 rfl Tryz.sizeOf24 (by decide) rfl rfl) ?_
      refine AOps.val (Gv.load1F (c := .fro _ _) Tryz.isAgg24 rfl) ?_
      refine AOps.val (Gv.lenM Tryz.underlying24 rfl) ?_
      refine AOps.val (Gv.move (v := .int _ _) rfl) ?_
      refine AOps.nil ?_
      refine AWP.block ?_
      refine AWP.loop (γ := Nat) [2, 3, 5, 31, 32] (fun k => [(33, .int .i64 k), (6, .str (refArgs f x k))]) (fun k => [(i5, .cells 116 (encK (kRow x.op)))]) (fun k => k ≤ x.args.length) (fun k => x.args.length - k) 0 ⟨rfl, rfl, trivial⟩ ⟨_, (.refl _), rfl⟩ (Nat.zero_le _) ?_
      rintro k hk
      have hs := refArgs_size hnm x k hk
      refine AWP.seq ?_
      refine AWP.region rfl ?_
      refine AOps.val (Gv.lss rfl rfl) ?_
      refine AOps.nil ?_
      refine AWP.seq ?_
      refine AWP.condP rfl (fun ck => ?_) (fun ck => ?_)
      · skip
        have hk2 : k < x.args.length := by omega
        obtain ⟨hlt, hg, hnn, hvn⟩ := has_get ((List.all_eq_true.1 hall) _ (List.getElem_mem hk2))
        have hv1 := hnm _ (List.getElem_mem hlt)
        refine AWP.skip ?_
        refine AWP.seq ?_
        refine AWP.block ?_
        refine AWP.seq ?_
        refine AWP.region rfl ?_
        refine AOps.val (Gv.idxM Tryz.underlying24 Tryz.sizeOf3 rfl rfl rfl (List.getElem?_eq_getElem (by omega))) ?_
        refine AOps.val (Gv.load1F (c := .int _ _) Tryz.isAgg3 rfl) ?_
        refine AOps.val (Gv.assign (v := .int _ _) rfl) ?_
        refine AOps.nil ?_
        refine AWP.region rfl ?_
        refine AOps.val (Gv.move (v := .str _) rfl) ?_
        refine AOps.val (Gv.addT rfl rfl (by (try rw [app_size]); first | (show _ + 1 ≤ _; omega) | (show _ + 1 + _ ≤ _; omega))) ?_
        refine AOps.val (Gv.fieldF Tryz.underlying27 rfl Tryz.sizeOf23 (by decide) rfl rfl) ?_
        refine AOps.val (Gv.load1F (c := .fro _ _) Tryz.isAgg23 rfl) ?_
        refine AOps.val (Gv.move (v := .int _ _) rfl) ?_
        refine AOps.val (Gv.idxM (j := (x.args[k]).toNat) Tryz.underlying23 Tryz.sizeOf38 rfl rfl (Int.toNat_of_nonneg hnn).symm hg) ?_
        refine AOps.val (Gv.fieldF Tryz.underlying38 rfl Tryz.sizeOf9 (by decide) rfl rfl) ?_
        refine AOps.val (Gv.load1F (c := .str _) Tryz.isAgg9 rfl) ?_
        refine AOps.val (Gv.addT rfl rfl (by (try rw [app_size]); first | (show _ + 1 ≤ _; omega) | (show _ + 1 + _ ≤ _; omega))) ?_
        refine AOps.val (Gv.assign (v := .str _) rfl) ?_
        refine AOps.nil ?_
        refine AWP.region rfl ?_
        refine AOps.val (Gv.add rfl rfl (by unfold I64; omega)) ?_
        refine AOps.val (Gv.move (v := .int _ _) rfl) ?_
        refine AOps.nil ?_
        exact ⟨k + 1, ⟨rfl, rfl, rfl, rfl, rfl, trivial⟩, ⟨rfl, congrArg AV.str (by rw [refArgs_succ f x hk2, hvn]; rfl), trivial⟩, ⟨_, (.refl _), rfl⟩, hk2, by omega⟩
      · skip
        obtain rfl : k = x.args.length := by omega
        refine AWP.exit ?_
        refine AWP.seq ?_
        refine AWP.seq ?_
        refine AWP.cutS (γ := Unit) [3, 6] (fun u => [(54, .bool (wordB x))]) (fun u => [(i5, .cells 116 (encK (kRow x.op)))]) (fun u => True) ?_ (fun _ _ h => h) ?_
        · skip
          refine AWP.region rfl ?_
          refine AOps.val (Gv.fieldO Tryz.underlying116 rfl Tryz.sizeOf9 (by decide) rfl rfl) ?_
          refine AOps.val (Gv.load1C (c := .str _) Tryz.isAgg9 rfl ⟨_, .head⟩ rfl) ?_
          refine AOps.val (Gv.eqlT rfl rfl) ?_
          refine AOps.val (Gv.move (v := .bool _) rfl) ?_
          refine AOps.case (s := 50) rfl (fun c1 => ?_) (fun c1 => ?_)
          · skip
            refine AOps.guardFd rfl rfl c1 ?_
            refine AOps.guardFd rfl rfl c1 ?_
            refine AOps.guardFd rfl rfl c1 ?_
            refine AOps.val (Gv.pickT (v := .bool _) rfl c1 rfl) ?_
            refine AOps.nil ?_
            exact ⟨(), ⟨rfl, rfl, trivial⟩, ⟨jb (by simp_all [wordB]), trivial⟩, ⟨_, (.refl _), rfl⟩, trivial⟩
          · skip
            refine AOps.guardT rfl rfl c1 ?_
            refine AOps.val (Gv.fieldO Tryz.underlying116 rfl Tryz.sizeOf9 (by decide) rfl rfl) ?_
            refine AOps.guardT rfl rfl c1 ?_
            refine AOps.val (Gv.load1C (c := .str _) Tryz.isAgg9 rfl ⟨_, .head⟩ rfl) ?_
            refine AOps.guardT rfl rfl c1 ?_
            refine AOps.val (Gv.eqlT rfl rfl) ?_
            refine AOps.val (Gv.pickF (v := .bool _) rfl c1 rfl) ?_
            refine AOps.nil ?_
            exact ⟨(), ⟨rfl, rfl, trivial⟩, ⟨jb (by simp_all [wordB]), trivial⟩, ⟨_, (.refl _), rfl⟩, trivial⟩
        · skip
          rintro _ _
          refine AWP.cond rfl (fun cw => ?_) (fun cw => ?_)
          · skip
            have hil := itoa_length_le x.num hI.1 hI.2
            refine AWP.region rfl ?_
            refine AOps.val (Gv.move (v := .str _) rfl) ?_
            refine AOps.val (Gv.addT rfl rfl (by (try rw [app_size]); first | (show _ + 1 ≤ _; omega) | (rw [strL_size]; show _ + 1 + _ ≤ _; omega))) ?_
            refine AOps.val (Gv.fieldF Tryz.underlying67 rfl Tryz.sizeOf2 (by decide) rfl rfl) ?_
            refine AOps.val (Gv.load1F (c := .int _ _) Tryz.isAgg2 rfl) ?_
            refine AOps.callP (digits_spec _ hI) rfl ?_
            refine AOps.val (Gv.addT rfl rfl (by (try rw [app_size]); first | (show _ + 1 ≤ _; omega) | (rw [strL_size]; show _ + 1 + _ ≤ _; omega))) ?_
            refine AOps.val (Gv.assign (v := .str _) rfl) ?_
            refine AOps.nil ?_
            refine AWP.seq ?_
            refine AWP.region rfl ?_
            refine AOps.val (Gv.move (v := .str _) rfl) ?_
            refine AOps.val (Gv.assign (v := .str _) rfl) ?_
            refine AOps.nil ?_
            refine AWP.ret ?_
            repeat (first | refine aseqQ_ret ?_ | refine ablockQ_ret ?_)
            refine afin.t1 (x := .str _) rfl ?_
            exact congrArg AV.str (by unfold refLine; rw [if_pos cw]; rfl)
          · skip
            refine AWP.skip ?_
            refine AWP.seq ?_
            refine AWP.region rfl ?_
            refine AOps.val (Gv.move (v := .str _) rfl) ?_
            refine AOps.val (Gv.assign (v := .str _) rfl) ?_
            refine AOps.nil ?_
            refine AWP.ret ?_
            repeat (first | refine aseqQ_ret ?_ | refine ablockQ_ret ?_)
            refine afin.t1 (x := .str _) rfl ?_
            exact congrArg AV.str (by unfold refLine; rw [if_neg (by simp [cw])])
def termLine (f : PFunc) (t : PTerm) : ByteArray := if termOK f t then (if t.kind = 0 then (⟨#[106, 117, 109, 112, 32]⟩ : ByteArray) ++ bname f t.to0 else if t.kind = 1 then ((((⟨#[105, 102, 32]⟩ : ByteArray) ++ vname f t.var) ++ spc) ++ bname f t.to0 ++ spc) ++ bname f t.to1 else (⟨#[114, 101, 116, 32]⟩ : ByteArray) ++ vname f t.var) else ⟨#[]⟩
theorem termOK_0 {f : PFunc} {t : PTerm} (h : termOK f t = true) (hk : t.kind = 0) : hasB f t.to0 = true := by unfold termOK at h; rw [if_pos hk] at h; simp at h; exact h.1.1
theorem termOK_1 {f : PFunc} {t : PTerm} (h : termOK f t = true) (hk : t.kind = 1) : hasV f t.var = true ∧ hasB f t.to0 = true ∧ hasB f t.to1 = true := by unfold termOK at h; rw [if_neg (by omega), if_pos hk] at h; simp at h; exact ⟨h.1.1, h.1.2, h.2⟩
theorem termOK_2 {f : PFunc} {t : PTerm} (h : termOK f t = true) (hk : ¬ t.kind = 0) (hk1 : ¬ t.kind = 1) : hasV f t.var = true := by unfold termOK at h; rw [if_neg hk, if_neg hk1] at h; split at h; simp at h; exact h.1; cases h
theorem Term_spec (f : PFunc) (t : PTerm) (hf : small f) : AFun Tryz.prog E 34 [.agg (encF f), .agg (encTerm t)] (.str (termLine f t)) := by
  obtain ⟨hf1, hf2, hf3, hf4, hf5⟩ := hf
  refine ACall.intro Tryz.func34 rfl (by decide) rfl ?_
  refine AWP.seq ?_
  refine AWP.region rfl ?_
  refine AOps.boxF (cs := _) rfl rfl rfl ?_
  refine AOps.boxF (cs := _) rfl rfl rfl ?_
  refine AOps.val (Gv.assign (v := .str _) rfl) ?_
  refine AOps.nil ?_
  refine AWP.seq ?_
  refine AWP.seq ?_
  refine AWP.region rfl ?_
  refine AOps.val (Gv.loadWF Tryz.isAgg27 Tryz.sizeOf27 rfl rfl) ?_
  refine AOps.val (Gv.loadWF Tryz.isAgg46 Tryz.sizeOf46 rfl rfl) ?_
  refine AOps.callP (term_spec _ _) rfl ?_
  refine AOps.val (Gv.not rfl) ?_
  refine AOps.nil ?_
  refine AWP.cond rfl (fun cok => ?_) (fun cok => ?_)
  · skip
    have hok : termOK f t = false := by simpa using cok
    refine AWP.seq ?_
    refine AWP.region rfl ?_
    refine AOps.val (Gv.assign (v := .str _) rfl) ?_
    refine AOps.nil ?_
    refine AWP.ret ?_
    repeat (first | refine aseqQ_ret ?_ | refine ablockQ_ret ?_)
    refine afin.t1 (x := .str _) rfl ?_
    unfold termLine; rw [hok]; rfl
  · skip
    have hok : termOK f t = true := by simpa using cok
    refine AWP.skip ?_
    refine AWP.seq ?_
    refine AWP.seq ?_
    refine AWP.region rfl ?_
    refine AOps.val (Gv.fieldF Tryz.underlying46 rfl Tryz.sizeOf43 (by decide) rfl rfl) ?_
    refine AOps.val (Gv.load1F (c := .int _ _) Tryz.isAgg43 rfl) ?_
    refine AOps.nil ?_
    refine AWP.block ?_
    refine AWP.seq ?_
    refine AWP.region rfl ?_
    refine AOps.val (Gv.eqlI rfl rfl) ?_
    refine AOps.val (Gv.assign (v := .bool _) rfl) ?_
    refine AOps.nil ?_
    refine AWP.condP rfl (fun c0 => ?_) (fun c0 => ?_)
    · skip
      obtain ⟨hlt, hg, hnn, hvn⟩ := hasB_get (termOK_0 hok c0)
      have hv1 := (hf5 _ (List.getElem_mem hlt)).1
      refine AWP.seq ?_
      refine AWP.region rfl ?_
      refine AOps.val (Gv.fieldF Tryz.underlying27 rfl Tryz.sizeOf25 (by decide) rfl rfl) ?_
      refine AOps.val (Gv.load1F (c := .fro _ _) Tryz.isAgg25 rfl) ?_
      refine AOps.val (Gv.fieldF Tryz.underlying46 rfl Tryz.sizeOf44 (by decide) rfl rfl) ?_
      refine AOps.val (Gv.idxAF (j := 0) Tryz.underlying44 Tryz.sizeOf3 rfl rfl rfl (by decide) rfl) ?_
      refine AOps.val (Gv.load1F (c := .int _ _) Tryz.isAgg3 rfl) ?_
      refine AOps.val (Gv.idxM (j := t.to0.toNat) Tryz.underlying25 Tryz.sizeOf48 rfl rfl (Int.toNat_of_nonneg hnn).symm hg) ?_
      refine AOps.val (Gv.fieldF Tryz.underlying48 rfl Tryz.sizeOf9 (by decide) rfl rfl) ?_
      refine AOps.val (Gv.load1F (c := .str _) Tryz.isAgg9 rfl) ?_
      refine AOps.val (Gv.addT rfl rfl (by show 5 + _ ≤ _; omega)) ?_
      refine AOps.val (Gv.assign (v := .str _) rfl) ?_
      refine AOps.nil ?_
      refine AWP.ret ?_
      repeat (first | refine aseqQ_ret ?_ | refine ablockQ_ret ?_)
      refine afin.t1 (x := .str _) rfl ?_
      exact congrArg AV.str (by unfold termLine; rw [if_pos hok, if_pos c0, hvn])
    · skip
      refine AWP.seq ?_
      refine AWP.region rfl ?_
      refine AOps.val (Gv.eqlI rfl rfl) ?_
      refine AOps.val (Gv.assign (v := .bool _) rfl) ?_
      refine AOps.nil ?_
      refine AWP.condP rfl (fun c1 => ?_) (fun c1 => ?_)
      · skip
        obtain ⟨h1, h2, h3⟩ := termOK_1 hok c1
        obtain ⟨hlt, hg, hnn, hvn⟩ := has_get h1
        obtain ⟨hlt2, hg2, hnn2, hvn2⟩ := hasB_get h2
        obtain ⟨hlt3, hg3, hnn3, hvn3⟩ := hasB_get h3
        have hv1 := hf4 _ (List.getElem_mem hlt)
        have hv2 := (hf5 _ (List.getElem_mem hlt2)).1
        have hv3 := (hf5 _ (List.getElem_mem hlt3)).1
        refine AWP.seq ?_
        refine AWP.regionDraw (fun j => false) (by kernel_rfl) rfl (Part.perm (.rest _)) ?_
        refine AAny.take (i := 0) rfl (by kernel_rfl) (by kernel_rfl) (by kernel_rfl) (by kernel_rfl) (by kernel_rfl) (by kernel_rfl) (Gv.fieldF Tryz.underlying27 rfl Tryz.sizeOf23 (by decide) rfl rfl) ?_
        refine AAny.take (i := 1) rfl (by kernel_rfl) (by kernel_rfl) (by kernel_rfl) (by kernel_rfl) (by kernel_rfl) (by kernel_rfl) (Gv.load1F (c := .fro _ _) Tryz.isAgg23 rfl) ?_
        refine AAny.take (i := 2) rfl (by kernel_rfl) (by kernel_rfl) (by kernel_rfl) (by kernel_rfl) (by kernel_rfl) (by kernel_rfl) (Gv.fieldF Tryz.underlying46 rfl Tryz.sizeOf3 (by decide) rfl rfl) ?_
        refine AAny.take (i := 3) rfl (by kernel_rfl) (by kernel_rfl) (by kernel_rfl) (by kernel_rfl) (by kernel_rfl) (by kernel_rfl) (Gv.load1F (c := .int _ _) Tryz.isAgg3 rfl) ?_
        refine AAny.take (i := 4) rfl (by kernel_rfl) (by kernel_rfl) (by kernel_rfl) (by kernel_rfl) (by kernel_rfl) (by kernel_rfl) (Gv.idxM (j := t.var.toNat) Tryz.underlying23 Tryz.sizeOf38 rfl rfl (Int.toNat_of_nonneg hnn).symm hg) ?_
        refine AAny.take (i := 5) rfl (by kernel_rfl) (by kernel_rfl) (by kernel_rfl) (by kernel_rfl) (by kernel_rfl) (by kernel_rfl) (Gv.fieldF Tryz.underlying38 rfl Tryz.sizeOf9 (by decide) rfl rfl) ?_
        refine AAny.take (i := 6) rfl (by kernel_rfl) (by kernel_rfl) (by kernel_rfl) (by kernel_rfl) (by kernel_rfl) (by kernel_rfl) (Gv.load1F (c := .str _) Tryz.isAgg9 rfl) ?_
        refine AAny.take (i := 7) rfl (by kernel_rfl) (by kernel_rfl) (by kernel_rfl) (by kernel_rfl) (by kernel_rfl) (by kernel_rfl) (Gv.addT rfl rfl (by (try simp only [app_size]); have e1 : (⟨#[105, 102, 32]⟩ : ByteArray).size = 3 := rfl; have e2 : (⟨#[32]⟩ : ByteArray).size = 1 := rfl; omega)) ?_
        refine AAny.take (i := 8) rfl (by kernel_rfl) (by kernel_rfl) (by kernel_rfl) (by kernel_rfl) (by kernel_rfl) (by kernel_rfl) (Gv.addT rfl rfl (by (try simp only [app_size]); have e1 : (⟨#[105, 102, 32]⟩ : ByteArray).size = 3 := rfl; have e2 : (⟨#[32]⟩ : ByteArray).size = 1 := rfl; omega)) ?_
        refine AAny.take (i := 9) rfl (by kernel_rfl) (by kernel_rfl) (by kernel_rfl) (by kernel_rfl) (by kernel_rfl) (by kernel_rfl) (Gv.fieldF Tryz.underlying27 rfl Tryz.sizeOf25 (by decide) rfl rfl) ?_
        refine AAny.take (i := 10) rfl (by kernel_rfl) (by kernel_rfl) (by kernel_rfl) (by kernel_rfl) (by kernel_rfl) (by kernel_rfl) (Gv.load1F (c := .fro _ _) Tryz.isAgg25 rfl) ?_
        refine AAny.take (i := 11) rfl (by kernel_rfl) (by kernel_rfl) (by kernel_rfl) (by kernel_rfl) (by kernel_rfl) (by kernel_rfl) (Gv.fieldF Tryz.underlying46 rfl Tryz.sizeOf44 (by decide) rfl rfl) ?_
        refine AAny.take (i := 12) rfl (by kernel_rfl) (by kernel_rfl) (by kernel_rfl) (by kernel_rfl) (by kernel_rfl) (by kernel_rfl) (Gv.idxAF (j := 0) Tryz.underlying44 Tryz.sizeOf3 rfl rfl rfl (by decide) rfl) ?_
        refine AAny.take (i := 13) rfl (by kernel_rfl) (by kernel_rfl) (by kernel_rfl) (by kernel_rfl) (by kernel_rfl) (by kernel_rfl) (Gv.load1F (c := .int _ _) Tryz.isAgg3 rfl) ?_
        refine AAny.take (i := 14) rfl (by kernel_rfl) (by kernel_rfl) (by kernel_rfl) (by kernel_rfl) (by kernel_rfl) (by kernel_rfl) (Gv.idxM (j := t.to0.toNat) Tryz.underlying25 Tryz.sizeOf48 rfl rfl (Int.toNat_of_nonneg hnn2).symm hg2) ?_
        refine AAny.take (i := 15) rfl (by kernel_rfl) (by kernel_rfl) (by kernel_rfl) (by kernel_rfl) (by kernel_rfl) (by kernel_rfl) (Gv.fieldF Tryz.underlying48 rfl Tryz.sizeOf9 (by decide) rfl rfl) ?_
        refine AAny.take (i := 16) rfl (by kernel_rfl) (by kernel_rfl) (by kernel_rfl) (by kernel_rfl) (by kernel_rfl) (by kernel_rfl) (Gv.load1F (c := .str _) Tryz.isAgg9 rfl) ?_
        refine AAny.take (i := 17) rfl (by kernel_rfl) (by kernel_rfl) (by kernel_rfl) (by kernel_rfl) (by kernel_rfl) (by kernel_rfl) (Gv.addT rfl rfl (by (try simp only [app_size]); have e1 : (⟨#[105, 102, 32]⟩ : ByteArray).size = 3 := rfl; have e2 : (⟨#[32]⟩ : ByteArray).size = 1 := rfl; omega)) ?_
        refine AAny.take (i := 18) rfl (by kernel_rfl) (by kernel_rfl) (by kernel_rfl) (by kernel_rfl) (by kernel_rfl) (by kernel_rfl) (Gv.addT rfl rfl (by (try simp only [app_size]); have e1 : (⟨#[105, 102, 32]⟩ : ByteArray).size = 3 := rfl; have e2 : (⟨#[32]⟩ : ByteArray).size = 1 := rfl; omega)) ?_
        refine AAny.take (i := 19) rfl (by kernel_rfl) (by kernel_rfl) (by kernel_rfl) (by kernel_rfl) (by kernel_rfl) (by kernel_rfl) (Gv.fieldF Tryz.underlying27 rfl Tryz.sizeOf25 (by decide) rfl rfl) ?_
        refine AAny.take (i := 20) rfl (by kernel_rfl) (by kernel_rfl) (by kernel_rfl) (by kernel_rfl) (by kernel_rfl) (by kernel_rfl) (Gv.load1F (c := .fro _ _) Tryz.isAgg25 rfl) ?_
        refine AAny.take (i := 21) rfl (by kernel_rfl) (by kernel_rfl) (by kernel_rfl) (by kernel_rfl) (by kernel_rfl) (by kernel_rfl) (Gv.fieldF Tryz.underlying46 rfl Tryz.sizeOf44 (by decide) rfl rfl) ?_
        refine AAny.take (i := 22) rfl (by kernel_rfl) (by kernel_rfl) (by kernel_rfl) (by kernel_rfl) (by kernel_rfl) (by kernel_rfl) (Gv.idxAF (j := 1) Tryz.underlying44 Tryz.sizeOf3 rfl rfl rfl (by decide) rfl) ?_
        refine AAny.take (i := 23) rfl (by kernel_rfl) (by kernel_rfl) (by kernel_rfl) (by kernel_rfl) (by kernel_rfl) (by kernel_rfl) (Gv.load1F (c := .int _ _) Tryz.isAgg3 rfl) ?_
        refine AAny.take (i := 24) rfl (by kernel_rfl) (by kernel_rfl) (by kernel_rfl) (by kernel_rfl) (by kernel_rfl) (by kernel_rfl) (Gv.idxM (j := t.to1.toNat) Tryz.underlying25 Tryz.sizeOf48 rfl rfl (Int.toNat_of_nonneg hnn3).symm hg3) ?_
        refine AAny.take (i := 25) rfl (by kernel_rfl) (by kernel_rfl) (by kernel_rfl) (by kernel_rfl) (by kernel_rfl) (by kernel_rfl) (Gv.fieldF Tryz.underlying48 rfl Tryz.sizeOf9 (by decide) rfl rfl) ?_
        refine AAny.take (i := 26) rfl (by kernel_rfl) (by kernel_rfl) (by kernel_rfl) (by kernel_rfl) (by kernel_rfl) (by kernel_rfl) (Gv.load1F (c := .str _) Tryz.isAgg9 rfl) ?_
        refine AAny.take (i := 27) rfl (by kernel_rfl) (by kernel_rfl) (by kernel_rfl) (by kernel_rfl) (by kernel_rfl) (by kernel_rfl) (Gv.addT rfl rfl (by (try simp only [app_size]); have e1 : (⟨#[105, 102, 32]⟩ : ByteArray).size = 3 := rfl; have e2 : (⟨#[32]⟩ : ByteArray).size = 1 := rfl; omega)) ?_
        refine AAny.take (i := 28) rfl (by kernel_rfl) (by kernel_rfl) (by kernel_rfl) (by kernel_rfl) (by kernel_rfl) (by kernel_rfl) (Gv.assign (v := .str _) rfl) ?_
        refine AAny.done (by kernel_rfl) ?_
        refine AWP.ret ?_
        repeat (first | refine aseqQ_ret ?_ | refine ablockQ_ret ?_)
        refine afin.t1 (x := .str _) rfl ?_
        exact congrArg AV.str (by unfold termLine; rw [if_pos hok, if_neg c0, if_pos c1, hvn, hvn2, hvn3]; rfl)
      · skip
        obtain ⟨hlt, hg, hnn, hvn⟩ := has_get (termOK_2 hok c0 c1)
        have hv1 := hf4 _ (List.getElem_mem hlt)
        refine AWP.skip ?_
        refine AWP.seq ?_
        refine AWP.region rfl ?_
        refine AOps.val (Gv.fieldF Tryz.underlying27 rfl Tryz.sizeOf23 (by decide) rfl rfl) ?_
        refine AOps.val (Gv.load1F (c := .fro _ _) Tryz.isAgg23 rfl) ?_
        refine AOps.val (Gv.fieldF Tryz.underlying46 rfl Tryz.sizeOf3 (by decide) rfl rfl) ?_
        refine AOps.val (Gv.load1F (c := .int _ _) Tryz.isAgg3 rfl) ?_
        refine AOps.val (Gv.idxM (j := t.var.toNat) Tryz.underlying23 Tryz.sizeOf38 rfl rfl (Int.toNat_of_nonneg hnn).symm hg) ?_
        refine AOps.val (Gv.fieldF Tryz.underlying38 rfl Tryz.sizeOf9 (by decide) rfl rfl) ?_
        refine AOps.val (Gv.load1F (c := .str _) Tryz.isAgg9 rfl) ?_
        refine AOps.val (Gv.addT rfl rfl (by show 4 + _ ≤ _; omega)) ?_
        refine AOps.val (Gv.assign (v := .str _) rfl) ?_
        refine AOps.nil ?_
        refine AWP.ret ?_
        repeat (first | refine aseqQ_ret ?_ | refine ablockQ_ret ?_)
        refine afin.t1 (x := .str _) rfl ?_
        exact congrArg AV.str (by unfold termLine; rw [if_pos hok, if_neg c0, if_neg c1, hvn])
end Go.Proofs.YtdkhlgiohpdihaaGreatDoor
namespace Go.Proofs.YtdkhlgiohpdihaaGreatDoor
open Go.Proofs Go.Lib Go.Shelf Go.RowKit
set_option maxRecDepth 20000
variable {E : World}
theorem joinTail_app (sep a : List UInt8) (r : List (List UInt8)) : Lib.joinTail sep (r ++ [a]) = Lib.joinTail sep r ++ sep ++ a := by
  induction r with
  | nil => simp [Lib.joinTail]
  | cons x r ih =>
    have h3 : ∀ r, Lib.joinTail sep (x :: r) = sep ++ x ++ Lib.joinTail sep r := fun r => rfl
    rw [List.cons_append, h3, h3, ih]; simp
theorem joinS_app (w : ByteArray) (ws : List ByteArray) (a : ByteArray) : joinS ((w :: ws) ++ [a]) ⟨#[32]⟩ = (joinS (w :: ws) ⟨#[32]⟩ ++ spc) ++ a := by
  have hs : spc = strL [32] := rfl
  have ha : a = strL a.data.toList := by unfold strL; simp
  unfold joinS
  show strL _ = (strL _ ++ spc) ++ a
  rw [hs, ha, strL_app, strL_app]
  congr 1
  simp only [List.cons_append, List.map_cons, List.map_append, List.map_nil, Lib.join_cons]
  rw [joinTail_app]
  simp [strL]
theorem joinS_one (w : ByteArray) : joinS [w] ⟨#[32]⟩ = w := by
  unfold joinS; simp [Lib.join_cons, Lib.joinTail]
theorem rows_27 : ∀ r ∈ kindT, r.1 ≠ ⟨#[]⟩ := by decide
theorem word_ne {op : Int} (h : 0 ≤ op ∧ op ≤ 26) : (kRow op).1 ≠ ⟨#[]⟩ := by
  have hm : kRow op ∈ kindT := by
    unfold kRow
    rw [if_pos h.1, List.getElem?_eq_getElem (show _ < 27 by omega)]
    exact List.getElem_mem _
  exact rows_27 _ hm
theorem word_num : ∀ j : Nat, j < 27 → isNum (j : Int) = (decide ((kRow (j : Int)).1 = ⟨#[99, 111, 110, 115, 116]⟩) || decide ((kRow (j : Int)).1 = ⟨#[112, 105]⟩)) := by decide
theorem wordB_num {x : PInst} (h : 0 ≤ x.op ∧ x.op ≤ 26) : wordB x = isNum x.op := by
  have := word_num x.op.toNat (by omega)
  rw [Int.toNat_of_nonneg h.1] at this
  unfold wordB; exact this.symm
theorem takes_len (op : Int) : (takesL op).length = (kRow op).2.1.size := by unfold takesL; rw [List.length_map]; exact Array.length_toList
theorem bytes_nil (b : ByteArray) : b.data.toList.isEmpty = decide (b = ⟨#[]⟩) := by
  obtain ⟨⟨l⟩⟩ := b
  cases l <;> simp
theorem makesB_eq (op : Int) : makesB op = !decide ((kRow op).2.2 = ⟨#[]⟩) := by unfold makesB; rw [bytes_nil]
theorem kRow_none {op : Int} (h : ¬ (0 ≤ op ∧ op ≤ 26)) : kRow op = (⟨#[]⟩, ⟨#[]⟩, ⟨#[]⟩) := kRow_out (by unfold isOp; simp; omega)
theorem instOK_iff (f : PFunc) (x : PInst) : instOK f x = true ↔ InstP f x := by
  by_cases h : 0 ≤ x.op ∧ x.op ≤ 26
  · have hw := word_ne h
    have hn := wordB_num h
    unfold instOK inst1 inst2 InstP bad2
    rw [takes_len, makesB_eq, hn]
    by_cases h1 : x.args.length = (kRow x.op).2.1.size <;> by_cases h2 : (kRow x.op).2.2 = ⟨#[]⟩ <;> by_cases h3 : x.dst = -1 <;> by_cases h4 : x.num = 0 <;> by_cases h5 : x.args.all (hasV f) = true <;> simp_all [Int.ofNat_inj] <;> (try (unfold hasV; simp)) <;> (try grind)
  · constructor
    · intro h2
      have := kRow_none h
      unfold instOK inst1 at h2
      rw [this] at h2; simp at h2
    · intro h2; exact absurd ⟨h2.1, h2.2.1⟩ h
theorem line_eq {f : PFunc} {x : PInst} (h : InstP f x) : instLine f x = refLine f x := by
  have hop : 0 ≤ x.op ∧ x.op ≤ 26 := ⟨h.1, h.2.1⟩
  have hok := (instOK_iff f x).2 h
  unfold instLine
  rw [if_pos hok]
  have hb := h.2.2.1
  have hd : (kRow x.op).2.2 = ⟨#[]⟩ ↔ x.dst = -1 := by
    unfold bad2 at hb
    simp at hb
    have := hb.2.1
    by_cases h1 : (kRow x.op).2.2 = ⟨#[]⟩ <;> by_cases h2 : x.dst = -1 <;> simp_all
  have hdv : x.dst ≠ -1 → 0 ≤ x.dst := by
    intro h1
    unfold bad2 at hb
    simp at hb
    have := hb.2.2.1 h1
    unfold hasV at this; simp at this; exact this.1
  have h1 : ∃ w ws, words1 f x ++ [(kRow x.op).1] = w :: ws ∧ joinS (w :: ws) ⟨#[32]⟩ = refWord f x := by
    unfold words1 refWord
    by_cases h1 : x.dst = -1
    · rw [if_neg (by omega), if_pos (hd.2 h1)]; exact ⟨_, [], rfl, joinS_one _⟩
    · rw [if_pos (hdv h1), if_neg (fun e => h1 (hd.1 e))]
      refine ⟨vname f x.dst, [⟨#[61]⟩, (kRow x.op).1], rfl, ?_⟩
      have e1 := joinS_app (vname f x.dst) [⟨#[61]⟩] (kRow x.op).1
      have e2 := joinS_app (vname f x.dst) [] ⟨#[61]⟩
      simp only [List.cons_append, List.nil_append] at e1 e2
      rw [e1, e2, joinS_one]
      have e3 : spc = strL [32] := rfl
      have e4 : (⟨#[32, 61, 32]⟩ : ByteArray) = strL [32, 61, 32] := rfl
      have e5 : (⟨#[61]⟩ : ByteArray) = strL [61] := rfl
      have ha : vname f x.dst = strL (vname f x.dst).data.toList := by unfold strL; simp
      rw [e3, e4, e5, ha, strL_app, strL_app, strL_app, strL_app]; simp
  have h2 : ∀ k, k ≤ x.args.length → ∃ w ws, words2 f x k = w :: ws ∧ joinS (w :: ws) ⟨#[32]⟩ = refArgs f x k := by
    intro k
    induction k with
    | zero => intro _; obtain ⟨w, ws, e1, e2⟩ := h1; exact ⟨w, ws, by unfold words2; simpa using e1, by rw [e2]; rfl⟩
    | succ k ih =>
      intro hk
      obtain ⟨w, ws, e1, e2⟩ := ih (by omega)
      refine ⟨w, ws ++ [vname f x.args[k]], by rw [words2_succ f x hk, e1]; rfl, ?_⟩
      rw [← List.cons_append, joinS_app, e2, refArgs_succ f x hk]
  obtain ⟨w, ws, e1, e2⟩ := h2 x.args.length (Nat.le_refl _)
  unfold wordsOf refLine
  rw [e1, wordB_num hop]
  by_cases hn : isNum x.op = true
  · rw [if_pos hn, if_pos hn, joinS_app, e2]; rfl
  · rw [if_neg hn, if_neg hn, List.append_nil, e2]
def only (f : PFunc) (x : PInst) : PFunc := { f with blocks := [⟨⟨#[111, 110, 108, 121]⟩, [], [x], ⟨0, 0, 0, 0⟩⟩] }
def ended (f : PFunc) (b0 : PBlock) (bs : List PBlock) (t : PTerm) : PFunc := { f with blocks := { b0 with term := t } :: bs }
end Go.Proofs.YtdkhlgiohpdihaaGreatDoor
