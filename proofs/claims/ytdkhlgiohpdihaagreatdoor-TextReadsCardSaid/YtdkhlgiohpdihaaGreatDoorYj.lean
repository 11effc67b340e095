/- A program's lines are read as the program. No conditions. -/
import Derived.Test.YtdkhlgiohpdihaaGreatDoorYi
import Derived.Test.YtdkhlgiohpdihaaGreatDoorYh
import Derived.Lib.ParseIntBCases
namespace Go.Proofs.YtdkhlgiohpdihaaGreatDoor
open Go.Proofs Go.Lib Go.Shelf Go.RowKit
set_option maxRecDepth 20000
variable {E : World}
def headDiff (f g : PFunc) : Bool := !decide ((f.vars.length : Int) = g.vars.length) || (!decide (f.params = g.params) || !decide ((f.blocks.length : Int) = g.blocks.length))
def blkDiff (x y : PBlock) : Bool := !decide (x.name = y.name) || (!decide (x.term.kind = y.term.kind ∧ x.term.var = y.term.var ∧ x.term.to0 = y.term.to0 ∧ x.term.to1 = y.term.to1) || (!decide ((x.phis.length : Int) = y.phis.length) || !decide ((x.insts.length : Int) = y.insts.length)))
theorem headDiff_f {f g : PFunc} (h : headDiff f g = false) : f.vars.length = g.vars.length ∧ f.params = g.params ∧ f.blocks.length = g.blocks.length := by
  unfold headDiff at h; simp at h; exact ⟨by omega, h.2.1, by omega⟩
theorem blkDiff_f {f g : PBlock} (h : blkDiff f g = false) : (f.name = g.name ∧ f.term = g.term) ∧ f.phis.length = g.phis.length ∧ f.insts.length = g.insts.length := by
  unfold blkDiff at h; simp at h
  obtain ⟨h1, h2, h3, h4⟩ := h
  refine ⟨⟨h1, ?_⟩, by omega, by omega⟩
  obtain ⟨a, b, c, ⟨d1, d2, d3, d4⟩⟩ := f; obtain ⟨a', b', c', ⟨d1', d2', d3', d4'⟩⟩ := g
  simp_all
theorem blk_ext {x y : PBlock} (h1 : x.name = y.name) (h2 : x.term = y.term) (h3 : x.phis = y.phis) (h4 : x.insts = y.insts) : x = y := by
  cases x; cases y; simp_all
theorem func_ext {x y : PFunc} (h1 : x.vars = y.vars) (h2 : x.params = y.params) (h3 : x.blocks = y.blocks) : x = y := by
  cases x; cases y; simp_all
theorem phi_diff (x y : PPhi) : decide (x = y) = !(!decide (x.dst = y.dst) || (!decide (x.args = y.args) || !decide (x.from_ = y.from_))) := by
  rw [phi_iff]; simp [Bool.and_assoc]
theorem inst_diff (x y : PInst) : decide (x = y) = !(!decide (x.op = y.op) || (!decide (x.dst = y.dst) || (!decide (x.num = y.num) || !decide (x.args = y.args)))) := by
  rw [inst_iff]; simp [Bool.and_assoc]
set_option maxHeartbeats 8000000 in
theorem refSame_spec (f g : PFunc) (hf : okFunc f) : AFun Tryz.prog E 10 [.agg (encF f), .agg (encF g)] (.bool (decide (f = g))) := by
  obtain ⟨hf1, hf2, hf3, hf4⟩ := hf
  have hl1 := hf1.lt
  have hl3 := hf3.lt
  refine ACall.intro Tryz.func10 rfl (by decide) rfl ?_
  refine AWP.seq ?_
  refine AWP.region rfl ?_
  refine AOps.boxF (cs := _) rfl rfl rfl ?_
  refine AOps.boxF (cs := _) rfl rfl rfl ?_
  refine AOps.val (Gv.assign (v := .bool _) rfl) ?_
  refine AOps.nil ?_
  refine AWP.seq ?_
  refine AWP.seq ?_
  refine AWP.cutS (γ := Unit) [2, 3] (fun u => [(38, .bool (headDiff f g))]) (fun u => []) (fun u => True) ?_ (fun _ _ h => h) ?_
  · skip
    refine AWP.region rfl ?_
    refine AOps.val (Gv.fieldF Tryz.underlying27 rfl Tryz.sizeOf23 (by decide) rfl rfl) ?_
    refine AOps.val (Gv.load1F (c := .fro _ _) Tryz.isAgg23 rfl) ?_
    refine AOps.val (Gv.lenM Tryz.underlying23 rfl) ?_
    refine AOps.val (Gv.fieldF Tryz.underlying27 rfl Tryz.sizeOf23 (by decide) rfl rfl) ?_
    refine AOps.val (Gv.load1F (c := .fro _ _) Tryz.isAgg23 rfl) ?_
    refine AOps.val (Gv.lenM Tryz.underlying23 rfl) ?_
    refine AOps.val (Gv.neqI rfl rfl) ?_
    refine AOps.val (Gv.move (v := .bool _) rfl) ?_
    refine AOps.case (s := 22) rfl (fun c1 => ?_) (fun c1 => ?_)
    · skip
      refine AOps.guardFd rfl rfl c1 ?_
      refine AOps.guardFd rfl rfl c1 ?_
      refine AOps.guardFd rfl rfl c1 ?_
      refine AOps.guardFd rfl rfl c1 ?_
      refine AOps.guardFd rfl rfl c1 ?_
      refine AOps.guardFd rfl rfl c1 ?_
      refine AOps.val (Gv.pickT (v := .bool _) rfl c1 rfl) ?_
      refine AOps.val (Gv.move (v := .bool _) rfl) ?_
      refine AOps.guardFd rfl rfl rfl ?_
      refine AOps.guardFd rfl rfl rfl ?_
      refine AOps.guardFd rfl rfl rfl ?_
      refine AOps.guardFd rfl rfl rfl ?_
      refine AOps.guardFd rfl rfl rfl ?_
      refine AOps.guardFd rfl rfl rfl ?_
      refine AOps.guardFd rfl rfl rfl ?_
      refine AOps.val (Gv.pickT (v := .bool _) rfl rfl rfl) ?_
      refine AOps.nil ?_
      exact ⟨(), ⟨rfl, rfl, trivial⟩, ⟨jb (by simp_all [headDiff]), trivial⟩, ⟨_, (.refl _), rfl⟩, trivial⟩
    · skip
      refine AOps.guardT rfl rfl c1 ?_
      refine AOps.val (Gv.fieldF Tryz.underlying27 rfl Tryz.sizeOf24 (by decide) rfl rfl) ?_
      refine AOps.guardT rfl rfl c1 ?_
      refine AOps.val (Gv.load1F (c := .fro _ _) Tryz.isAgg24 rfl) ?_
      refine AOps.guardT rfl rfl c1 ?_
      refine AOps.val (Gv.fieldF Tryz.underlying27 rfl Tryz.sizeOf24 (by decide) rfl rfl) ?_
      refine AOps.guardT rfl rfl c1 ?_
      refine AOps.val (Gv.load1F (c := .fro _ _) Tryz.isAgg24 rfl) ?_
      refine AOps.guardT rfl rfl c1 ?_
      refine AOps.callP (ints_spec _ _ (by assumption)) rfl ?_
      refine AOps.guardT rfl rfl c1 ?_
      refine AOps.val (Gv.not rfl) ?_
      refine AOps.val (Gv.pickF (v := .bool _) rfl c1 rfl) ?_
      refine AOps.val (Gv.move (v := .bool _) rfl) ?_
      refine AOps.case (s := 30) rfl (fun c2 => ?_) (fun c2 => ?_)
      · skip
        refine AOps.guardFd rfl rfl c2 ?_
        refine AOps.guardFd rfl rfl c2 ?_
        refine AOps.guardFd rfl rfl c2 ?_
        refine AOps.guardFd rfl rfl c2 ?_
        refine AOps.guardFd rfl rfl c2 ?_
        refine AOps.guardFd rfl rfl c2 ?_
        refine AOps.guardFd rfl rfl c2 ?_
        refine AOps.val (Gv.pickT (v := .bool _) rfl c2 rfl) ?_
        refine AOps.nil ?_
        exact ⟨(), ⟨rfl, rfl, trivial⟩, ⟨jb (by simp_all [headDiff]), trivial⟩, ⟨_, (.refl _), rfl⟩, trivial⟩
      · skip
        refine AOps.guardT rfl rfl c2 ?_
        refine AOps.val (Gv.fieldF Tryz.underlying27 rfl Tryz.sizeOf25 (by decide) rfl rfl) ?_
        refine AOps.guardT rfl rfl c2 ?_
        refine AOps.val (Gv.load1F (c := .fro _ _) Tryz.isAgg25 rfl) ?_
        refine AOps.guardT rfl rfl c2 ?_
        refine AOps.val (Gv.lenM Tryz.underlying25 rfl) ?_
        refine AOps.guardT rfl rfl c2 ?_
        refine AOps.val (Gv.fieldF Tryz.underlying27 rfl Tryz.sizeOf25 (by decide) rfl rfl) ?_
        refine AOps.guardT rfl rfl c2 ?_
        refine AOps.val (Gv.load1F (c := .fro _ _) Tryz.isAgg25 rfl) ?_
        refine AOps.guardT rfl rfl c2 ?_
        refine AOps.val (Gv.lenM Tryz.underlying25 rfl) ?_
        refine AOps.guardT rfl rfl c2 ?_
        refine AOps.val (Gv.neqI rfl rfl) ?_
        refine AOps.val (Gv.pickF (v := .bool _) rfl c2 rfl) ?_
        refine AOps.nil ?_
        exact ⟨(), ⟨rfl, rfl, trivial⟩, ⟨jb (by simp_all [headDiff]), trivial⟩, ⟨_, (.refl _), rfl⟩, trivial⟩
  · skip
    rintro _ _
    refine AWP.cond rfl (fun c0 => ?_) (fun c0 => ?_)
    · skip
      refine AWP.seq ?_
      refine AWP.region rfl ?_
      refine AOps.val (Gv.assign (v := .bool _) rfl) ?_
      refine AOps.nil ?_
      refine AWP.ret ?_
      repeat (first | refine aseqQ_ret ?_ | refine ablockQ_ret ?_)
      refine afin.t1 (x := .bool _) rfl ?_
      rw [decide_eq_false (fun e => by subst e; simp [headDiff] at c0)]
    · skip
      obtain ⟨hv, hpar, hbl⟩ := headDiff_f c0
      refine AWP.skip ?_
      refine AWP.seq ?_
      refine AWP.seq ?_
      refine AWP.region rfl ?_
      refine AOps.val (Gv.fieldF Tryz.underlying27 rfl Tryz.sizeOf23 (by decide) rfl rfl) ?_
      refine AOps.val (Gv.load1F (c := .fro _ _) Tryz.isAgg23 rfl) ?_
      refine AOps.val (Gv.lenM Tryz.underlying23 rfl) ?_
      refine AOps.val (Gv.move (v := .int _ _) rfl) ?_
      refine AOps.nil ?_
      refine AWP.block ?_
      refine AWP.loop (γ := Nat) [2, 3, 41] (fun k => [(42, .int .i64 k)]) (fun k => []) (fun k => k ≤ f.vars.length ∧ f.vars.take k = g.vars.take k) (fun k => f.vars.length - k) 0 ⟨rfl, trivial⟩ ⟨_, (.refl _), rfl⟩ (⟨Nat.zero_le _, rfl⟩) ?_
      rintro k ⟨hk, hpre⟩
      refine AWP.seq ?_
      refine AWP.region rfl ?_
      refine AOps.val (Gv.lss rfl rfl) ?_
      refine AOps.nil ?_
      refine AWP.seq ?_
      refine AWP.condP rfl (fun ck => ?_) (fun ck => ?_)
      · skip
        have hk1 : k < f.vars.length := by omega
        have hk2 : k < g.vars.length := by omega
        refine AWP.skip ?_
        refine AWP.seq ?_
        refine AWP.block ?_
        refine AWP.seq ?_
        refine AWP.region rfl ?_
        refine AOps.val (Gv.move (v := .int _ _) rfl) ?_
        refine AOps.val (Gv.assign (v := .int _ _) rfl) ?_
        refine AOps.nil ?_
        refine AWP.seq ?_
        refine AWP.regionDraw (fun j => false) (by kernel_rfl) rfl (Part.perm (.rest _)) ?_
        refine AAny.take (i := 0) rfl (by kernel_rfl) (by kernel_rfl) (by kernel_rfl) (by kernel_rfl) (by kernel_rfl) (by kernel_rfl) (Gv.fieldF Tryz.underlying27 rfl Tryz.sizeOf23 (by decide) rfl rfl) ?_
        refine AAny.take (i := 1) rfl (by kernel_rfl) (by kernel_rfl) (by kernel_rfl) (by kernel_rfl) (by kernel_rfl) (by kernel_rfl) (Gv.load1F (c := .fro _ _) Tryz.isAgg23 rfl) ?_
        refine AAny.take (i := 2) rfl (by kernel_rfl) (by kernel_rfl) (by kernel_rfl) (by kernel_rfl) (by kernel_rfl) (by kernel_rfl) (Gv.move (v := .int _ _) rfl) ?_
        refine AAny.take (i := 3) rfl (by kernel_rfl) (by kernel_rfl) (by kernel_rfl) (by kernel_rfl) (by kernel_rfl) (by kernel_rfl) (Gv.idxM Tryz.underlying23 Tryz.sizeOf38 rfl rfl rfl (List.getElem?_eq_getElem (by omega))) ?_
        refine AAny.take (i := 4) rfl (by kernel_rfl) (by kernel_rfl) (by kernel_rfl) (by kernel_rfl) (by kernel_rfl) (by kernel_rfl) (Gv.loadWF Tryz.isAgg38 Tryz.sizeOf38 rfl rfl) ?_
        refine AAny.take (i := 5) rfl (by kernel_rfl) (by kernel_rfl) (by kernel_rfl) (by kernel_rfl) (by kernel_rfl) (by kernel_rfl) (Gv.fieldF Tryz.underlying27 rfl Tryz.sizeOf23 (by decide) rfl rfl) ?_
        refine AAny.take (i := 6) rfl (by kernel_rfl) (by kernel_rfl) (by kernel_rfl) (by kernel_rfl) (by kernel_rfl) (by kernel_rfl) (Gv.load1F (c := .fro _ _) Tryz.isAgg23 rfl) ?_
        refine AAny.take (i := 7) rfl (by kernel_rfl) (by kernel_rfl) (by kernel_rfl) (by kernel_rfl) (by kernel_rfl) (by kernel_rfl) (Gv.move (v := .int _ _) rfl) ?_
        refine AAny.take (i := 8) rfl (by kernel_rfl) (by kernel_rfl) (by kernel_rfl) (by kernel_rfl) (by kernel_rfl) (by kernel_rfl) (Gv.idxM Tryz.underlying23 Tryz.sizeOf38 rfl rfl rfl (List.getElem?_eq_getElem (by omega))) ?_
        refine AAny.take (i := 9) rfl (by kernel_rfl) (by kernel_rfl) (by kernel_rfl) (by kernel_rfl) (by kernel_rfl) (by kernel_rfl) (Gv.loadWF Tryz.isAgg38 Tryz.sizeOf38 rfl rfl) ?_
        refine AAny.take (i := 10) rfl (by kernel_rfl) (by kernel_rfl) (by kernel_rfl) (by kernel_rfl) (by kernel_rfl) (by kernel_rfl) (Gv.neqP (xs := [.string _, .int _ _]) (ys := [.string _, .int _ _]) (by kernel_rfl) rfl rfl (fun w => eq_var _ _ _ _ w)) ?_
        refine AAny.done (by kernel_rfl) ?_
        refine AWP.cond rfl (fun cd => ?_) (fun cd => ?_)
        · skip
          refine AWP.seq ?_
          refine AWP.region rfl ?_
          refine AOps.val (Gv.assign (v := .bool _) rfl) ?_
          refine AOps.nil ?_
          refine AWP.ret ?_
          repeat (first | refine aseqQ_ret ?_ | refine ablockQ_ret ?_)
          refine afin.t1 (x := .bool _) rfl ?_
          rw [decide_eq_false (fun e => by subst e; simp at cd)]
        · skip
          refine AWP.skip ?_
          refine AWP.region rfl ?_
          refine AOps.val (Gv.add rfl rfl (by unfold I64; omega)) ?_
          refine AOps.val (Gv.move (v := .int _ _) rfl) ?_
          refine AOps.nil ?_
          exact ⟨k + 1, ⟨rfl, rfl, rfl, trivial⟩, ⟨rfl, trivial⟩, ⟨_, (.refl _), rfl⟩, ⟨hk1, take_push hk1 hk2 hpre (var_ext (by simpa using cd))⟩, by omega⟩
      · skip
        have hvars := take_done hv (by omega) hpre
        refine AWP.exit ?_
        refine AWP.seq ?_
        refine AWP.seq ?_
        refine AWP.region rfl ?_
        refine AOps.val (Gv.fieldF Tryz.underlying27 rfl Tryz.sizeOf25 (by decide) rfl rfl) ?_
        refine AOps.val (Gv.load1F (c := .fro _ _) Tryz.isAgg25 rfl) ?_
        refine AOps.val (Gv.lenM Tryz.underlying25 rfl) ?_
        refine AOps.val (Gv.move (v := .int _ _) rfl) ?_
        refine AOps.nil ?_
        refine AWP.block ?_
        refine AWP.loop (γ := Nat) [3, 58, 59] (fun k => [(60, .int .i64 k)]) (fun k => []) (fun k => k ≤ f.blocks.length ∧ f.blocks.take k = g.blocks.take k) (fun k => f.blocks.length - k) 0 ⟨rfl, trivial⟩ ⟨_, (.refl _), rfl⟩ (⟨Nat.zero_le _, rfl⟩) ?_
        rintro k ⟨hk, hpre2⟩
        refine AWP.seq ?_
        refine AWP.region rfl ?_
        refine AOps.val (Gv.lss rfl rfl) ?_
        refine AOps.nil ?_
        refine AWP.seq ?_
        refine AWP.condP rfl (fun ck => ?_) (fun ck => ?_)
        · skip
          have hi1 : k < f.blocks.length := by omega
          have hi2 : k < g.blocks.length := by omega
          obtain ⟨hx1, hx2, hx3, hx4⟩ := hf4 _ (List.getElem_mem hi1)
          have hl4 := hx1.lt
          have hl5 := hx2.lt
          refine AWP.skip ?_
          refine AWP.seq ?_
          refine AWP.block ?_
          refine AWP.seq ?_
          refine AWP.region rfl ?_
          refine AOps.val (Gv.move (v := .int _ _) rfl) ?_
          refine AOps.val (Gv.idxM Tryz.underlying25 Tryz.sizeOf48 rfl rfl rfl (List.getElem?_eq_getElem (by omega))) ?_
          refine AOps.val (Gv.loadWF Tryz.isAgg48 Tryz.sizeOf48 rfl rfl) ?_
          refine AOps.alloc (cs := [.str ⟨#[]⟩, .raw (.slice none 0 0), .raw (.slice none 0 0), .int .i64 0, .int .i64 0, .int .i64 0, .int .i64 0]) Tryz.zeroValue48 rfl rfl ?_
          intro i7
          refine AOps.val (Gv.assign (v := .int _ _) rfl) ?_
          refine AOps.storeW Tryz.sizeOf48 rfl rfl rfl rfl rfl rfl .head rfl ?_
          refine AOps.nil ?_
          refine AWP.seq ?_
          refine AWP.region rfl ?_
          refine AOps.val (Gv.fieldF Tryz.underlying27 rfl Tryz.sizeOf25 (by decide) rfl rfl) ?_
          refine AOps.val (Gv.load1F (c := .fro _ _) Tryz.isAgg25 rfl) ?_
          refine AOps.val (Gv.move (v := .int _ _) rfl) ?_
          refine AOps.val (Gv.idxM Tryz.underlying25 Tryz.sizeOf48 rfl rfl rfl (List.getElem?_eq_getElem (by omega))) ?_
          refine AOps.val (Gv.loadWF Tryz.isAgg48 Tryz.sizeOf48 rfl rfl) ?_
          refine AOps.alloc (cs := [.str ⟨#[]⟩, .raw (.slice none 0 0), .raw (.slice none 0 0), .int .i64 0, .int .i64 0, .int .i64 0, .int .i64 0]) Tryz.zeroValue48 rfl rfl ?_
          intro i8
          refine AOps.storeW Tryz.sizeOf48 rfl rfl rfl rfl rfl rfl .head rfl ?_
          refine AOps.nil ?_
          refine AWP.seq ?_
          refine AWP.seq ?_
          refine AWP.cutS (γ := Unit) [3, 7, 8, 58, 59, 60] (fun u => [(99, .bool (blkDiff f.blocks[k] g.blocks[k]))]) (fun u => [(i8, .cells 48 (encBlk g.blocks[k])), (i7, .cells 48 (encBlk f.blocks[k]))]) (fun u => True) ?_ (fun _ _ h => h) ?_
          · skip
            refine AWP.region rfl ?_
            refine AOps.val (Gv.fieldO Tryz.underlying48 rfl Tryz.sizeOf9 (by decide) rfl rfl) ?_
            refine AOps.val (Gv.load1C (c := .str _) Tryz.isAgg9 rfl ⟨_, (.tail .head)⟩ rfl) ?_
            refine AOps.val (Gv.fieldO Tryz.underlying48 rfl Tryz.sizeOf9 (by decide) rfl rfl) ?_
            refine AOps.val (Gv.load1C (c := .str _) Tryz.isAgg9 rfl ⟨_, .head⟩ rfl) ?_
            refine AOps.val (Gv.neqT rfl rfl) ?_
            refine AOps.val (Gv.move (v := .bool _) rfl) ?_
            refine AOps.case (s := 75) rfl (fun c3 => ?_) (fun c3 => ?_)
            · skip
              refine AOps.guardFd rfl rfl c3 ?_
              refine AOps.guardFd rfl rfl c3 ?_
              refine AOps.guardFd rfl rfl c3 ?_
              refine AOps.guardFd rfl rfl c3 ?_
              refine AOps.guardFd rfl rfl c3 ?_
              refine AOps.val (Gv.pickT (v := .bool _) rfl c3 rfl) ?_
              refine AOps.val (Gv.move (v := .bool _) rfl) ?_
              refine AOps.guardFd rfl rfl rfl ?_
              refine AOps.guardFd rfl rfl rfl ?_
              refine AOps.guardFd rfl rfl rfl ?_
              refine AOps.guardFd rfl rfl rfl ?_
              refine AOps.guardFd rfl rfl rfl ?_
              refine AOps.guardFd rfl rfl rfl ?_
              refine AOps.guardFd rfl rfl rfl ?_
              refine AOps.val (Gv.pickT (v := .bool _) rfl rfl rfl) ?_
              refine AOps.val (Gv.move (v := .bool _) rfl) ?_
              refine AOps.guardFd rfl rfl rfl ?_
              refine AOps.guardFd rfl rfl rfl ?_
              refine AOps.guardFd rfl rfl rfl ?_
              refine AOps.guardFd rfl rfl rfl ?_
              refine AOps.guardFd rfl rfl rfl ?_
              refine AOps.guardFd rfl rfl rfl ?_
              refine AOps.guardFd rfl rfl rfl ?_
              refine AOps.val (Gv.pickT (v := .bool _) rfl rfl rfl) ?_
              refine AOps.nil ?_
              exact ⟨(), ⟨rfl, rfl, rfl, rfl, rfl, rfl, trivial⟩, ⟨jb (by simp_all [blkDiff]), trivial⟩, ⟨_, (.refl _), rfl⟩, trivial⟩
            · skip
              refine AOps.guardT rfl rfl c3 ?_
              refine AOps.val (Gv.fieldO Tryz.underlying48 rfl Tryz.sizeOf46 (by decide) rfl rfl) ?_
              refine AOps.guardT rfl rfl c3 ?_
              refine AOps.val (Gv.loadAC (l := [_, _, _, _]) Tryz.isAgg46 Tryz.sizeOf46 rfl ⟨_, (.tail .head)⟩ rfl rfl) ?_
              refine AOps.guardT rfl rfl c3 ?_
              refine AOps.val (Gv.fieldO Tryz.underlying48 rfl Tryz.sizeOf46 (by decide) rfl rfl) ?_
              refine AOps.guardT rfl rfl c3 ?_
              refine AOps.val (Gv.loadAC (l := [_, _, _, _]) Tryz.isAgg46 Tryz.sizeOf46 rfl ⟨_, .head⟩ rfl rfl) ?_
              refine AOps.guardT rfl rfl c3 ?_
              refine AOps.val (Gv.neqP (xs := [.int _ _, .int _ _, .int _ _, .int _ _]) (ys := [.int _ _, .int _ _, .int _ _, .int _ _]) (by kernel_rfl) rfl rfl (fun w => eq_term _ _ _ _ _ _ _ _ w)) ?_
              refine AOps.val (Gv.pickF (v := .bool _) rfl c3 rfl) ?_
              refine AOps.val (Gv.move (v := .bool _) rfl) ?_
              refine AOps.case (s := 82) rfl (fun c4 => ?_) (fun c4 => ?_)
              · skip
                refine AOps.guardFd rfl rfl c4 ?_
                refine AOps.guardFd rfl rfl c4 ?_
                refine AOps.guardFd rfl rfl c4 ?_
                refine AOps.guardFd rfl rfl c4 ?_
                refine AOps.guardFd rfl rfl c4 ?_
                refine AOps.guardFd rfl rfl c4 ?_
                refine AOps.guardFd rfl rfl c4 ?_
                refine AOps.val (Gv.pickT (v := .bool _) rfl c4 rfl) ?_
                refine AOps.val (Gv.move (v := .bool _) rfl) ?_
                refine AOps.guardFd rfl rfl rfl ?_
                refine AOps.guardFd rfl rfl rfl ?_
                refine AOps.guardFd rfl rfl rfl ?_
                refine AOps.guardFd rfl rfl rfl ?_
                refine AOps.guardFd rfl rfl rfl ?_
                refine AOps.guardFd rfl rfl rfl ?_
                refine AOps.guardFd rfl rfl rfl ?_
                refine AOps.val (Gv.pickT (v := .bool _) rfl rfl rfl) ?_
                refine AOps.nil ?_
                exact ⟨(), ⟨rfl, rfl, rfl, rfl, rfl, rfl, trivial⟩, ⟨jb (by simp_all [blkDiff]), trivial⟩, ⟨_, (.refl _), rfl⟩, trivial⟩
              · skip
                refine AOps.guardT rfl rfl c4 ?_
                refine AOps.val (Gv.fieldO Tryz.underlying48 rfl Tryz.sizeOf41 (by decide) rfl rfl) ?_
                refine AOps.guardT rfl rfl c4 ?_
                refine AOps.val (Gv.load1C (c := .fro _ _) Tryz.isAgg41 rfl ⟨_, (.tail .head)⟩ rfl) ?_
                refine AOps.guardT rfl rfl c4 ?_
                refine AOps.val (Gv.lenM Tryz.underlying41 rfl) ?_
                refine AOps.guardT rfl rfl c4 ?_
                refine AOps.val (Gv.fieldO Tryz.underlying48 rfl Tryz.sizeOf41 (by decide) rfl rfl) ?_
                refine AOps.guardT rfl rfl c4 ?_
                refine AOps.val (Gv.load1C (c := .fro _ _) Tryz.isAgg41 rfl ⟨_, .head⟩ rfl) ?_
                refine AOps.guardT rfl rfl c4 ?_
                refine AOps.val (Gv.lenM Tryz.underlying41 rfl) ?_
                refine AOps.guardT rfl rfl c4 ?_
                refine AOps.val (Gv.neqI rfl rfl) ?_
                refine AOps.val (Gv.pickF (v := .bool _) rfl c4 rfl) ?_
                refine AOps.val (Gv.move (v := .bool _) rfl) ?_
                refine AOps.case (s := 91) rfl (fun c5 => ?_) (fun c5 => ?_)
                · skip
                  refine AOps.guardFd rfl rfl c5 ?_
                  refine AOps.guardFd rfl rfl c5 ?_
                  refine AOps.guardFd rfl rfl c5 ?_
                  refine AOps.guardFd rfl rfl c5 ?_
                  refine AOps.guardFd rfl rfl c5 ?_
                  refine AOps.guardFd rfl rfl c5 ?_
                  refine AOps.guardFd rfl rfl c5 ?_
                  refine AOps.val (Gv.pickT (v := .bool _) rfl c5 rfl) ?_
                  refine AOps.nil ?_
                  exact ⟨(), ⟨rfl, rfl, rfl, rfl, rfl, rfl, trivial⟩, ⟨jb (by simp_all [blkDiff]), trivial⟩, ⟨_, (.refl _), rfl⟩, trivial⟩
                · skip
                  refine AOps.guardT rfl rfl c5 ?_
                  refine AOps.val (Gv.fieldO Tryz.underlying48 rfl Tryz.sizeOf42 (by decide) rfl rfl) ?_
                  refine AOps.guardT rfl rfl c5 ?_
                  refine AOps.val (Gv.load1C (c := .fro _ _) Tryz.isAgg42 rfl ⟨_, (.tail .head)⟩ rfl) ?_
                  refine AOps.guardT rfl rfl c5 ?_
                  refine AOps.val (Gv.lenM Tryz.underlying42 rfl) ?_
                  refine AOps.guardT rfl rfl c5 ?_
                  refine AOps.val (Gv.fieldO Tryz.underlying48 rfl Tryz.sizeOf42 (by decide) rfl rfl) ?_
                  refine AOps.guardT rfl rfl c5 ?_
                  refine AOps.val (Gv.load1C (c := .fro _ _) Tryz.isAgg42 rfl ⟨_, .head⟩ rfl) ?_
                  refine AOps.guardT rfl rfl c5 ?_
                  refine AOps.val (Gv.lenM Tryz.underlying42 rfl) ?_
                  refine AOps.guardT rfl rfl c5 ?_
                  refine AOps.val (Gv.neqI rfl rfl) ?_
                  refine AOps.val (Gv.pickF (v := .bool _) rfl c5 rfl) ?_
                  refine AOps.nil ?_
                  exact ⟨(), ⟨rfl, rfl, rfl, rfl, rfl, rfl, trivial⟩, ⟨jb (by simp_all [blkDiff]), trivial⟩, ⟨_, (.refl _), rfl⟩, trivial⟩
          · skip
            rintro _ _
            refine AWP.cond rfl (fun cb => ?_) (fun cb => ?_)
            · skip
              refine AWP.seq ?_
              refine AWP.region rfl ?_
              refine AOps.val (Gv.assign (v := .bool _) rfl) ?_
              refine AOps.nil ?_
              refine AWP.ret ?_
              repeat (first | refine aseqQ_ret ?_ | refine ablockQ_ret ?_)
              refine afin.t1 (x := .bool _) rfl ?_
              rw [decide_eq_false (fun e => by subst e; simp [blkDiff] at cb)]
            · skip
              obtain ⟨⟨hbn, hbt⟩, hbp, hbi⟩ := blkDiff_f cb
              refine AWP.skip ?_
              refine AWP.seq ?_
              refine AWP.seq ?_
              refine AWP.region rfl ?_
              refine AOps.val (Gv.fieldO Tryz.underlying48 rfl Tryz.sizeOf41 (by decide) rfl rfl) ?_
              refine AOps.val (Gv.load1C (c := .fro _ _) Tryz.isAgg41 rfl ⟨_, (.tail .head)⟩ rfl) ?_
              refine AOps.val (Gv.lenM Tryz.underlying41 rfl) ?_
              refine AOps.val (Gv.move (v := .int _ _) rfl) ?_
              refine AOps.nil ?_
              refine AWP.block ?_
              refine AWP.loop (γ := Nat) [3, 7, 8, 58, 59, 60, 101, 102] (fun m => [(103, .int .i64 m)]) (fun m => [(i8, .cells 48 (encBlk g.blocks[k])), (i7, .cells 48 (encBlk f.blocks[k]))]) (fun m => m ≤ f.blocks[k].phis.length ∧ f.blocks[k].phis.take m = g.blocks[k].phis.take m) (fun m => f.blocks[k].phis.length - m) 0 ⟨rfl, trivial⟩ ⟨_, (.refl _), rfl⟩ (⟨Nat.zero_le _, rfl⟩) ?_
              rintro m ⟨hm, hpre3⟩
              refine AWP.seq ?_
              refine AWP.region rfl ?_
              refine AOps.val (Gv.lss rfl rfl) ?_
              refine AOps.nil ?_
              refine AWP.seq ?_
              refine AWP.condP rfl (fun cm => ?_) (fun cm => ?_)
              · skip
                have hj1 : m < f.blocks[k].phis.length := by omega
                have hj2 : m < g.blocks[k].phis.length := by omega
                obtain ⟨hy1, hy2⟩ := hx3 _ (List.getElem_mem hj1)
                refine AWP.skip ?_
                refine AWP.seq ?_
                refine AWP.block ?_
                refine AWP.seq ?_
                refine AWP.region rfl ?_
                refine AOps.val (Gv.move (v := .int _ _) rfl) ?_
                refine AOps.val (Gv.idxM Tryz.underlying41 Tryz.sizeOf64 rfl rfl rfl (List.getElem?_eq_getElem (by omega))) ?_
                refine AOps.val (Gv.loadWF Tryz.isAgg64 Tryz.sizeOf64 rfl rfl) ?_
                refine AOps.alloc (cs := [.int .i64 0, .raw (.slice none 0 0), .raw (.slice none 0 0)]) Tryz.zeroValue64 rfl rfl ?_
                intro i10
                refine AOps.val (Gv.assign (v := .int _ _) rfl) ?_
                refine AOps.storeW Tryz.sizeOf64 rfl rfl rfl rfl rfl rfl .head rfl ?_
                refine AOps.nil ?_
                refine AWP.seq ?_
                refine AWP.region rfl ?_
                refine AOps.val (Gv.fieldO Tryz.underlying48 rfl Tryz.sizeOf41 (by decide) rfl rfl) ?_
                refine AOps.val (Gv.load1C (c := .fro _ _) Tryz.isAgg41 rfl ⟨_, (.tail .head)⟩ rfl) ?_
                refine AOps.val (Gv.move (v := .int _ _) rfl) ?_
                refine AOps.val (Gv.idxM Tryz.underlying41 Tryz.sizeOf64 rfl rfl rfl (List.getElem?_eq_getElem (by omega))) ?_
                refine AOps.val (Gv.loadWF Tryz.isAgg64 Tryz.sizeOf64 rfl rfl) ?_
                refine AOps.alloc (cs := [.int .i64 0, .raw (.slice none 0 0), .raw (.slice none 0 0)]) Tryz.zeroValue64 rfl rfl ?_
                intro i11
                refine AOps.storeW Tryz.sizeOf64 rfl rfl rfl rfl rfl rfl .head rfl ?_
                refine AOps.nil ?_
                refine AWP.seq ?_
                refine AWP.cutS (γ := Unit) [3, 7, 8, 58, 59, 60, 101, 102, 103] (fun u => [(133, .bool (!decide (f.blocks[k].phis[m] = g.blocks[k].phis[m])))]) (fun u => [(i8, .cells 48 (encBlk g.blocks[k])), (i7, .cells 48 (encBlk f.blocks[k]))]) (fun u => True) ?_ (fun _ _ h => h) ?_
                · skip
                  refine AWP.region rfl ?_
                  refine AOps.val (Gv.fieldO Tryz.underlying64 rfl Tryz.sizeOf3 (by decide) rfl rfl) ?_
                  refine AOps.val (Gv.load1C (c := .int _ _) Tryz.isAgg3 rfl ⟨_, (.tail .head)⟩ rfl) ?_
                  refine AOps.val (Gv.fieldO Tryz.underlying64 rfl Tryz.sizeOf3 (by decide) rfl rfl) ?_
                  refine AOps.val (Gv.load1C (c := .int _ _) Tryz.isAgg3 rfl ⟨_, .head⟩ rfl) ?_
                  refine AOps.val (Gv.neqI rfl rfl) ?_
                  refine AOps.val (Gv.move (v := .bool _) rfl) ?_
                  refine AOps.case (s := 118) rfl (fun c6 => ?_) (fun c6 => ?_)
                  · skip
                    refine AOps.guardFd rfl rfl c6 ?_
                    refine AOps.guardFd rfl rfl c6 ?_
                    refine AOps.guardFd rfl rfl c6 ?_
                    refine AOps.guardFd rfl rfl c6 ?_
                    refine AOps.guardFd rfl rfl c6 ?_
                    refine AOps.guardFd rfl rfl c6 ?_
                    refine AOps.val (Gv.pickT (v := .bool _) rfl c6 rfl) ?_
                    refine AOps.val (Gv.move (v := .bool _) rfl) ?_
                    refine AOps.guardFd rfl rfl rfl ?_
                    refine AOps.guardFd rfl rfl rfl ?_
                    refine AOps.guardFd rfl rfl rfl ?_
                    refine AOps.guardFd rfl rfl rfl ?_
                    refine AOps.guardFd rfl rfl rfl ?_
                    refine AOps.guardFd rfl rfl rfl ?_
                    refine AOps.val (Gv.pickT (v := .bool _) rfl rfl rfl) ?_
                    refine AOps.nil ?_
                    exact ⟨(), ⟨rfl, rfl, rfl, rfl, rfl, rfl, rfl, rfl, rfl, trivial⟩, ⟨jb (by rw [phi_diff, Bool.not_not]; simp_all), trivial⟩, ⟨_, (.drop (.drop (.refl _))), rfl⟩, trivial⟩
                  · skip
                    refine AOps.guardT rfl rfl c6 ?_
                    refine AOps.val (Gv.fieldO Tryz.underlying64 rfl Tryz.sizeOf24 (by decide) rfl rfl) ?_
                    refine AOps.guardT rfl rfl c6 ?_
                    refine AOps.val (Gv.load1C (c := .fro _ _) Tryz.isAgg24 rfl ⟨_, (.tail .head)⟩ rfl) ?_
                    refine AOps.guardT rfl rfl c6 ?_
                    refine AOps.val (Gv.fieldO Tryz.underlying64 rfl Tryz.sizeOf24 (by decide) rfl rfl) ?_
                    refine AOps.guardT rfl rfl c6 ?_
                    refine AOps.val (Gv.load1C (c := .fro _ _) Tryz.isAgg24 rfl ⟨_, .head⟩ rfl) ?_
                    refine AOps.guardT rfl rfl c6 ?_
                    refine AOps.callP (ints_spec _ _ (by assumption)) rfl ?_
                    refine AOps.guardT rfl rfl c6 ?_
                    refine AOps.val (Gv.not rfl) ?_
                    refine AOps.val (Gv.pickF (v := .bool _) rfl c6 rfl) ?_
                    refine AOps.val (Gv.move (v := .bool _) rfl) ?_
                    refine AOps.case (s := 126) rfl (fun c7 => ?_) (fun c7 => ?_)
                    · skip
                      refine AOps.guardFd rfl rfl c7 ?_
                      refine AOps.guardFd rfl rfl c7 ?_
                      refine AOps.guardFd rfl rfl c7 ?_
                      refine AOps.guardFd rfl rfl c7 ?_
                      refine AOps.guardFd rfl rfl c7 ?_
                      refine AOps.guardFd rfl rfl c7 ?_
                      refine AOps.val (Gv.pickT (v := .bool _) rfl c7 rfl) ?_
                      refine AOps.nil ?_
                      exact ⟨(), ⟨rfl, rfl, rfl, rfl, rfl, rfl, rfl, rfl, rfl, trivial⟩, ⟨jb (by rw [phi_diff, Bool.not_not]; simp_all), trivial⟩, ⟨_, (.drop (.drop (.refl _))), rfl⟩, trivial⟩
                    · skip
                      refine AOps.guardT rfl rfl c7 ?_
                      refine AOps.val (Gv.fieldO Tryz.underlying64 rfl Tryz.sizeOf24 (by decide) rfl rfl) ?_
                      refine AOps.guardT rfl rfl c7 ?_
                      refine AOps.val (Gv.load1C (c := .fro _ _) Tryz.isAgg24 rfl ⟨_, (.tail .head)⟩ rfl) ?_
                      refine AOps.guardT rfl rfl c7 ?_
                      refine AOps.val (Gv.fieldO Tryz.underlying64 rfl Tryz.sizeOf24 (by decide) rfl rfl) ?_
                      refine AOps.guardT rfl rfl c7 ?_
                      refine AOps.val (Gv.load1C (c := .fro _ _) Tryz.isAgg24 rfl ⟨_, .head⟩ rfl) ?_
                      refine AOps.guardT rfl rfl c7 ?_
                      refine AOps.callP (ints_spec _ _ (by assumption)) rfl ?_
                      refine AOps.guardT rfl rfl c7 ?_
                      refine AOps.val (Gv.not rfl) ?_
                      refine AOps.val (Gv.pickF (v := .bool _) rfl c7 rfl) ?_
                      refine AOps.nil ?_
                      exact ⟨(), ⟨rfl, rfl, rfl, rfl, rfl, rfl, rfl, rfl, rfl, trivial⟩, ⟨jb (by rw [phi_diff, Bool.not_not]; simp_all), trivial⟩, ⟨_, (.drop (.drop (.refl _))), rfl⟩, trivial⟩
                · skip
                  rintro _ _
                  refine AWP.cond rfl (fun cp => ?_) (fun cp => ?_)
                  · skip
                    refine AWP.seq ?_
                    refine AWP.region rfl ?_
                    refine AOps.val (Gv.assign (v := .bool _) rfl) ?_
                    refine AOps.nil ?_
                    refine AWP.ret ?_
                    repeat (first | refine aseqQ_ret ?_ | refine ablockQ_ret ?_)
                    refine afin.t1 (x := .bool _) rfl ?_
                    rw [decide_eq_false (fun e => by subst e; simp at cp)]
                  · skip
                    refine AWP.skip ?_
                    refine AWP.region rfl ?_
                    refine AOps.val (Gv.add rfl rfl (by unfold I64; omega)) ?_
                    refine AOps.val (Gv.move (v := .int _ _) rfl) ?_
                    refine AOps.nil ?_
                    exact ⟨m + 1, ⟨rfl, rfl, rfl, rfl, rfl, rfl, rfl, rfl, trivial⟩, ⟨rfl, trivial⟩, ⟨_, (.refl _), rfl⟩, ⟨hj1, take_push hj1 hj2 hpre3 (by simpa using cp)⟩, by omega⟩
              · skip
                have hphis := take_done hbp (by omega) hpre3
                refine AWP.exit ?_
                refine AWP.seq ?_
                refine AWP.region rfl ?_
                refine AOps.val (Gv.fieldO Tryz.underlying48 rfl Tryz.sizeOf42 (by decide) rfl rfl) ?_
                refine AOps.val (Gv.load1C (c := .fro _ _) Tryz.isAgg42 rfl ⟨_, (.tail .head)⟩ rfl) ?_
                refine AOps.val (Gv.lenM Tryz.underlying42 rfl) ?_
                refine AOps.val (Gv.move (v := .int _ _) rfl) ?_
                refine AOps.nil ?_
                refine AWP.block ?_
                refine AWP.loop (γ := Nat) [3, 8, 58, 59, 60, 136, 137] (fun m => [(138, .int .i64 m)]) (fun m => [(i8, .cells 48 (encBlk g.blocks[k])), (i7, .cells 48 (encBlk f.blocks[k]))]) (fun m => m ≤ f.blocks[k].insts.length ∧ f.blocks[k].insts.take m = g.blocks[k].insts.take m) (fun m => f.blocks[k].insts.length - m) 0 ⟨rfl, trivial⟩ ⟨_, (.refl _), rfl⟩ (⟨Nat.zero_le _, rfl⟩) ?_
                rintro m ⟨hm, hpre3⟩
                refine AWP.seq ?_
                refine AWP.region rfl ?_
                refine AOps.val (Gv.lss rfl rfl) ?_
                refine AOps.nil ?_
                refine AWP.seq ?_
                refine AWP.condP rfl (fun cm => ?_) (fun cm => ?_)
                · skip
                  have hj1 : m < f.blocks[k].insts.length := by omega
                  have hj2 : m < g.blocks[k].insts.length := by omega
                  have hy1 := hx4 _ (List.getElem_mem hj1)
                  refine AWP.skip ?_
                  refine AWP.seq ?_
                  refine AWP.block ?_
                  refine AWP.seq ?_
                  refine AWP.region rfl ?_
                  refine AOps.val (Gv.move (v := .int _ _) rfl) ?_
                  refine AOps.val (Gv.idxM Tryz.underlying42 Tryz.sizeOf67 rfl rfl rfl (List.getElem?_eq_getElem (by omega))) ?_
                  refine AOps.val (Gv.loadWF Tryz.isAgg67 Tryz.sizeOf67 rfl rfl) ?_
                  refine AOps.alloc (cs := [.int .i64 0, .int .i64 0, .raw (.slice none 0 0), .int .i64 0]) Tryz.zeroValue67 rfl rfl ?_
                  intro i13
                  refine AOps.val (Gv.assign (v := .int _ _) rfl) ?_
                  refine AOps.storeW Tryz.sizeOf67 rfl rfl rfl rfl rfl rfl .head rfl ?_
                  refine AOps.nil ?_
                  refine AWP.seq ?_
                  refine AWP.region rfl ?_
                  refine AOps.val (Gv.fieldO Tryz.underlying48 rfl Tryz.sizeOf42 (by decide) rfl rfl) ?_
                  refine AOps.val (Gv.load1C (c := .fro _ _) Tryz.isAgg42 rfl ⟨_, (.tail .head)⟩ rfl) ?_
                  refine AOps.val (Gv.move (v := .int _ _) rfl) ?_
                  refine AOps.val (Gv.idxM Tryz.underlying42 Tryz.sizeOf67 rfl rfl rfl (List.getElem?_eq_getElem (by omega))) ?_
                  refine AOps.val (Gv.loadWF Tryz.isAgg67 Tryz.sizeOf67 rfl rfl) ?_
                  refine AOps.alloc (cs := [.int .i64 0, .int .i64 0, .raw (.slice none 0 0), .int .i64 0]) Tryz.zeroValue67 rfl rfl ?_
                  intro i14
                  refine AOps.storeW Tryz.sizeOf67 rfl rfl rfl rfl rfl rfl .head rfl ?_
                  refine AOps.nil ?_
                  refine AWP.seq ?_
                  refine AWP.cutS (γ := Unit) [3, 8, 58, 59, 60, 136, 137, 138] (fun u => [(174, .bool (!decide (f.blocks[k].insts[m] = g.blocks[k].insts[m])))]) (fun u => [(i8, .cells 48 (encBlk g.blocks[k])), (i7, .cells 48 (encBlk f.blocks[k]))]) (fun u => True) ?_ (fun _ _ h => h) ?_
                  · skip
                    refine AWP.region rfl ?_
                    refine AOps.val (Gv.fieldO Tryz.underlying67 rfl Tryz.sizeOf65 (by decide) rfl rfl) ?_
                    refine AOps.val (Gv.load1C (c := .int _ _) Tryz.isAgg65 rfl ⟨_, (.tail .head)⟩ rfl) ?_
                    refine AOps.val (Gv.fieldO Tryz.underlying67 rfl Tryz.sizeOf65 (by decide) rfl rfl) ?_
                    refine AOps.val (Gv.load1C (c := .int _ _) Tryz.isAgg65 rfl ⟨_, .head⟩ rfl) ?_
                    refine AOps.val (Gv.neqI rfl rfl) ?_
                    refine AOps.val (Gv.move (v := .bool _) rfl) ?_
                    refine AOps.case (s := 153) rfl (fun c8 => ?_) (fun c8 => ?_)
                    · skip
                      refine AOps.guardFd rfl rfl c8 ?_
                      refine AOps.guardFd rfl rfl c8 ?_
                      refine AOps.guardFd rfl rfl c8 ?_
                      refine AOps.guardFd rfl rfl c8 ?_
                      refine AOps.guardFd rfl rfl c8 ?_
                      refine AOps.val (Gv.pickT (v := .bool _) rfl c8 rfl) ?_
                      refine AOps.val (Gv.move (v := .bool _) rfl) ?_
                      refine AOps.guardFd rfl rfl rfl ?_
                      refine AOps.guardFd rfl rfl rfl ?_
                      refine AOps.guardFd rfl rfl rfl ?_
                      refine AOps.guardFd rfl rfl rfl ?_
                      refine AOps.guardFd rfl rfl rfl ?_
                      refine AOps.val (Gv.pickT (v := .bool _) rfl rfl rfl) ?_
                      refine AOps.val (Gv.move (v := .bool _) rfl) ?_
                      refine AOps.guardFd rfl rfl rfl ?_
                      refine AOps.guardFd rfl rfl rfl ?_
                      refine AOps.guardFd rfl rfl rfl ?_
                      refine AOps.guardFd rfl rfl rfl ?_
                      refine AOps.guardFd rfl rfl rfl ?_
                      refine AOps.guardFd rfl rfl rfl ?_
                      refine AOps.val (Gv.pickT (v := .bool _) rfl rfl rfl) ?_
                      refine AOps.nil ?_
                      exact ⟨(), ⟨rfl, rfl, rfl, rfl, rfl, rfl, rfl, rfl, trivial⟩, ⟨jb (by rw [inst_diff, Bool.not_not]; simp_all), trivial⟩, ⟨_, (.drop (.drop (.refl _))), rfl⟩, trivial⟩
                    · skip
                      refine AOps.guardT rfl rfl c8 ?_
                      refine AOps.val (Gv.fieldO Tryz.underlying67 rfl Tryz.sizeOf3 (by decide) rfl rfl) ?_
                      refine AOps.guardT rfl rfl c8 ?_
                      refine AOps.val (Gv.load1C (c := .int _ _) Tryz.isAgg3 rfl ⟨_, (.tail .head)⟩ rfl) ?_
                      refine AOps.guardT rfl rfl c8 ?_
                      refine AOps.val (Gv.fieldO Tryz.underlying67 rfl Tryz.sizeOf3 (by decide) rfl rfl) ?_
                      refine AOps.guardT rfl rfl c8 ?_
                      refine AOps.val (Gv.load1C (c := .int _ _) Tryz.isAgg3 rfl ⟨_, .head⟩ rfl) ?_
                      refine AOps.guardT rfl rfl c8 ?_
                      refine AOps.val (Gv.neqI rfl rfl) ?_
                      refine AOps.val (Gv.pickF (v := .bool _) rfl c8 rfl) ?_
                      refine AOps.val (Gv.move (v := .bool _) rfl) ?_
                      refine AOps.case (s := 160) rfl (fun c9 => ?_) (fun c9 => ?_)
                      · skip
                        refine AOps.guardFd rfl rfl c9 ?_
                        refine AOps.guardFd rfl rfl c9 ?_
                        refine AOps.guardFd rfl rfl c9 ?_
                        refine AOps.guardFd rfl rfl c9 ?_
                        refine AOps.guardFd rfl rfl c9 ?_
                        refine AOps.val (Gv.pickT (v := .bool _) rfl c9 rfl) ?_
                        refine AOps.val (Gv.move (v := .bool _) rfl) ?_
                        refine AOps.guardFd rfl rfl rfl ?_
                        refine AOps.guardFd rfl rfl rfl ?_
                        refine AOps.guardFd rfl rfl rfl ?_
                        refine AOps.guardFd rfl rfl rfl ?_
                        refine AOps.guardFd rfl rfl rfl ?_
                        refine AOps.guardFd rfl rfl rfl ?_
                        refine AOps.val (Gv.pickT (v := .bool _) rfl rfl rfl) ?_
                        refine AOps.nil ?_
                        exact ⟨(), ⟨rfl, rfl, rfl, rfl, rfl, rfl, rfl, rfl, trivial⟩, ⟨jb (by rw [inst_diff, Bool.not_not]; simp_all), trivial⟩, ⟨_, (.drop (.drop (.refl _))), rfl⟩, trivial⟩
                      · skip
                        refine AOps.guardT rfl rfl c9 ?_
                        refine AOps.val (Gv.fieldO Tryz.underlying67 rfl Tryz.sizeOf2 (by decide) rfl rfl) ?_
                        refine AOps.guardT rfl rfl c9 ?_
                        refine AOps.val (Gv.load1C (c := .int _ _) Tryz.isAgg2 rfl ⟨_, (.tail .head)⟩ rfl) ?_
                        refine AOps.guardT rfl rfl c9 ?_
                        refine AOps.val (Gv.fieldO Tryz.underlying67 rfl Tryz.sizeOf2 (by decide) rfl rfl) ?_
                        refine AOps.guardT rfl rfl c9 ?_
                        refine AOps.val (Gv.load1C (c := .int _ _) Tryz.isAgg2 rfl ⟨_, .head⟩ rfl) ?_
                        refine AOps.guardT rfl rfl c9 ?_
                        refine AOps.val (Gv.neqI rfl rfl) ?_
                        refine AOps.val (Gv.pickF (v := .bool _) rfl c9 rfl) ?_
                        refine AOps.val (Gv.move (v := .bool _) rfl) ?_
                        refine AOps.case (s := 167) rfl (fun c10 => ?_) (fun c10 => ?_)
                        · skip
                          refine AOps.guardFd rfl rfl c10 ?_
                          refine AOps.guardFd rfl rfl c10 ?_
                          refine AOps.guardFd rfl rfl c10 ?_
                          refine AOps.guardFd rfl rfl c10 ?_
                          refine AOps.guardFd rfl rfl c10 ?_
                          refine AOps.guardFd rfl rfl c10 ?_
                          refine AOps.val (Gv.pickT (v := .bool _) rfl c10 rfl) ?_
                          refine AOps.nil ?_
                          exact ⟨(), ⟨rfl, rfl, rfl, rfl, rfl, rfl, rfl, rfl, trivial⟩, ⟨jb (by rw [inst_diff, Bool.not_not]; simp_all), trivial⟩, ⟨_, (.drop (.drop (.refl _))), rfl⟩, trivial⟩
                        · skip
                          refine AOps.guardT rfl rfl c10 ?_
                          refine AOps.val (Gv.fieldO Tryz.underlying67 rfl Tryz.sizeOf24 (by decide) rfl rfl) ?_
                          refine AOps.guardT rfl rfl c10 ?_
                          refine AOps.val (Gv.load1C (c := .fro _ _) Tryz.isAgg24 rfl ⟨_, (.tail .head)⟩ rfl) ?_
                          refine AOps.guardT rfl rfl c10 ?_
                          refine AOps.val (Gv.fieldO Tryz.underlying67 rfl Tryz.sizeOf24 (by decide) rfl rfl) ?_
                          refine AOps.guardT rfl rfl c10 ?_
                          refine AOps.val (Gv.load1C (c := .fro _ _) Tryz.isAgg24 rfl ⟨_, .head⟩ rfl) ?_
                          refine AOps.guardT rfl rfl c10 ?_
                          refine AOps.callP (ints_spec _ _ (by assumption)) rfl ?_
                          refine AOps.guardT rfl rfl c10 ?_
                          refine AOps.val (Gv.not rfl) ?_
                          refine AOps.val (Gv.pickF (v := .bool _) rfl c10 rfl) ?_
                          refine AOps.nil ?_
                          exact ⟨(), ⟨rfl, rfl, rfl, rfl, rfl, rfl, rfl, rfl, trivial⟩, ⟨jb (by rw [inst_diff, Bool.not_not]; simp_all), trivial⟩, ⟨_, (.drop (.drop (.refl _))), rfl⟩, trivial⟩
                  · skip
                    rintro _ _
                    refine AWP.cond rfl (fun cp => ?_) (fun cp => ?_)
                    · skip
                      refine AWP.seq ?_
                      refine AWP.region rfl ?_
                      refine AOps.val (Gv.assign (v := .bool _) rfl) ?_
                      refine AOps.nil ?_
                      refine AWP.ret ?_
                      repeat (first | refine aseqQ_ret ?_ | refine ablockQ_ret ?_)
                      refine afin.t1 (x := .bool _) rfl ?_
                      rw [decide_eq_false (fun e => by subst e; simp at cp)]
                    · skip
                      refine AWP.skip ?_
                      refine AWP.region rfl ?_
                      refine AOps.val (Gv.add rfl rfl (by unfold I64; omega)) ?_
                      refine AOps.val (Gv.move (v := .int _ _) rfl) ?_
                      refine AOps.nil ?_
                      exact ⟨m + 1, ⟨rfl, rfl, rfl, rfl, rfl, rfl, rfl, trivial⟩, ⟨rfl, trivial⟩, ⟨_, (.refl _), rfl⟩, ⟨hj1, take_push hj1 hj2 hpre3 (by simpa using cp)⟩, by omega⟩
                · skip
                  have hinsts := take_done hbi (by omega) hpre3
                  refine AWP.exit ?_
                  refine AWP.region rfl ?_
                  refine AOps.val (Gv.add rfl rfl (by unfold I64; omega)) ?_
                  refine AOps.val (Gv.move (v := .int _ _) rfl) ?_
                  refine AOps.nil ?_
                  exact ⟨k + 1, ⟨rfl, rfl, rfl, trivial⟩, ⟨rfl, trivial⟩, ⟨_, (.drop (.drop (.refl _))), rfl⟩, ⟨hi1, take_push hi1 hi2 hpre2 (blk_ext hbn hbt hphis hinsts)⟩, by omega⟩
        · skip
          have hblocks := take_done hbl (by omega) hpre2
          refine AWP.exit ?_
          refine AWP.seq ?_
          refine AWP.region rfl ?_
          refine AOps.val (Gv.assign (v := .bool _) rfl) ?_
          refine AOps.nil ?_
          refine AWP.ret ?_
          repeat (first | refine aseqQ_ret ?_ | refine ablockQ_ret ?_)
          refine afin.t1 (x := .bool _) rfl ?_
          rw [decide_eq_true (func_ext hvars hpar hblocks)]
end Go.Proofs.YtdkhlgiohpdihaaGreatDoor
namespace Go.Proofs.YtdkhlgiohpdihaaGreatDoor
open Go.Proofs Go.Lib Go.Shelf Go.RowKit
set_option maxRecDepth 20000
variable {E : World}
def wV (l : List PVar) : Nat := (l.map fun v => v.name.size).sum
def wP (l : List PPhi) : Nat := (l.map fun p => p.args.length + p.from_.length).sum
def wX (l : List PInst) : Nat := (l.map fun x => x.args.length).sum
def wB (b : PBlock) : Nat := b.name.size + 10 * (b.phis.length + b.insts.length) + wP b.phis + wX b.insts
def wBs (l : List PBlock) : Nat := (l.map wB).sum
def littleB (b : PBlock) : Prop := b.name.size ≤ 400 ∧ b.phis.length ≤ 400 ∧ b.insts.length ≤ 400 ∧ (∀ p ∈ b.phis, p.args.length ≤ 400 ∧ p.from_.length ≤ 400) ∧ ∀ x ∈ b.insts, x.args.length ≤ 400
def little (f : PFunc) : Prop := f.vars.length ≤ 100 ∧ f.blocks.length ≤ 40 ∧ f.params.length ≤ 20 ∧ (∀ v ∈ f.vars, v.name.size ≤ 400) ∧ (∀ b ∈ f.blocks, littleB b) ∧ (f.blocks ≠ [] → wV f.vars + wBs f.blocks ≤ 4000)
theorem little.small {f : PFunc} (h : little f) : small f := by
  obtain ⟨h1, h2, h3, h4, h5, _⟩ := h
  refine ⟨by omega, by omega, by omega, fun v hv => by have := h4 v hv; omega, fun b hb => ?_⟩
  obtain ⟨g1, g2, g3, g4, g5⟩ := h5 b hb
  exact ⟨by omega, by omega, by omega, fun p hp => by have := g4 p hp; omega, fun x hx => by have := g5 x hx; omega⟩
def wL {α : Type} (l : List α) : Prop := l.length ≤ 9223372036854775807
theorem wL.lt {α : Type} {l : List α} (h : wL l) : l.length ≤ 9223372036854775807 := h
end Go.Proofs.YtdkhlgiohpdihaaGreatDoor
namespace Go.Proofs.YtdkhlgiohpdihaaGreatDoor
open Go.Proofs Go.Lib Go.Shelf Go.RowKit
set_option maxRecDepth 20000
variable {E : World}
def bname (f : PFunc) (v : Int) : ByteArray := (f.blocks[v.toNat]?.map (·.name)).getD ⟨#[]⟩
theorem hasB_get {f : PFunc} {v : Int} (h : hasB f v = true) : ∃ (h : v.toNat < f.blocks.length), f.blocks[v.toNat]? = some f.blocks[v.toNat] ∧ 0 ≤ v ∧ bname f v = f.blocks[v.toNat].name := by
  have h2 : 0 ≤ v ∧ v < f.blocks.length := by simpa [hasB] using h
  have h3 : v.toNat < f.blocks.length := by omega
  exact ⟨h3, List.getElem?_eq_getElem h3, h2.1, by unfold bname; rw [List.getElem?_eq_getElem h3]; rfl⟩
def spc : ByteArray := ⟨#[32]⟩
def refWord (f : PFunc) (x : PInst) : ByteArray := if (kRow x.op).2.2 = ⟨#[]⟩ then (kRow x.op).1 else (vname f x.dst ++ ⟨#[32, 61, 32]⟩) ++ (kRow x.op).1
def refArgs (f : PFunc) (x : PInst) (k : Nat) : ByteArray := (x.args.take k).foldl (fun s a => (s ++ spc) ++ vname f a) (refWord f x)
def refLine (f : PFunc) (x : PInst) : ByteArray := if wordB x then (refArgs f x x.args.length ++ spc) ++ strL (itoa x.num) else refArgs f x x.args.length
theorem refArgs_succ (f : PFunc) (x : PInst) {k : Nat} (h : k < x.args.length) : refArgs f x (k + 1) = (refArgs f x k ++ spc) ++ vname f x.args[k] := by
  unfold refArgs; rw [List.take_succ_eq_append_getElem h, List.foldl_append]; rfl
theorem app_size (a b : ByteArray) : (a ++ b).size = a.size + b.size := ByteArray.size_append
theorem refWord_size {f : PFunc} (hnm : ∀ v ∈ f.vars, v.name.size ≤ 1000) (x : PInst) : (refWord f x).size ≤ 1009 := by
  have := word_len x.op
  have h2 := vname_len hnm x.dst
  unfold refWord; split
  · omega
  · rw [app_size, app_size]; show _ + 3 + _ ≤ _; omega
theorem refArgs_size {f : PFunc} (hnm : ∀ v ∈ f.vars, v.name.size ≤ 1000) (x : PInst) : ∀ k, k ≤ x.args.length → (refArgs f x k).size ≤ 1009 + 1001 * k
  | 0, _ => by simpa [refArgs] using refWord_size hnm x
  | k + 1, h => by
    rw [refArgs_succ f x (by omega), app_size, app_size]
    have := refArgs_size hnm x k (by omega)
    have h2 := vname_len hnm x.args[k]
    show _ + 1 + _ ≤ _; omega
theorem refInst_spec (f : PFunc) (x : PInst) (hx : InstP f x) (hd : (kRow x.op).2.2 ≠ ⟨#[]⟩ → hasV f x.dst = true) (hl : x.args.length ≤ 1000) (hnm : ∀ v ∈ f.vars, v.name.size ≤ 1000) (hI : -9223372036854775808 ≤ x.num ∧ x.num ≤ 9223372036854775807) :
    AFun Tryz.prog E 22 [.agg (encF f), .agg (encInst x)] (.str (refLine f x)) := by
  obtain ⟨ho1, ho2, _, hall⟩ := hx
  have hrow : kindT[x.op.toNat]? = some (kRow x.op) := by unfold kRow; rw [if_pos ho1, List.getElem?_eq_getElem (show _ < 27 by omega)]; rfl
  have hws := word_len x.op
  refine ACall.intro Tryz.func22 rfl (by decide) rfl ?_
  refine AWP.seq ?_
  refine AWP.region rfl ?_
  refine AOps.boxF (cs := _) rfl rfl rfl ?_
  refine AOps.boxF (cs := _) rfl rfl rfl ?_
  refine AOps.val (Gv.assign (v := .str _) rfl) ?_
  refine AOps.nil ?_
  refine AWP.seq ?_
  refine AWP.cutS (γ := Nat) [2, 3] (fun i => [(5, .po i 0)]) (fun i => [(i, .cells 116 (encK (kRow x.op)))]) (fun i => True) ?_ (fun _ _ h => h) ?_
  · skip
    refine AWP.regionDraw (fun j => Nat.beq j 6) (by kernel_rfl) rfl (Part.perm (.rest _)) ?_
    refine AAny.take (i := 1) rfl (by kernel_rfl) (by kernel_rfl) (by kernel_rfl) (by kernel_rfl) (by kernel_rfl) (by kernel_rfl) (Gv.fieldF Tryz.underlying67 rfl Tryz.sizeOf65 (by decide) rfl rfl) ?_
    refine AAny.take (i := 2) rfl (by kernel_rfl) (by kernel_rfl) (by kernel_rfl) (by kernel_rfl) (by kernel_rfl) (by kernel_rfl) (Gv.load1F (c := .int _ _) Tryz.isAgg65 rfl) ?_
    refine AAny.two (i := 0) (j := 5) rfl rfl (by kernel_rfl) ?_ ?_
    · skip
      refine AOps.callP (rows_spec) rfl ?_
      refine AOps.nil ?_
      refine AAny.take (i := 3) rfl (by kernel_rfl) (by kernel_rfl) (by kernel_rfl) (by kernel_rfl) (by kernel_rfl) (by kernel_rfl) (Gv.idxM (j := (x.op.toNat)) Tryz.underlying117 Tryz.sizeOf116 rfl rfl (Int.toNat_of_nonneg ho1).symm hrow) ?_
      refine AAny.take (i := 4) rfl (by kernel_rfl) (by kernel_rfl) (by kernel_rfl) (by kernel_rfl) (by kernel_rfl) (by kernel_rfl) (Gv.loadWF Tryz.isAgg116 Tryz.sizeOf116 rfl rfl) ?_
      refine AAny.one (i := 5) rfl (by kernel_rfl) ?_
      refine AOps.alloc (cs := [.str ⟨#[]⟩, .str ⟨#[]⟩, .str ⟨#[]⟩]) Tryz.zeroValue116 rfl rfl ?_
      intro i5
      refine AOps.nil ?_
      refine AAny.writes ?_
      refine AAnyW.one (i := 6) rfl (by kernel_rfl) (by kernel_rfl) ?_
      refine AOps.storeW Tryz.sizeOf116 rfl rfl rfl rfl rfl rfl .head rfl ?_
      refine AOps.nil ?_
      refine AAnyW.done (by kernel_rfl) ?_
      exact ⟨i5, ⟨rfl, rfl, trivial⟩, ⟨rfl, trivial⟩, ⟨_, (.refl _), rfl⟩, trivial⟩
    · skip
      refine AOps.alloc (cs := [.str ⟨#[]⟩, .str ⟨#[]⟩, .str ⟨#[]⟩]) Tryz.zeroValue116 rfl rfl ?_
      intro i5
      refine AOps.nil ?_
      refine AAny.one (i := 0) rfl (by kernel_rfl) ?_
      refine AOps.callP (rows_spec) rfl ?_
      refine AOps.nil ?_
      refine AAny.take (i := 3) rfl (by kernel_rfl) (by kernel_rfl) (by kernel_rfl) (by kernel_rfl) (by kernel_rfl) (by kernel_rfl) (Gv.idxM (j := (x.op.toNat)) Tryz.underlying117 Tryz.sizeOf116 rfl rfl (Int.toNat_of_nonneg ho1).symm hrow) ?_
      refine AAny.take (i := 4) rfl (by kernel_rfl) (by kernel_rfl) (by kernel_rfl) (by kernel_rfl) (by kernel_rfl) (by kernel_rfl) (Gv.loadWF Tryz.isAgg116 Tryz.sizeOf116 rfl rfl) ?_
      refine AAny.writes ?_
      refine AAnyW.one (i := 6) rfl (by kernel_rfl) (by kernel_rfl) ?_
      refine AOps.storeW Tryz.sizeOf116 rfl rfl rfl rfl rfl rfl .head rfl ?_
      refine AOps.nil ?_
      refine AAnyW.done (by kernel_rfl) ?_
      exact ⟨i5, ⟨rfl, rfl, trivial⟩, ⟨rfl, trivial⟩, ⟨_, (.refl _), rfl⟩, trivial⟩
  · skip
    rintro i5 _
    refine AWP.seq ?_
    refine AWP.region rfl ?_
    refine AOps.val (Gv.fieldO Tryz.underlying116 rfl Tryz.sizeOf9 (by decide) rfl rfl) ?_
    refine AOps.val (Gv.load1C (c := .str _) Tryz.isAgg9 rfl ⟨_, .head⟩ rfl) ?_
    refine AOps.val (Gv.assign (v := .str _) rfl) ?_
    refine AOps.nil ?_
    refine AWP.seq ?_
    refine AWP.seq ?_
    refine AWP.region rfl ?_
    refine AOps.val (Gv.fieldO Tryz.underlying116 rfl Tryz.sizeOf9 (by decide) rfl rfl) ?_
    refine AOps.val (Gv.load1C (c := .str _) Tryz.isAgg9 rfl ⟨_, .head⟩ rfl) ?_
    refine AOps.val (Gv.neqT rfl rfl) ?_
    refine AOps.nil ?_
    refine AWP.cutS (γ := Unit) [2, 3, 5] (fun u => [(6, .str (refWord f x))]) (fun u => [(i5, .cells 116 (encK (kRow x.op)))]) (fun u => True) ?_ (fun _ _ h => h) ?_
    · skip
      refine AWP.cond rfl (fun cm => ?_) (fun cm => ?_)
      · skip
        have hm : (kRow x.op).2.2 ≠ ⟨#[]⟩ := by simpa using cm
        obtain ⟨hlt, hg, hnn, hvn⟩ := has_get (hd hm)
        have hv1 := hnm _ (List.getElem_mem hlt)
        refine AWP.regionDraw (fun j => false) (by kernel_rfl) rfl (Part.perm (.r (.rest _))) ?_
        refine AAny.take (i := 0) rfl (by kernel_rfl) (by kernel_rfl) (by kernel_rfl) (by kernel_rfl) (by kernel_rfl) (by kernel_rfl) (Gv.fieldF Tryz.underlying27 rfl Tryz.sizeOf23 (by decide) rfl rfl) ?_
        refine AAny.take (i := 1) rfl (by kernel_rfl) (by kernel_rfl) (by kernel_rfl) (by kernel_rfl) (by kernel_rfl) (by kernel_rfl) (Gv.load1F (c := .fro _ _) Tryz.isAgg23 rfl) ?_
        refine AAny.take (i := 2) rfl (by kernel_rfl) (by kernel_rfl) (by kernel_rfl) (by kernel_rfl) (by kernel_rfl) (by kernel_rfl) (Gv.fieldF Tryz.underlying67 rfl Tryz.sizeOf3 (by decide) rfl rfl) ?_
        refine AAny.take (i := 3) rfl (by kernel_rfl) (by kernel_rfl) (by kernel_rfl) (by kernel_rfl) (by kernel_rfl) (by kernel_rfl) (Gv.load1F (c := .int _ _) Tryz.isAgg3 rfl) ?_
        refine AAny.take (i := 4) rfl (by kernel_rfl) (by kernel_rfl) (by kernel_rfl) (by kernel_rfl) (by kernel_rfl) (by kernel_rfl) (Gv.idxM (j := x.dst.toNat) Tryz.underlying23 Tryz.sizeOf38 rfl rfl (Int.toNat_of_nonneg hnn).symm hg) ?_
        refine AAny.take (i := 5) rfl (by kernel_rfl) (by kernel_rfl) (by kernel_rfl) (by kernel_rfl) (by kernel_rfl) (by kernel_rfl) (Gv.fieldF Tryz.underlying38 rfl Tryz.sizeOf9 (by decide) rfl rfl) ?_
        refine AAny.take (i := 6) rfl (by kernel_rfl) (by kernel_rfl) (by kernel_rfl) (by kernel_rfl) (by kernel_rfl) (by kernel_rfl) (Gv.load1F (c := .str _) Tryz.isAgg9 rfl) ?_
        refine AAny.take (i := 7) rfl (by kernel_rfl) (by kernel_rfl) (by kernel_rfl) (by kernel_rfl) (by kernel_rfl) (by kernel_rfl) (Gv.addT rfl rfl (by (try simp only [app_size]); (have e1 : (⟨#[32, 61, 32]⟩ : ByteArray).size = 3 := rfl); omega)) ?_
        refine AAny.take (i := 8) rfl (by kernel_rfl) (by kernel_rfl) (by kernel_rfl) (by kernel_rfl) (by kernel_rfl) (by kernel_rfl) (Gv.fieldO Tryz.underlying116 rfl Tryz.sizeOf9 (by decide) rfl rfl) ?_
        refine AAny.take (i := 9) rfl (by kernel_rfl) (by kernel_rfl) (by kernel_rfl) (by kernel_rfl) (by kernel_rfl) (by kernel_rfl) (Gv.load1C (c := .str _) Tryz.isAgg9 rfl ⟨_, .head⟩ rfl) ?_
        refine AAny.take (i := 10) rfl (by kernel_rfl) (by kernel_rfl) (by kernel_rfl) (by kernel_rfl) (by kernel_rfl) (by kernel_rfl) (Gv.addT rfl rfl (by (try simp only [app_size]); (have e1 : (⟨#[32, 61, 32]⟩ : ByteArray).size = 3 := rfl); omega)) ?_
        refine AAny.take (i := 11) rfl (by kernel_rfl) (by kernel_rfl) (by kernel_rfl) (by kernel_rfl) (by kernel_rfl) (by kernel_rfl) (Gv.assign (v := .str _) rfl) ?_
        refine AAny.done (by kernel_rfl) ?_
        exact ⟨(), ⟨rfl, rfl, rfl, trivial⟩, ⟨congrArg AV.str (by unfold refWord; rw [if_neg hm, hvn]), trivial⟩, ⟨_, (.refl _), rfl⟩, trivial⟩
      · skip
        have hm : (kRow x.op).2.2 = ⟨#[]⟩ := by simpa using cm
        refine AWP.skip ?_
        exact ⟨(), ⟨rfl, rfl, rfl, trivial⟩, ⟨congrArg AV.str (by unfold refWord; rw [if_pos hm]), trivial⟩, ⟨_, (.refl _), rfl⟩, trivial⟩
    · skip
      rintro _ _
      refine AWP.seq ?_
      refine AWP.seq ?_
      refine AWP.region rfl ?_
      refine AOps.val (Gv.fieldF Tryz.underlying67 rfl Tryz.sizeOf24 (by decide) rfl rfl) ?_
      refine AOps.val (Gv.load1F (c := .fro _ _) Tryz.isAgg24 rfl) ?_
      refine AOps.val (Gv.lenM Tryz.underlying24 rfl) ?_
      refine AOps.val (Gv.move (v := .int _ _) rfl) ?_
      refine AOps.nil ?_
      refine AWP.block ?_
      refine AWP.loop (γ := Nat) [2, 3, 5, 31, 32] (fun k => [(33, .int .i64 k), (6, .str (refArgs f x k))]) (fun k => [(i5, .cells 116 (encK (kRow x.op)))]) (fun k => k ≤ x.args.length) (fun k => x.args.length - k) 0 ⟨rfl, rfl, trivial⟩ ⟨_, (.refl _), rfl⟩ (Nat.zero_le _) ?_
      rintro k hk
      have hs := refArgs_size hnm x k hk
      refine AWP.seq ?_
      refine AWP.region rfl ?_
      refine AOps.val (Gv.lss rfl rfl) ?_
      refine AOps.nil ?_
      refine AWP.seq ?_
      refine AWP.condP rfl (fun ck => ?_) (fun ck => ?_)
      · skip
        have hk2 : k < x.args.length := by omega
        obtain ⟨hlt, hg, hnn, hvn⟩ := has_get ((List.all_eq_true.1 hall) _ (List.getElem_mem hk2))
        have hv1 := hnm _ (List.getElem_mem hlt)
        refine AWP.skip ?_
        refine AWP.seq ?_
        refine AWP.block ?_
        refine AWP.seq ?_
        refine AWP.region rfl ?_
        refine AOps.val (Gv.idxM Tryz.underlying24 Tryz.sizeOf3 rfl rfl rfl (List.getElem?_eq_getElem (by omega))) ?_
        refine AOps.val (Gv.load1F (c := .int _ _) Tryz.isAgg3 rfl) ?_
        refine AOps.val (Gv.assign (v := .int _ _) rfl) ?_
        refine AOps.nil ?_
        refine AWP.region rfl ?_
        refine AOps.val (Gv.move (v := .str _) rfl) ?_
        refine AOps.val (Gv.addT rfl rfl (by (try rw [app_size]); first | (show _ + 1 ≤ _; omega) | (show _ + 1 + _ ≤ _; omega))) ?_
        refine AOps.val (Gv.fieldF Tryz.underlying27 rfl Tryz.sizeOf23 (by decide) rfl rfl) ?_
        refine AOps.val (Gv.load1F (c := .fro _ _) Tryz.isAgg23 rfl) ?_
        refine AOps.val (Gv.move (v := .int _ _) rfl) ?_
        refine AOps.val (Gv.idxM (j := (x.args[k]).toNat) Tryz.underlying23 Tryz.sizeOf38 rfl rfl (Int.toNat_of_nonneg hnn).symm hg) ?_
        refine AOps.val (Gv.fieldF Tryz.underlying38 rfl Tryz.sizeOf9 (by decide) rfl rfl) ?_
        refine AOps.val (Gv.load1F (c := .str _) Tryz.isAgg9 rfl) ?_
        refine AOps.val (Gv.addT rfl rfl (by (try rw [app_size]); first | (show _ + 1 ≤ _; omega) | (show _ + 1 + _ ≤ _; omega))) ?_
        refine AOps.val (Gv.assign (v := .str _) rfl) ?_
        refine AOps.nil ?_
        refine AWP.region rfl ?_
        refine AOps.val (Gv.add rfl rfl (by unfold I64; omega)) ?_
        refine AOps.val (Gv.move (v := .int _ _) rfl) ?_
        refine AOps.nil ?_
        exact ⟨k + 1, ⟨rfl, rfl, rfl, rfl, rfl, trivial⟩, ⟨rfl, congrArg AV.str (by rw [refArgs_succ f x hk2, hvn]; rfl), trivial⟩, ⟨_, (.refl _), rfl⟩, hk2, by omega⟩
      · skip
        obtain rfl : k = x.args.length := by omega
        refine AWP.exit ?_
        refine AWP.seq ?_
        refine AWP.seq ?_
        refine AWP.cutS (γ := Unit) [3, 6] (fun u => [(54, .bool (wordB x))]) (fun u => [(i5, .cells 116 (encK (kRow x.op)))]) (fun u => True) ?_ (fun _ _ h => h) ?_
        · skip
          refine AWP.region rfl ?_
          refine AOps.val (Gv.fieldO Tryz.underlying116 rfl Tryz.sizeOf9 (by decide) rfl rfl) ?_
          refine AOps.val (Gv.load1C (c := .str _) Tryz.isAgg9 rfl ⟨_, .head⟩ rfl) ?_
          refine AOps.val (Gv.eqlT rfl rfl) ?_
          refine AOps.val (Gv.move (v := .bool _) rfl) ?_
          refine AOps.case (s := 50) rfl (fun c1 => ?_) (fun c1 => ?_)
          · skip
            refine AOps.guardFd rfl rfl c1 ?_
            refine AOps.guardFd rfl rfl c1 ?_
            refine AOps.guardFd rfl rfl c1 ?_
            refine AOps.val (Gv.pickT (v := .bool _) rfl c1 rfl) ?_
            refine AOps.nil ?_
            exact ⟨(), ⟨rfl, rfl, trivial⟩, ⟨jb (by simp_all [wordB]), trivial⟩, ⟨_, (.refl _), rfl⟩, trivial⟩
          · skip
            refine AOps.guardT rfl rfl c1 ?_
            refine AOps.val (Gv.fieldO Tryz.underlying116 rfl Tryz.sizeOf9 (by decide) rfl rfl) ?_
            refine AOps.guardT rfl rfl c1 ?_
            refine AOps.val (Gv.load1C (c := .str _) Tryz.isAgg9 rfl ⟨_, .head⟩ rfl) ?_
            refine AOps.guardT rfl rfl c1 ?_
            refine AOps.val (Gv.eqlT rfl rfl) ?_
            refine AOps.val (Gv.pickF (v := .bool _) rfl c1 rfl) ?_
            refine AOps.nil ?_
            exact ⟨(), ⟨rfl, rfl, trivial⟩, ⟨jb (by simp_all [wordB]), trivial⟩, ⟨_, (.refl _), rfl⟩, trivial⟩
        · skip
          rintro _ _
          refine AWP.cond rfl (fun cw => ?_) (fun cw => ?_)
          · skip
            have hil := itoa_length_le x.num hI.1 hI.2
            refine AWP.region rfl ?_
            refine AOps.val (Gv.move (v := .str _) rfl) ?_
            refine AOps.val (Gv.addT rfl rfl (by (try rw [app_size]); first | (show _ + 1 ≤ _; omega) | (rw [strL_size]; show _ + 1 + _ ≤ _; omega))) ?_
            refine AOps.val (Gv.fieldF Tryz.underlying67 rfl Tryz.sizeOf2 (by decide) rfl rfl) ?_
            refine AOps.val (Gv.load1F (c := .int _ _) Tryz.isAgg2 rfl) ?_
            refine AOps.callP (digits_spec _ hI) rfl ?_
            refine AOps.val (Gv.addT rfl rfl (by (try rw [app_size]); first | (show _ + 1 ≤ _; omega) | (rw [strL_size]; show _ + 1 + _ ≤ _; omega))) ?_
            refine AOps.val (Gv.assign (v := .str _) rfl) ?_
            refine AOps.nil ?_
            refine AWP.seq ?_
            refine AWP.region rfl ?_
            refine AOps.val (Gv.move (v := .str _) rfl) ?_
            refine AOps.val (Gv.assign (v := .str _) rfl) ?_
            refine AOps.nil ?_
            refine AWP.ret ?_
            repeat (first | refine aseqQ_ret ?_ | refine ablockQ_ret ?_)
            refine afin.t1 (x := .str _) rfl ?_
            exact congrArg AV.str (by unfold refLine; rw [if_pos cw]; rfl)
          · skip
            refine AWP.skip ?_
            refine AWP.seq ?_
            refine AWP.region rfl ?_
            refine AOps.val (Gv.move (v := .str _) rfl) ?_
            refine AOps.val (Gv.assign (v := .str _) rfl) ?_
            refine AOps.nil ?_
            refine AWP.ret ?_
            repeat (first | refine aseqQ_ret ?_ | refine ablockQ_ret ?_)
            refine afin.t1 (x := .str _) rfl ?_
            exact congrArg AV.str (by unfold refLine; rw [if_neg (by simp [cw])])
theorem termOK_0 {f : PFunc} {t : PTerm} (h : termOK f t = true) (hk : t.kind = 0) : hasB f t.to0 = true := by unfold termOK at h; rw [if_pos hk] at h; simp at h; exact h.1.1
theorem termOK_1 {f : PFunc} {t : PTerm} (h : termOK f t = true) (hk : t.kind = 1) : hasV f t.var = true ∧ hasB f t.to0 = true ∧ hasB f t.to1 = true := by unfold termOK at h; rw [if_neg (by omega), if_pos hk] at h; simp at h; exact ⟨h.1.1, h.1.2, h.2⟩
theorem termOK_2 {f : PFunc} {t : PTerm} (h : termOK f t = true) (hk : ¬ t.kind = 0) (hk1 : ¬ t.kind = 1) : hasV f t.var = true := by unfold termOK at h; rw [if_neg hk, if_neg hk1] at h; split at h; simp at h; exact h.1; cases h
end Go.Proofs.YtdkhlgiohpdihaaGreatDoor
namespace Go.Proofs.YtdkhlgiohpdihaaGreatDoor
open Go.Proofs Go.Lib Go.Shelf Go.RowKit
set_option maxRecDepth 20000
variable {E : World}
theorem joinTail_app (sep a : List UInt8) (r : List (List UInt8)) : Lib.joinTail sep (r ++ [a]) = Lib.joinTail sep r ++ sep ++ a := by
  induction r with
  | nil => simp [Lib.joinTail]
  | cons x r ih =>
    have h3 : ∀ r, Lib.joinTail sep (x :: r) = sep ++ x ++ Lib.joinTail sep r := fun r => rfl
    rw [List.cons_append, h3, h3, ih]; simp
theorem joinS_app (w : ByteArray) (ws : List ByteArray) (a : ByteArray) : joinS ((w :: ws) ++ [a]) ⟨#[32]⟩ = (joinS (w :: ws) ⟨#[32]⟩ ++ spc) ++ a := by
  have hs : spc = strL [32] := rfl
  have ha : a = strL a.data.toList := by unfold strL; simp
  unfold joinS
  show strL _ = (strL _ ++ spc) ++ a
  rw [hs, ha, strL_app, strL_app]
  congr 1
  simp only [List.cons_append, List.map_cons, List.map_append, List.map_nil, Lib.join_cons]
  rw [joinTail_app]
  simp [strL]
theorem joinS_one (w : ByteArray) : joinS [w] ⟨#[32]⟩ = w := by
  unfold joinS; simp [Lib.join_cons, Lib.joinTail]
theorem rows_27 : ∀ r ∈ kindT, r.1 ≠ ⟨#[]⟩ := by decide
theorem word_ne {op : Int} (h : 0 ≤ op ∧ op ≤ 26) : (kRow op).1 ≠ ⟨#[]⟩ := by
  have hm : kRow op ∈ kindT := by
    unfold kRow
    rw [if_pos h.1, List.getElem?_eq_getElem (show _ < 27 by omega)]
    exact List.getElem_mem _
  exact rows_27 _ hm
theorem word_num : ∀ j : Nat, j < 27 → isNum (j : Int) = (decide ((kRow (j : Int)).1 = ⟨#[99, 111, 110, 115, 116]⟩) || decide ((kRow (j : Int)).1 = ⟨#[112, 105]⟩)) := by decide
theorem wordB_num {x : PInst} (h : 0 ≤ x.op ∧ x.op ≤ 26) : wordB x = isNum x.op := by
  have := word_num x.op.toNat (by omega)
  rw [Int.toNat_of_nonneg h.1] at this
  unfold wordB; exact this.symm
theorem takes_len (op : Int) : (takesL op).length = (kRow op).2.1.size := by unfold takesL; rw [List.length_map]; exact Array.length_toList
theorem bytes_nil (b : ByteArray) : b.data.toList.isEmpty = decide (b = ⟨#[]⟩) := by
  obtain ⟨⟨l⟩⟩ := b
  cases l <;> simp
theorem makesB_eq (op : Int) : makesB op = !decide ((kRow op).2.2 = ⟨#[]⟩) := by unfold makesB; rw [bytes_nil]
theorem kRow_none {op : Int} (h : ¬ (0 ≤ op ∧ op ≤ 26)) : kRow op = (⟨#[]⟩, ⟨#[]⟩, ⟨#[]⟩) := kRow_out (by unfold isOp; simp; omega)
theorem instOK_iff (f : PFunc) (x : PInst) : instOK f x = true ↔ InstP f x := by
  by_cases h : 0 ≤ x.op ∧ x.op ≤ 26
  · have hw := word_ne h
    have hn := wordB_num h
    unfold instOK inst1 inst2 InstP bad2
    rw [takes_len, makesB_eq, hn]
    by_cases h1 : x.args.length = (kRow x.op).2.1.size <;> by_cases h2 : (kRow x.op).2.2 = ⟨#[]⟩ <;> by_cases h3 : x.dst = -1 <;> by_cases h4 : x.num = 0 <;> by_cases h5 : x.args.all (hasV f) = true <;> simp_all [Int.ofNat_inj] <;> (try (unfold hasV; simp)) <;> (try grind)
  · constructor
    · intro h2
      have := kRow_none h
      unfold instOK inst1 at h2
      rw [this] at h2; simp at h2
    · intro h2; exact absurd ⟨h2.1, h2.2.1⟩ h
theorem line_eq {f : PFunc} {x : PInst} (h : InstP f x) : instLine f x = refLine f x := by
  have hop : 0 ≤ x.op ∧ x.op ≤ 26 := ⟨h.1, h.2.1⟩
  have hok := (instOK_iff f x).2 h
  unfold instLine
  rw [if_pos hok]
  have hb := h.2.2.1
  have hd : (kRow x.op).2.2 = ⟨#[]⟩ ↔ x.dst = -1 := by
    unfold bad2 at hb
    simp at hb
    have := hb.2.1
    by_cases h1 : (kRow x.op).2.2 = ⟨#[]⟩ <;> by_cases h2 : x.dst = -1 <;> simp_all
  have hdv : x.dst ≠ -1 → 0 ≤ x.dst := by
    intro h1
    unfold bad2 at hb
    simp at hb
    have := hb.2.2.1 h1
    unfold hasV at this; simp at this; exact this.1
  have h1 : ∃ w ws, words1 f x ++ [(kRow x.op).1] = w :: ws ∧ joinS (w :: ws) ⟨#[32]⟩ = refWord f x := by
    unfold words1 refWord
    by_cases h1 : x.dst = -1
    · rw [if_neg (by omega), if_pos (hd.2 h1)]; exact ⟨_, [], rfl, joinS_one _⟩
    · rw [if_pos (hdv h1), if_neg (fun e => h1 (hd.1 e))]
      refine ⟨vname f x.dst, [⟨#[61]⟩, (kRow x.op).1], rfl, ?_⟩
      have e1 := joinS_app (vname f x.dst) [⟨#[61]⟩] (kRow x.op).1
      have e2 := joinS_app (vname f x.dst) [] ⟨#[61]⟩
      simp only [List.cons_append, List.nil_append] at e1 e2
      rw [e1, e2, joinS_one]
      have e3 : spc = strL [32] := rfl
      have e4 : (⟨#[32, 61, 32]⟩ : ByteArray) = strL [32, 61, 32] := rfl
      have e5 : (⟨#[61]⟩ : ByteArray) = strL [61] := rfl
      have ha : vname f x.dst = strL (vname f x.dst).data.toList := by unfold strL; simp
      rw [e3, e4, e5, ha, strL_app, strL_app, strL_app, strL_app]; simp
  have h2 : ∀ k, k ≤ x.args.length → ∃ w ws, words2 f x k = w :: ws ∧ joinS (w :: ws) ⟨#[32]⟩ = refArgs f x k := by
    intro k
    induction k with
    | zero => intro _; obtain ⟨w, ws, e1, e2⟩ := h1; exact ⟨w, ws, by unfold words2; simpa using e1, by rw [e2]; rfl⟩
    | succ k ih =>
      intro hk
      obtain ⟨w, ws, e1, e2⟩ := ih (by omega)
      refine ⟨w, ws ++ [vname f x.args[k]], by rw [words2_succ f x hk, e1]; rfl, ?_⟩
      rw [← List.cons_append, joinS_app, e2, refArgs_succ f x hk]
  obtain ⟨w, ws, e1, e2⟩ := h2 x.args.length (Nat.le_refl _)
  unfold wordsOf refLine
  rw [e1, wordB_num hop]
  by_cases hn : isNum x.op = true
  · rw [if_pos hn, if_pos hn, joinS_app, e2]; rfl
  · rw [if_neg hn, if_neg hn, List.append_nil, e2]
def only (f : PFunc) (x : PInst) : PFunc := { f with blocks := [⟨⟨#[111, 110, 108, 121]⟩, [], [x], ⟨0, 0, 0, 0⟩⟩] }
def ended (f : PFunc) (b0 : PBlock) (bs : List PBlock) (t : PTerm) : PFunc := { f with blocks := { b0 with term := t } :: bs }
end Go.Proofs.YtdkhlgiohpdihaaGreatDoor
namespace Go.Proofs.YtdkhlgiohpdihaaGreatDoor
open Go.Proofs Go.Lib Go.Shelf Go.RowKit
set_option maxRecDepth 20000
def wC (c : Int) : Prop := c ≠ 32 ∧ c ≠ 10 ∧ c ≠ 35 ∧ lineC c = true
structure okRs (rs : List Int) : Prop where
  ok : okL1 rs
  ne : rs ≠ []
  cs : ∀ c ∈ rs, wC c
def okW (w : ByteArray) : Prop := ∃ rs, w = strL (encs rs) ∧ okRs rs
theorem okW.app {a b : ByteArray} (ha : okW a) (hb : okW b) : okW (a ++ b) := by
  obtain ⟨ra, rfl, h1, h2, h3⟩ := ha
  obtain ⟨rb, rfl, g1, g2, g3⟩ := hb
  refine ⟨ra ++ rb, by rw [strL_app, encs_app], fun c hc => ?_, by simp [h2], fun c hc => ?_⟩
  · rcases List.mem_append.1 hc with hc | hc
    · exact h1 c hc
    · exact g1 c hc
  · rcases List.mem_append.1 hc with hc | hc
    · exact h3 c hc
    · exact g3 c hc
def asciiW (l : List UInt8) : Bool := !l.isEmpty && l.all fun b => decide (33 ≤ b.toNat) && (decide (b.toNat < 127) && !decide (b.toNat = 35))
theorem encs_ascii : ∀ {l : List UInt8}, (∀ b ∈ l, b.toNat < 128) → encs (l.map fun b => (b.toNat : Int)) = l
  | [], _ => rfl
  | b :: l, h => by
    have hb := h b (.head _)
    rw [List.map_cons, encs_cons, enc_ascii (by omega) (by omega), encs_ascii fun x hx => h x (.tail _ hx), Int.toNat_natCast]
    simp [Nat.toUInt8]
theorem okW_ascii {l : List UInt8} (h : asciiW l = true) : okW (strL l) := by
  unfold asciiW at h
  simp only [Bool.and_eq_true, List.all_eq_true, decide_eq_true_eq, Bool.not_eq_true', decide_eq_false_iff_not] at h
  obtain ⟨h1, h2⟩ := h
  refine ⟨l.map fun b => (b.toNat : Int), by rw [encs_ascii fun b hb => by have := h2 b hb; omega], fun c hc => ?_, ?_, fun c hc => ?_⟩
  · obtain ⟨b, hb, rfl⟩ := List.mem_map.1 hc
    have := h2 b hb
    exact .inl ⟨by omega, by omega⟩
  · intro e
    have : l = [] := List.map_eq_nil_iff.1 e
    subst this; cases h1
  · obtain ⟨b, hb, rfl⟩ := List.mem_map.1 hc
    have := h2 b hb
    exact ⟨by omega, by omega, by omega, by unfold lineC; simp; omega⟩
theorem okW.ne {w : ByteArray} (h : okW w) : w ≠ ⟨#[]⟩ := by
  obtain ⟨rs, rfl, h1, h2, _⟩ := h
  intro e
  have he := congrArg ByteArray.size e
  rw [strL_size] at he
  cases rs with
  | nil => exact h2 rfl
  | cons c rs => rw [encs_cons, List.length_append] at he; have := enc_len c; change _ = 0 at he; omega
def lineS (l : List ByteArray) : ByteArray := joinS l ⟨#[32]⟩
def unB : List (List ByteArray) → ByteArray
  | [] => ⟨#[]⟩
  | l :: ls => (lineS l ++ nl) ++ unB ls
def joinR : List (List Int) → List Int
  | [] => []
  | [w] => w
  | w :: ws => w ++ 32 :: joinR ws
def unR : List (List (List Int)) → List Int
  | [] => []
  | l :: ls => (joinR l ++ [10]) ++ unR ls
theorem joinR_cons {w v : List Int} {ws : List (List Int)} : joinR (w :: v :: ws) = w ++ 32 :: joinR (v :: ws) := rfl
theorem joinTail_cons (sep x : List UInt8) (r : List (List UInt8)) : Lib.joinTail sep (x :: r) = sep ++ x ++ Lib.joinTail sep r := rfl
theorem join_encs : ∀ (ws : List (List Int)), Lib.join (ws.map encs) [32] = encs (joinR ws)
  | [] => rfl
  | [w] => by rw [List.map_cons, List.map_nil, join_one]; rfl
  | w :: v :: ws => by
    have ih := join_encs (v :: ws)
    rw [List.map_cons, join_cons] at ih
    rw [List.map_cons, List.map_cons, join_cons, joinTail_cons, joinR_cons, encs_app, encs_cons, ← ih]
    rw [enc_ascii (by omega) (by omega)]
    simp
theorem lineS_encs (ws : List (List Int)) : lineS (ws.map fun w => strL (encs w)) = strL (encs (joinR ws)) := by
  unfold lineS joinS
  rw [List.map_map]
  have : (ws.map ((fun w : ByteArray => w.data.toList) ∘ fun w => strL (encs w))) = ws.map encs := List.map_congr_left fun w _ => strL_list _
  rw [this]
  show strL (Lib.join (ws.map encs) [32]) = _
  rw [join_encs]
theorem unB_encs : ∀ (ls : List (List (List Int))), unB (ls.map fun l => l.map fun w => strL (encs w)) = strL (encs (unR ls))
  | [] => rfl
  | l :: ls => by
    have hnl : nl = strL (encs [10]) := rfl
    rw [List.map_cons, unB, lineS_encs, unB_encs ls, hnl, strL_app, strL_app, unR, encs_app, encs_app]
theorem words_ex : ∀ {l : List ByteArray}, (∀ w ∈ l, okW w) → ∃ rs : List (List Int), l = rs.map (fun w => strL (encs w)) ∧ ∀ r ∈ rs, okRs r
  | [], _ => ⟨[], rfl, by simp⟩
  | w :: l, h => by
    obtain ⟨r, e, hr⟩ := h w (.head _)
    obtain ⟨rs, e2, hrs⟩ := words_ex fun x hx => h x (.tail _ hx)
    refine ⟨r :: rs, by rw [e, e2]; rfl, fun x hx => ?_⟩
    rcases List.mem_cons.1 hx with rfl | hx
    · exact hr
    · exact hrs x hx
theorem lines_ex : ∀ {ls : List (List ByteArray)}, (∀ l ∈ ls, l ≠ [] ∧ ∀ w ∈ l, okW w) → ∃ rs : List (List (List Int)), ls = rs.map (fun l => l.map fun w => strL (encs w)) ∧ ∀ l ∈ rs, l ≠ [] ∧ ∀ r ∈ l, okRs r
  | [], _ => ⟨[], rfl, by simp⟩
  | l :: ls, h => by
    obtain ⟨hne, hw⟩ := h l (.head _)
    obtain ⟨r, e, hr⟩ := words_ex hw
    obtain ⟨rs, e2, hrs⟩ := lines_ex fun x hx => h x (.tail _ hx)
    refine ⟨r :: rs, by rw [e2, e]; rfl, fun x hx => ?_⟩
    rcases List.mem_cons.1 hx with rfl | hx
    · exact ⟨fun e3 => by subst e3; exact hne e, hr⟩
    · exact hrs x hx
theorem joinR_mem : ∀ {ws : List (List Int)} {c : Int}, c ∈ joinR ws → c = 32 ∨ ∃ w ∈ ws, c ∈ w
  | [], c, h => by cases h
  | [w], c, h => .inr ⟨w, .head _, h⟩
  | w :: v :: ws, c, h => by
    rw [joinR_cons] at h
    rcases List.mem_append.1 h with h | h
    · exact .inr ⟨w, .head _, h⟩
    · rcases List.mem_cons.1 h with h | h
      · exact .inl h
      · rcases joinR_mem h with h | ⟨x, hx, h⟩
        · exact .inl h
        · exact .inr ⟨x, .tail _ hx, h⟩
theorem wdL_word : ∀ {w : List Int} (rest : List Int) (cur : List Int), (∀ c ∈ w, c ≠ 32) → wdL (w ++ rest) [] cur = wdL rest [] (cur ++ w)
  | [], rest, cur, _ => by simp
  | c :: w, rest, cur, h => by
    rw [List.cons_append, wdL, if_neg (h c (.head _)), wdL_word rest (cur ++ [c]) fun x hx => h x (.tail _ hx)]
    simp
theorem wdL_end {w : List Int} (rest : List Int) (hne : w ≠ []) (h : ∀ c ∈ w, c ≠ 32) : wdL (w ++ 32 :: rest) [] [] = w :: wdL rest [] [] := by
  rw [wdL_word _ _ h, List.nil_append, wdL, if_pos rfl, if_neg hne, wdL_out]; rfl
theorem wdL_join : ∀ {ws : List (List Int)}, (∀ w ∈ ws, okRs w) → wdL (joinR ws ++ [32]) [] [] = ws
  | [], _ => by rw [joinR, List.nil_append, wdL, if_pos rfl, if_pos rfl]; rfl
  | [w], h => by
    have hw := h w (.head _)
    rw [joinR, wdL_end [] hw.2 (fun c hc => (hw.3 c hc).1)]; rfl
  | w :: v :: ws, h => by
    have hw := h w (.head _)
    rw [joinR_cons, List.append_assoc, List.cons_append, wdL_end _ hw.2 (fun c hc => (hw.3 c hc).1), wdL_join fun x hx => h x (.tail _ hx)]
theorem lineW_join {ws : List (List Int)} (h : ∀ w ∈ ws, okRs w) : lineW (joinR ws) = ws := by
  unfold lineW
  rw [cutH_none, wdL_join h]
  intro hm
  rcases joinR_mem hm with h1 | ⟨w, hw, h1⟩
  · omega
  · exact ((h w hw).3 _ h1).2.2.1 rfl
theorem splitR_un : ∀ {ls : List (List (List Int))}, (∀ l ∈ ls, ∀ r ∈ l, okRs r) → splitR (unR ls) = ls.map joinR ++ [[]]
  | [], _ => rfl
  | l :: ls, h => by
    have hn : (10 : Int) ∉ joinR l := fun hm => by
      rcases joinR_mem hm with h1 | ⟨w, hw, h1⟩
      · omega
      · exact ((h l (.head _) w hw).3 _ h1).2.1 rfl
    rw [unR, List.append_assoc, List.singleton_append, splitR_some hn, splitR_un fun x hx => h x (.tail _ hx)]; rfl
theorem textW_un {ls : List (List (List Int))} (h : ∀ l ∈ ls, l ≠ [] ∧ ∀ r ∈ l, okRs r) : textW (unR ls) = ls := by
  unfold textW
  rw [splitR_un fun l hl => (h l hl).2, List.map_append, List.map_map, List.filter_append]
  have h1 : ls.map (lineW ∘ joinR) = ls := by
    conv => rhs; rw [← List.map_id ls]
    exact List.map_congr_left fun l hl => lineW_join (h l hl).2
  rw [h1]
  have h2 : ls.filter (fun l => !l.isEmpty) = ls := List.filter_eq_self.2 fun l hl => by have := (h l hl).1; cases l <;> simp_all
  rw [h2]
  simp [lineW, cutH, wdL]
theorem joinR_ok {ws : List (List Int)} (h : ∀ w ∈ ws, okRs w) : okL1 (joinR ws) ∧ ∀ c ∈ joinR ws, lineC c = true := by
  constructor
  · intro c hc
    rcases joinR_mem hc with h1 | ⟨w, hw, h1⟩
    · rw [h1]; exact .inl ⟨by omega, by omega⟩
    · exact (h w hw).1 c h1
  · intro c hc
    rcases joinR_mem hc with h1 | ⟨w, hw, h1⟩
    · rw [h1]; decide
    · exact ((h w hw).3 c h1).2.2.2
theorem unR_ok : ∀ {ls : List (List (List Int))}, (∀ l ∈ ls, ∀ r ∈ l, okRs r) → okL1 (unR ls) ∧ (unR ls).all lineC = true
  | [], _ => ⟨fun c hc => (by cases hc), rfl⟩
  | l :: ls, h => by
    obtain ⟨h1, h2⟩ := joinR_ok (h l (.head _))
    obtain ⟨h3, h4⟩ := unR_ok (ls := ls) fun x hx => h x (.tail _ hx)
    rw [unR]
    constructor
    · intro c hc
      rcases List.mem_append.1 hc with hc | hc
      · rcases List.mem_append.1 hc with hc | hc
        · exact h1 c hc
        · rw [List.mem_singleton.1 hc]; exact .inl ⟨by omega, by omega⟩
      · exact h3 c hc
    · rw [List.all_append, List.all_append, h4, List.all_eq_true.2 h2]; decide
theorem un_lines {ls : List (List ByteArray)} (h : ∀ l ∈ ls, l ≠ [] ∧ ∀ w ∈ l, okW w) (hsz : (unB ls).size ≤ 16384) : rightE (unB ls) = 0 ∧ (linesOf (unB ls)).map (·.2) = ls := by
  obtain ⟨rs, rfl, hrs⟩ := lines_ex h
  obtain ⟨h1, h2⟩ := unR_ok fun l hl => (hrs l hl).2
  rw [unB_encs] at hsz ⊢
  rw [strL_size] at hsz
  have hr : rightE (strL (encs (unR rs))) = 0 := by rw [rightE_encs h1, if_neg (by omega), if_pos h2]
  refine ⟨hr, ?_⟩
  unfold linesOf
  rw [if_pos hr, scanLines_encs h1, textW_un hrs]
  exact List.map_congr_left fun l hl => List.map_congr_left fun w hw => runesBytes_encs ((hrs l hl).2 w hw).1
theorem parseU_dec : ∀ (n u : Nat), u ≤ n → u ≤ 18446744073709551615 → ∀ r, parseUintM (2 ^ 64 - 1) 0 (decDigits u ++ r) = parseUintM (2 ^ 64 - 1) u r := by
  intro n
  induction n with
  | zero =>
    intro u h _ r
    obtain rfl : u = 0 := by omega
    rw [decDigits, dif_pos (by omega), List.singleton_append, parseUintM]
    rfl
  | succ n ih =>
    intro u h hu r
    have hb : ∀ d : Nat, d < 10 → (UInt8.ofNat (48 + d)).toNat = 48 + d := fun d hd => by rw [UInt8.toNat_ofNat']; omega
    rw [decDigits]
    by_cases h10 : u < 10
    · rw [dif_pos h10, List.singleton_append, parseUintM, hb u h10, if_pos (by omega), if_neg (by omega), if_neg (by omega)]
      congr 1; omega
    · rw [dif_neg h10, List.append_assoc, ih (u / 10) (by omega) (by omega), List.singleton_append, parseUintM, hb (u % 10) (by omega), if_pos (by omega), if_neg (by omega), if_neg (by omega)]
      congr 1; omega
theorem dec_ne (u : Nat) : ∃ c r, decDigits u = c :: r ∧ 48 ≤ c.toNat ∧ c.toNat ≤ 57 := by
  have key : ∀ n u, u ≤ n → ∃ c r, decDigits u = c :: r ∧ 48 ≤ c.toNat ∧ c.toNat ≤ 57 := by
    intro n
    induction n with
    | zero => intro u h; obtain rfl : u = 0 := by omega
              exact ⟨48, [], by rw [decDigits, dif_pos (by omega)]; rfl, by decide, by decide⟩
    | succ n ih =>
      intro u h
      rw [decDigits]
      by_cases h10 : u < 10
      · rw [dif_pos h10]
        have : (UInt8.ofNat (48 + u)).toNat = 48 + u := by rw [UInt8.toNat_ofNat']; omega
        exact ⟨_, _, rfl, by omega, by omega⟩
      · rw [dif_neg h10]
        obtain ⟨c, r, e, h1, h2⟩ := ih (u / 10) (by omega)
        rw [e]; exact ⟨c, _, rfl, h1, h2⟩
  exact key u u (Nat.le_refl _)
theorem pint_itoa {n : Int} (h : -9223372036854775808 ≤ n ∧ n ≤ 9223372036854775807) : pint (strL (itoa n)) = some n := by
  have hu : ∀ u : Nat, u ≤ 18446744073709551615 → parseUintB 64 (decDigits u) = .ok u := fun u hu => by
    obtain ⟨c, r, e, _⟩ := dec_ne u
    unfold parseUintB
    rw [if_neg (by rw [e]; simp)]
    have := parseU_dec u u (Nat.le_refl _) hu []
    rw [List.append_nil] at this
    rw [this]; rfl
  unfold pint
  rw [strL_list]
  unfold itoa
  by_cases h0 : n < 0
  · rw [if_pos h0, parseIntB_minus, hu _ (by omega)]
    have hc : signedC (2 ^ (64 - 1)) (.ok n.natAbs) = .ok (-(n.natAbs : Int)) := by
      show (if 2 ^ (64 - 1) < n.natAbs then NumEnd.range else NumEnd.ok (-(n.natAbs : Int))) = _
      rw [if_neg (by have : (2 ^ (64 - 1) : Nat) = 9223372036854775808 := by decide
                     omega)]
    rw [hc]
    show some (-(n.natAbs : Int)) = some n
    congr 1; omega
  · rw [if_neg h0]
    obtain ⟨c, r, e, h1, h2⟩ := dec_ne n.toNat
    rw [e, parseIntB_plain _ _ _ (by omega) (by omega), ← e, hu _ (by omega)]
    have hc : signlessC (2 ^ (64 - 1)) (.ok n.toNat) = .ok (n.toNat : Int) := by
      show (if 2 ^ (64 - 1) ≤ n.toNat then NumEnd.range else NumEnd.ok (n.toNat : Int)) = _
      rw [if_neg (by have : (2 ^ (64 - 1) : Nat) = 9223372036854775808 := by decide
                     omega)]
    rw [hc]
    show some (n.toNat : Int) = some n
    congr 1; omega
end Go.Proofs.YtdkhlgiohpdihaaGreatDoor
namespace Go.Proofs.YtdkhlgiohpdihaaGreatDoor
open Go.Proofs Go.Lib Go.Shelf Go.RowKit
set_option maxRecDepth 20000
def nameR : List Int → Bool
  | [] => false
  | c :: rs => letterC c && (rs.all innerC && decide (rs.length + 1 ≤ 16))
theorem letter_inner {c : Int} (h : letterC c = true) : innerC c = true := by unfold innerC; rw [h]; rfl
theorem nmGo_pos (s : ByteArray) : ∀ (n p : Nat), s.size - p ≤ n → 0 < p → p ≤ s.size → nmGo s p = ((runesFrom s p).all innerC && decide ((runesFrom s 0).length ≤ 16)) := by
  intro n
  induction n with
  | zero =>
    intro p h hp hps
    have hne : ¬ s = ⟨#[]⟩ := fun e => by subst e; have : p ≤ 0 := hps; omega
    rw [nmGo, dif_neg (by omega), runesFrom_ge (p := p) (by omega)]
    simp [hne]; omega
  | succ n ih =>
    intro p h hp hps
    by_cases hlt : p < s.size
    · have hd := (decode_ok s p).1
      have hw : p + (Utf8.decode s p).2 ≤ s.size := by
        have := decodeL_le (s.data.toList.drop p) (by intro e; have := congrArg List.length e; rw [List.length_drop] at this; have h2 : s.data.toList.length = s.size := Array.length_toList; simp only [List.length_nil] at this; omega)
        rw [decodeL_drop, List.length_drop] at this
        have h2 : s.data.toList.length = s.size := Array.length_toList
        omega
      rw [nmGo, dif_pos hlt, runesFrom_lt hlt, List.all_cons]
      have hp0 : decide (p = 0) = false := decide_eq_false (by omega)
      rw [hp0, Bool.false_and, Bool.false_or]
      cases hi : innerC ((Utf8.decode s p).1 : Int) with
      | false => simp
      | true => rw [if_neg (by simp), ih _ (by omega) (by omega) hw]; simp
    · have hne : ¬ s = ⟨#[]⟩ := fun e => by subst e; have : p ≤ 0 := hps; omega
      rw [nmGo, dif_neg hlt, runesFrom_ge (p := p) hlt]
      simp [hne]; omega
theorem step_le {s : ByteArray} {p : Nat} (hlt : p < s.size) : p + (Utf8.decode s p).2 ≤ s.size := by
  have h2 : s.data.toList.length = s.size := Array.length_toList
  have := decodeL_le (s.data.toList.drop p) (by intro e; have := congrArg List.length e; rw [List.length_drop] at this; simp only [List.length_nil] at this; omega)
  rw [decodeL_drop, List.length_drop] at this
  omega
theorem scanName_R (s : ByteArray) : scanName s = nameR (runesFrom s 0) := by
  unfold scanName
  by_cases hlt : 0 < s.size
  · have hd := (decode_ok s 0).1
    have hw := step_le hlt
    have hr := runesFrom_lt hlt
    have hl := congrArg List.length hr
    rw [List.length_cons] at hl
    rw [nmGo, dif_pos hlt]
    have h2 : nameR (runesFrom s 0) = (letterC ((Utf8.decode s 0).1 : Int) && ((runesFrom s (0 + (Utf8.decode s 0).2)).all innerC && decide ((runesFrom s (0 + (Utf8.decode s 0).2)).length + 1 ≤ 16))) := by rw [hr]; rfl
    rw [h2]
    cases hc : letterC ((Utf8.decode s 0).1 : Int) with
    | false => simp
    | true =>
      rw [letter_inner hc, if_neg (by simp), nmGo_pos s _ _ (Nat.le_refl _) (by omega) hw, hl]; rfl
  · rw [nmGo, dif_neg hlt, runesFrom_ge hlt]
    have : s = ⟨#[]⟩ := by
      have h2 : s.data.toList.length = s.size := Array.length_toList
      have h3 : s.data.toList = [] := List.eq_nil_of_length_eq_zero (by omega)
      rw [← strL_of s, h3]; rfl
    simp [this, nameR]
theorem cnt_end (k : Nat) : (decide ((1 : Int) ≤ ((k + 1 : Nat) : Int)) && decide (((k + 1 : Nat) : Int) ≤ 16)) = (([] : List Int).all innerC && decide (k + 1 + ([] : List Int).length ≤ 16)) := by
  rw [decide_eq_true (by omega), Bool.true_and]
  show _ = (true && _)
  rw [Bool.true_and, decide_eq_decide]
  show ((k + 1 : Nat) : Int) ≤ 16 ↔ k + 1 + 0 ≤ 16
  omega
theorem nameFrom_pos (s : ByteArray) : ∀ (n p k : Nat), s.size - p ≤ n → nameFrom s p (k + 1) = ((runesFrom s p).all innerC && decide (k + 1 + (runesFrom s p).length ≤ 16)) := by
  intro n
  induction n with
  | zero =>
    intro p k h
    rw [nameFrom, dif_neg (by omega), runesFrom_ge (by omega)]
    exact cnt_end k
  | succ n ih =>
    intro p k h
    by_cases hlt : p < s.size
    · have hd := (decode_ok s p).1
      rw [nameFrom, dif_pos hlt, runesFrom_lt hlt, List.all_cons]
      have ho : okRune ((Utf8.decode s p).1 : Int) (k + 1) = innerC ((Utf8.decode s p).1 : Int) := by
        unfold okRune innerC letterC digitC
        have : decide (((k + 1 : Nat) : Int) = 0) = false := decide_eq_false (by omega)
        rw [this]; simp [Bool.or_assoc]
      rw [ho]
      cases hi : innerC ((Utf8.decode s p).1 : Int) with
      | false => simp
      | true => rw [if_pos rfl, ih _ _ (by omega), Bool.true_and, List.length_cons]; congr 2; simp; omega
    · rw [nameFrom, dif_neg hlt, runesFrom_ge hlt]
      exact cnt_end k
theorem nameB_R (s : ByteArray) : nameB s = nameR (runesFrom s 0) := by
  unfold nameB
  by_cases hlt : 0 < s.size
  · rw [nameFrom, dif_pos hlt, runesFrom_lt hlt]
    have ho : okRune ((Utf8.decode s 0).1 : Int) 0 = letterC ((Utf8.decode s 0).1 : Int) := by unfold okRune letterC; simp
    rw [ho]
    show _ = (letterC ((Utf8.decode s 0).1 : Int) && _)
    cases hc : letterC ((Utf8.decode s 0).1 : Int) with
    | false => simp
    | true => rw [if_pos rfl, nameFrom_pos s _ _ _ (Nat.le_refl _), Bool.true_and]; congr 2; simp; omega
  · rw [nameFrom, dif_neg hlt, runesFrom_ge hlt]; rfl
theorem name_eq (s : ByteArray) : nameB s = scanName s := by rw [nameB_R, scanName_R]
theorem valid_runes (s : ByteArray) : ∀ (n p : Nat), s.size - p ≤ n → (∀ r ∈ runesFrom s p, r ≠ 65533) → validD (s.data.toList.drop p) = true := by
  have h2 : s.data.toList.length = s.size := Array.length_toList
  intro n
  induction n with
  | zero => intro p h _; rw [List.drop_eq_nil_of_le (by omega)]; rfl
  | succ n ih =>
    intro p h hr
    by_cases hlt : p < s.size
    · have hd := (decode_ok s p).1
      rw [runesFrom_lt hlt] at hr
      have hne : s.data.toList.drop p ≠ [] := fun e => by have := congrArg List.length e; rw [List.length_drop] at this; simp only [List.length_nil] at this; omega
      rw [validD_step _ hne, decodeL_drop, if_neg (by rintro ⟨h3, _⟩; exact hr _ (.head _) (by rw [h3]; rfl)), List.drop_drop]
      exact ih _ (by omega) fun r hm => hr r (.tail _ hm)
    · rw [List.drop_eq_nil_of_le (by omega)]; rfl
theorem low_letters : ∀ n : Nat, n < 65 → isLetterU (n : Int) = false := by decide
theorem inner_ge {c : Int} (h0 : 0 ≤ c) (h : innerC c = true) : (65 ≤ c ∨ (48 ≤ c ∧ c ≤ 57) ∨ c = 46) ∧ c ≠ 65533 := by
  unfold innerC at h
  have hl : letterC c = true → 65 ≤ c ∧ c ≠ 65533 := fun h1 => by
    unfold letterC at h1
    simp only [Bool.and_eq_true, Bool.not_eq_true', decide_eq_false_iff_not] at h1
    refine ⟨?_, h1.2⟩
    rcases Int.lt_or_le c 65 with h2 | h2
    · obtain ⟨n, rfl⟩ : ∃ n : Nat, c = n := ⟨c.toNat, by omega⟩
      rw [low_letters n (by omega)] at h1
      cases h1.1
    · exact h2
  rcases Bool.or_eq_true_iff.1 h with h1 | h1
  · have := hl h1; omega
  · unfold digitC at h1; simp at h1; omega
theorem name_runes {s : ByteArray} (h : scanName s = true) : ∃ rs, s = strL (encs rs) ∧ okL1 rs ∧ rs ≠ [] ∧ ∀ c ∈ rs, 0 ≤ c ∧ (65 ≤ c ∨ (48 ≤ c ∧ c ≤ 57) ∨ c = 46) := by
  rw [scanName_R] at h
  have hin : ∀ r ∈ runesFrom s 0, innerC r = true := by
    cases hr : runesFrom s 0 with
    | nil => simp
    | cons c rs =>
      rw [hr] at h
      unfold nameR at h
      simp only [Bool.and_eq_true, List.all_eq_true] at h
      intro r hm
      rcases List.mem_cons.1 hm with rfl | hm
      · exact letter_inner h.1
      · exact h.2.1 r hm
  have hpos : ∀ (n p : Nat), s.size - p ≤ n → ∀ r ∈ runesFrom s p, 0 ≤ r := by
    intro n
    induction n with
    | zero => intro p hp r hm; rw [runesFrom_ge (by omega)] at hm; cases hm
    | succ n ih =>
      intro p hp r hm
      by_cases hlt : p < s.size
      · have hd := (decode_ok s p).1
        rw [runesFrom_lt hlt] at hm
        rcases List.mem_cons.1 hm with rfl | hm
        · omega
        · exact ih _ (by omega) r hm
      · rw [runesFrom_ge hlt] at hm; cases hm
  have hp := hpos _ 0 (Nat.le_refl _)
  have hv := valid_runes s _ 0 (Nat.le_refl _) fun r hm => (inner_ge (hp r hm) (hin r hm)).2
  rw [List.drop_zero] at hv
  obtain ⟨rs, h1, h2⟩ := encs_of_valid _ _ (Nat.le_refl _) hv
  have hrs : runesFrom s 0 = rs := runes_encs h2 (Nat.zero_le _) (by rw [List.drop_zero]; exact h1)
  refine ⟨rs, by rw [← h1, strL_of], h2, ?_, fun c hc => ?_⟩
  · intro e; rw [hrs, e] at h; cases h
  · rw [hrs] at hin hp; exact ⟨hp c hc, (inner_ge (hp c hc) (hin c hc)).1⟩
theorem name_okW {s : ByteArray} (h : scanName s = true) : okW s := by
  obtain ⟨rs, h1, h2, h3, h4⟩ := name_runes h
  exact ⟨rs, h1, h2, h3, fun c hc => ⟨by have := h4 c hc; omega, by have := h4 c hc; omega, by have := h4 c hc; omega, by have := h4 c hc; unfold lineC; simp; omega⟩⟩
theorem name_no {s : ByteArray} (h : scanName s = true) {x : Nat} (hx : x < 128) (hn : ¬ (65 ≤ x ∨ (48 ≤ x ∧ x ≤ 57) ∨ x = 46)) : ∃ l : List UInt8, s = strL l ∧ x.toUInt8 ∉ l := by
  obtain ⟨rs, h1, h2, h3, h4⟩ := name_runes h
  exact ⟨encs rs, h1, not_encs h2 hx fun hm => hn (by have := h4 _ hm; omega)⟩
theorem name_ne {s : ByteArray} (h : scanName s = true) : s ≠ ⟨#[]⟩ := (name_okW h).ne
theorem name_ne_eq {s : ByteArray} (h : scanName s = true) : s ≠ eqS := fun e => by
  obtain ⟨l, h1, h2⟩ := name_no h (x := 61) (by omega) (by omega)
  have : l = [61] := strL_inj (h1.symm.trans e)
  subst this
  exact h2 (.head _)
theorem eq_not_name : scanName eqS = false := by
  cases h : scanName eqS with
  | false => rfl
  | true => exact absurd rfl (name_ne_eq h)
def pairW (v : PVar) : ByteArray := (v.name ++ colon) ++ tyWord v.ty
theorem cut_colon {l r : List UInt8} (h : (58 : UInt8) ∉ l) : cutA (strL (l ++ 58 :: r)) colon = strL l ∧ cutB2 (strL (l ++ 58 :: r)) colon = strL r ∧ cutT (strL (l ++ 58 :: r)) colon = true := by
  have hi : indexB (strL (l ++ 58 :: r)) colon = (l.length : Int) := by show index (strL (l ++ 58 :: r)).data.toList [58] = _; rw [strL_list, index_one, idxB_some h]
  obtain ⟨h1, h2, h3⟩ := cutB_hit _ _ _ hi
  refine ⟨h1.trans (extract_left _ _), h2.trans ?_, h3⟩
  have e : l ++ 58 :: r = (l ++ [58]) ++ r := by simp
  have e2 : l.length + colon.size = (l ++ [58]).length := by rw [List.length_append]; rfl
  rw [e2, e, extract_right]
theorem ty_words : ∀ t : Int, 0 ≤ t ∧ t ≤ 2 → tyOf (tyWord t) = t ∧ isTy (tyWord t) = true ∧ ∃ l, tyWord t = strL l ∧ asciiW l = true := fun t h => by
  have : t = 0 ∨ t = 1 ∨ t = 2 := by omega
  rcases this with rfl | rfl | rfl
  · exact ⟨by decide, by decide, _, rfl, by decide⟩
  · exact ⟨by decide, by decide, _, rfl, by decide⟩
  · exact ⟨by decide, by decide, _, rfl, by decide⟩
theorem pair_read {v : PVar} (hn : scanName v.name = true) (ht : 0 ≤ v.ty ∧ v.ty ≤ 2) : varOk (pairW v) = true ∧ varOf (pairW v) = v := by
  obtain ⟨l, h1, h2⟩ := name_no hn (x := 58) (by omega) (by omega)
  obtain ⟨t1, t2, r, t3, _⟩ := ty_words v.ty ht
  have hw : pairW v = strL (l ++ 58 :: r) := by
    unfold pairW
    have hc : colon = strL [58] := rfl
    rw [h1, t3, hc, strL_app, strL_app]; simp
  obtain ⟨c1, c2, c3⟩ := cut_colon (r := r) h2
  have hok : pairOk (pairW v) = true := by unfold pairOk; rw [hw, c3, c1, ← h1, hn]; rfl
  have hA : pairA (pairW v) = v.name := by unfold pairA; rw [if_pos hok, hw, c1, ← h1]
  have hB : pairB (pairW v) = tyWord v.ty := by unfold pairB; rw [if_pos hok, hw, c2, ← t3]
  refine ⟨by unfold varOk; rw [hok, hB, t2]; rfl, ?_⟩
  unfold varOf; rw [hA, hB, t1]
theorem pair_okW {v : PVar} (hn : scanName v.name = true) (ht : 0 ≤ v.ty ∧ v.ty ≤ 2) : okW (pairW v) := by
  obtain ⟨_, _, r, t3, t4⟩ := ty_words v.ty ht
  unfold pairW
  rw [t3]
  exact ((name_okW hn).app (okW_ascii (l := [58]) (by decide))).app (okW_ascii t4)
theorem pairs_read : ∀ {l : List PVar}, (∀ v ∈ l, scanName v.name = true ∧ 0 ≤ v.ty ∧ v.ty ≤ 2) → varsOk (l.map pairW) = true ∧ varsOf (l.map pairW) = l := fun {l} h => by
  have h1 : varsOk (l.map pairW) = true := by
    unfold varsOk
    rw [List.all_map]
    exact List.all_eq_true.2 fun v hv => (pair_read (h v hv).1 (h v hv).2).1
  refine ⟨h1, ?_⟩
  unfold varsOf
  rw [if_pos h1, List.map_map]
  conv => rhs; rw [← List.map_id l]
  exact List.map_congr_left fun v hv => (pair_read (h v hv).1 (h v hv).2).2
end Go.Proofs.YtdkhlgiohpdihaaGreatDoor
namespace Go.Proofs.YtdkhlgiohpdihaaGreatDoor
open Go.Proofs Go.Lib Go.Shelf Go.RowKit
set_option maxRecDepth 20000
structure FOk (f : PFunc) : Prop where
  vars : ∀ v ∈ f.vars, scanName v.name = true ∧ 0 ≤ v.ty ∧ v.ty ≤ 2
  blks : ∀ b ∈ f.blocks, scanName b.name = true ∧ BlkP f b
theorem vname_ok {f : PFunc} (hf : FOk f) {v : Int} (h : hasV f v = true) : scanName (vname f v) = true := by
  obtain ⟨h1, _, _, h2⟩ := has_get h
  rw [h2]; exact (hf.vars _ (List.getElem_mem h1)).1
theorem bname_ok {f : PFunc} (hf : FOk f) {v : Int} (h : hasB f v = true) : scanName (bname f v) = true := by
  obtain ⟨h1, _, _, h2⟩ := hasB_get h
  rw [h2]; exact (hf.blks _ (List.getElem_mem h1)).1
theorem namesOk_map {α : Type} {g : α → ByteArray} {l : List α} (h : ∀ x ∈ l, scanName (g x) = true) : namesOk (l.map g) = true := by
  unfold namesOk
  rw [List.all_map]
  exact List.all_eq_true.2 h
def inter : List ByteArray → List ByteArray → List ByteArray
  | a :: l, b :: m => a :: b :: inter l m
  | _, _ => []
theorem inter_ok : ∀ {l m : List ByteArray}, l.length = m.length → evens (inter l m) = l ∧ odds (inter l m) = m ∧ (inter l m).length = 2 * l.length
  | [], [], _ => ⟨rfl, rfl, rfl⟩
  | [], _ :: _, h => by cases h
  | _ :: _, [], h => by cases h
  | a :: l, b :: m, h => by
    obtain ⟨h1, h2, h3⟩ := inter_ok (l := l) (m := m) (by simpa using h)
    exact ⟨by rw [inter, evens, h1], by rw [inter, odds, h2], by rw [inter, List.length_cons, List.length_cons, List.length_cons, h3]; omega⟩
theorem inter_mem : ∀ {l m : List ByteArray} {x : ByteArray}, x ∈ inter l m → x ∈ l ∨ x ∈ m
  | [], _, x, h => by unfold inter at h; cases h
  | _ :: _, [], x, h => by unfold inter at h; cases h
  | a :: l, b :: m, x, h => by
    rw [inter] at h
    rcases List.mem_cons.1 h with rfl | h
    · exact .inl (.head _)
    · rcases List.mem_cons.1 h with rfl | h
      · exact .inr (.head _)
      · exact (inter_mem h).imp (fun h => .tail _ h) (fun h => .tail _ h)
def phiL (f : PFunc) (p : PPhi) : List ByteArray := vname f p.dst :: eqS :: phiS :: inter (p.from_.map (bname f)) (p.args.map (vname f))
def termL (f : PFunc) (t : PTerm) : List ByteArray :=
  if t.kind = 0 then [jumpS, bname f t.to0] else if t.kind = 1 then [ifS, vname f t.var, bname f t.to0, bname f t.to1] else [retS, vname f t.var]
def blkL (f : PFunc) (b : PBlock) : List (List ByteArray) := [blockS, b.name] :: (b.phis.map (phiL f) ++ (b.insts.map (wordsOf f) ++ [termL f b.term]))
def headL (f : PFunc) : List ByteArray := funcS :: (f.vars.take f.params.length).map pairW
def varL (v : PVar) : List ByteArray := [varS, pairW v]
def linesF (f : PFunc) : List (List ByteArray) := headL f :: ((f.vars.drop f.params.length).map varL ++ f.blocks.flatMap (blkL f))
def toPhi (f : PFunc) (p : PPhi) : PItem := .phi (vname f p.dst) (p.from_.map (bname f)) (p.args.map (vname f))
def toInst (f : PFunc) (x : PInst) : PItem := .inst x.op (if x.dst = -1 then ⟨#[]⟩ else vname f x.dst) (x.args.map (vname f)) x.num
def toHead (f : PFunc) (b : PBlock) : PHead :=
  if b.term.kind = 0 then ⟨b.name, 0, ⟨#[]⟩, [bname f b.term.to0], true⟩
  else if b.term.kind = 1 then ⟨b.name, 1, vname f b.term.var, [bname f b.term.to0, bname f b.term.to1], true⟩
  else ⟨b.name, 2, vname f b.term.var, [], true⟩
def toB (f : PFunc) (b : PBlock) : PHead × List PItem := (toHead f b, b.phis.map (toPhi f) ++ b.insts.map (toInst f))
def mkP (ps vs : List PVar) (bs : List (PHead × List PItem)) : PProg := ⟨ps, vs, bs.dropLast, bs.getLast?⟩
def progF (f : PFunc) : PProg := mkP (f.vars.take f.params.length) (f.vars.drop f.params.length) (f.blocks.map (toB f))
theorem notB_len {w : List ByteArray} (h : w.length ≠ 2) : isBlockLine w = false := by unfold isBlockLine; exact decide_eq_false fun h2 => h h2.2.1
theorem notB_head {w : List ByteArray} (h : atW w 0 ≠ blockS) : isBlockLine w = false := by unfold isBlockLine; exact decide_eq_false fun h2 => h h2.1
theorem namesOk_eq (l : List ByteArray) : namesOk (eqS :: l) = false := by unfold namesOk; rw [List.all_cons, eq_not_name]; rfl
theorem endB_eq {h : PHead} {a : ByteArray} {l : List ByteArray} : endB h (a :: eqS :: l) = none := by
  unfold endB
  rw [if_pos (.inr (by show ¬ namesOk (eqS :: l) = true; rw [namesOk_eq]; simp))]
theorem phi_line {f : PFunc} (hf : FOk f) {p : PPhi} (hp : PhiP f p) {h : PHead} (he : h.ended = false) {items : List PItem} (hi : ∀ x ∈ items, x.isPhi = true) :
    isBlockLine (phiL f p) = false ∧ lineB h items (phiL f p) = some (h, items ++ [toPhi f p]) := by
  obtain ⟨h1, h2, h3, h4, h5⟩ := hp
  have h4 := List.all_eq_true.1 h4
  have h5 := List.all_eq_true.1 h5
  obtain ⟨e1, e2, e3⟩ := inter_ok (l := p.from_.map (bname f)) (m := p.args.map (vname f)) (by simp [h2])
  rw [List.length_map] at e3
  have hlen : (phiL f p).length = 2 * p.from_.length + 3 := by unfold phiL; rw [List.length_cons, List.length_cons, List.length_cons, e3]
  refine ⟨notB_len (by omega), ?_⟩
  have hend : endB h (phiL f p) = none := endB_eq
  have hnm : namesOk (inter (p.from_.map (bname f)) (p.args.map (vname f))) = true := List.all_eq_true.2 fun x hx => by
    rcases inter_mem hx with hx | hx
    · obtain ⟨b, hb, rfl⟩ := List.mem_map.1 hx; exact bname_ok hf (h5 b hb)
    · obtain ⟨a, ha, rfl⟩ := List.mem_map.1 hx; exact vname_ok hf (h4 a ha)
  have hphi : phiOk (inter (p.from_.map (bname f)) (p.args.map (vname f))) = true := by
    unfold phiOk
    rw [hnm, e3]
    have a1 : (2 : Int) ≤ ((2 * p.from_.length : Nat) : Int) := by omega
    have a2 : ((2 * p.from_.length : Nat) : Int).tmod 2 = 0 := (Int.ofNat_tmod (2 * p.from_.length) 2).symm.trans (by simp)
    rw [decide_eq_true a1, decide_eq_true a2]; rfl
  have hit : instrItem (phiL f p) = some (toPhi f p) := by
    unfold instrItem
    have b1 : atW (phiL f p) 1 = eqS := rfl
    have b0 : atW (phiL f p) 0 = vname f p.dst := rfl
    have b2 : atW (phiL f p) 2 = phiS := rfl
    rw [if_neg (by rintro (h | h); omega; exact h b1), if_neg (by rintro (h | h); exact h (by rw [b0]; exact vname_ok hf h1); omega), if_pos b2, b0]
    show phiItem (vname f p.dst) (inter (p.from_.map (bname f)) (p.args.map (vname f))) = _
    unfold phiItem
    rw [if_pos hphi, e1, e2]; rfl
  unfold lineB
  rw [if_neg (by rw [he]; simp), hend]
  dsimp only
  rw [hit]
  dsimp only
  rw [if_neg]
  rintro ⟨_, hl⟩
  cases hg : items.getLast? with
  | none => rw [hg] at hl; cases hl
  | some y =>
    rw [hg] at hl
    have := hi y (List.mem_of_getLast? hg)
    simp only [Option.map_some, Option.some.injEq] at hl
    rw [this] at hl; cases hl
theorem op_words : ∀ j : Nat, j < 27 → isOpW (kRow (j : Int)).1 = true ∧ opOf (kRow (j : Int)).1 = (j : Int) ∧ (kRow (j : Int)).1 ≠ jumpS ∧ (kRow (j : Int)).1 ≠ ifS ∧ (kRow (j : Int)).1 ≠ retS ∧ (kRow (j : Int)).1 ≠ blockS ∧ (kRow (j : Int)).1 ≠ phiS ∧ (isNum (j : Int) = true → makesB (j : Int) = true) := by decide
theorem op_word {op : Int} (h : 0 ≤ op ∧ op ≤ 26) : isOpW (kRow op).1 = true ∧ opOf (kRow op).1 = op ∧ (kRow op).1 ≠ jumpS ∧ (kRow op).1 ≠ ifS ∧ (kRow op).1 ≠ retS ∧ (kRow op).1 ≠ blockS ∧ (kRow op).1 ≠ phiS ∧ (isNum op = true → makesB op = true) := by
  obtain ⟨n, rfl⟩ : ∃ n : Nat, op = n := ⟨op.toNat, by omega⟩
  exact op_words n (by omega)
theorem endB_head {h : PHead} {w : List ByteArray} (h1 : atW w 0 ≠ jumpS) (h2 : atW w 0 ≠ ifS) (h3 : atW w 0 ≠ retS) : endB h w = none := by
  unfold endB
  split
  · rfl
  · rw [if_neg (fun h => h1 h.1), if_neg (fun h => h2 h.1), if_neg (fun h => h3 h.1)]
structure InstF (f : PFunc) (x : PInst) : Prop where
  op : 0 ≤ x.op ∧ x.op ≤ 26
  len : x.args.length = (takesL x.op).length
  dst : (makesB x.op = false ∧ x.dst = -1) ∨ (makesB x.op = true ∧ x.dst ≠ -1 ∧ hasV f x.dst = true)
  num : isNum x.op = false → x.num = 0
  args : ∀ a ∈ x.args, hasV f a = true
theorem instP_F {f : PFunc} {x : PInst} (h : InstP f x) : InstF f x := by
  obtain ⟨h1, h2, h3, h4⟩ := h
  have hw := wordB_num ⟨h1, h2⟩
  unfold bad2 at h3
  simp only [Bool.or_eq_false_iff, Bool.not_eq_false', decide_eq_true_eq, Bool.and_eq_false_iff, beq_iff_eq] at h3
  obtain ⟨g1, g2, g3, g4⟩ := h3
  refine ⟨⟨h1, h2⟩, by rw [takes_len]; omega, ?_, fun hn => ?_, List.all_eq_true.1 h4⟩
  · rw [makesB_eq]
    by_cases hd : x.dst = -1
    · left
      rw [decide_eq_true hd] at g2
      exact ⟨by rw [g2]; rfl, hd⟩
    · right
      rw [decide_eq_false hd] at g2
      refine ⟨by rw [g2]; rfl, hd, ?_⟩
      rcases g3 with g | g
      · exact absurd g hd
      · exact g
  · rcases g4 with g | g
    · exact g
    · rw [hw, hn] at g; cases g
theorem inst_item {f : PFunc} (hf : FOk f) {x : PInst} (hx : InstF f x) (hI : -9223372036854775808 ≤ x.num ∧ x.num ≤ 9223372036854775807) :
    isBlockLine (wordsOf f x) = false ∧ (∀ h : PHead, endB h (wordsOf f x) = none) ∧ instrItem (wordsOf f x) = some (toInst f x) := by
  obtain ⟨w1, w2, w3, w4, w5, w6, w7, w8⟩ := op_word hx.op
  have hargs : namesOk (x.args.map (vname f)) = true := namesOk_map fun a ha => vname_ok hf (hx.args a ha)
  have hwo : wordsOf f x = words1 f x ++ [(kRow x.op).1] ++ x.args.map (vname f) ++ (if isNum x.op then [strL (itoa x.num)] else []) := by
    unfold wordsOf words2; rw [List.take_length]; rfl
  rcases hx.dst with ⟨d1, d2⟩ | ⟨d1, d2, d3⟩
  · have hn : isNum x.op = false := by
      cases h : isNum x.op with
      | false => rfl
      | true => rw [w8 h] at d1; cases d1
    have hw : wordsOf f x = (kRow x.op).1 :: x.args.map (vname f) := by
      rw [hwo, hn]; unfold words1; rw [if_neg (by omega)]; simp
    have h0 : atW (wordsOf f x) 0 = (kRow x.op).1 := by rw [hw]; rfl
    refine ⟨notB_head (by rw [h0]; exact w6), fun h => endB_head (by rw [h0]; exact w3) (by rw [h0]; exact w4) (by rw [h0]; exact w5), ?_⟩
    have hop : opItem ⟨#[]⟩ (wordsOf f x) = some (toInst f x) := by
      rw [hw]
      show opCons ⟨#[]⟩ (kRow x.op).1 (x.args.map (vname f)) = _
      unfold opCons
      rw [w2, if_pos ⟨w1, by rw [d1]; rfl⟩, if_neg (by rw [hn]; simp), if_pos ⟨by rw [List.length_map]; exact hx.len, hargs⟩]
      unfold toInst
      rw [if_pos d2, hx.num hn]
    unfold instrItem
    rw [if_pos, hop]
    by_cases hl : (wordsOf f x).length < 2
    · exact .inl hl
    · right
      intro he
      rw [hw] at hl he
      cases ha : x.args with
      | nil => rw [ha] at hl; simp at hl
      | cons a r =>
        rw [ha] at he
        have he : vname f a = eqS := he
        exact name_ne_eq (vname_ok hf (hx.args a (by rw [ha]; exact .head _))) he
  · have hd0 : 0 ≤ x.dst := by unfold hasV at d3; simp at d3; exact d3.1
    have hvn := vname_ok hf d3
    obtain ⟨rest, hrest⟩ : ∃ rest, x.args.map (vname f) ++ (if isNum x.op then [strL (itoa x.num)] else []) = rest := ⟨_, rfl⟩
    have hw : wordsOf f x = vname f x.dst :: eqS :: (kRow x.op).1 :: rest := by
      rw [hwo]; unfold words1; rw [if_pos hd0, ← hrest]; simp; rfl
    have hlen : (wordsOf f x).length = rest.length + 3 := by rw [hw]; rfl
    refine ⟨notB_len (by omega), fun h => by rw [hw]; exact endB_eq, ?_⟩
    have b0 : atW (wordsOf f x) 0 = vname f x.dst := by rw [hw]; rfl
    have b1 : atW (wordsOf f x) 1 = eqS := by rw [hw]; rfl
    have b2 : atW (wordsOf f x) 2 = (kRow x.op).1 := by rw [hw]; rfl
    unfold instrItem
    rw [if_neg (by rintro (h | h); omega; exact h b1), if_neg (by rintro (h | h); exact h (by rw [b0]; exact hvn); omega), if_neg (by rw [b2]; exact w7), b0, hw]
    show opCons (vname f x.dst) (kRow x.op).1 rest = _
    unfold opCons
    rw [w2, if_pos ⟨w1, by rw [d1, decide_eq_false (name_ne hvn)]; rfl⟩]
    have hti : toInst f x = .inst x.op (vname f x.dst) (x.args.map (vname f)) x.num := by unfold toInst; rw [if_neg d2]
    rw [hti]
    cases hn : isNum x.op with
    | false =>
      rw [hn] at hrest
      have hrest : rest = x.args.map (vname f) := by rw [← hrest]; simp
      rw [if_neg (by simp), if_pos ⟨by rw [hrest, List.length_map]; exact hx.len, by rw [hrest]; exact hargs⟩, hrest, hx.num hn]
    | true =>
      rw [hn] at hrest
      have hrest : rest = x.args.map (vname f) ++ [strL (itoa x.num)] := by rw [← hrest]; rfl
      have hk : (x.args.map (vname f)).length = (takesL x.op).length := by rw [List.length_map]; exact hx.len
      have hat : atW rest (takesL x.op).length = strL (itoa x.num) := by unfold atW; rw [hrest, ← hk, List.getElem?_append_right (Nat.le_refl _), Nat.sub_self]; rfl
      have htk : rest.take (takesL x.op).length = x.args.map (vname f) := by rw [hrest, ← hk, List.take_left]
      have hp := pint_itoa hI
      have hno : numOk (strL (itoa x.num)) = true := by unfold numOk; rw [hp]; exact decide_eq_true rfl
      have hnv : numV (strL (itoa x.num)) = x.num := by unfold numV; rw [if_pos hno, hp]; rfl
      rw [if_pos rfl, hat, htk, if_pos ⟨by rw [hrest, List.length_append, hk]; rfl, hno, hargs⟩, hnv]
theorem inst_line {f : PFunc} (hf : FOk f) {x : PInst} (hx : InstF f x) (hI : -9223372036854775808 ≤ x.num ∧ x.num ≤ 9223372036854775807) {h : PHead} (he : h.ended = false) {items : List PItem} :
    isBlockLine (wordsOf f x) = false ∧ lineB h items (wordsOf f x) = some (h, items ++ [toInst f x]) := by
  obtain ⟨h1, h2, h3⟩ := inst_item hf hx hI
  refine ⟨h1, ?_⟩
  unfold lineB
  rw [if_neg (by rw [he]; simp), h2 h]
  dsimp only
  rw [h3]
  dsimp only
  rw [if_neg]
  rintro ⟨h4, _⟩
  unfold toInst at h4
  cases h4
theorem term_line {f : PFunc} (hf : FOk f) {b : PBlock} (ht : termOK f b.term = true) {items : List PItem} :
    isBlockLine (termL f b.term) = false ∧ lineB (newHead b.name) items (termL f b.term) = some (toHead f b, items) := by
  have key : ∀ {w : List ByteArray} {h' : PHead}, endB (newHead b.name) w = some h' → lineB (newHead b.name) items w = some (h', items) := fun {w h'} he => by
    unfold lineB; rw [if_neg (by show ¬ false = true; simp), he]
  unfold termL toHead
  by_cases k0 : b.term.kind = 0
  · have hb := bname_ok hf (termOK_0 ht k0)
    rw [if_pos k0, if_pos k0]
    refine ⟨notB_head (by show jumpS ≠ blockS; decide), key ?_⟩
    unfold endB
    rw [if_neg, if_pos ⟨rfl, rfl⟩]; rfl
    rintro (h | h)
    · have : (2 : Nat) < 2 := h; omega
    · exact h (by show namesOk [bname f b.term.to0] = true; unfold namesOk; simp [hb])
  · rw [if_neg k0, if_neg k0]
    by_cases k1 : b.term.kind = 1
    · obtain ⟨t1, t2, t3⟩ := termOK_1 ht k1
      have h1 := vname_ok hf t1
      have h2 := bname_ok hf t2
      have h3 := bname_ok hf t3
      rw [if_pos k1, if_pos k1]
      refine ⟨notB_len (by show 4 ≠ 2; decide), key ?_⟩
      unfold endB
      rw [if_neg, if_neg, if_pos ⟨rfl, rfl⟩]; rfl
      · rintro ⟨_, h⟩; cases h
      · rintro (h | h)
        · have : (4 : Nat) < 2 := h; omega
        · exact h (by show namesOk [vname f b.term.var, bname f b.term.to0, bname f b.term.to1] = true; unfold namesOk; simp [h1, h2, h3])
    · have h1 := vname_ok hf (termOK_2 ht k0 k1)
      rw [if_neg k1, if_neg k1]
      refine ⟨notB_head (by show retS ≠ blockS; decide), key ?_⟩
      unfold endB
      rw [if_neg, if_neg, if_neg, if_pos ⟨rfl, rfl⟩]; rfl
      · rintro ⟨_, h⟩; cases h
      · rintro ⟨h, _⟩; have h : retS = jumpS := h; revert h; decide
      · rintro (h | h)
        · have : (2 : Nat) < 2 := h; omega
        · exact h (by show namesOk [vname f b.term.var] = true; unfold namesOk; simp [h1])
end Go.Proofs.YtdkhlgiohpdihaaGreatDoor
namespace Go.Proofs.YtdkhlgiohpdihaaGreatDoor
open Go.Proofs Go.Lib Go.Shelf Go.RowKit
set_option maxRecDepth 20000
def runW (S : PProg) (ws : List (List ByteArray)) : Option PProg := runLines S (ws.map wline)
theorem runW_nil (S : PProg) : runW S [] = some S := rfl
theorem runW_cons {S S' : PProg} {w : List ByteArray} (ws : List (List ByteArray)) (h : lineP S w = some S') : runW S (w :: ws) = runW S' ws := by
  unfold runW
  rw [List.map_cons, runLines, show (wline w).2 = w from rfl, h]; rfl
theorem runW_app : ∀ {S S' : PProg} {a : List (List ByteArray)} (b : List (List ByteArray)), runW S a = some S' → runW S (a ++ b) = runW S' b
  | S, S', [], b, h => by cases h; rfl
  | S, S', w :: a, b, h => by
    cases hl : lineP S w with
    | none => unfold runW at h; rw [List.map_cons, runLines, show (wline w).2 = w from rfl, hl] at h; cases h
    | some S1 =>
      rw [runW_cons a hl] at h
      rw [List.cons_append, runW_cons (a ++ b) hl]
      exact runW_app b h
theorem mkP_last (ps vs : List PVar) (bs : List (PHead × List PItem)) (b : PHead × List PItem) : mkP ps vs (bs ++ [b]) = ⟨ps, vs, bs, some b⟩ := by
  unfold mkP; simp
theorem begin_line {ps vs : List PVar} {bs : List (PHead × List PItem)} (h : ∀ b ∈ bs, b.1.ended = true) {nm : ByteArray} (hn : scanName nm = true) :
    lineP (mkP ps vs bs) [blockS, nm] = some ⟨ps, vs, bs, some (newHead nm, [])⟩ := by
  have hb : isBlockLine [blockS, nm] = true := by unfold isBlockLine; exact decide_eq_true ⟨rfl, rfl, hn⟩
  rcases snoc_cases bs with rfl | ⟨pre, y, rfl⟩
  · show lineP0 _ _ = _
    unfold lineP0; rw [if_pos hb]; rfl
  · rw [mkP_last]
    show lineP1 _ y _ = _
    unfold lineP1; rw [if_pos hb, if_pos (h y (by simp))]; rfl
theorem item_line {ps vs : List PVar} {bs : List (PHead × List PItem)} {h : PHead} {it : List PItem} {w : List ByteArray} {r : PHead × List PItem} (h1 : isBlockLine w = false) (h2 : lineB h it w = some r) :
    lineP ⟨ps, vs, bs, some (h, it)⟩ w = some ⟨ps, vs, bs, some r⟩ := by
  show lineP1 _ (h, it) w = _
  unfold lineP1; rw [if_neg (by rw [h1]; simp), h2]; rfl
theorem phis_run {f : PFunc} (hf : FOk f) {ps vs : List PVar} {bs : List (PHead × List PItem)} {h : PHead} (he : h.ended = false) : ∀ {l : List PPhi} {it : List PItem}, (∀ p ∈ l, PhiP f p) → (∀ x ∈ it, x.isPhi = true) →
    runW ⟨ps, vs, bs, some (h, it)⟩ (l.map (phiL f)) = some ⟨ps, vs, bs, some (h, it ++ l.map (toPhi f))⟩
  | [], it, _, _ => by simp [runW_nil]
  | p :: l, it, hl, hit => by
    obtain ⟨h1, h2⟩ := phi_line hf (hl p (.head _)) he hit
    rw [List.map_cons, runW_cons _ (item_line h1 h2), phis_run hf he (fun x hx => hl x (.tail _ hx)) (fun x hx => by
      rcases List.mem_append.1 hx with hx | hx
      · exact hit x hx
      · rw [List.mem_singleton.1 hx]; rfl)]
    simp
theorem insts_run {f : PFunc} (hf : FOk f) {ps vs : List PVar} {bs : List (PHead × List PItem)} {h : PHead} (he : h.ended = false) : ∀ {l : List PInst} {it : List PItem}, (∀ x ∈ l, InstF f x ∧ -9223372036854775808 ≤ x.num ∧ x.num ≤ 9223372036854775807) →
    runW ⟨ps, vs, bs, some (h, it)⟩ (l.map (wordsOf f)) = some ⟨ps, vs, bs, some (h, it ++ l.map (toInst f))⟩
  | [], it, _ => by simp [runW_nil]
  | x :: l, it, hl => by
    obtain ⟨h1, h2⟩ := inst_line hf (hl x (.head _)).1 (hl x (.head _)).2 he (items := it)
    rw [List.map_cons, runW_cons _ (item_line h1 h2), insts_run hf he (fun y hy => hl y (.tail _ hy))]
    simp
def NumsOk (f : PFunc) : Prop := ∀ b ∈ f.blocks, ∀ x ∈ b.insts, -9223372036854775808 ≤ x.num ∧ x.num ≤ 9223372036854775807
theorem blk_run {f : PFunc} (hf : FOk f) {ps vs : List PVar} {bs : List (PHead × List PItem)} (h : ∀ b ∈ bs, b.1.ended = true) {b : PBlock} (hb : scanName b.name = true) (hp : BlkP f b) (hn : ∀ x ∈ b.insts, -9223372036854775808 ≤ x.num ∧ x.num ≤ 9223372036854775807) :
    runW (mkP ps vs bs) (blkL f b) = some (mkP ps vs (bs ++ [toB f b])) := by
  obtain ⟨h1, h2, h3⟩ := hp
  obtain ⟨t1, t2⟩ := term_line hf h3 (items := b.phis.map (toPhi f) ++ b.insts.map (toInst f))
  unfold blkL
  rw [runW_cons _ (begin_line h hb), runW_app _ (phis_run hf rfl h1 (by simp)), List.nil_append, runW_app _ (insts_run hf rfl fun x hx => ⟨instP_F (h2 x hx), hn x hx⟩), runW_cons _ (item_line t1 t2), runW_nil, mkP_last]
  rfl
theorem toHead_ended (f : PFunc) (b : PBlock) : (toHead f b).ended = true := by unfold toHead; split; rfl; split <;> rfl
theorem blks_run {f : PFunc} (hf : FOk f) {ps vs : List PVar} : ∀ {l : List PBlock} {bs : List (PHead × List PItem)}, (∀ b ∈ bs, b.1.ended = true) → (∀ b ∈ l, scanName b.name = true ∧ BlkP f b ∧ ∀ x ∈ b.insts, -9223372036854775808 ≤ x.num ∧ x.num ≤ 9223372036854775807) →
    runW (mkP ps vs bs) (l.flatMap (blkL f)) = some (mkP ps vs (bs ++ l.map (toB f)))
  | [], bs, _, _ => by simp [runW_nil]
  | b :: l, bs, h, hl => by
    obtain ⟨h1, h2, h3⟩ := hl b (.head _)
    rw [List.flatMap_cons, runW_app _ (blk_run hf h h1 h2 h3), blks_run hf (fun x hx => by
      rcases List.mem_append.1 hx with hx | hx
      · exact h x hx
      · rw [List.mem_singleton.1 hx]; exact toHead_ended f b) (fun x hx => hl x (.tail _ hx))]
    simp
theorem vars_run {ps : List PVar} : ∀ {l vs : List PVar}, (∀ v ∈ l, scanName v.name = true ∧ 0 ≤ v.ty ∧ v.ty ≤ 2) → runW (mkP ps vs []) (l.map varL) = some (mkP ps (vs ++ l) [])
  | [], vs, _ => by simp [runW_nil]
  | v :: l, vs, h => by
    obtain ⟨h1, h2⟩ := pairs_read (l := [v]) (fun x hx => by rw [List.mem_singleton.1 hx]; exact h v (.head _))
    have hl : lineP (mkP ps vs []) (varL v) = some (mkP ps (vs ++ [v]) []) := by
      show lineP0 _ _ = _
      unfold lineP0
      rw [if_neg (by rw [notB_head (by show varS ≠ blockS; decide)]; simp), if_pos ⟨by unfold isVarLine; exact decide_eq_true ⟨rfl, by show 1 < 2; omega⟩, h1⟩]
      show some _ = some _
      rw [show (varL v).drop 1 = [v].map pairW from rfl, h2]; rfl
    rw [List.map_cons, runW_cons _ hl, vars_run fun x hx => h x (.tail _ hx)]
    simp
theorem read_lines {f : PFunc} (hf : FOk f) (hn : NumsOk f) (hb : f.blocks ≠ []) : readW (linesF f) = some (progF f) := by
  have hpar : ∀ v ∈ f.vars.take f.params.length, scanName v.name = true ∧ 0 ≤ v.ty ∧ v.ty ≤ 2 := fun v hv => hf.vars v (List.mem_of_mem_take hv)
  obtain ⟨p1, p2⟩ := pairs_read hpar
  show (if atW (headL f) 0 = funcS then (tgt (wline (headL f)) (((f.vars.drop f.params.length).map varL ++ f.blocks.flatMap (blkL f)).map wline)).bind endP else none) = _
  rw [if_pos (show atW (headL f) 0 = funcS from rfl)]
  unfold tgt
  have hd : (wline (headL f)).2.drop 1 = (f.vars.take f.params.length).map pairW := rfl
  have hst : start (wline (headL f)).2 = mkP (f.vars.take f.params.length) [] [] := by unfold start; rw [hd, p2]; rfl
  rw [hd, if_pos p1, hst]
  show (runW _ ((f.vars.drop f.params.length).map varL ++ f.blocks.flatMap (blkL f))).bind endP = _
  rw [runW_app _ (vars_run fun v hv => hf.vars v (List.mem_of_mem_drop hv)), blks_run hf (by simp) fun b hb2 => ⟨(hf.blks b hb2).1, (hf.blks b hb2).2, hn b hb2⟩]
  show endP (mkP _ _ _) = _
  rw [List.nil_append, List.nil_append]
  unfold progF
  rcases snoc_cases f.blocks with h | ⟨pre, y, h⟩
  · exact absurd h hb
  · rw [h, List.map_append, List.map_cons, List.map_nil, mkP_last]
    show (if (toB f y).1.ended = true then _ else none) = _
    rw [if_pos (show (toB f y).1.ended = true from toHead_ended f y)]
end Go.Proofs.YtdkhlgiohpdihaaGreatDoor
