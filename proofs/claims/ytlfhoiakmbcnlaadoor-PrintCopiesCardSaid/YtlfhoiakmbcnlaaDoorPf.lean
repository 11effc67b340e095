/- Copies that are only read; the document's sameness and lines; what is little. No conditions but bounds. -/
import Derived.Test.YtlfhoiakmbcnlaaDoorPe
namespace Go.Proofs.YtlfhoiakmbcnlaaDoor
open Go.Proofs Go.Lib Go.Shelf Go.RowKit

set_option maxRecDepth 20000
variable {E : World}

theorem copyF_spec (f : PFunc) (hf : small f) : AFun Tryd.prog E 7 [.agg (encF f)] (.agg (encF f)) :=
  (copyB_own f hf).know fun I F w v y O' ⟨i, e, hl, _⟩ h1 h2 => by
    subst e
    obtain ⟨J, h3, h4, h5⟩ := Go.Proofs.YtlfhoiakmbcnlaaDoor.know (m := f.blocks.length) .head (by simp [encBlk]) (by decide) (by simp) (hl.sla h2)
    obtain ⟨vs, ev, v1, us1, e1, r1, v2, us2, e2, r2, v3, us3, e3, r3, r4⟩ := h1
    exact ⟨J, .agg (encF f), [], h3, ⟨vs, ev, v1, us1, e1, RepV.mono h3 _ _ r1, v2, us2, e2, RepV.mono h3 _ _ r2, v3, us3, e3, h5 _ r3, r4⟩, h4, rfl⟩

def headDiff (f g : PFunc) : Bool := !decide ((f.vars.length : Int) = g.vars.length) || (!decide (f.params = g.params) || !decide ((f.blocks.length : Int) = g.blocks.length))
def blkDiff (x y : PBlock) : Bool := !decide (x.name = y.name) || (!decide (x.term.kind = y.term.kind ∧ x.term.var = y.term.var ∧ x.term.to0 = y.term.to0 ∧ x.term.to1 = y.term.to1) || (!decide ((x.phis.length : Int) = y.phis.length) || !decide ((x.insts.length : Int) = y.insts.length)))
theorem headDiff_f {f g : PFunc} (h : headDiff f g = false) : f.vars.length = g.vars.length ∧ f.params = g.params ∧ f.blocks.length = g.blocks.length := by
  unfold headDiff at h; simp at h; exact ⟨by omega, h.2.1, by omega⟩
theorem blkDiff_f {f g : PBlock} (h : blkDiff f g = false) : (f.name = g.name ∧ f.term = g.term) ∧ f.phis.length = g.phis.length ∧ f.insts.length = g.insts.length := by
  unfold blkDiff at h; simp at h
  obtain ⟨h1, h2, h3, h4⟩ := h
  refine ⟨⟨h1, ?_⟩, by omega, by omega⟩
  obtain ⟨a, b, c, ⟨d1, d2, d3, d4⟩⟩ := f; obtain ⟨a', b', c', ⟨d1', d2', d3', d4'⟩⟩ := g
  simp_all
theorem blk_ext {x y : PBlock} (h1 : x.name = y.name) (h2 : x.term = y.term) (h3 : x.phis = y.phis) (h4 : x.insts = y.insts) : x = y := by
  cases x; cases y; simp_all
theorem func_ext {x y : PFunc} (h1 : x.vars = y.vars) (h2 : x.params = y.params) (h3 : x.blocks = y.blocks) : x = y := by
  cases x; cases y; simp_all
theorem phi_diff (x y : PPhi) : decide (x = y) = !(!decide (x.dst = y.dst) || (!decide (x.args = y.args) || !decide (x.from_ = y.from_))) := by
  rw [phi_iff]; simp [Bool.and_assoc]
theorem inst_diff (x y : PInst) : decide (x = y) = !(!decide (x.op = y.op) || (!decide (x.dst = y.dst) || (!decide (x.num = y.num) || !decide (x.args = y.args)))) := by
  rw [inst_iff]; simp [Bool.and_assoc]

set_option maxHeartbeats 8000000 in
theorem refSame_spec (f g : PFunc) (hf : okFunc f) : AFun Tryd.prog E 8 [.agg (encF f), .agg (encF g)] (.bool (decide (f = g))) := by
  obtain ⟨hf1, hf2, hf3, hf4⟩ := hf
  have hl1 := hf1.lt
  have hl3 := hf3.lt
  refine ACall.intro Tryd.func8 rfl (by decide) rfl ?_
  refine AWP.seq ?_
  refine AWP.region rfl ?_
  refine AOps.boxF (cs := _) rfl rfl rfl ?_
  refine AOps.boxF (cs := _) rfl rfl rfl ?_
  refine AOps.val (Gv.assign (v := .bool _) rfl) ?_
  refine AOps.nil ?_
  refine AWP.seq ?_
  refine AWP.seq ?_
  refine AWP.cutS (γ := Unit) [2, 3] (fun u => [(38, .bool (headDiff f g))]) (fun u => []) (fun u => True) ?_ (fun _ _ h => h) ?_
  · skip
    refine AWP.region rfl ?_
    refine AOps.val (Gv.fieldF Tryd.underlying26 rfl Tryd.sizeOf22 (by decide) rfl rfl) ?_
    refine AOps.val (Gv.load1F (c := .fro _ _) Tryd.isAgg22 rfl) ?_
    refine AOps.val (Gv.lenM Tryd.underlying22 rfl) ?_
    refine AOps.val (Gv.fieldF Tryd.underlying26 rfl Tryd.sizeOf22 (by decide) rfl rfl) ?_
    refine AOps.val (Gv.load1F (c := .fro _ _) Tryd.isAgg22 rfl) ?_
    refine AOps.val (Gv.lenM Tryd.underlying22 rfl) ?_
    refine AOps.val (Gv.neqI rfl rfl) ?_
    refine AOps.val (Gv.move (v := .bool _) rfl) ?_
    refine AOps.case (s := 22) rfl (fun c1 => ?_) (fun c1 => ?_)
    · skip
      refine AOps.guardFd rfl rfl c1 ?_
      refine AOps.guardFd rfl rfl c1 ?_
      refine AOps.guardFd rfl rfl c1 ?_
      refine AOps.guardFd rfl rfl c1 ?_
      refine AOps.guardFd rfl rfl c1 ?_
      refine AOps.guardFd rfl rfl c1 ?_
      refine AOps.val (Gv.pickT (v := .bool _) rfl c1 rfl) ?_
      refine AOps.val (Gv.move (v := .bool _) rfl) ?_
      refine AOps.guardFd rfl rfl rfl ?_
      refine AOps.guardFd rfl rfl rfl ?_
      refine AOps.guardFd rfl rfl rfl ?_
      refine AOps.guardFd rfl rfl rfl ?_
      refine AOps.guardFd rfl rfl rfl ?_
      refine AOps.guardFd rfl rfl rfl ?_
      refine AOps.guardFd rfl rfl rfl ?_
      refine AOps.val (Gv.pickT (v := .bool _) rfl rfl rfl) ?_
      refine AOps.nil ?_
      exact ⟨(), ⟨rfl, rfl, trivial⟩, ⟨jb (by simp_all [headDiff]), trivial⟩, ⟨_, (.refl _), rfl⟩, trivial⟩
    · skip
      refine AOps.guardT rfl rfl c1 ?_
      refine AOps.val (Gv.fieldF Tryd.underlying26 rfl Tryd.sizeOf23 (by decide) rfl rfl) ?_
      refine AOps.guardT rfl rfl c1 ?_
      refine AOps.val (Gv.load1F (c := .fro _ _) Tryd.isAgg23 rfl) ?_
      refine AOps.guardT rfl rfl c1 ?_
      refine AOps.val (Gv.fieldF Tryd.underlying26 rfl Tryd.sizeOf23 (by decide) rfl rfl) ?_
      refine AOps.guardT rfl rfl c1 ?_
      refine AOps.val (Gv.load1F (c := .fro _ _) Tryd.isAgg23 rfl) ?_
      refine AOps.guardT rfl rfl c1 ?_
      refine AOps.callP (ints_spec _ _ (by assumption)) rfl ?_
      refine AOps.guardT rfl rfl c1 ?_
      refine AOps.val (Gv.not rfl) ?_
      refine AOps.val (Gv.pickF (v := .bool _) rfl c1 rfl) ?_
      refine AOps.val (Gv.move (v := .bool _) rfl) ?_
      refine AOps.case (s := 30) rfl (fun c2 => ?_) (fun c2 => ?_)
      · skip
        refine AOps.guardFd rfl rfl c2 ?_
        refine AOps.guardFd rfl rfl c2 ?_
        refine AOps.guardFd rfl rfl c2 ?_
        refine AOps.guardFd rfl rfl c2 ?_
        refine AOps.guardFd rfl rfl c2 ?_
        refine AOps.guardFd rfl rfl c2 ?_
        refine AOps.guardFd rfl rfl c2 ?_
        refine AOps.val (Gv.pickT (v := .bool _) rfl c2 rfl) ?_
        refine AOps.nil ?_
        exact ⟨(), ⟨rfl, rfl, trivial⟩, ⟨jb (by simp_all [headDiff]), trivial⟩, ⟨_, (.refl _), rfl⟩, trivial⟩
      · skip
        refine AOps.guardT rfl rfl c2 ?_
        refine AOps.val (Gv.fieldF Tryd.underlying26 rfl Tryd.sizeOf24 (by decide) rfl rfl) ?_
        refine AOps.guardT rfl rfl c2 ?_
        refine AOps.val (Gv.load1F (c := .fro _ _) Tryd.isAgg24 rfl) ?_
        refine AOps.guardT rfl rfl c2 ?_
        refine AOps.val (Gv.lenM Tryd.underlying24 rfl) ?_
        refine AOps.guardT rfl rfl c2 ?_
        refine AOps.val (Gv.fieldF Tryd.underlying26 rfl Tryd.sizeOf24 (by decide) rfl rfl) ?_
        refine AOps.guardT rfl rfl c2 ?_
        refine AOps.val (Gv.load1F (c := .fro _ _) Tryd.isAgg24 rfl) ?_
        refine AOps.guardT rfl rfl c2 ?_
        refine AOps.val (Gv.lenM Tryd.underlying24 rfl) ?_
        refine AOps.guardT rfl rfl c2 ?_
        refine AOps.val (Gv.neqI rfl rfl) ?_
        refine AOps.val (Gv.pickF (v := .bool _) rfl c2 rfl) ?_
        refine AOps.nil ?_
        exact ⟨(), ⟨rfl, rfl, trivial⟩, ⟨jb (by simp_all [headDiff]), trivial⟩, ⟨_, (.refl _), rfl⟩, trivial⟩
  · skip
    rintro _ _
    refine AWP.cond rfl (fun c0 => ?_) (fun c0 => ?_)
    · skip
      refine AWP.seq ?_
      refine AWP.region rfl ?_
      refine AOps.val (Gv.assign (v := .bool _) rfl) ?_
      refine AOps.nil ?_
      refine AWP.ret ?_
      repeat (first | refine aseqQ_ret ?_ | refine ablockQ_ret ?_)
      refine afin.t1 (x := .bool _) rfl ?_
      rw [decide_eq_false (fun e => by subst e; simp [headDiff] at c0)]
    · skip
      obtain ⟨hv, hpar, hbl⟩ := headDiff_f c0
      refine AWP.skip ?_
      refine AWP.seq ?_
      refine AWP.seq ?_
      refine AWP.region rfl ?_
      refine AOps.val (Gv.fieldF Tryd.underlying26 rfl Tryd.sizeOf22 (by decide) rfl rfl) ?_
      refine AOps.val (Gv.load1F (c := .fro _ _) Tryd.isAgg22 rfl) ?_
      refine AOps.val (Gv.lenM Tryd.underlying22 rfl) ?_
      refine AOps.val (Gv.move (v := .int _ _) rfl) ?_
      refine AOps.nil ?_
      refine AWP.block ?_
      refine AWP.loop (γ := Nat) [2, 3, 41] (fun k => [(42, .int .i64 k)]) (fun k => []) (fun k => k ≤ f.vars.length ∧ f.vars.take k = g.vars.take k) (fun k => f.vars.length - k) 0 ⟨rfl, trivial⟩ ⟨_, (.refl _), rfl⟩ (⟨Nat.zero_le _, rfl⟩) ?_
      rintro k ⟨hk, hpre⟩
      refine AWP.seq ?_
      refine AWP.region rfl ?_
      refine AOps.val (Gv.lss rfl rfl) ?_
      refine AOps.nil ?_
      refine AWP.seq ?_
      refine AWP.condP rfl (fun ck => ?_) (fun ck => ?_)
      · skip
        have hk1 : k < f.vars.length := by omega
        have hk2 : k < g.vars.length := by omega
        refine AWP.skip ?_
        refine AWP.seq ?_
        refine AWP.block ?_
        refine AWP.seq ?_
        refine AWP.region rfl ?_
        refine AOps.val (Gv.move (v := .int _ _) rfl) ?_
        refine AOps.val (Gv.assign (v := .int _ _) rfl) ?_
        refine AOps.nil ?_
        refine AWP.seq ?_
        refine AWP.regionDraw (fun j => false) (by kernel_rfl) rfl (Part.perm (.rest _)) ?_
        refine AAny.take (i := 0) rfl (by kernel_rfl) (by kernel_rfl) (by kernel_rfl) (by kernel_rfl) (Gv.fieldF Tryd.underlying26 rfl Tryd.sizeOf22 (by decide) rfl rfl) ?_
        refine AAny.take (i := 1) rfl (by kernel_rfl) (by kernel_rfl) (by kernel_rfl) (by kernel_rfl) (Gv.load1F (c := .fro _ _) Tryd.isAgg22 rfl) ?_
        refine AAny.take (i := 2) rfl (by kernel_rfl) (by kernel_rfl) (by kernel_rfl) (by kernel_rfl) (Gv.move (v := .int _ _) rfl) ?_
        refine AAny.take (i := 3) rfl (by kernel_rfl) (by kernel_rfl) (by kernel_rfl) (by kernel_rfl) (Gv.idxM Tryd.underlying22 Tryd.sizeOf47 rfl rfl rfl (List.getElem?_eq_getElem (by omega))) ?_
        refine AAny.take (i := 4) rfl (by kernel_rfl) (by kernel_rfl) (by kernel_rfl) (by kernel_rfl) (Gv.loadWF Tryd.isAgg47 Tryd.sizeOf47 rfl rfl) ?_
        refine AAny.take (i := 5) rfl (by kernel_rfl) (by kernel_rfl) (by kernel_rfl) (by kernel_rfl) (Gv.fieldF Tryd.underlying26 rfl Tryd.sizeOf22 (by decide) rfl rfl) ?_
        refine AAny.take (i := 6) rfl (by kernel_rfl) (by kernel_rfl) (by kernel_rfl) (by kernel_rfl) (Gv.load1F (c := .fro _ _) Tryd.isAgg22 rfl) ?_
        refine AAny.take (i := 7) rfl (by kernel_rfl) (by kernel_rfl) (by kernel_rfl) (by kernel_rfl) (Gv.move (v := .int _ _) rfl) ?_
        refine AAny.take (i := 8) rfl (by kernel_rfl) (by kernel_rfl) (by kernel_rfl) (by kernel_rfl) (Gv.idxM Tryd.underlying22 Tryd.sizeOf47 rfl rfl rfl (List.getElem?_eq_getElem (by omega))) ?_
        refine AAny.take (i := 9) rfl (by kernel_rfl) (by kernel_rfl) (by kernel_rfl) (by kernel_rfl) (Gv.loadWF Tryd.isAgg47 Tryd.sizeOf47 rfl rfl) ?_
        refine AAny.take (i := 10) rfl (by kernel_rfl) (by kernel_rfl) (by kernel_rfl) (by kernel_rfl) (Gv.neqP (xs := [.string _, .int _ _]) (ys := [.string _, .int _ _]) (by kernel_rfl) rfl rfl (fun w => eq_var _ _ _ _ w)) ?_
        refine AAny.done (by kernel_rfl) ?_
        refine AWP.cond rfl (fun cd => ?_) (fun cd => ?_)
        · skip
          refine AWP.seq ?_
          refine AWP.region rfl ?_
          refine AOps.val (Gv.assign (v := .bool _) rfl) ?_
          refine AOps.nil ?_
          refine AWP.ret ?_
          repeat (first | refine aseqQ_ret ?_ | refine ablockQ_ret ?_)
          refine afin.t1 (x := .bool _) rfl ?_
          rw [decide_eq_false (fun e => by subst e; simp at cd)]
        · skip
          refine AWP.skip ?_
          refine AWP.region rfl ?_
          refine AOps.val (Gv.add rfl rfl (by unfold I64; omega)) ?_
          refine AOps.val (Gv.move (v := .int _ _) rfl) ?_
          refine AOps.nil ?_
          exact ⟨k + 1, ⟨rfl, rfl, rfl, trivial⟩, ⟨rfl, trivial⟩, ⟨_, (.refl _), rfl⟩, ⟨hk1, take_push hk1 hk2 hpre (var_ext (by simpa using cd))⟩, by omega⟩
      · skip
        have hvars := take_done hv (by omega) hpre
        refine AWP.exit ?_
        refine AWP.seq ?_
        refine AWP.seq ?_
        refine AWP.region rfl ?_
        refine AOps.val (Gv.fieldF Tryd.underlying26 rfl Tryd.sizeOf24 (by decide) rfl rfl) ?_
        refine AOps.val (Gv.load1F (c := .fro _ _) Tryd.isAgg24 rfl) ?_
        refine AOps.val (Gv.lenM Tryd.underlying24 rfl) ?_
        refine AOps.val (Gv.move (v := .int _ _) rfl) ?_
        refine AOps.nil ?_
        refine AWP.block ?_
        refine AWP.loop (γ := Nat) [3, 58, 59] (fun k => [(60, .int .i64 k)]) (fun k => []) (fun k => k ≤ f.blocks.length ∧ f.blocks.take k = g.blocks.take k) (fun k => f.blocks.length - k) 0 ⟨rfl, trivial⟩ ⟨_, (.refl _), rfl⟩ (⟨Nat.zero_le _, rfl⟩) ?_
        rintro k ⟨hk, hpre2⟩
        refine AWP.seq ?_
        refine AWP.region rfl ?_
        refine AOps.val (Gv.lss rfl rfl) ?_
        refine AOps.nil ?_
        refine AWP.seq ?_
        refine AWP.condP rfl (fun ck => ?_) (fun ck => ?_)
        · skip
          have hi1 : k < f.blocks.length := by omega
          have hi2 : k < g.blocks.length := by omega
          obtain ⟨hx1, hx2, hx3, hx4⟩ := hf4 _ (List.getElem_mem hi1)
          have hl4 := hx1.lt
          have hl5 := hx2.lt
          refine AWP.skip ?_
          refine AWP.seq ?_
          refine AWP.block ?_
          refine AWP.seq ?_
          refine AWP.region rfl ?_
          refine AOps.val (Gv.move (v := .int _ _) rfl) ?_
          refine AOps.val (Gv.idxM Tryd.underlying24 Tryd.sizeOf39 rfl rfl rfl (List.getElem?_eq_getElem (by omega))) ?_
          refine AOps.val (Gv.loadWF Tryd.isAgg39 Tryd.sizeOf39 rfl rfl) ?_
          refine AOps.alloc (cs := [.str ⟨#[]⟩, .raw (.slice none 0 0), .raw (.slice none 0 0), .int .i64 0, .int .i64 0, .int .i64 0, .int .i64 0]) Tryd.zeroValue39 rfl rfl ?_
          intro i7
          refine AOps.val (Gv.assign (v := .int _ _) rfl) ?_
          refine AOps.storeW Tryd.sizeOf39 rfl rfl rfl rfl rfl rfl .head rfl ?_
          refine AOps.nil ?_
          refine AWP.seq ?_
          refine AWP.region rfl ?_
          refine AOps.val (Gv.fieldF Tryd.underlying26 rfl Tryd.sizeOf24 (by decide) rfl rfl) ?_
          refine AOps.val (Gv.load1F (c := .fro _ _) Tryd.isAgg24 rfl) ?_
          refine AOps.val (Gv.move (v := .int _ _) rfl) ?_
          refine AOps.val (Gv.idxM Tryd.underlying24 Tryd.sizeOf39 rfl rfl rfl (List.getElem?_eq_getElem (by omega))) ?_
          refine AOps.val (Gv.loadWF Tryd.isAgg39 Tryd.sizeOf39 rfl rfl) ?_
          refine AOps.alloc (cs := [.str ⟨#[]⟩, .raw (.slice none 0 0), .raw (.slice none 0 0), .int .i64 0, .int .i64 0, .int .i64 0, .int .i64 0]) Tryd.zeroValue39 rfl rfl ?_
          intro i8
          refine AOps.storeW Tryd.sizeOf39 rfl rfl rfl rfl rfl rfl .head rfl ?_
          refine AOps.nil ?_
          refine AWP.seq ?_
          refine AWP.seq ?_
          refine AWP.cutS (γ := Unit) [3, 7, 8, 58, 59, 60] (fun u => [(99, .bool (blkDiff f.blocks[k] g.blocks[k]))]) (fun u => [(i8, .cells 39 (encBlk g.blocks[k])), (i7, .cells 39 (encBlk f.blocks[k]))]) (fun u => True) ?_ (fun _ _ h => h) ?_
          · skip
            refine AWP.region rfl ?_
            refine AOps.val (Gv.fieldO Tryd.underlying39 rfl Tryd.sizeOf9 (by decide) rfl rfl) ?_
            refine AOps.val (Gv.load1C (c := .str _) Tryd.isAgg9 rfl ⟨_, (.tail .head)⟩ rfl) ?_
            refine AOps.val (Gv.fieldO Tryd.underlying39 rfl Tryd.sizeOf9 (by decide) rfl rfl) ?_
            refine AOps.val (Gv.load1C (c := .str _) Tryd.isAgg9 rfl ⟨_, .head⟩ rfl) ?_
            refine AOps.val (Gv.neqT rfl rfl) ?_
            refine AOps.val (Gv.move (v := .bool _) rfl) ?_
            refine AOps.case (s := 75) rfl (fun c3 => ?_) (fun c3 => ?_)
            · skip
              refine AOps.guardFd rfl rfl c3 ?_
              refine AOps.guardFd rfl rfl c3 ?_
              refine AOps.guardFd rfl rfl c3 ?_
              refine AOps.guardFd rfl rfl c3 ?_
              refine AOps.guardFd rfl rfl c3 ?_
              refine AOps.val (Gv.pickT (v := .bool _) rfl c3 rfl) ?_
              refine AOps.val (Gv.move (v := .bool _) rfl) ?_
              refine AOps.guardFd rfl rfl rfl ?_
              refine AOps.guardFd rfl rfl rfl ?_
              refine AOps.guardFd rfl rfl rfl ?_
              refine AOps.guardFd rfl rfl rfl ?_
              refine AOps.guardFd rfl rfl rfl ?_
              refine AOps.guardFd rfl rfl rfl ?_
              refine AOps.guardFd rfl rfl rfl ?_
              refine AOps.val (Gv.pickT (v := .bool _) rfl rfl rfl) ?_
              refine AOps.val (Gv.move (v := .bool _) rfl) ?_
              refine AOps.guardFd rfl rfl rfl ?_
              refine AOps.guardFd rfl rfl rfl ?_
              refine AOps.guardFd rfl rfl rfl ?_
              refine AOps.guardFd rfl rfl rfl ?_
              refine AOps.guardFd rfl rfl rfl ?_
              refine AOps.guardFd rfl rfl rfl ?_
              refine AOps.guardFd rfl rfl rfl ?_
              refine AOps.val (Gv.pickT (v := .bool _) rfl rfl rfl) ?_
              refine AOps.nil ?_
              exact ⟨(), ⟨rfl, rfl, rfl, rfl, rfl, rfl, trivial⟩, ⟨jb (by simp_all [blkDiff]), trivial⟩, ⟨_, (.refl _), rfl⟩, trivial⟩
            · skip
              refine AOps.guardT rfl rfl c3 ?_
              refine AOps.val (Gv.fieldO Tryd.underlying39 rfl Tryd.sizeOf37 (by decide) rfl rfl) ?_
              refine AOps.guardT rfl rfl c3 ?_
              refine AOps.val (Gv.loadAC (l := [_, _, _, _]) Tryd.isAgg37 Tryd.sizeOf37 rfl ⟨_, (.tail .head)⟩ rfl rfl) ?_
              refine AOps.guardT rfl rfl c3 ?_
              refine AOps.val (Gv.fieldO Tryd.underlying39 rfl Tryd.sizeOf37 (by decide) rfl rfl) ?_
              refine AOps.guardT rfl rfl c3 ?_
              refine AOps.val (Gv.loadAC (l := [_, _, _, _]) Tryd.isAgg37 Tryd.sizeOf37 rfl ⟨_, .head⟩ rfl rfl) ?_
              refine AOps.guardT rfl rfl c3 ?_
              refine AOps.val (Gv.neqP (xs := [.int _ _, .int _ _, .int _ _, .int _ _]) (ys := [.int _ _, .int _ _, .int _ _, .int _ _]) (by kernel_rfl) rfl rfl (fun w => eq_term _ _ _ _ _ _ _ _ w)) ?_
              refine AOps.val (Gv.pickF (v := .bool _) rfl c3 rfl) ?_
              refine AOps.val (Gv.move (v := .bool _) rfl) ?_
              refine AOps.case (s := 82) rfl (fun c4 => ?_) (fun c4 => ?_)
              · skip
                refine AOps.guardFd rfl rfl c4 ?_
                refine AOps.guardFd rfl rfl c4 ?_
                refine AOps.guardFd rfl rfl c4 ?_
                refine AOps.guardFd rfl rfl c4 ?_
                refine AOps.guardFd rfl rfl c4 ?_
                refine AOps.guardFd rfl rfl c4 ?_
                refine AOps.guardFd rfl rfl c4 ?_
                refine AOps.val (Gv.pickT (v := .bool _) rfl c4 rfl) ?_
                refine AOps.val (Gv.move (v := .bool _) rfl) ?_
                refine AOps.guardFd rfl rfl rfl ?_
                refine AOps.guardFd rfl rfl rfl ?_
                refine AOps.guardFd rfl rfl rfl ?_
                refine AOps.guardFd rfl rfl rfl ?_
                refine AOps.guardFd rfl rfl rfl ?_
                refine AOps.guardFd rfl rfl rfl ?_
                refine AOps.guardFd rfl rfl rfl ?_
                refine AOps.val (Gv.pickT (v := .bool _) rfl rfl rfl) ?_
                refine AOps.nil ?_
                exact ⟨(), ⟨rfl, rfl, rfl, rfl, rfl, rfl, trivial⟩, ⟨jb (by simp_all [blkDiff]), trivial⟩, ⟨_, (.refl _), rfl⟩, trivial⟩
              · skip
                refine AOps.guardT rfl rfl c4 ?_
                refine AOps.val (Gv.fieldO Tryd.underlying39 rfl Tryd.sizeOf32 (by decide) rfl rfl) ?_
                refine AOps.guardT rfl rfl c4 ?_
                refine AOps.val (Gv.load1C (c := .fro _ _) Tryd.isAgg32 rfl ⟨_, (.tail .head)⟩ rfl) ?_
                refine AOps.guardT rfl rfl c4 ?_
                refine AOps.val (Gv.lenM Tryd.underlying32 rfl) ?_
                refine AOps.guardT rfl rfl c4 ?_
                refine AOps.val (Gv.fieldO Tryd.underlying39 rfl Tryd.sizeOf32 (by decide) rfl rfl) ?_
                refine AOps.guardT rfl rfl c4 ?_
                refine AOps.val (Gv.load1C (c := .fro _ _) Tryd.isAgg32 rfl ⟨_, .head⟩ rfl) ?_
                refine AOps.guardT rfl rfl c4 ?_
                refine AOps.val (Gv.lenM Tryd.underlying32 rfl) ?_
                refine AOps.guardT rfl rfl c4 ?_
                refine AOps.val (Gv.neqI rfl rfl) ?_
                refine AOps.val (Gv.pickF (v := .bool _) rfl c4 rfl) ?_
                refine AOps.val (Gv.move (v := .bool _) rfl) ?_
                refine AOps.case (s := 91) rfl (fun c5 => ?_) (fun c5 => ?_)
                · skip
                  refine AOps.guardFd rfl rfl c5 ?_
                  refine AOps.guardFd rfl rfl c5 ?_
                  refine AOps.guardFd rfl rfl c5 ?_
                  refine AOps.guardFd rfl rfl c5 ?_
                  refine AOps.guardFd rfl rfl c5 ?_
                  refine AOps.guardFd rfl rfl c5 ?_
                  refine AOps.guardFd rfl rfl c5 ?_
                  refine AOps.val (Gv.pickT (v := .bool _) rfl c5 rfl) ?_
                  refine AOps.nil ?_
                  exact ⟨(), ⟨rfl, rfl, rfl, rfl, rfl, rfl, trivial⟩, ⟨jb (by simp_all [blkDiff]), trivial⟩, ⟨_, (.refl _), rfl⟩, trivial⟩
                · skip
                  refine AOps.guardT rfl rfl c5 ?_
                  refine AOps.val (Gv.fieldO Tryd.underlying39 rfl Tryd.sizeOf33 (by decide) rfl rfl) ?_
                  refine AOps.guardT rfl rfl c5 ?_
                  refine AOps.val (Gv.load1C (c := .fro _ _) Tryd.isAgg33 rfl ⟨_, (.tail .head)⟩ rfl) ?_
                  refine AOps.guardT rfl rfl c5 ?_
                  refine AOps.val (Gv.lenM Tryd.underlying33 rfl) ?_
                  refine AOps.guardT rfl rfl c5 ?_
                  refine AOps.val (Gv.fieldO Tryd.underlying39 rfl Tryd.sizeOf33 (by decide) rfl rfl) ?_
                  refine AOps.guardT rfl rfl c5 ?_
                  refine AOps.val (Gv.load1C (c := .fro _ _) Tryd.isAgg33 rfl ⟨_, .head⟩ rfl) ?_
                  refine AOps.guardT rfl rfl c5 ?_
                  refine AOps.val (Gv.lenM Tryd.underlying33 rfl) ?_
                  refine AOps.guardT rfl rfl c5 ?_
                  refine AOps.val (Gv.neqI rfl rfl) ?_
                  refine AOps.val (Gv.pickF (v := .bool _) rfl c5 rfl) ?_
                  refine AOps.nil ?_
                  exact ⟨(), ⟨rfl, rfl, rfl, rfl, rfl, rfl, trivial⟩, ⟨jb (by simp_all [blkDiff]), trivial⟩, ⟨_, (.refl _), rfl⟩, trivial⟩
          · skip
            rintro _ _
            refine AWP.cond rfl (fun cb => ?_) (fun cb => ?_)
            · skip
              refine AWP.seq ?_
              refine AWP.region rfl ?_
              refine AOps.val (Gv.assign (v := .bool _) rfl) ?_
              refine AOps.nil ?_
              refine AWP.ret ?_
              repeat (first | refine aseqQ_ret ?_ | refine ablockQ_ret ?_)
              refine afin.t1 (x := .bool _) rfl ?_
              rw [decide_eq_false (fun e => by subst e; simp [blkDiff] at cb)]
            · skip
              obtain ⟨⟨hbn, hbt⟩, hbp, hbi⟩ := blkDiff_f cb
              refine AWP.skip ?_
              refine AWP.seq ?_
              refine AWP.seq ?_
              refine AWP.region rfl ?_
              refine AOps.val (Gv.fieldO Tryd.underlying39 rfl Tryd.sizeOf32 (by decide) rfl rfl) ?_
              refine AOps.val (Gv.load1C (c := .fro _ _) Tryd.isAgg32 rfl ⟨_, (.tail .head)⟩ rfl) ?_
              refine AOps.val (Gv.lenM Tryd.underlying32 rfl) ?_
              refine AOps.val (Gv.move (v := .int _ _) rfl) ?_
              refine AOps.nil ?_
              refine AWP.block ?_
              refine AWP.loop (γ := Nat) [3, 7, 8, 58, 59, 60, 101, 102] (fun m => [(103, .int .i64 m)]) (fun m => [(i8, .cells 39 (encBlk g.blocks[k])), (i7, .cells 39 (encBlk f.blocks[k]))]) (fun m => m ≤ f.blocks[k].phis.length ∧ f.blocks[k].phis.take m = g.blocks[k].phis.take m) (fun m => f.blocks[k].phis.length - m) 0 ⟨rfl, trivial⟩ ⟨_, (.refl _), rfl⟩ (⟨Nat.zero_le _, rfl⟩) ?_
              rintro m ⟨hm, hpre3⟩
              refine AWP.seq ?_
              refine AWP.region rfl ?_
              refine AOps.val (Gv.lss rfl rfl) ?_
              refine AOps.nil ?_
              refine AWP.seq ?_
              refine AWP.condP rfl (fun cm => ?_) (fun cm => ?_)
              · skip
                have hj1 : m < f.blocks[k].phis.length := by omega
                have hj2 : m < g.blocks[k].phis.length := by omega
                obtain ⟨hy1, hy2⟩ := hx3 _ (List.getElem_mem hj1)
                refine AWP.skip ?_
                refine AWP.seq ?_
                refine AWP.block ?_
                refine AWP.seq ?_
                refine AWP.region rfl ?_
                refine AOps.val (Gv.move (v := .int _ _) rfl) ?_
                refine AOps.val (Gv.idxM Tryd.underlying32 Tryd.sizeOf44 rfl rfl rfl (List.getElem?_eq_getElem (by omega))) ?_
                refine AOps.val (Gv.loadWF Tryd.isAgg44 Tryd.sizeOf44 rfl rfl) ?_
                refine AOps.alloc (cs := [.int .i64 0, .raw (.slice none 0 0), .raw (.slice none 0 0)]) Tryd.zeroValue44 rfl rfl ?_
                intro i10
                refine AOps.val (Gv.assign (v := .int _ _) rfl) ?_
                refine AOps.storeW Tryd.sizeOf44 rfl rfl rfl rfl rfl rfl .head rfl ?_
                refine AOps.nil ?_
                refine AWP.seq ?_
                refine AWP.region rfl ?_
                refine AOps.val (Gv.fieldO Tryd.underlying39 rfl Tryd.sizeOf32 (by decide) rfl rfl) ?_
                refine AOps.val (Gv.load1C (c := .fro _ _) Tryd.isAgg32 rfl ⟨_, (.tail .head)⟩ rfl) ?_
                refine AOps.val (Gv.move (v := .int _ _) rfl) ?_
                refine AOps.val (Gv.idxM Tryd.underlying32 Tryd.sizeOf44 rfl rfl rfl (List.getElem?_eq_getElem (by omega))) ?_
                refine AOps.val (Gv.loadWF Tryd.isAgg44 Tryd.sizeOf44 rfl rfl) ?_
                refine AOps.alloc (cs := [.int .i64 0, .raw (.slice none 0 0), .raw (.slice none 0 0)]) Tryd.zeroValue44 rfl rfl ?_
                intro i11
                refine AOps.storeW Tryd.sizeOf44 rfl rfl rfl rfl rfl rfl .head rfl ?_
                refine AOps.nil ?_
                refine AWP.seq ?_
                refine AWP.cutS (γ := Unit) [3, 7, 8, 58, 59, 60, 101, 102, 103] (fun u => [(133, .bool (!decide (f.blocks[k].phis[m] = g.blocks[k].phis[m])))]) (fun u => [(i8, .cells 39 (encBlk g.blocks[k])), (i7, .cells 39 (encBlk f.blocks[k]))]) (fun u => True) ?_ (fun _ _ h => h) ?_
                · skip
                  refine AWP.region rfl ?_
                  refine AOps.val (Gv.fieldO Tryd.underlying44 rfl Tryd.sizeOf3 (by decide) rfl rfl) ?_
                  refine AOps.val (Gv.load1C (c := .int _ _) Tryd.isAgg3 rfl ⟨_, (.tail .head)⟩ rfl) ?_
                  refine AOps.val (Gv.fieldO Tryd.underlying44 rfl Tryd.sizeOf3 (by decide) rfl rfl) ?_
                  refine AOps.val (Gv.load1C (c := .int _ _) Tryd.isAgg3 rfl ⟨_, .head⟩ rfl) ?_
                  refine AOps.val (Gv.neqI rfl rfl) ?_
                  refine AOps.val (Gv.move (v := .bool _) rfl) ?_
                  refine AOps.case (s := 118) rfl (fun c6 => ?_) (fun c6 => ?_)
                  · skip
                    refine AOps.guardFd rfl rfl c6 ?_
                    refine AOps.guardFd rfl rfl c6 ?_
                    refine AOps.guardFd rfl rfl c6 ?_
                    refine AOps.guardFd rfl rfl c6 ?_
                    refine AOps.guardFd rfl rfl c6 ?_
                    refine AOps.guardFd rfl rfl c6 ?_
                    refine AOps.val (Gv.pickT (v := .bool _) rfl c6 rfl) ?_
                    refine AOps.val (Gv.move (v := .bool _) rfl) ?_
                    refine AOps.guardFd rfl rfl rfl ?_
                    refine AOps.guardFd rfl rfl rfl ?_
                    refine AOps.guardFd rfl rfl rfl ?_
                    refine AOps.guardFd rfl rfl rfl ?_
                    refine AOps.guardFd rfl rfl rfl ?_
                    refine AOps.guardFd rfl rfl rfl ?_
                    refine AOps.val (Gv.pickT (v := .bool _) rfl rfl rfl) ?_
                    refine AOps.nil ?_
                    exact ⟨(), ⟨rfl, rfl, rfl, rfl, rfl, rfl, rfl, rfl, rfl, trivial⟩, ⟨jb (by rw [phi_diff, Bool.not_not]; simp_all), trivial⟩, ⟨_, (.drop (.drop (.refl _))), rfl⟩, trivial⟩
                  · skip
                    refine AOps.guardT rfl rfl c6 ?_
                    refine AOps.val (Gv.fieldO Tryd.underlying44 rfl Tryd.sizeOf23 (by decide) rfl rfl) ?_
                    refine AOps.guardT rfl rfl c6 ?_
                    refine AOps.val (Gv.load1C (c := .fro _ _) Tryd.isAgg23 rfl ⟨_, (.tail .head)⟩ rfl) ?_
                    refine AOps.guardT rfl rfl c6 ?_
                    refine AOps.val (Gv.fieldO Tryd.underlying44 rfl Tryd.sizeOf23 (by decide) rfl rfl) ?_
                    refine AOps.guardT rfl rfl c6 ?_
                    refine AOps.val (Gv.load1C (c := .fro _ _) Tryd.isAgg23 rfl ⟨_, .head⟩ rfl) ?_
                    refine AOps.guardT rfl rfl c6 ?_
                    refine AOps.callP (ints_spec _ _ (by assumption)) rfl ?_
                    refine AOps.guardT rfl rfl c6 ?_
                    refine AOps.val (Gv.not rfl) ?_
                    refine AOps.val (Gv.pickF (v := .bool _) rfl c6 rfl) ?_
                    refine AOps.val (Gv.move (v := .bool _) rfl) ?_
                    refine AOps.case (s := 126) rfl (fun c7 => ?_) (fun c7 => ?_)
                    · skip
                      refine AOps.guardFd rfl rfl c7 ?_
                      refine AOps.guardFd rfl rfl c7 ?_
                      refine AOps.guardFd rfl rfl c7 ?_
                      refine AOps.guardFd rfl rfl c7 ?_
                      refine AOps.guardFd rfl rfl c7 ?_
                      refine AOps.guardFd rfl rfl c7 ?_
                      refine AOps.val (Gv.pickT (v := .bool _) rfl c7 rfl) ?_
                      refine AOps.nil ?_
                      exact ⟨(), ⟨rfl, rfl, rfl, rfl, rfl, rfl, rfl, rfl, rfl, trivial⟩, ⟨jb (by rw [phi_diff, Bool.not_not]; simp_all), trivial⟩, ⟨_, (.drop (.drop (.refl _))), rfl⟩, trivial⟩
                    · skip
                      refine AOps.guardT rfl rfl c7 ?_
                      refine AOps.val (Gv.fieldO Tryd.underlying44 rfl Tryd.sizeOf23 (by decide) rfl rfl) ?_
                      refine AOps.guardT rfl rfl c7 ?_
                      refine AOps.val (Gv.load1C (c := .fro _ _) Tryd.isAgg23 rfl ⟨_, (.tail .head)⟩ rfl) ?_
                      refine AOps.guardT rfl rfl c7 ?_
                      refine AOps.val (Gv.fieldO Tryd.underlying44 rfl Tryd.sizeOf23 (by decide) rfl rfl) ?_
                      refine AOps.guardT rfl rfl c7 ?_
                      refine AOps.val (Gv.load1C (c := .fro _ _) Tryd.isAgg23 rfl ⟨_, .head⟩ rfl) ?_
                      refine AOps.guardT rfl rfl c7 ?_
                      refine AOps.callP (ints_spec _ _ (by assumption)) rfl ?_
                      refine AOps.guardT rfl rfl c7 ?_
                      refine AOps.val (Gv.not rfl) ?_
                      refine AOps.val (Gv.pickF (v := .bool _) rfl c7 rfl) ?_
                      refine AOps.nil ?_
                      exact ⟨(), ⟨rfl, rfl, rfl, rfl, rfl, rfl, rfl, rfl, rfl, trivial⟩, ⟨jb (by rw [phi_diff, Bool.not_not]; simp_all), trivial⟩, ⟨_, (.drop (.drop (.refl _))), rfl⟩, trivial⟩
                · skip
                  rintro _ _
                  refine AWP.cond rfl (fun cp => ?_) (fun cp => ?_)
                  · skip
                    refine AWP.seq ?_
                    refine AWP.region rfl ?_
                    refine AOps.val (Gv.assign (v := .bool _) rfl) ?_
                    refine AOps.nil ?_
                    refine AWP.ret ?_
                    repeat (first | refine aseqQ_ret ?_ | refine ablockQ_ret ?_)
                    refine afin.t1 (x := .bool _) rfl ?_
                    rw [decide_eq_false (fun e => by subst e; simp at cp)]
                  · skip
                    refine AWP.skip ?_
                    refine AWP.region rfl ?_
                    refine AOps.val (Gv.add rfl rfl (by unfold I64; omega)) ?_
                    refine AOps.val (Gv.move (v := .int _ _) rfl) ?_
                    refine AOps.nil ?_
                    exact ⟨m + 1, ⟨rfl, rfl, rfl, rfl, rfl, rfl, rfl, rfl, trivial⟩, ⟨rfl, trivial⟩, ⟨_, (.refl _), rfl⟩, ⟨hj1, take_push hj1 hj2 hpre3 (by simpa using cp)⟩, by omega⟩
              · skip
                have hphis := take_done hbp (by omega) hpre3
                refine AWP.exit ?_
                refine AWP.seq ?_
                refine AWP.region rfl ?_
                refine AOps.val (Gv.fieldO Tryd.underlying39 rfl Tryd.sizeOf33 (by decide) rfl rfl) ?_
                refine AOps.val (Gv.load1C (c := .fro _ _) Tryd.isAgg33 rfl ⟨_, (.tail .head)⟩ rfl) ?_
                refine AOps.val (Gv.lenM Tryd.underlying33 rfl) ?_
                refine AOps.val (Gv.move (v := .int _ _) rfl) ?_
                refine AOps.nil ?_
                refine AWP.block ?_
                refine AWP.loop (γ := Nat) [3, 8, 58, 59, 60, 136, 137] (fun m => [(138, .int .i64 m)]) (fun m => [(i8, .cells 39 (encBlk g.blocks[k])), (i7, .cells 39 (encBlk f.blocks[k]))]) (fun m => m ≤ f.blocks[k].insts.length ∧ f.blocks[k].insts.take m = g.blocks[k].insts.take m) (fun m => f.blocks[k].insts.length - m) 0 ⟨rfl, trivial⟩ ⟨_, (.refl _), rfl⟩ (⟨Nat.zero_le _, rfl⟩) ?_
                rintro m ⟨hm, hpre3⟩
                refine AWP.seq ?_
                refine AWP.region rfl ?_
                refine AOps.val (Gv.lss rfl rfl) ?_
                refine AOps.nil ?_
                refine AWP.seq ?_
                refine AWP.condP rfl (fun cm => ?_) (fun cm => ?_)
                · skip
                  have hj1 : m < f.blocks[k].insts.length := by omega
                  have hj2 : m < g.blocks[k].insts.length := by omega
                  have hy1 := hx4 _ (List.getElem_mem hj1)
                  refine AWP.skip ?_
                  refine AWP.seq ?_
                  refine AWP.block ?_
                  refine AWP.seq ?_
                  refine AWP.region rfl ?_
                  refine AOps.val (Gv.move (v := .int _ _) rfl) ?_
                  refine AOps.val (Gv.idxM Tryd.underlying33 Tryd.sizeOf42 rfl rfl rfl (List.getElem?_eq_getElem (by omega))) ?_
                  refine AOps.val (Gv.loadWF Tryd.isAgg42 Tryd.sizeOf42 rfl rfl) ?_
                  refine AOps.alloc (cs := [.int .i64 0, .int .i64 0, .raw (.slice none 0 0), .int .i64 0]) Tryd.zeroValue42 rfl rfl ?_
                  intro i13
                  refine AOps.val (Gv.assign (v := .int _ _) rfl) ?_
                  refine AOps.storeW Tryd.sizeOf42 rfl rfl rfl rfl rfl rfl .head rfl ?_
                  refine AOps.nil ?_
                  refine AWP.seq ?_
                  refine AWP.region rfl ?_
                  refine AOps.val (Gv.fieldO Tryd.underlying39 rfl Tryd.sizeOf33 (by decide) rfl rfl) ?_
                  refine AOps.val (Gv.load1C (c := .fro _ _) Tryd.isAgg33 rfl ⟨_, (.tail .head)⟩ rfl) ?_
                  refine AOps.val (Gv.move (v := .int _ _) rfl) ?_
                  refine AOps.val (Gv.idxM Tryd.underlying33 Tryd.sizeOf42 rfl rfl rfl (List.getElem?_eq_getElem (by omega))) ?_
                  refine AOps.val (Gv.loadWF Tryd.isAgg42 Tryd.sizeOf42 rfl rfl) ?_
                  refine AOps.alloc (cs := [.int .i64 0, .int .i64 0, .raw (.slice none 0 0), .int .i64 0]) Tryd.zeroValue42 rfl rfl ?_
                  intro i14
                  refine AOps.storeW Tryd.sizeOf42 rfl rfl rfl rfl rfl rfl .head rfl ?_
                  refine AOps.nil ?_
                  refine AWP.seq ?_
                  refine AWP.cutS (γ := Unit) [3, 8, 58, 59, 60, 136, 137, 138] (fun u => [(174, .bool (!decide (f.blocks[k].insts[m] = g.blocks[k].insts[m])))]) (fun u => [(i8, .cells 39 (encBlk g.blocks[k])), (i7, .cells 39 (encBlk f.blocks[k]))]) (fun u => True) ?_ (fun _ _ h => h) ?_
                  · skip
                    refine AWP.region rfl ?_
                    refine AOps.val (Gv.fieldO Tryd.underlying42 rfl Tryd.sizeOf40 (by decide) rfl rfl) ?_
                    refine AOps.val (Gv.load1C (c := .int _ _) Tryd.isAgg40 rfl ⟨_, (.tail .head)⟩ rfl) ?_
                    refine AOps.val (Gv.fieldO Tryd.underlying42 rfl Tryd.sizeOf40 (by decide) rfl rfl) ?_
                    refine AOps.val (Gv.load1C (c := .int _ _) Tryd.isAgg40 rfl ⟨_, .head⟩ rfl) ?_
                    refine AOps.val (Gv.neqI rfl rfl) ?_
                    refine AOps.val (Gv.move (v := .bool _) rfl) ?_
                    refine AOps.case (s := 153) rfl (fun c8 => ?_) (fun c8 => ?_)
                    · skip
                      refine AOps.guardFd rfl rfl c8 ?_
                      refine AOps.guardFd rfl rfl c8 ?_
                      refine AOps.guardFd rfl rfl c8 ?_
                      refine AOps.guardFd rfl rfl c8 ?_
                      refine AOps.guardFd rfl rfl c8 ?_
                      refine AOps.val (Gv.pickT (v := .bool _) rfl c8 rfl) ?_
                      refine AOps.val (Gv.move (v := .bool _) rfl) ?_
                      refine AOps.guardFd rfl rfl rfl ?_
                      refine AOps.guardFd rfl rfl rfl ?_
                      refine AOps.guardFd rfl rfl rfl ?_
                      refine AOps.guardFd rfl rfl rfl ?_
                      refine AOps.guardFd rfl rfl rfl ?_
                      refine AOps.val (Gv.pickT (v := .bool _) rfl rfl rfl) ?_
                      refine AOps.val (Gv.move (v := .bool _) rfl) ?_
                      refine AOps.guardFd rfl rfl rfl ?_
                      refine AOps.guardFd rfl rfl rfl ?_
                      refine AOps.guardFd rfl rfl rfl ?_
                      refine AOps.guardFd rfl rfl rfl ?_
                      refine AOps.guardFd rfl rfl rfl ?_
                      refine AOps.guardFd rfl rfl rfl ?_
                      refine AOps.val (Gv.pickT (v := .bool _) rfl rfl rfl) ?_
                      refine AOps.nil ?_
                      exact ⟨(), ⟨rfl, rfl, rfl, rfl, rfl, rfl, rfl, rfl, trivial⟩, ⟨jb (by rw [inst_diff, Bool.not_not]; simp_all), trivial⟩, ⟨_, (.drop (.drop (.refl _))), rfl⟩, trivial⟩
                    · skip
                      refine AOps.guardT rfl rfl c8 ?_
                      refine AOps.val (Gv.fieldO Tryd.underlying42 rfl Tryd.sizeOf3 (by decide) rfl rfl) ?_
                      refine AOps.guardT rfl rfl c8 ?_
                      refine AOps.val (Gv.load1C (c := .int _ _) Tryd.isAgg3 rfl ⟨_, (.tail .head)⟩ rfl) ?_
                      refine AOps.guardT rfl rfl c8 ?_
                      refine AOps.val (Gv.fieldO Tryd.underlying42 rfl Tryd.sizeOf3 (by decide) rfl rfl) ?_
                      refine AOps.guardT rfl rfl c8 ?_
                      refine AOps.val (Gv.load1C (c := .int _ _) Tryd.isAgg3 rfl ⟨_, .head⟩ rfl) ?_
                      refine AOps.guardT rfl rfl c8 ?_
                      refine AOps.val (Gv.neqI rfl rfl) ?_
                      refine AOps.val (Gv.pickF (v := .bool _) rfl c8 rfl) ?_
                      refine AOps.val (Gv.move (v := .bool _) rfl) ?_
                      refine AOps.case (s := 160) rfl (fun c9 => ?_) (fun c9 => ?_)
                      · skip
                        refine AOps.guardFd rfl rfl c9 ?_
                        refine AOps.guardFd rfl rfl c9 ?_
                        refine AOps.guardFd rfl rfl c9 ?_
                        refine AOps.guardFd rfl rfl c9 ?_
                        refine AOps.guardFd rfl rfl c9 ?_
                        refine AOps.val (Gv.pickT (v := .bool _) rfl c9 rfl) ?_
                        refine AOps.val (Gv.move (v := .bool _) rfl) ?_
                        refine AOps.guardFd rfl rfl rfl ?_
                        refine AOps.guardFd rfl rfl rfl ?_
                        refine AOps.guardFd rfl rfl rfl ?_
                        refine AOps.guardFd rfl rfl rfl ?_
                        refine AOps.guardFd rfl rfl rfl ?_
                        refine AOps.guardFd rfl rfl rfl ?_
                        refine AOps.val (Gv.pickT (v := .bool _) rfl rfl rfl) ?_
                        refine AOps.nil ?_
                        exact ⟨(), ⟨rfl, rfl, rfl, rfl, rfl, rfl, rfl, rfl, trivial⟩, ⟨jb (by rw [inst_diff, Bool.not_not]; simp_all), trivial⟩, ⟨_, (.drop (.drop (.refl _))), rfl⟩, trivial⟩
                      · skip
                        refine AOps.guardT rfl rfl c9 ?_
                        refine AOps.val (Gv.fieldO Tryd.underlying42 rfl Tryd.sizeOf2 (by decide) rfl rfl) ?_
                        refine AOps.guardT rfl rfl c9 ?_
                        refine AOps.val (Gv.load1C (c := .int _ _) Tryd.isAgg2 rfl ⟨_, (.tail .head)⟩ rfl) ?_
                        refine AOps.guardT rfl rfl c9 ?_
                        refine AOps.val (Gv.fieldO Tryd.underlying42 rfl Tryd.sizeOf2 (by decide) rfl rfl) ?_
                        refine AOps.guardT rfl rfl c9 ?_
                        refine AOps.val (Gv.load1C (c := .int _ _) Tryd.isAgg2 rfl ⟨_, .head⟩ rfl) ?_
                        refine AOps.guardT rfl rfl c9 ?_
                        refine AOps.val (Gv.neqI rfl rfl) ?_
                        refine AOps.val (Gv.pickF (v := .bool _) rfl c9 rfl) ?_
                        refine AOps.val (Gv.move (v := .bool _) rfl) ?_
                        refine AOps.case (s := 167) rfl (fun c10 => ?_) (fun c10 => ?_)
                        · skip
                          refine AOps.guardFd rfl rfl c10 ?_
                          refine AOps.guardFd rfl rfl c10 ?_
                          refine AOps.guardFd rfl rfl c10 ?_
                          refine AOps.guardFd rfl rfl c10 ?_
                          refine AOps.guardFd rfl rfl c10 ?_
                          refine AOps.guardFd rfl rfl c10 ?_
                          refine AOps.val (Gv.pickT (v := .bool _) rfl c10 rfl) ?_
                          refine AOps.nil ?_
                          exact ⟨(), ⟨rfl, rfl, rfl, rfl, rfl, rfl, rfl, rfl, trivial⟩, ⟨jb (by rw [inst_diff, Bool.not_not]; simp_all), trivial⟩, ⟨_, (.drop (.drop (.refl _))), rfl⟩, trivial⟩
                        · skip
                          refine AOps.guardT rfl rfl c10 ?_
                          refine AOps.val (Gv.fieldO Tryd.underlying42 rfl Tryd.sizeOf23 (by decide) rfl rfl) ?_
                          refine AOps.guardT rfl rfl c10 ?_
                          refine AOps.val (Gv.load1C (c := .fro _ _) Tryd.isAgg23 rfl ⟨_, (.tail .head)⟩ rfl) ?_
                          refine AOps.guardT rfl rfl c10 ?_
                          refine AOps.val (Gv.fieldO Tryd.underlying42 rfl Tryd.sizeOf23 (by decide) rfl rfl) ?_
                          refine AOps.guardT rfl rfl c10 ?_
                          refine AOps.val (Gv.load1C (c := .fro _ _) Tryd.isAgg23 rfl ⟨_, .head⟩ rfl) ?_
                          refine AOps.guardT rfl rfl c10 ?_
                          refine AOps.callP (ints_spec _ _ (by assumption)) rfl ?_
                          refine AOps.guardT rfl rfl c10 ?_
                          refine AOps.val (Gv.not rfl) ?_
                          refine AOps.val (Gv.pickF (v := .bool _) rfl c10 rfl) ?_
                          refine AOps.nil ?_
                          exact ⟨(), ⟨rfl, rfl, rfl, rfl, rfl, rfl, rfl, rfl, trivial⟩, ⟨jb (by rw [inst_diff, Bool.not_not]; simp_all), trivial⟩, ⟨_, (.drop (.drop (.refl _))), rfl⟩, trivial⟩
                  · skip
                    rintro _ _
                    refine AWP.cond rfl (fun cp => ?_) (fun cp => ?_)
                    · skip
                      refine AWP.seq ?_
                      refine AWP.region rfl ?_
                      refine AOps.val (Gv.assign (v := .bool _) rfl) ?_
                      refine AOps.nil ?_
                      refine AWP.ret ?_
                      repeat (first | refine aseqQ_ret ?_ | refine ablockQ_ret ?_)
                      refine afin.t1 (x := .bool _) rfl ?_
                      rw [decide_eq_false (fun e => by subst e; simp at cp)]
                    · skip
                      refine AWP.skip ?_
                      refine AWP.region rfl ?_
                      refine AOps.val (Gv.add rfl rfl (by unfold I64; omega)) ?_
                      refine AOps.val (Gv.move (v := .int _ _) rfl) ?_
                      refine AOps.nil ?_
                      exact ⟨m + 1, ⟨rfl, rfl, rfl, rfl, rfl, rfl, rfl, trivial⟩, ⟨rfl, trivial⟩, ⟨_, (.refl _), rfl⟩, ⟨hj1, take_push hj1 hj2 hpre3 (by simpa using cp)⟩, by omega⟩
                · skip
                  have hinsts := take_done hbi (by omega) hpre3
                  refine AWP.exit ?_
                  refine AWP.region rfl ?_
                  refine AOps.val (Gv.add rfl rfl (by unfold I64; omega)) ?_
                  refine AOps.val (Gv.move (v := .int _ _) rfl) ?_
                  refine AOps.nil ?_
                  exact ⟨k + 1, ⟨rfl, rfl, rfl, trivial⟩, ⟨rfl, trivial⟩, ⟨_, (.drop (.drop (.refl _))), rfl⟩, ⟨hi1, take_push hi1 hi2 hpre2 (blk_ext hbn hbt hphis hinsts)⟩, by omega⟩
        · skip
          have hblocks := take_done hbl (by omega) hpre2
          refine AWP.exit ?_
          refine AWP.seq ?_
          refine AWP.region rfl ?_
          refine AOps.val (Gv.assign (v := .bool _) rfl) ?_
          refine AOps.nil ?_
          refine AWP.ret ?_
          repeat (first | refine aseqQ_ret ?_ | refine ablockQ_ret ?_)
          refine afin.t1 (x := .bool _) rfl ?_
          rw [decide_eq_true (func_ext hvars hpar hblocks)]
end Go.Proofs.YtlfhoiakmbcnlaaDoor
