/- The printer's lines of instructions and ends. No conditions but bounds. -/
import Derived.Test.YtlfhoiakmbcnlaaDoorPa
import Derived.Test.YtlfhoiakmbcnlaaDoorShelf
import Derived.Lib.ItoaLen
namespace Go.Proofs.YtlfhoiakmbcnlaaDoor
open Go.Proofs
theorem pl35 : PlacesA Tryd.prog 35 1 [.int .i64 0, .int .i64 0] := ⟨_, _, _, Tryd.underlying35, Tryd.zeroValue35, Tryd.sizeOf3, rfl⟩
theorem ps63_2 : PlacesS Tryd.prog 63 9 2 1 [.str ⟨#[]⟩, .str ⟨#[]⟩] := ⟨_, Tryd.underlying63, Tryd.sizeOf9, Tryd.zeroValue9, by decide, by decide, by kernel_rfl⟩
theorem ps63_1 : PlacesS Tryd.prog 63 9 1 1 [.str ⟨#[]⟩] := ⟨_, Tryd.underlying63, Tryd.sizeOf9, Tryd.zeroValue9, by decide, by decide, by kernel_rfl⟩
set_option maxRecDepth 20000
variable {E : World}

def inst1 (f : PFunc) (x : PInst) : Bool := decide ((kRow x.op).1 = ⟨#[]⟩) || !decide (x.args.length = (takesL x.op).length) || !x.args.all (hasV f)
def inst2 (f : PFunc) (x : PInst) : Bool := (makesB x.op && !hasV f x.dst) || (!makesB x.op && !decide (x.dst = -1))
def instOK (f : PFunc) (x : PInst) : Bool := !inst1 f x && !inst2 f x && (decide (x.num = 0) || isNum x.op)
def termOK (f : PFunc) (t : PTerm) : Bool := if t.kind = 0 then hasB f t.to0 && decide (t.to1 = 0) && decide (t.var = 0) else if t.kind = 1 then hasV f t.var && hasB f t.to0 && hasB f t.to1 else
  if t.kind = 2 then hasV f t.var && decide (t.to0 = 0 ∧ t.to1 = 0) else false
theorem eq_arr10 (a b c d : Int) (w : World) : (Op.equalIn 10000 35 (.agg [.int .i64 a, .int .i64 b].toArray) (.agg [.int .i64 c, .int .i64 d].toArray)).run Tryd.prog w = .ok (decide (a = c ∧ b = d)) w := eq_arr a b c d w 9998

theorem inst_spec (f : PFunc) (x : PInst) (hx : okL x.args) : AFun Tryd.prog E 24 [.agg (encF f), .agg (encInst x)] (.bool (instOK f x)) := by
  have hl := hx.lt
  refine ACall.intro Tryd.func24 rfl (by decide) rfl ?_
  refine AWP.seq ?_
  refine AWP.region rfl ?_
  refine AOps.boxF (cs := _) rfl rfl rfl ?_
  refine AOps.boxF (cs := _) rfl rfl rfl ?_
  refine AOps.val (Gv.assign (v := .bool _) rfl) ?_
  refine AOps.nil ?_
  refine AWP.seq ?_
  refine AWP.region rfl ?_
  refine AOps.val (Gv.fieldF Tryd.underlying42 rfl Tryd.sizeOf40 (by decide) rfl rfl) ?_
  refine AOps.val (Gv.load1F (c := .int _ _) Tryd.isAgg40 rfl) ?_
  refine AOps.callP (makes_spec _) rfl ?_
  refine AOps.val (Gv.move (v := .tup _) rfl) ?_
  refine AOps.val (Gv.extract (v := .int _ _) rfl rfl) ?_
  refine AOps.val (Gv.extract (v := .bool _) rfl rfl) ?_
  refine AOps.val (Gv.assign (v := .int _ _) rfl) ?_
  refine AOps.val (Gv.assign (v := .bool _) rfl) ?_
  refine AOps.nil ?_
  refine AWP.seq ?_
  refine AWP.block ?_
  refine AWP.seq ?_
  refine AWP.regionDraw (fun j => false) (by kernel_rfl) rfl (Part.perm (.rest _)) ?_
  refine AAny.take (i := 0) rfl (by kernel_rfl) (by kernel_rfl) (by kernel_rfl) (by kernel_rfl) (Gv.fieldF Tryd.underlying42 rfl Tryd.sizeOf40 (by decide) rfl rfl) ?_
  refine AAny.take (i := 1) rfl (by kernel_rfl) (by kernel_rfl) (by kernel_rfl) (by kernel_rfl) (Gv.load1F (c := .int _ _) Tryd.isAgg40 rfl) ?_
  refine AAny.one (i := 2) rfl (by kernel_rfl) ?_
  refine AOps.callP (word_spec _) rfl ?_
  refine AOps.nil ?_
  refine AAny.take (i := 3) rfl (by kernel_rfl) (by kernel_rfl) (by kernel_rfl) (by kernel_rfl) (Gv.eqlT rfl rfl) ?_
  refine AAny.take (i := 4) rfl (by kernel_rfl) (by kernel_rfl) (by kernel_rfl) (by kernel_rfl) (Gv.move (v := .bool _) rfl) ?_
  refine AAny.case (s := 18) rfl (fun c1 => ?_) (fun c1 => ?_)
  · skip
    refine AAny.takeF (i := 5) rfl rfl rfl c1 (by kernel_rfl) (by kernel_rfl) (by kernel_rfl) (by kernel_rfl) ?_
    refine AAny.takeF (i := 6) rfl rfl rfl c1 (by kernel_rfl) (by kernel_rfl) (by kernel_rfl) (by kernel_rfl) ?_
    refine AAny.takeF (i := 7) rfl rfl rfl c1 (by kernel_rfl) (by kernel_rfl) (by kernel_rfl) (by kernel_rfl) ?_
    refine AAny.takeF (i := 8) rfl rfl rfl c1 (by kernel_rfl) (by kernel_rfl) (by kernel_rfl) (by kernel_rfl) ?_
    refine AAny.takeF (i := 9) rfl rfl rfl c1 (by kernel_rfl) (by kernel_rfl) (by kernel_rfl) (by kernel_rfl) ?_
    refine AAny.takeF (i := 10) rfl rfl rfl c1 (by kernel_rfl) (by kernel_rfl) (by kernel_rfl) (by kernel_rfl) ?_
    refine AAny.takeF (i := 11) rfl rfl rfl c1 (by kernel_rfl) (by kernel_rfl) (by kernel_rfl) (by kernel_rfl) ?_
    refine AAny.takeF (i := 12) rfl rfl rfl c1 (by kernel_rfl) (by kernel_rfl) (by kernel_rfl) (by kernel_rfl) ?_
    refine AAny.take (i := 13) rfl (by kernel_rfl) (by kernel_rfl) (by kernel_rfl) (by kernel_rfl) (Gv.pickT (v := .bool _) rfl c1 rfl) ?_
    refine AAny.take (i := 14) rfl (by kernel_rfl) (by kernel_rfl) (by kernel_rfl) (by kernel_rfl) (Gv.move (v := .bool _) rfl) ?_
    refine AAny.takeF (i := 15) rfl rfl rfl rfl (by kernel_rfl) (by kernel_rfl) (by kernel_rfl) (by kernel_rfl) ?_
    refine AAny.takeF (i := 16) rfl rfl rfl rfl (by kernel_rfl) (by kernel_rfl) (by kernel_rfl) (by kernel_rfl) ?_
    refine AAny.takeF (i := 17) rfl rfl rfl rfl (by kernel_rfl) (by kernel_rfl) (by kernel_rfl) (by kernel_rfl) ?_
    refine AAny.takeF (i := 18) rfl rfl rfl rfl (by kernel_rfl) (by kernel_rfl) (by kernel_rfl) (by kernel_rfl) ?_
    refine AAny.takeF (i := 19) rfl rfl rfl rfl (by kernel_rfl) (by kernel_rfl) (by kernel_rfl) (by kernel_rfl) ?_
    refine AAny.take (i := 20) rfl (by kernel_rfl) (by kernel_rfl) (by kernel_rfl) (by kernel_rfl) (Gv.pickT (v := .bool _) rfl rfl rfl) ?_
    refine AAny.take (i := 21) rfl (by kernel_rfl) (by kernel_rfl) (by kernel_rfl) (by kernel_rfl) (Gv.assign (v := .bool _) rfl) ?_
    refine AAny.done (by kernel_rfl) ?_
    refine AWP.condT rfl rfl ?_
    refine AWP.seq ?_
    refine AWP.region rfl ?_
    refine AOps.val (Gv.assign (v := .bool _) rfl) ?_
    refine AOps.nil ?_
    refine AWP.ret ?_
    repeat (first | refine aseqQ_ret ?_ | refine ablockQ_ret ?_)
    refine afin.t1 (x := .bool _) rfl ?_
    exact jb (by simp_all [instOK, inst1, inst2, Int.ofNat_inj] <;> grind)
  · skip
    refine AAny.takeT (i := 5) rfl rfl rfl c1 (by kernel_rfl) (by kernel_rfl) (by kernel_rfl) (by kernel_rfl) (Gv.fieldF Tryd.underlying42 rfl Tryd.sizeOf23 (by decide) rfl rfl) ?_
    refine AAny.takeT (i := 6) rfl rfl rfl c1 (by kernel_rfl) (by kernel_rfl) (by kernel_rfl) (by kernel_rfl) (Gv.load1F (c := .fro _ _) Tryd.isAgg23 rfl) ?_
    refine AAny.takeT (i := 7) rfl rfl rfl c1 (by kernel_rfl) (by kernel_rfl) (by kernel_rfl) (by kernel_rfl) (Gv.lenM Tryd.underlying23 rfl) ?_
    refine AAny.takeT (i := 8) rfl rfl rfl c1 (by kernel_rfl) (by kernel_rfl) (by kernel_rfl) (by kernel_rfl) (Gv.fieldF Tryd.underlying42 rfl Tryd.sizeOf40 (by decide) rfl rfl) ?_
    refine AAny.takeT (i := 9) rfl rfl rfl c1 (by kernel_rfl) (by kernel_rfl) (by kernel_rfl) (by kernel_rfl) (Gv.load1F (c := .int _ _) Tryd.isAgg40 rfl) ?_
    refine AAny.one (i := 10) rfl (by kernel_rfl) ?_
    refine AOps.guardT rfl rfl c1 ?_
    refine AOps.callP (takes_spec _) rfl ?_
    refine AOps.nil ?_
    refine AAny.takeT (i := 11) rfl rfl rfl c1 (by kernel_rfl) (by kernel_rfl) (by kernel_rfl) (by kernel_rfl) (Gv.lenM Tryd.underlying79 rfl) ?_
    refine AAny.takeT (i := 12) rfl rfl rfl c1 (by kernel_rfl) (by kernel_rfl) (by kernel_rfl) (by kernel_rfl) (Gv.neqI rfl rfl) ?_
    refine AAny.take (i := 13) rfl (by kernel_rfl) (by kernel_rfl) (by kernel_rfl) (by kernel_rfl) (Gv.pickF (v := .bool _) rfl c1 rfl) ?_
    refine AAny.take (i := 14) rfl (by kernel_rfl) (by kernel_rfl) (by kernel_rfl) (by kernel_rfl) (Gv.move (v := .bool _) rfl) ?_
    refine AAny.case (s := 28) rfl (fun c2 => ?_) (fun c2 => ?_)
    · skip
      refine AAny.takeF (i := 15) rfl rfl rfl c2 (by kernel_rfl) (by kernel_rfl) (by kernel_rfl) (by kernel_rfl) ?_
      refine AAny.takeF (i := 16) rfl rfl rfl c2 (by kernel_rfl) (by kernel_rfl) (by kernel_rfl) (by kernel_rfl) ?_
      refine AAny.takeF (i := 17) rfl rfl rfl c2 (by kernel_rfl) (by kernel_rfl) (by kernel_rfl) (by kernel_rfl) ?_
      refine AAny.takeF (i := 18) rfl rfl rfl c2 (by kernel_rfl) (by kernel_rfl) (by kernel_rfl) (by kernel_rfl) ?_
      refine AAny.takeF (i := 19) rfl rfl rfl c2 (by kernel_rfl) (by kernel_rfl) (by kernel_rfl) (by kernel_rfl) ?_
      refine AAny.take (i := 20) rfl (by kernel_rfl) (by kernel_rfl) (by kernel_rfl) (by kernel_rfl) (Gv.pickT (v := .bool _) rfl c2 rfl) ?_
      refine AAny.take (i := 21) rfl (by kernel_rfl) (by kernel_rfl) (by kernel_rfl) (by kernel_rfl) (Gv.assign (v := .bool _) rfl) ?_
      refine AAny.done (by kernel_rfl) ?_
      refine AWP.condT rfl rfl ?_
      refine AWP.seq ?_
      refine AWP.region rfl ?_
      refine AOps.val (Gv.assign (v := .bool _) rfl) ?_
      refine AOps.nil ?_
      refine AWP.ret ?_
      repeat (first | refine aseqQ_ret ?_ | refine ablockQ_ret ?_)
      refine afin.t1 (x := .bool _) rfl ?_
      exact jb (by simp_all [instOK, inst1, inst2, Int.ofNat_inj] <;> grind)
    · skip
      refine AAny.takeT (i := 15) rfl rfl rfl c2 (by kernel_rfl) (by kernel_rfl) (by kernel_rfl) (by kernel_rfl) (Gv.loadWF Tryd.isAgg26 Tryd.sizeOf26 rfl rfl) ?_
      refine AAny.takeT (i := 16) rfl rfl rfl c2 (by kernel_rfl) (by kernel_rfl) (by kernel_rfl) (by kernel_rfl) (Gv.fieldF Tryd.underlying42 rfl Tryd.sizeOf23 (by decide) rfl rfl) ?_
      refine AAny.takeT (i := 17) rfl rfl rfl c2 (by kernel_rfl) (by kernel_rfl) (by kernel_rfl) (by kernel_rfl) (Gv.load1F (c := .fro _ _) Tryd.isAgg23 rfl) ?_
      refine AAny.one (i := 18) rfl (by kernel_rfl) ?_
      refine AOps.guardT rfl rfl c2 ?_
      refine AOps.callP (vars_spec _ _ (by omega)) rfl ?_
      refine AOps.nil ?_
      refine AAny.takeT (i := 19) rfl rfl rfl c2 (by kernel_rfl) (by kernel_rfl) (by kernel_rfl) (by kernel_rfl) (Gv.not rfl) ?_
      refine AAny.take (i := 20) rfl (by kernel_rfl) (by kernel_rfl) (by kernel_rfl) (by kernel_rfl) (Gv.pickF (v := .bool _) rfl c2 rfl) ?_
      refine AAny.take (i := 21) rfl (by kernel_rfl) (by kernel_rfl) (by kernel_rfl) (by kernel_rfl) (Gv.assign (v := .bool _) rfl) ?_
      refine AAny.done (by kernel_rfl) ?_
      refine AWP.cond rfl (fun c3 => ?_) (fun c3 => ?_)
      · skip
        refine AWP.seq ?_
        refine AWP.region rfl ?_
        refine AOps.val (Gv.assign (v := .bool _) rfl) ?_
        refine AOps.nil ?_
        refine AWP.ret ?_
        repeat (first | refine aseqQ_ret ?_ | refine ablockQ_ret ?_)
        refine afin.t1 (x := .bool _) rfl ?_
        exact jb (by simp_all [instOK, inst1, inst2, Int.ofNat_inj] <;> grind)
      · skip
        refine AWP.seq ?_
        refine AWP.region rfl ?_
        refine AOps.val (Gv.move (v := .bool _) rfl) ?_
        refine AOps.val (Gv.move (v := .bool _) rfl) ?_
        refine AOps.case (s := 37) rfl (fun c4 => ?_) (fun c4 => ?_)
        · skip
          refine AOps.guardT rfl rfl c4 ?_
          refine AOps.val (Gv.loadWF Tryd.isAgg26 Tryd.sizeOf26 rfl rfl) ?_
          refine AOps.guardT rfl rfl c4 ?_
          refine AOps.val (Gv.fieldF Tryd.underlying42 rfl Tryd.sizeOf3 (by decide) rfl rfl) ?_
          refine AOps.guardT rfl rfl c4 ?_
          refine AOps.val (Gv.load1F (c := .int _ _) Tryd.isAgg3 rfl) ?_
          refine AOps.guardT rfl rfl c4 ?_
          refine AOps.callP (has_spec _ _) rfl ?_
          refine AOps.guardT rfl rfl c4 ?_
          refine AOps.val (Gv.not rfl) ?_
          refine AOps.val (Gv.pickT (v := .bool _) rfl c4 rfl) ?_
          refine AOps.val (Gv.move (v := .bool _) rfl) ?_
          refine AOps.case (s := 44) rfl (fun c5 => ?_) (fun c5 => ?_)
          · skip
            refine AOps.guardFd rfl rfl c5 ?_
            refine AOps.guardFd rfl rfl c5 ?_
            refine AOps.guardFd rfl rfl c5 ?_
            refine AOps.guardUd rfl rfl ?_
            refine AOps.guardUd rfl rfl ?_
            refine AOps.guardUd rfl rfl ?_
            refine AOps.guardFd rfl rfl c5 ?_
            refine AOps.val (Gv.pickT (v := .bool _) rfl c5 rfl) ?_
            refine AOps.val (Gv.assign (v := .bool _) rfl) ?_
            refine AOps.nil ?_
            refine AWP.condT rfl rfl ?_
            refine AWP.seq ?_
            refine AWP.region rfl ?_
            refine AOps.val (Gv.assign (v := .bool _) rfl) ?_
            refine AOps.nil ?_
            refine AWP.ret ?_
            repeat (first | refine aseqQ_ret ?_ | refine ablockQ_ret ?_)
            refine afin.t1 (x := .bool _) rfl ?_
            exact jb (by simp_all [instOK, inst1, inst2, Int.ofNat_inj] <;> grind)
          · skip
            refine AOps.guardT rfl rfl c5 ?_
            refine AOps.val (Gv.move (v := .bool _) rfl) ?_
            refine AOps.guardT rfl rfl c5 ?_
            refine AOps.val (Gv.not rfl) ?_
            refine AOps.guardT rfl rfl c5 ?_
            refine AOps.val (Gv.move (v := .bool _) rfl) ?_
            refine AOps.case (s := 47) rfl (fun c6 => ?_) (fun c6 => ?_)
            · skip
              refine AOps.guardT rfl rfl c6 ?_
              refine AOps.val (Gv.fieldF Tryd.underlying42 rfl Tryd.sizeOf3 (by decide) rfl rfl) ?_
              refine AOps.guardT rfl rfl c6 ?_
              refine AOps.val (Gv.load1F (c := .int _ _) Tryd.isAgg3 rfl) ?_
              refine AOps.guardT rfl rfl c6 ?_
              refine AOps.val (Gv.neqI rfl rfl) ?_
              refine AOps.guardT rfl rfl c5 ?_
              refine AOps.val (Gv.pickT (v := .bool _) rfl c6 rfl) ?_
              refine AOps.val (Gv.pickF (v := .bool _) rfl c5 rfl) ?_
              refine AOps.val (Gv.assign (v := .bool _) rfl) ?_
              refine AOps.nil ?_
              refine AWP.cond rfl (fun c7 => ?_) (fun c7 => ?_)
              · skip
                refine AWP.seq ?_
                refine AWP.region rfl ?_
                refine AOps.val (Gv.assign (v := .bool _) rfl) ?_
                refine AOps.nil ?_
                refine AWP.ret ?_
                repeat (first | refine aseqQ_ret ?_ | refine ablockQ_ret ?_)
                refine afin.t1 (x := .bool _) rfl ?_
                exact jb (by simp_all [instOK, inst1, inst2, Int.ofNat_inj] <;> grind)
              · skip
                refine AWP.skip ?_
                refine AWP.seq ?_
                refine AWP.region rfl ?_
                refine AOps.val (Gv.fieldF Tryd.underlying42 rfl Tryd.sizeOf2 (by decide) rfl rfl) ?_
                refine AOps.val (Gv.load1F (c := .int _ _) Tryd.isAgg2 rfl) ?_
                refine AOps.val (Gv.eqlI rfl rfl) ?_
                refine AOps.val (Gv.move (v := .bool _) rfl) ?_
                refine AOps.case (s := 56) rfl (fun c8 => ?_) (fun c8 => ?_)
                · skip
                  refine AOps.guardFd rfl rfl c8 ?_
                  refine AOps.guardFd rfl rfl c8 ?_
                  refine AOps.guardFd rfl rfl c8 ?_
                  refine AOps.val (Gv.pickT (v := .bool _) rfl c8 rfl) ?_
                  refine AOps.val (Gv.assign (v := .bool _) rfl) ?_
                  refine AOps.nil ?_
                  refine AWP.ret ?_
                  repeat (first | refine aseqQ_ret ?_ | refine ablockQ_ret ?_)
                  refine afin.t1 (x := .bool _) rfl ?_
                  exact jb (by simp_all [instOK, inst1, inst2, Int.ofNat_inj] <;> grind)
                · skip
                  refine AOps.guardT rfl rfl c8 ?_
                  refine AOps.val (Gv.fieldF Tryd.underlying42 rfl Tryd.sizeOf40 (by decide) rfl rfl) ?_
                  refine AOps.guardT rfl rfl c8 ?_
                  refine AOps.val (Gv.load1F (c := .int _ _) Tryd.isAgg40 rfl) ?_
                  refine AOps.guardT rfl rfl c8 ?_
                  refine AOps.callP (numbered_spec _) rfl ?_
                  refine AOps.val (Gv.pickF (v := .bool _) rfl c8 rfl) ?_
                  refine AOps.val (Gv.assign (v := .bool _) rfl) ?_
                  refine AOps.nil ?_
                  refine AWP.ret ?_
                  repeat (first | refine aseqQ_ret ?_ | refine ablockQ_ret ?_)
                  refine afin.t1 (x := .bool _) rfl ?_
                  exact jb (by simp_all [instOK, inst1, inst2, Int.ofNat_inj] <;> grind)
            · skip
              refine AOps.guardFd rfl rfl c6 ?_
              refine AOps.guardFd rfl rfl c6 ?_
              refine AOps.guardFd rfl rfl c6 ?_
              refine AOps.guardT rfl rfl c5 ?_
              refine AOps.val (Gv.pickF (v := .bool _) rfl c6 rfl) ?_
              refine AOps.val (Gv.pickF (v := .bool _) rfl c5 rfl) ?_
              refine AOps.val (Gv.assign (v := .bool _) rfl) ?_
              refine AOps.nil ?_
              refine AWP.condF rfl rfl ?_
              refine AWP.skip ?_
              refine AWP.seq ?_
              refine AWP.region rfl ?_
              refine AOps.val (Gv.fieldF Tryd.underlying42 rfl Tryd.sizeOf2 (by decide) rfl rfl) ?_
              refine AOps.val (Gv.load1F (c := .int _ _) Tryd.isAgg2 rfl) ?_
              refine AOps.val (Gv.eqlI rfl rfl) ?_
              refine AOps.val (Gv.move (v := .bool _) rfl) ?_
              refine AOps.case (s := 56) rfl (fun c9 => ?_) (fun c9 => ?_)
              · skip
                refine AOps.guardFd rfl rfl c9 ?_
                refine AOps.guardFd rfl rfl c9 ?_
                refine AOps.guardFd rfl rfl c9 ?_
                refine AOps.val (Gv.pickT (v := .bool _) rfl c9 rfl) ?_
                refine AOps.val (Gv.assign (v := .bool _) rfl) ?_
                refine AOps.nil ?_
                refine AWP.ret ?_
                repeat (first | refine aseqQ_ret ?_ | refine ablockQ_ret ?_)
                refine afin.t1 (x := .bool _) rfl ?_
                exact jb (by simp_all [instOK, inst1, inst2, Int.ofNat_inj] <;> grind)
              · skip
                refine AOps.guardT rfl rfl c9 ?_
                refine AOps.val (Gv.fieldF Tryd.underlying42 rfl Tryd.sizeOf40 (by decide) rfl rfl) ?_
                refine AOps.guardT rfl rfl c9 ?_
                refine AOps.val (Gv.load1F (c := .int _ _) Tryd.isAgg40 rfl) ?_
                refine AOps.guardT rfl rfl c9 ?_
                refine AOps.callP (numbered_spec _) rfl ?_
                refine AOps.val (Gv.pickF (v := .bool _) rfl c9 rfl) ?_
                refine AOps.val (Gv.assign (v := .bool _) rfl) ?_
                refine AOps.nil ?_
                refine AWP.ret ?_
                repeat (first | refine aseqQ_ret ?_ | refine ablockQ_ret ?_)
                refine afin.t1 (x := .bool _) rfl ?_
                exact jb (by simp_all [instOK, inst1, inst2, Int.ofNat_inj] <;> grind)
        · skip
          refine AOps.guardFd rfl rfl c4 ?_
          refine AOps.guardFd rfl rfl c4 ?_
          refine AOps.guardFd rfl rfl c4 ?_
          refine AOps.guardFd rfl rfl c4 ?_
          refine AOps.guardFd rfl rfl c4 ?_
          refine AOps.val (Gv.pickF (v := .bool _) rfl c4 rfl) ?_
          refine AOps.val (Gv.move (v := .bool _) rfl) ?_
          refine AOps.guardT rfl rfl rfl ?_
          refine AOps.val (Gv.move (v := .bool _) rfl) ?_
          refine AOps.guardT rfl rfl rfl ?_
          refine AOps.val (Gv.not rfl) ?_
          refine AOps.guardT rfl rfl rfl ?_
          refine AOps.val (Gv.move (v := .bool _) rfl) ?_
          refine AOps.case (s := 47) rfl (fun c10 => ?_) (fun c10 => ?_)
          · skip
            refine AOps.guardT rfl rfl c10 ?_
            refine AOps.val (Gv.fieldF Tryd.underlying42 rfl Tryd.sizeOf3 (by decide) rfl rfl) ?_
            refine AOps.guardT rfl rfl c10 ?_
            refine AOps.val (Gv.load1F (c := .int _ _) Tryd.isAgg3 rfl) ?_
            refine AOps.guardT rfl rfl c10 ?_
            refine AOps.val (Gv.neqI rfl rfl) ?_
            refine AOps.guardT rfl rfl rfl ?_
            refine AOps.val (Gv.pickT (v := .bool _) rfl c10 rfl) ?_
            refine AOps.val (Gv.pickF (v := .bool _) rfl rfl rfl) ?_
            refine AOps.val (Gv.assign (v := .bool _) rfl) ?_
            refine AOps.nil ?_
            refine AWP.cond rfl (fun c11 => ?_) (fun c11 => ?_)
            · skip
              refine AWP.seq ?_
              refine AWP.region rfl ?_
              refine AOps.val (Gv.assign (v := .bool _) rfl) ?_
              refine AOps.nil ?_
              refine AWP.ret ?_
              repeat (first | refine aseqQ_ret ?_ | refine ablockQ_ret ?_)
              refine afin.t1 (x := .bool _) rfl ?_
              exact jb (by simp_all [instOK, inst1, inst2, Int.ofNat_inj] <;> grind)
            · skip
              refine AWP.skip ?_
              refine AWP.seq ?_
              refine AWP.region rfl ?_
              refine AOps.val (Gv.fieldF Tryd.underlying42 rfl Tryd.sizeOf2 (by decide) rfl rfl) ?_
              refine AOps.val (Gv.load1F (c := .int _ _) Tryd.isAgg2 rfl) ?_
              refine AOps.val (Gv.eqlI rfl rfl) ?_
              refine AOps.val (Gv.move (v := .bool _) rfl) ?_
              refine AOps.case (s := 56) rfl (fun c12 => ?_) (fun c12 => ?_)
              · skip
                refine AOps.guardFd rfl rfl c12 ?_
                refine AOps.guardFd rfl rfl c12 ?_
                refine AOps.guardFd rfl rfl c12 ?_
                refine AOps.val (Gv.pickT (v := .bool _) rfl c12 rfl) ?_
                refine AOps.val (Gv.assign (v := .bool _) rfl) ?_
                refine AOps.nil ?_
                refine AWP.ret ?_
                repeat (first | refine aseqQ_ret ?_ | refine ablockQ_ret ?_)
                refine afin.t1 (x := .bool _) rfl ?_
                exact jb (by simp_all [instOK, inst1, inst2, Int.ofNat_inj] <;> grind)
              · skip
                refine AOps.guardT rfl rfl c12 ?_
                refine AOps.val (Gv.fieldF Tryd.underlying42 rfl Tryd.sizeOf40 (by decide) rfl rfl) ?_
                refine AOps.guardT rfl rfl c12 ?_
                refine AOps.val (Gv.load1F (c := .int _ _) Tryd.isAgg40 rfl) ?_
                refine AOps.guardT rfl rfl c12 ?_
                refine AOps.callP (numbered_spec _) rfl ?_
                refine AOps.val (Gv.pickF (v := .bool _) rfl c12 rfl) ?_
                refine AOps.val (Gv.assign (v := .bool _) rfl) ?_
                refine AOps.nil ?_
                refine AWP.ret ?_
                repeat (first | refine aseqQ_ret ?_ | refine ablockQ_ret ?_)
                refine afin.t1 (x := .bool _) rfl ?_
                exact jb (by simp_all [instOK, inst1, inst2, Int.ofNat_inj] <;> grind)
          · skip
            refine AOps.guardFd rfl rfl c10 ?_
            refine AOps.guardFd rfl rfl c10 ?_
            refine AOps.guardFd rfl rfl c10 ?_
            refine AOps.guardT rfl rfl rfl ?_
            refine AOps.val (Gv.pickF (v := .bool _) rfl c10 rfl) ?_
            refine AOps.val (Gv.pickF (v := .bool _) rfl rfl rfl) ?_
            refine AOps.val (Gv.assign (v := .bool _) rfl) ?_
            refine AOps.nil ?_
            refine AWP.condF rfl rfl ?_
            refine AWP.skip ?_
            refine AWP.seq ?_
            refine AWP.region rfl ?_
            refine AOps.val (Gv.fieldF Tryd.underlying42 rfl Tryd.sizeOf2 (by decide) rfl rfl) ?_
            refine AOps.val (Gv.load1F (c := .int _ _) Tryd.isAgg2 rfl) ?_
            refine AOps.val (Gv.eqlI rfl rfl) ?_
            refine AOps.val (Gv.move (v := .bool _) rfl) ?_
            refine AOps.case (s := 56) rfl (fun c13 => ?_) (fun c13 => ?_)
            · skip
              refine AOps.guardFd rfl rfl c13 ?_
              refine AOps.guardFd rfl rfl c13 ?_
              refine AOps.guardFd rfl rfl c13 ?_
              refine AOps.val (Gv.pickT (v := .bool _) rfl c13 rfl) ?_
              refine AOps.val (Gv.assign (v := .bool _) rfl) ?_
              refine AOps.nil ?_
              refine AWP.ret ?_
              repeat (first | refine aseqQ_ret ?_ | refine ablockQ_ret ?_)
              refine afin.t1 (x := .bool _) rfl ?_
              exact jb (by simp_all [instOK, inst1, inst2, Int.ofNat_inj] <;> grind)
            · skip
              refine AOps.guardT rfl rfl c13 ?_
              refine AOps.val (Gv.fieldF Tryd.underlying42 rfl Tryd.sizeOf40 (by decide) rfl rfl) ?_
              refine AOps.guardT rfl rfl c13 ?_
              refine AOps.val (Gv.load1F (c := .int _ _) Tryd.isAgg40 rfl) ?_
              refine AOps.guardT rfl rfl c13 ?_
              refine AOps.callP (numbered_spec _) rfl ?_
              refine AOps.val (Gv.pickF (v := .bool _) rfl c13 rfl) ?_
              refine AOps.val (Gv.assign (v := .bool _) rfl) ?_
              refine AOps.nil ?_
              refine AWP.ret ?_
              repeat (first | refine aseqQ_ret ?_ | refine ablockQ_ret ?_)
              refine afin.t1 (x := .bool _) rfl ?_
              exact jb (by simp_all [instOK, inst1, inst2, Int.ofNat_inj] <;> grind)

theorem term_spec (f : PFunc) (t : PTerm) : AFun Tryd.prog E 29 [.agg (encF f), .agg (encTerm t)] (.bool (termOK f t)) := by
  refine ACall.intro Tryd.func29 rfl (by decide) rfl ?_
  refine AWP.seq ?_
  refine AWP.region rfl ?_
  refine AOps.boxF (cs := _) rfl rfl rfl ?_
  refine AOps.boxF (cs := _) rfl rfl rfl ?_
  refine AOps.val (Gv.assign (v := .bool _) rfl) ?_
  refine AOps.nil ?_
  refine AWP.seq ?_
  refine AWP.seq ?_
  refine AWP.region rfl ?_
  refine AOps.val (Gv.fieldF Tryd.underlying37 rfl Tryd.sizeOf34 (by decide) rfl rfl) ?_
  refine AOps.val (Gv.load1F (c := .int _ _) Tryd.isAgg34 rfl) ?_
  refine AOps.nil ?_
  refine AWP.block ?_
  refine AWP.seq ?_
  refine AWP.region rfl ?_
  refine AOps.val (Gv.eqlI rfl rfl) ?_
  refine AOps.val (Gv.assign (v := .bool _) rfl) ?_
  refine AOps.nil ?_
  refine AWP.cond rfl (fun c14 => ?_) (fun c14 => ?_)
  · skip
    refine AWP.seq ?_
    refine AWP.region rfl ?_
    refine AOps.val (Gv.loadWF Tryd.isAgg26 Tryd.sizeOf26 rfl rfl) ?_
    refine AOps.val (Gv.fieldF Tryd.underlying37 rfl Tryd.sizeOf35 (by decide) rfl rfl) ?_
    refine AOps.val (Gv.idxAF (j := 0) Tryd.underlying35 Tryd.sizeOf3 rfl rfl rfl (by decide) rfl) ?_
    refine AOps.val (Gv.load1F (c := .int _ _) Tryd.isAgg3 rfl) ?_
    refine AOps.callP (at_spec _ _) rfl ?_
    refine AOps.val (Gv.move (v := .bool _) rfl) ?_
    refine AOps.case (s := 14) rfl (fun c15 => ?_) (fun c15 => ?_)
    · skip
      refine AOps.guardT rfl rfl c15 ?_
      refine AOps.val (Gv.fieldF Tryd.underlying37 rfl Tryd.sizeOf35 (by decide) rfl rfl) ?_
      refine AOps.guardT rfl rfl c15 ?_
      refine AOps.val (Gv.idxAF (j := 1) Tryd.underlying35 Tryd.sizeOf3 rfl rfl rfl (by decide) rfl) ?_
      refine AOps.guardT rfl rfl c15 ?_
      refine AOps.val (Gv.load1F (c := .int _ _) Tryd.isAgg3 rfl) ?_
      refine AOps.guardT rfl rfl c15 ?_
      refine AOps.val (Gv.eqlI rfl rfl) ?_
      refine AOps.val (Gv.pickT (v := .bool _) rfl c15 rfl) ?_
      refine AOps.val (Gv.move (v := .bool _) rfl) ?_
      refine AOps.case (s := 20) rfl (fun c16 => ?_) (fun c16 => ?_)
      · skip
        refine AOps.guardT rfl rfl c16 ?_
        refine AOps.val (Gv.fieldF Tryd.underlying37 rfl Tryd.sizeOf3 (by decide) rfl rfl) ?_
        refine AOps.guardT rfl rfl c16 ?_
        refine AOps.val (Gv.load1F (c := .int _ _) Tryd.isAgg3 rfl) ?_
        refine AOps.guardT rfl rfl c16 ?_
        refine AOps.val (Gv.eqlI rfl rfl) ?_
        refine AOps.val (Gv.pickT (v := .bool _) rfl c16 rfl) ?_
        refine AOps.val (Gv.assign (v := .bool _) rfl) ?_
        refine AOps.nil ?_
        refine AWP.ret ?_
        repeat (first | refine aseqQ_ret ?_ | refine ablockQ_ret ?_)
        refine afin.t1 (x := .bool _) rfl ?_
        exact jb (by simp_all [termOK] <;> grind)
      · skip
        refine AOps.guardFd rfl rfl c16 ?_
        refine AOps.guardFd rfl rfl c16 ?_
        refine AOps.guardFd rfl rfl c16 ?_
        refine AOps.val (Gv.pickF (v := .bool _) rfl c16 rfl) ?_
        refine AOps.val (Gv.assign (v := .bool _) rfl) ?_
        refine AOps.nil ?_
        refine AWP.ret ?_
        repeat (first | refine aseqQ_ret ?_ | refine ablockQ_ret ?_)
        refine afin.t1 (x := .bool _) rfl ?_
        exact jb (by simp_all [termOK] <;> grind)
    · skip
      refine AOps.guardFd rfl rfl c15 ?_
      refine AOps.guardFd rfl rfl c15 ?_
      refine AOps.guardFd rfl rfl c15 ?_
      refine AOps.guardFd rfl rfl c15 ?_
      refine AOps.val (Gv.pickF (v := .bool _) rfl c15 rfl) ?_
      refine AOps.val (Gv.move (v := .bool _) rfl) ?_
      refine AOps.guardFd rfl rfl rfl ?_
      refine AOps.guardFd rfl rfl rfl ?_
      refine AOps.guardFd rfl rfl rfl ?_
      refine AOps.val (Gv.pickF (v := .bool _) rfl rfl rfl) ?_
      refine AOps.val (Gv.assign (v := .bool _) rfl) ?_
      refine AOps.nil ?_
      refine AWP.ret ?_
      repeat (first | refine aseqQ_ret ?_ | refine ablockQ_ret ?_)
      refine afin.t1 (x := .bool _) rfl ?_
      exact jb (by simp_all [termOK] <;> grind)
  · skip
    refine AWP.seq ?_
    refine AWP.region rfl ?_
    refine AOps.val (Gv.eqlI rfl rfl) ?_
    refine AOps.val (Gv.assign (v := .bool _) rfl) ?_
    refine AOps.nil ?_
    refine AWP.cond rfl (fun c17 => ?_) (fun c17 => ?_)
    · skip
      refine AWP.seq ?_
      refine AWP.region rfl ?_
      refine AOps.val (Gv.loadWF Tryd.isAgg26 Tryd.sizeOf26 rfl rfl) ?_
      refine AOps.val (Gv.fieldF Tryd.underlying37 rfl Tryd.sizeOf3 (by decide) rfl rfl) ?_
      refine AOps.val (Gv.load1F (c := .int _ _) Tryd.isAgg3 rfl) ?_
      refine AOps.callP (has_spec _ _) rfl ?_
      refine AOps.val (Gv.move (v := .bool _) rfl) ?_
      refine AOps.case (s := 31) rfl (fun c18 => ?_) (fun c18 => ?_)
      · skip
        refine AOps.guardT rfl rfl c18 ?_
        refine AOps.val (Gv.loadWF Tryd.isAgg26 Tryd.sizeOf26 rfl rfl) ?_
        refine AOps.guardT rfl rfl c18 ?_
        refine AOps.val (Gv.fieldF Tryd.underlying37 rfl Tryd.sizeOf35 (by decide) rfl rfl) ?_
        refine AOps.guardT rfl rfl c18 ?_
        refine AOps.val (Gv.idxAF (j := 0) Tryd.underlying35 Tryd.sizeOf3 rfl rfl rfl (by decide) rfl) ?_
        refine AOps.guardT rfl rfl c18 ?_
        refine AOps.val (Gv.load1F (c := .int _ _) Tryd.isAgg3 rfl) ?_
        refine AOps.guardT rfl rfl c18 ?_
        refine AOps.callP (at_spec _ _) rfl ?_
        refine AOps.val (Gv.pickT (v := .bool _) rfl c18 rfl) ?_
        refine AOps.val (Gv.move (v := .bool _) rfl) ?_
        refine AOps.case (s := 38) rfl (fun c19 => ?_) (fun c19 => ?_)
        · skip
          refine AOps.guardT rfl rfl c19 ?_
          refine AOps.val (Gv.loadWF Tryd.isAgg26 Tryd.sizeOf26 rfl rfl) ?_
          refine AOps.guardT rfl rfl c19 ?_
          refine AOps.val (Gv.fieldF Tryd.underlying37 rfl Tryd.sizeOf35 (by decide) rfl rfl) ?_
          refine AOps.guardT rfl rfl c19 ?_
          refine AOps.val (Gv.idxAF (j := 1) Tryd.underlying35 Tryd.sizeOf3 rfl rfl rfl (by decide) rfl) ?_
          refine AOps.guardT rfl rfl c19 ?_
          refine AOps.val (Gv.load1F (c := .int _ _) Tryd.isAgg3 rfl) ?_
          refine AOps.guardT rfl rfl c19 ?_
          refine AOps.callP (at_spec _ _) rfl ?_
          refine AOps.val (Gv.pickT (v := .bool _) rfl c19 rfl) ?_
          refine AOps.val (Gv.assign (v := .bool _) rfl) ?_
          refine AOps.nil ?_
          refine AWP.ret ?_
          repeat (first | refine aseqQ_ret ?_ | refine ablockQ_ret ?_)
          refine afin.t1 (x := .bool _) rfl ?_
          exact jb (by simp_all [termOK] <;> grind)
        · skip
          refine AOps.guardFd rfl rfl c19 ?_
          refine AOps.guardFd rfl rfl c19 ?_
          refine AOps.guardFd rfl rfl c19 ?_
          refine AOps.guardFd rfl rfl c19 ?_
          refine AOps.guardFd rfl rfl c19 ?_
          refine AOps.val (Gv.pickF (v := .bool _) rfl c19 rfl) ?_
          refine AOps.val (Gv.assign (v := .bool _) rfl) ?_
          refine AOps.nil ?_
          refine AWP.ret ?_
          repeat (first | refine aseqQ_ret ?_ | refine ablockQ_ret ?_)
          refine afin.t1 (x := .bool _) rfl ?_
          exact jb (by simp_all [termOK] <;> grind)
      · skip
        refine AOps.guardFd rfl rfl c18 ?_
        refine AOps.guardFd rfl rfl c18 ?_
        refine AOps.guardFd rfl rfl c18 ?_
        refine AOps.guardFd rfl rfl c18 ?_
        refine AOps.guardFd rfl rfl c18 ?_
        refine AOps.val (Gv.pickF (v := .bool _) rfl c18 rfl) ?_
        refine AOps.val (Gv.move (v := .bool _) rfl) ?_
        refine AOps.guardFd rfl rfl rfl ?_
        refine AOps.guardFd rfl rfl rfl ?_
        refine AOps.guardFd rfl rfl rfl ?_
        refine AOps.guardFd rfl rfl rfl ?_
        refine AOps.guardFd rfl rfl rfl ?_
        refine AOps.val (Gv.pickF (v := .bool _) rfl rfl rfl) ?_
        refine AOps.val (Gv.assign (v := .bool _) rfl) ?_
        refine AOps.nil ?_
        refine AWP.ret ?_
        repeat (first | refine aseqQ_ret ?_ | refine ablockQ_ret ?_)
        refine afin.t1 (x := .bool _) rfl ?_
        exact jb (by simp_all [termOK] <;> grind)
    · skip
      refine AWP.seq ?_
      refine AWP.region rfl ?_
      refine AOps.val (Gv.eqlI rfl rfl) ?_
      refine AOps.val (Gv.assign (v := .bool _) rfl) ?_
      refine AOps.nil ?_
      refine AWP.cond rfl (fun c20 => ?_) (fun c20 => ?_)
      · skip
        refine AWP.seq ?_
        refine AWP.region rfl ?_
        refine AOps.val (Gv.loadWF Tryd.isAgg26 Tryd.sizeOf26 rfl rfl) ?_
        refine AOps.val (Gv.fieldF Tryd.underlying37 rfl Tryd.sizeOf3 (by decide) rfl rfl) ?_
        refine AOps.val (Gv.load1F (c := .int _ _) Tryd.isAgg3 rfl) ?_
        refine AOps.callP (has_spec _ _) rfl ?_
        refine AOps.val (Gv.move (v := .bool _) rfl) ?_
        refine AOps.case (s := 51) rfl (fun c21 => ?_) (fun c21 => ?_)
        · skip
          refine AOps.guardT rfl rfl c21 ?_
          refine AOps.val (Gv.fieldF Tryd.underlying37 rfl Tryd.sizeOf35 (by decide) rfl rfl) ?_
          refine AOps.guardT rfl rfl c21 ?_
          refine AOps.val (Gv.loadWF Tryd.isAgg35 Tryd.sizeOf35 rfl rfl) ?_
          refine AOps.guardT rfl rfl c21 ?_
          refine AOps.val (Gv.buildA (cps := []) (rs := [.int .i64 0, .int .i64 0]) pl35 rfl rfl rfl) ?_
          refine AOps.guardT rfl rfl c21 ?_
          refine AOps.val (Gv.eqlP (xs := [.int _ _, .int _ _]) (ys := [.int _ _, .int _ _]) (by kernel_rfl) rfl rfl (fun w => eq_arr10 _ _ _ _ w)) ?_
          refine AOps.val (Gv.pickT (v := .bool _) rfl c21 rfl) ?_
          refine AOps.val (Gv.assign (v := .bool _) rfl) ?_
          refine AOps.nil ?_
          refine AWP.ret ?_
          repeat (first | refine aseqQ_ret ?_ | refine ablockQ_ret ?_)
          refine afin.t1 (x := .bool _) rfl ?_
          exact jb (by simp_all [termOK] <;> grind)
        · skip
          refine AOps.guardFd rfl rfl c21 ?_
          refine AOps.guardFd rfl rfl c21 ?_
          refine AOps.guardFd rfl rfl c21 ?_
          refine AOps.guardFd rfl rfl c21 ?_
          refine AOps.val (Gv.pickF (v := .bool _) rfl c21 rfl) ?_
          refine AOps.val (Gv.assign (v := .bool _) rfl) ?_
          refine AOps.nil ?_
          refine AWP.ret ?_
          repeat (first | refine aseqQ_ret ?_ | refine ablockQ_ret ?_)
          refine afin.t1 (x := .bool _) rfl ?_
          exact jb (by simp_all [termOK] <;> grind)
      · skip
        refine AWP.skip ?_
        refine AWP.seq ?_
        refine AWP.region rfl ?_
        refine AOps.val (Gv.assign (v := .bool _) rfl) ?_
        refine AOps.nil ?_
        refine AWP.ret ?_
        repeat (first | refine aseqQ_ret ?_ | refine ablockQ_ret ?_)
        refine afin.t1 (x := .bool _) rfl ?_
        exact jb (by simp_all [termOK] <;> grind)

/-- Words with a separator between them. -/
def joinS (ws : List ByteArray) (sep : ByteArray) : ByteArray := ⟨(Lib.join (ws.map (·.data.toList)) sep.data.toList).toArray⟩


def encS (s : ByteArray) : List AV := [.str s]
theorem join_spec (ws : List ByteArray) (sep : ByteArray) (hN : ws.length ≤ 140737488355328) (hlen : (Lib.join (ws.map (·.data.toList)) sep.data.toList).length ≤ 140737488355328) :
    AFun Tryd.prog E 28 [.fro 1 (ws.map encS), .str sep] (.str (joinS ws sep)) := fun I F w vs h1 h2 => by
  obtain ⟨v, us, rfl, ⟨a, n, c, rfl, hn, hc, hnil, hr⟩, v2, us2, rfl, h3, h4⟩ := h1
  have h3 : v2 = .string sep := h3
  have h4 : us2 = [] := h4
  subst h3 h4
  obtain ⟨ht, L, hL, hS⟩ := h2
  have hL : L = [] := hL
  subst hL
  rw [List.length_map] at hn
  refine Fn.ofCalls Tryd.func28 rfl (by decide) ?_
  cases ws with
  | nil =>
    subst hn
    exact (Tryd.strings_Join_none a c sep w).mono fun e w' ⟨he, hw⟩ => ⟨_, he, I, .str (joinS [] sep), [], .refl _, rfl, ⟨ht, [], rfl, hw ▸ hS⟩, rfl⟩
  | cons x ws =>
    subst hn
    have hcell : ∀ (b off : Nat), a = some ⟨b, off, none⟩ → ∀ (j : Nat) y, (x :: ws)[j]? = some y → w.cell? ⟨b, off + j, none⟩ = some (.string y) := by
      intro b off ha j y hj
      obtain ⟨b', off', l, ha', hk', hl', hat'⟩ := hr.get (j := j) (r := encS y) (by rw [List.getElem?_map, hj]; rfl)
      rw [ha] at ha'
      cases ha'
      obtain ⟨u, l2, rfl, hu, _⟩ := hl'
      have hu : u = .string y := hu
      subst hu
      have := hS.at_ ((hat' 0 _ rfl).at_ _)
      simpa using this
    obtain ⟨b, off, l, ha, _⟩ := hr.get (j := 0) (r := encS x) rfl
    subst ha
    refine (Tryd.strings_Join b off c (x :: ws) sep w (hcell b off rfl) ?_ hN hc hlen).mono fun e w' ⟨he, hb⟩ => ⟨_, he, I, .str (joinS (x :: ws) sep), [], .refl _, rfl, ⟨ht, [], rfl, hS.below hb⟩, rfl⟩
    by_cases hb : b < w.heap.size
    · exact hb
    · have hat0 := hcell b off rfl 0 x rfl
      simp [World.cell?, Array.getElem?_eq_none (by omega : w.heap.size ≤ b)] at hat0

/-- The table of powers, as the program begins. -/
def Pows (E : World) : Prop := Lib.TabIs Tryd.prog E "internal/strconv.uint64pow10" .u64 Lib.pow10Tab
theorem tab_up {P : Program} {name : String} {k : IntKind} {zs : List Int} {I : Ghost} {O : List (Nat × Obj)} {w : World} (h : Lib.TabIs P E name k zs) (hS : SL I O E w) : Lib.TabIs P w name k zs := by
  unfold Lib.TabIs World.var? at *
  cases hg : P.globalNamed name with
  | none => rw [hg] at h; cases h
  | some g =>
    rw [hg] at h
    simp only [Option.bind_some] at h ⊢
    cases hh : E.heap[g]? with
    | none => rw [hh] at h; cases h
    | some o => rw [hh] at h; rw [hS.pers _ _ (hS.base _ _ hh)]; exact h

theorem formatInt_spec (n : Int) (hn : -9223372036854775808 ≤ n ∧ n ≤ 9223372036854775807) (hT : Pows E) : AFun Tryd.prog E 27 [.int .i64 n, .int .i64 10] (.str ⟨(Lib.itoa n).toArray⟩) := fun I F w vs h1 h2 => by
  obtain ⟨v, us, rfl, h3, v2, us2, rfl, h4, h5⟩ := h1
  have h3 : v = .int .i64 n := h3
  have h4 : v2 = .int .i64 10 := h4
  have h5 : us2 = [] := h5
  subst h3 h4 h5
  obtain ⟨ht, L, hL, hS⟩ := h2
  have hL : L = [] := hL
  subst hL
  refine Fn.ofCalls Tryd.func27 rfl (by decide) ?_
  exact (Tryd.strconv_FormatInt_10 n hn.1 hn.2 w (tab_up hT hS)).mono fun e w' ⟨he, k, os, hw⟩ => ⟨_, he, I, .str ⟨(Lib.itoa n).toArray⟩, [], .refl _, rfl, ⟨ht, [], rfl, by
    subst hw
    exact hS.more rfl rfl rfl (fun k hk => Array.getElem?_append_left hk)⟩, rfl⟩

def vname (f : PFunc) (v : Int) : ByteArray := (f.vars[v.toNat]?.map (·.name)).getD ⟨#[]⟩
def words1 (f : PFunc) (x : PInst) : List ByteArray := if 0 ≤ x.dst then [vname f x.dst, ⟨#[61]⟩] else []
def words2 (f : PFunc) (x : PInst) (k : Nat) : List ByteArray := words1 f x ++ [(kRow x.op).1] ++ (x.args.take k).map (vname f)
def wordsOf (f : PFunc) (x : PInst) : List ByteArray := words2 f x x.args.length ++ (if isNum x.op then [⟨(Lib.itoa x.num).toArray⟩] else [])
theorem words1_len (f : PFunc) (x : PInst) : (words1 f x).length ≤ 2 := by unfold words1; split <;> simp
theorem words2_len (f : PFunc) (x : PInst) (k : Nat) : (words2 f x k).length ≤ 3 + k := by
  have := words1_len f x
  unfold words2; simp; omega
theorem words2_succ (f : PFunc) (x : PInst) {k : Nat} (h : k < x.args.length) : words2 f x (k + 1) = words2 f x k ++ [vname f x.args[k]] := by
  unfold words2; rw [List.take_succ_eq_append_getElem h, List.map_append]; simp only [List.append_assoc]; rfl
def instLine (f : PFunc) (x : PInst) : ByteArray := if instOK f x then joinS (wordsOf f x) ⟨#[32]⟩ else ⟨#[]⟩

theorem has_get {f : PFunc} {v : Int} (h : hasV f v = true) : ∃ (h : v.toNat < f.vars.length), f.vars[v.toNat]? = some f.vars[v.toNat] ∧ 0 ≤ v ∧ vname f v = f.vars[v.toNat].name := by
  have h2 : 0 ≤ v ∧ v < f.vars.length := by simpa [hasV] using h
  have h3 : v.toNat < f.vars.length := by omega
  exact ⟨h3, List.getElem?_eq_getElem h3, h2.1, by unfold vname; rw [List.getElem?_eq_getElem h3]; rfl⟩

theorem joinTail_len (m : Nat) (r : List (List UInt8)) (hm : ∀ x ∈ r, x.length ≤ m) : (Lib.joinTail [32] r).length ≤ r.length * (m + 1) := by
  induction r with
  | nil => simp [Lib.joinTail]
  | cons x r ih =>
    have h1 := ih (fun y hy => hm y (.tail _ hy))
    have h2 := hm x (.head _)
    have h3 : Lib.joinTail [32] (x :: r) = [32] ++ x ++ Lib.joinTail [32] r := rfl
    rw [h3, List.length_append, List.length_append, List.length_cons, List.length_cons, Nat.add_mul]
    simp only [List.length_nil]
    omega
theorem join_len (ws : List ByteArray) (m : Nat) (hm : ∀ x ∈ ws, x.size ≤ m) : (Lib.join (ws.map (·.data.toList)) [32]).length ≤ ws.length * (m + 1) := by
  cases ws with
  | nil => simp [Lib.join_nil]
  | cons x r =>
    rw [List.map_cons, Lib.join_cons, List.length_append]
    have h1 := joinTail_len m (r.map (·.data.toList)) (by
      intro y hy; obtain ⟨z, hz, rfl⟩ := List.mem_map.1 hy
      exact hm z (.tail _ hz))
    have h2 : x.data.toList.length ≤ m := hm x (.head _)
    rw [List.length_map] at h1
    rw [List.length_cons, Nat.add_mul]
    omega

theorem word_len (op : Int) : (kRow op).1.size ≤ 6 := by
  rcases kRow_mem op with h | h
  · rw [h]; decide
  · have : ∀ r ∈ kindT, r.1.size ≤ 6 := by decide
    exact this _ h
theorem vname_len {f : PFunc} (hnm : ∀ v ∈ f.vars, v.name.size ≤ 1000) (v : Int) : (vname f v).size ≤ 1000 := by
  unfold vname
  cases h : f.vars[v.toNat]? with
  | none => exact (by decide : (⟨#[]⟩ : ByteArray).size ≤ 1000)
  | some x => exact hnm x (List.mem_of_getElem? h)
theorem words_len {f : PFunc} {x : PInst} (hnm : ∀ v ∈ f.vars, v.name.size ≤ 1000) (hI : isNum x.op = true → -9223372036854775808 ≤ x.num ∧ x.num ≤ 9223372036854775807) : ∀ s ∈ wordsOf f x, s.size ≤ 1000 := by
  intro s hs
  unfold wordsOf words2 words1 at hs
  simp only [List.mem_append] at hs
  rcases hs with ((hs | hs) | hs) | hs
  · split at hs
    · simp only [List.mem_cons, List.not_mem_nil, or_false] at hs
      rcases hs with rfl | rfl
      · exact vname_len hnm _
      · decide
    · cases hs
  · rw [List.mem_singleton.1 hs]; have := word_len x.op; omega
  · obtain ⟨v, _, rfl⟩ := List.mem_map.1 hs; exact vname_len hnm _
  · split at hs
    · rename_i hn
      rw [List.mem_singleton.1 hs]
      have := Lib.itoa_length_le x.num (hI hn).1 (hI hn).2
      show (List.toArray _).size ≤ _
      rw [List.size_toArray]; omega
    · cases hs


theorem Inst_spec (f : PFunc) (x : PInst) (hbd : x.args.length ≤ 1000) (hnm : ∀ v ∈ f.vars, v.name.size ≤ 1000) (hI : isNum x.op = true → -9223372036854775808 ≤ x.num ∧ x.num ≤ 9223372036854775807) (hT : Pows E) :
    AFun Tryd.prog E 12 [.agg (encF f), .agg (encInst x)] (.str (instLine f x)) := by
  have hx : okL x.args := by unfold okL; omega
  refine ACall.intro Tryd.func12 rfl (by decide) rfl ?_
  refine AWP.seq ?_
  refine AWP.region rfl ?_
  refine AOps.boxF (cs := _) rfl rfl rfl ?_
  refine AOps.boxF (cs := _) rfl rfl rfl ?_
  refine AOps.val (Gv.assign (v := .str _) rfl) ?_
  refine AOps.nil ?_
  refine AWP.seq ?_
  refine AWP.seq ?_
  refine AWP.region rfl ?_
  refine AOps.val (Gv.loadWF Tryd.isAgg26 Tryd.sizeOf26 rfl rfl) ?_
  refine AOps.val (Gv.loadWF Tryd.isAgg42 Tryd.sizeOf42 rfl rfl) ?_
  refine AOps.callP (inst_spec _ _ (by assumption)) rfl ?_
  refine AOps.val (Gv.not rfl) ?_
  refine AOps.nil ?_
  refine AWP.cond rfl (fun cok => ?_) (fun cok => ?_)
  · skip
    have hok : instOK f x = false := by simpa using cok
    refine AWP.seq ?_
    refine AWP.region rfl ?_
    refine AOps.val (Gv.assign (v := .str _) rfl) ?_
    refine AOps.nil ?_
    refine AWP.ret ?_
    repeat (first | refine aseqQ_ret ?_ | refine ablockQ_ret ?_)
    refine afin.t1 (x := .str _) rfl ?_
    unfold instLine; rw [hok]; rfl
  · skip
    have hok : instOK f x = true := by simpa using cok
    obtain ⟨hi1, hi2⟩ : inst1 f x = false ∧ inst2 f x = false := by unfold instOK at hok; simp at hok; exact ⟨hok.1.1, hok.1.2⟩
    have hall : x.args.all (hasV f) = true := by unfold inst1 at hi1; simp at hi1; simpa using hi1.2
    have hdst : 0 ≤ x.dst → hasV f x.dst = true := by
      intro h; unfold inst2 at hi2
      cases hm : makesB x.op
      · simp [hm] at hi2; omega
      · simpa [hm] using hi2
    refine AWP.skip ?_
    refine AWP.seq ?_
    refine AWP.region rfl ?_
    refine AOps.val (Gv.assign (v := .raw _) rfl) ?_
    refine AOps.nil ?_
    refine adopt_wp (t := 5) (k := 1) (T := 9) rfl ?_
    intro i5
    refine AWP.seq ?_
    refine AWP.seq ?_
    refine AWP.region rfl ?_
    refine AOps.val (Gv.fieldF Tryd.underlying42 rfl Tryd.sizeOf3 (by decide) rfl rfl) ?_
    refine AOps.val (Gv.load1F (c := .int _ _) Tryd.isAgg3 rfl) ?_
    refine AOps.val (Gv.geq rfl rfl) ?_
    refine AOps.nil ?_
    refine AWP.cutS (γ := Nat) [2, 3] (fun i => [(5, .own i (words1 f x).length)]) (fun i => [(i, .grow 1 9 ((words1 f x).map encS).flatten)]) (fun i => True) ?_ (fun _ _ h => h) ?_
    · skip
      refine AWP.condP rfl (fun cd => ?_) (fun cd => ?_)
      · skip
        obtain ⟨hlt, hg, hnn, hvn⟩ := has_get (hdst cd)
        refine AWP.region rfl ?_
        refine AOps.val (Gv.move (v := .own _ _) rfl) ?_
        refine AOps.val (Gv.fieldF Tryd.underlying26 rfl Tryd.sizeOf22 (by decide) rfl rfl) ?_
        refine AOps.val (Gv.load1F (c := .fro _ _) Tryd.isAgg22 rfl) ?_
        refine AOps.val (Gv.fieldF Tryd.underlying42 rfl Tryd.sizeOf3 (by decide) rfl rfl) ?_
        refine AOps.val (Gv.load1F (c := .int _ _) Tryd.isAgg3 rfl) ?_
        refine AOps.val (Gv.idxM (j := x.dst.toNat) Tryd.underlying22 Tryd.sizeOf47 rfl rfl (Int.toNat_of_nonneg hnn).symm hg) ?_
        refine AOps.val (Gv.fieldF Tryd.underlying47 rfl Tryd.sizeOf9 (by decide) rfl rfl) ?_
        refine AOps.val (Gv.load1F (c := .str _) Tryd.isAgg9 rfl) ?_
        refine AOps.buildSliceFF (rows := [[_], [_]]) ps63_2 rfl rfl rfl rfl rfl ?_
        refine AOps.appendS (k := 1) Tryd.underlying63 Tryd.type9 rfl rfl rfl rfl rfl (fun _ => .head) (by simp) (by decide) rfl (by show (_ + _) * 16 ≤ _; simp <;> omega) (by simp <;> omega) ?_
        intro i24
        refine AOps.val (Gv.assign (v := .own _ _) rfl) ?_
        refine AOps.nil ?_
        exact ⟨i24, ⟨rfl, rfl, trivial⟩, ⟨by rw [words1, if_pos cd]; rfl, trivial⟩, ⟨_, (.refl _), by rw [words1, if_pos cd, hvn]; rfl⟩, trivial⟩
      · skip
        refine AWP.skip ?_
        exact ⟨i5, ⟨rfl, rfl, trivial⟩, ⟨by rw [words1, if_neg cd]; rfl, trivial⟩, ⟨_, (.refl _), by rw [words1, if_neg cd]; rfl⟩, trivial⟩
    · skip
      rintro i _
      have hl1 := words1_len f x
      refine AWP.seq ?_
      refine AWP.region rfl ?_
      refine AOps.val (Gv.move (v := .own _ _) rfl) ?_
      refine AOps.val (Gv.fieldF Tryd.underlying42 rfl Tryd.sizeOf40 (by decide) rfl rfl) ?_
      refine AOps.val (Gv.load1F (c := .int _ _) Tryd.isAgg40 rfl) ?_
      refine AOps.callP (word_spec _) rfl ?_
      refine AOps.buildSliceFF (rows := [[_]]) ps63_1 rfl rfl rfl rfl rfl ?_
      refine AOps.appendS (k := 1) Tryd.underlying63 Tryd.type9 rfl rfl rfl rfl rfl (fun _ => .head) (by rw [grow_len (k := 1) (fun _ => rfl)]) (by decide) rfl (by show (_ + 1) * 16 ≤ _; omega) (by show _ + 1 ≤ _; omega) ?_
      intro i30
      refine AOps.val (Gv.assign (v := .own _ _) rfl) ?_
      refine AOps.nil ?_
      refine AWP.seq ?_
      refine AWP.seq ?_
      refine AWP.region rfl ?_
      refine AOps.val (Gv.fieldF Tryd.underlying42 rfl Tryd.sizeOf23 (by decide) rfl rfl) ?_
      refine AOps.val (Gv.load1F (c := .fro _ _) Tryd.isAgg23 rfl) ?_
      refine AOps.val (Gv.lenM Tryd.underlying23 rfl) ?_
      refine AOps.val (Gv.move (v := .int _ _) rfl) ?_
      refine AOps.nil ?_
      refine AWP.block ?_
      refine AWP.loop (γ := Nat × Nat) [2, 3, 32, 33] (fun g => [(5, .own g.2 (words2 f x g.1).length), (34, .int .i64 g.1)]) (fun g => [(g.2, .grow 1 9 ((words2 f x g.1).map encS).flatten)]) (fun g => g.1 ≤ x.args.length) (fun g => x.args.length - g.1) (0, i30) ⟨congrArg (AV.own i30) (by simp [words2]), rfl, trivial⟩ ⟨_, (.refl _), by rw [← grow_push (enc := encS) (ys := words2 f x 0) (xs := words1 f x) (x := (kRow x.op).1) (by simp [words2])]; rfl⟩ (Nat.zero_le _) ?_
      rintro ⟨k, i⟩ hk
      try dsimp only at *

      have hl2 := words2_len f x k
      refine AWP.seq ?_
      refine AWP.region rfl ?_
      refine AOps.val (Gv.lss rfl rfl) ?_
      refine AOps.nil ?_
      refine AWP.seq ?_
      refine AWP.condP rfl (fun ck => ?_) (fun ck => ?_)
      · skip
        have hk2 : k < x.args.length := by omega
        have hh := (List.all_eq_true.1 hall) _ (List.getElem_mem hk2)
        obtain ⟨hlt, hg, hnn, hvn⟩ := has_get hh
        refine AWP.skip ?_
        refine AWP.seq ?_
        refine AWP.block ?_
        refine AWP.seq ?_
        refine AWP.region rfl ?_
        refine AOps.val (Gv.idxM Tryd.underlying23 Tryd.sizeOf3 rfl rfl rfl (List.getElem?_eq_getElem (by omega))) ?_
        refine AOps.val (Gv.load1F (c := .int _ _) Tryd.isAgg3 rfl) ?_
        refine AOps.val (Gv.assign (v := .int _ _) rfl) ?_
        refine AOps.nil ?_
        refine AWP.region rfl ?_
        refine AOps.val (Gv.move (v := .own _ _) rfl) ?_
        refine AOps.val (Gv.fieldF Tryd.underlying26 rfl Tryd.sizeOf22 (by decide) rfl rfl) ?_
        refine AOps.val (Gv.load1F (c := .fro _ _) Tryd.isAgg22 rfl) ?_
        refine AOps.val (Gv.move (v := .int _ _) rfl) ?_
        refine AOps.val (Gv.idxM (j := (x.args[k]).toNat) Tryd.underlying22 Tryd.sizeOf47 rfl rfl (Int.toNat_of_nonneg hnn).symm hg) ?_
        refine AOps.val (Gv.fieldF Tryd.underlying47 rfl Tryd.sizeOf9 (by decide) rfl rfl) ?_
        refine AOps.val (Gv.load1F (c := .str _) Tryd.isAgg9 rfl) ?_
        refine AOps.buildSliceFF (rows := [[_]]) ps63_1 rfl rfl rfl rfl rfl ?_
        refine AOps.appendS (k := 1) Tryd.underlying63 Tryd.type9 rfl rfl rfl rfl rfl (fun _ => .head) (by rw [grow_len (k := 1) (fun _ => rfl)]) (by decide) rfl (by show (_ + 1) * 16 ≤ _; omega) (by show _ + 1 ≤ _; omega) ?_
        intro i46
        refine AOps.val (Gv.assign (v := .own _ _) rfl) ?_
        refine AOps.nil ?_
        refine AWP.region rfl ?_
        refine AOps.val (Gv.add rfl rfl (by unfold I64; omega)) ?_
        refine AOps.val (Gv.move (v := .int _ _) rfl) ?_
        refine AOps.nil ?_
        exact ⟨(k + 1, i46), ⟨rfl, rfl, rfl, rfl, trivial⟩, ⟨congrArg (AV.own i46) (by rw [words2_succ f x hk2]; simp), rfl, trivial⟩, ⟨_, (.refl _), by rw [← grow_push (enc := encS) (words2_succ f x hk2), hvn]; rfl⟩, hk2, by simp only; omega⟩
      · skip
        have hkn : k = x.args.length := by omega
        subst hkn
        refine AWP.exit ?_
        refine AWP.seq ?_
        refine AWP.seq ?_
        refine AWP.region rfl ?_
        refine AOps.val (Gv.fieldF Tryd.underlying42 rfl Tryd.sizeOf40 (by decide) rfl rfl) ?_
        refine AOps.val (Gv.load1F (c := .int _ _) Tryd.isAgg40 rfl) ?_
        refine AOps.callP (numbered_spec _) rfl ?_
        refine AOps.nil ?_
        refine AWP.cutS (γ := Nat) [] (fun i => [(5, .own i (wordsOf f x).length)]) (fun i => [(i, .grow 1 9 ((wordsOf f x).map encS).flatten)]) (fun i => True) ?_ (fun _ _ h => h) ?_
        · skip
          refine AWP.cond rfl (fun cn => ?_) (fun cn => ?_)
          · skip
            have hw : wordsOf f x = words2 f x x.args.length ++ [⟨(Lib.itoa x.num).toArray⟩] := by unfold wordsOf; rw [if_pos cn]
            refine AWP.region rfl ?_
            refine AOps.val (Gv.move (v := .own _ _) rfl) ?_
            refine AOps.val (Gv.fieldF Tryd.underlying42 rfl Tryd.sizeOf2 (by decide) rfl rfl) ?_
            refine AOps.val (Gv.load1F (c := .int _ _) Tryd.isAgg2 rfl) ?_
            refine AOps.callP (formatInt_spec _ (hI cn) hT) rfl ?_
            refine AOps.buildSliceFF (rows := [[_]]) ps63_1 rfl rfl rfl rfl rfl ?_
            refine AOps.appendS (k := 1) Tryd.underlying63 Tryd.type9 rfl rfl rfl rfl rfl (fun _ => .head) (by rw [grow_len (k := 1) (fun _ => rfl)]) (by decide) rfl (by show (_ + 1) * 16 ≤ _; omega) (by show _ + 1 ≤ _; omega) ?_
            intro i56
            refine AOps.val (Gv.assign (v := .own _ _) rfl) ?_
            refine AOps.nil ?_
            exact ⟨i56, trivial, ⟨congrArg (AV.own i56) (by rw [hw]; simp), trivial⟩, ⟨_, (.refl _), by rw [← grow_push (enc := encS) hw]; rfl⟩, trivial⟩
          · skip
            have hw : wordsOf f x = words2 f x x.args.length := by unfold wordsOf; rw [if_neg (by simp [cn]), List.append_nil]
            refine AWP.skip ?_
            exact ⟨i, trivial, ⟨congrArg (AV.own i) (by rw [hw]), trivial⟩, ⟨_, (.refl _), by rw [hw]⟩, trivial⟩
        · skip
          rintro i _
          have hlw := words2_len f x x.args.length
          have hlw2 : (wordsOf f x).length ≤ 1004 := by unfold wordsOf; rw [List.length_append]; split <;> simp <;> omega
          have hjl := join_len (wordsOf f x) 1000 (words_len hnm hI)
          have hjl2 : (wordsOf f x).length * (1000 + 1) ≤ 1004 * 1001 := Nat.mul_le_mul hlw2 (Nat.le_refl _)
          refine GStep.wp (GStep.know (t := 5) (rows := (wordsOf f x).map encS) rfl .head (by simp [encS]) (by decide) (by simp)) ?_
          refine AWP.seq ?_
          refine AWP.region rfl ?_
          refine AOps.val (Gv.move (v := .fro _ _) rfl) ?_
          refine AOps.callP (join_spec _ _ (by omega) (by show (Lib.join _ [32]).length ≤ _; omega)) rfl ?_
          refine AOps.val (Gv.assign (v := .str _) rfl) ?_
          refine AOps.nil ?_
          refine AWP.ret ?_
          repeat (first | refine aseqQ_ret ?_ | refine ablockQ_ret ?_)
          refine afin.t1 (x := .str _) rfl ?_
          unfold instLine; rw [hok]; rfl
end Go.Proofs.YtlfhoiakmbcnlaaDoor
