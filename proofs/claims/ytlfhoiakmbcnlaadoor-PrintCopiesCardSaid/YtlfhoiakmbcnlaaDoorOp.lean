/- The operations' functions. No conditions. -/
import Derived.Test.YtlfhoiakmbcnlaaDoorBd
import Derived.Test.YtlfhoiakmbcnlaaDoorChecked
namespace Go.Proofs.YtlfhoiakmbcnlaaDoor
open Go.Proofs
theorem pl84 : Places Tryd.prog 84 #[(0, 1), (1, 1), (2, 1)] [.str ⟨#[]⟩, .str ⟨#[]⟩, .str ⟨#[]⟩] := ⟨_, _, Tryd.underlying84, Tryd.zeroValue84, fun w => by kernel_rfl, rfl⟩
theorem pl100 : PlacesA Tryd.prog 100 3 [.str ⟨#[]⟩, .str ⟨#[]⟩, .str ⟨#[]⟩, .str ⟨#[]⟩, .str ⟨#[]⟩, .str ⟨#[]⟩, .str ⟨#[]⟩, .str ⟨#[]⟩, .str ⟨#[]⟩, .str ⟨#[]⟩, .str ⟨#[]⟩, .str ⟨#[]⟩, .str ⟨#[]⟩, .str ⟨#[]⟩, .str ⟨#[]⟩, .str ⟨#[]⟩, .str ⟨#[]⟩, .str ⟨#[]⟩, .str ⟨#[]⟩, .str ⟨#[]⟩, .str ⟨#[]⟩, .str ⟨#[]⟩, .str ⟨#[]⟩, .str ⟨#[]⟩, .str ⟨#[]⟩, .str ⟨#[]⟩, .str ⟨#[]⟩, .str ⟨#[]⟩, .str ⟨#[]⟩, .str ⟨#[]⟩, .str ⟨#[]⟩, .str ⟨#[]⟩, .str ⟨#[]⟩, .str ⟨#[]⟩, .str ⟨#[]⟩, .str ⟨#[]⟩, .str ⟨#[]⟩, .str ⟨#[]⟩, .str ⟨#[]⟩, .str ⟨#[]⟩, .str ⟨#[]⟩, .str ⟨#[]⟩, .str ⟨#[]⟩, .str ⟨#[]⟩, .str ⟨#[]⟩, .str ⟨#[]⟩, .str ⟨#[]⟩, .str ⟨#[]⟩, .str ⟨#[]⟩, .str ⟨#[]⟩, .str ⟨#[]⟩, .str ⟨#[]⟩, .str ⟨#[]⟩, .str ⟨#[]⟩, .str ⟨#[]⟩, .str ⟨#[]⟩, .str ⟨#[]⟩, .str ⟨#[]⟩, .str ⟨#[]⟩, .str ⟨#[]⟩, .str ⟨#[]⟩, .str ⟨#[]⟩, .str ⟨#[]⟩, .str ⟨#[]⟩, .str ⟨#[]⟩, .str ⟨#[]⟩, .str ⟨#[]⟩, .str ⟨#[]⟩, .str ⟨#[]⟩, .str ⟨#[]⟩, .str ⟨#[]⟩, .str ⟨#[]⟩, .str ⟨#[]⟩, .str ⟨#[]⟩, .str ⟨#[]⟩, .str ⟨#[]⟩, .str ⟨#[]⟩, .str ⟨#[]⟩, .str ⟨#[]⟩, .str ⟨#[]⟩, .str ⟨#[]⟩] := ⟨_, _, _, Tryd.underlying100, Tryd.zeroValue100, Tryd.sizeOf84, rfl⟩
variable {E : World}
set_option maxRecDepth 20000

def kindT : List (ByteArray × ByteArray × ByteArray) := [(⟨#[99, 111, 110, 115, 116]⟩, ⟨#[]⟩, ⟨#[105]⟩),
  (⟨#[99, 111, 112, 121]⟩, ⟨#[105]⟩, ⟨#[105]⟩),
  (⟨#[97, 100, 100]⟩, ⟨#[105, 105]⟩, ⟨#[105]⟩),
  (⟨#[115, 117, 98]⟩, ⟨#[105, 105]⟩, ⟨#[105]⟩),
  (⟨#[109, 117, 108]⟩, ⟨#[105, 105]⟩, ⟨#[105]⟩),
  (⟨#[100, 105, 118]⟩, ⟨#[105, 105]⟩, ⟨#[105]⟩),
  (⟨#[114, 101, 109]⟩, ⟨#[105, 105]⟩, ⟨#[105]⟩),
  (⟨#[101, 113]⟩, ⟨#[105, 105]⟩, ⟨#[98]⟩),
  (⟨#[108, 116]⟩, ⟨#[105, 105]⟩, ⟨#[98]⟩),
  (⟨#[108, 101]⟩, ⟨#[105, 105]⟩, ⟨#[98]⟩),
  (⟨#[110, 111, 116]⟩, ⟨#[98]⟩, ⟨#[98]⟩),
  (⟨#[97, 110, 100]⟩, ⟨#[98, 98]⟩, ⟨#[98]⟩),
  (⟨#[108, 101, 110]⟩, ⟨#[97]⟩, ⟨#[105]⟩),
  (⟨#[108, 111, 97, 100]⟩, ⟨#[97, 105]⟩, ⟨#[105]⟩),
  (⟨#[115, 116, 111, 114, 101]⟩, ⟨#[97, 105, 105]⟩, ⟨#[]⟩),
  (⟨#[110, 101, 119]⟩, ⟨#[105]⟩, ⟨#[97]⟩),
  (⟨#[110, 105, 108]⟩, ⟨#[]⟩, ⟨#[97]⟩),
  (⟨#[111, 117, 116]⟩, ⟨#[105]⟩, ⟨#[]⟩),
  (⟨#[99, 104, 107, 105, 100, 120]⟩, ⟨#[97, 105]⟩, ⟨#[]⟩),
  (⟨#[99, 104, 107, 110, 105, 108]⟩, ⟨#[97]⟩, ⟨#[]⟩),
  (⟨#[99, 104, 107, 100, 105, 118]⟩, ⟨#[105]⟩, ⟨#[]⟩),
  (⟨#[99, 104, 107, 97, 100, 100]⟩, ⟨#[105, 105]⟩, ⟨#[]⟩),
  (⟨#[99, 104, 107, 115, 117, 98]⟩, ⟨#[105, 105]⟩, ⟨#[]⟩),
  (⟨#[99, 104, 107, 109, 117, 108]⟩, ⟨#[105, 105]⟩, ⟨#[]⟩),
  (⟨#[99, 104, 107, 108, 101, 110]⟩, ⟨#[105]⟩, ⟨#[]⟩),
  (⟨#[112, 105]⟩, ⟨#[105, 105]⟩, ⟨#[105]⟩),
  (⟨#[112, 105, 108, 101, 110]⟩, ⟨#[105, 97]⟩, ⟨#[105]⟩)]
def kRow (op : Int) : ByteArray × ByteArray × ByteArray := if 0 ≤ op then kindT[op.toNat]?.getD (⟨#[]⟩, ⟨#[]⟩, ⟨#[]⟩) else (⟨#[]⟩, ⟨#[]⟩, ⟨#[]⟩)
def isOp (op : Int) : Bool := decide (0 ≤ op) && decide (op < 27)
def encK (r : ByteArray × ByteArray × ByteArray) : List AV := [.str r.1, .str r.2.1, .str r.2.2]

theorem is_spec (op : Int) : AFun Tryd.prog E 51 [.int .i64 op] (.bool (isOp op)) := by
  refine ACall.intro Tryd.func51 rfl (by decide) rfl ?_
  refine AWP.seq ?_
  refine AWP.region rfl ?_
  refine AOps.val (Gv.assign (v := .bool _) rfl) ?_
  refine AOps.nil ?_
  refine AWP.seq ?_
  refine AWP.region rfl ?_
  refine AOps.val (Gv.move (v := .int _ _) rfl) ?_
  refine AOps.val (Gv.geq rfl rfl) ?_
  refine AOps.val (Gv.move (v := .bool _) rfl) ?_
  refine AOps.case (s := 5) rfl (fun c1 => ?_) (fun c1 => ?_)
  · skip
    refine AOps.guardT rfl rfl c1 ?_
    refine AOps.val (Gv.move (v := .int _ _) rfl) ?_
    refine AOps.guardT rfl rfl c1 ?_
    refine AOps.val (Gv.lss rfl rfl) ?_
    refine AOps.val (Gv.pickT (v := .bool _) rfl c1 rfl) ?_
    refine AOps.val (Gv.assign (v := .bool _) rfl) ?_
    refine AOps.nil ?_
    refine AWP.ret ?_
    repeat (first | refine aseqQ_ret ?_ | refine ablockQ_ret ?_)
    refine afin.t1 (x := .bool _) rfl ?_
    simp_all [isOp] <;> omega
  · skip
    refine AOps.guardFd rfl rfl c1 ?_
    refine AOps.guardFd rfl rfl c1 ?_
    refine AOps.val (Gv.pickF (v := .bool _) rfl c1 rfl) ?_
    refine AOps.val (Gv.assign (v := .bool _) rfl) ?_
    refine AOps.nil ?_
    refine AWP.ret ?_
    repeat (first | refine aseqQ_ret ?_ | refine ablockQ_ret ?_)
    refine afin.t1 (x := .bool _) rfl ?_
    simp_all [isOp] <;> omega

set_option maxHeartbeats 4000000 in
theorem kinds_spec : AFun Tryd.prog E 52 [] (.agg (kindT.flatMap encK)) := by
  refine ACall.intro Tryd.func52 rfl (by decide) rfl ?_
  refine AWP.seq ?_
  refine AWP.region rfl ?_
  refine AOps.alloc (cs := [.str ⟨#[]⟩, .str ⟨#[]⟩, .str ⟨#[]⟩, .str ⟨#[]⟩, .str ⟨#[]⟩, .str ⟨#[]⟩, .str ⟨#[]⟩, .str ⟨#[]⟩, .str ⟨#[]⟩, .str ⟨#[]⟩, .str ⟨#[]⟩, .str ⟨#[]⟩, .str ⟨#[]⟩, .str ⟨#[]⟩, .str ⟨#[]⟩, .str ⟨#[]⟩, .str ⟨#[]⟩, .str ⟨#[]⟩, .str ⟨#[]⟩, .str ⟨#[]⟩, .str ⟨#[]⟩, .str ⟨#[]⟩, .str ⟨#[]⟩, .str ⟨#[]⟩, .str ⟨#[]⟩, .str ⟨#[]⟩, .str ⟨#[]⟩, .str ⟨#[]⟩, .str ⟨#[]⟩, .str ⟨#[]⟩, .str ⟨#[]⟩, .str ⟨#[]⟩, .str ⟨#[]⟩, .str ⟨#[]⟩, .str ⟨#[]⟩, .str ⟨#[]⟩, .str ⟨#[]⟩, .str ⟨#[]⟩, .str ⟨#[]⟩, .str ⟨#[]⟩, .str ⟨#[]⟩, .str ⟨#[]⟩, .str ⟨#[]⟩, .str ⟨#[]⟩, .str ⟨#[]⟩, .str ⟨#[]⟩, .str ⟨#[]⟩, .str ⟨#[]⟩, .str ⟨#[]⟩, .str ⟨#[]⟩, .str ⟨#[]⟩, .str ⟨#[]⟩, .str ⟨#[]⟩, .str ⟨#[]⟩, .str ⟨#[]⟩, .str ⟨#[]⟩, .str ⟨#[]⟩, .str ⟨#[]⟩, .str ⟨#[]⟩, .str ⟨#[]⟩, .str ⟨#[]⟩, .str ⟨#[]⟩, .str ⟨#[]⟩, .str ⟨#[]⟩, .str ⟨#[]⟩, .str ⟨#[]⟩, .str ⟨#[]⟩, .str ⟨#[]⟩, .str ⟨#[]⟩, .str ⟨#[]⟩, .str ⟨#[]⟩, .str ⟨#[]⟩, .str ⟨#[]⟩, .str ⟨#[]⟩, .str ⟨#[]⟩, .str ⟨#[]⟩, .str ⟨#[]⟩, .str ⟨#[]⟩, .str ⟨#[]⟩, .str ⟨#[]⟩, .str ⟨#[]⟩]) Tryd.zeroValue100 rfl rfl ?_
  intro i0
  refine AOps.nil ?_
  refine AWP.seq ?_
  refine AWP.region rfl ?_
  refine AOps.val (Gv.build (cps := [(0, [_]), (1, [_]), (2, [_])]) (rs := [_, _, _]) pl84 rfl rfl rfl) ?_
  refine AOps.val (Gv.build (cps := [(0, [_]), (1, [_]), (2, [_])]) (rs := [_, _, _]) pl84 rfl rfl rfl) ?_
  refine AOps.val (Gv.build (cps := [(0, [_]), (1, [_]), (2, [_])]) (rs := [_, _, _]) pl84 rfl rfl rfl) ?_
  refine AOps.val (Gv.build (cps := [(0, [_]), (1, [_]), (2, [_])]) (rs := [_, _, _]) pl84 rfl rfl rfl) ?_
  refine AOps.val (Gv.build (cps := [(0, [_]), (1, [_]), (2, [_])]) (rs := [_, _, _]) pl84 rfl rfl rfl) ?_
  refine AOps.val (Gv.build (cps := [(0, [_]), (1, [_]), (2, [_])]) (rs := [_, _, _]) pl84 rfl rfl rfl) ?_
  refine AOps.val (Gv.build (cps := [(0, [_]), (1, [_]), (2, [_])]) (rs := [_, _, _]) pl84 rfl rfl rfl) ?_
  refine AOps.val (Gv.build (cps := [(0, [_]), (1, [_]), (2, [_])]) (rs := [_, _, _]) pl84 rfl rfl rfl) ?_
  refine AOps.val (Gv.build (cps := [(0, [_]), (1, [_]), (2, [_])]) (rs := [_, _, _]) pl84 rfl rfl rfl) ?_
  refine AOps.val (Gv.build (cps := [(0, [_]), (1, [_]), (2, [_])]) (rs := [_, _, _]) pl84 rfl rfl rfl) ?_
  refine AOps.val (Gv.build (cps := [(0, [_]), (1, [_]), (2, [_])]) (rs := [_, _, _]) pl84 rfl rfl rfl) ?_
  refine AOps.val (Gv.build (cps := [(0, [_]), (1, [_]), (2, [_])]) (rs := [_, _, _]) pl84 rfl rfl rfl) ?_
  refine AOps.val (Gv.build (cps := [(0, [_]), (1, [_]), (2, [_])]) (rs := [_, _, _]) pl84 rfl rfl rfl) ?_
  refine AOps.val (Gv.build (cps := [(0, [_]), (1, [_]), (2, [_])]) (rs := [_, _, _]) pl84 rfl rfl rfl) ?_
  refine AOps.val (Gv.build (cps := [(0, [_]), (1, [_]), (2, [_])]) (rs := [_, _, _]) pl84 rfl rfl rfl) ?_
  refine AOps.val (Gv.build (cps := [(0, [_]), (1, [_]), (2, [_])]) (rs := [_, _, _]) pl84 rfl rfl rfl) ?_
  refine AOps.val (Gv.build (cps := [(0, [_]), (1, [_]), (2, [_])]) (rs := [_, _, _]) pl84 rfl rfl rfl) ?_
  refine AOps.val (Gv.build (cps := [(0, [_]), (1, [_]), (2, [_])]) (rs := [_, _, _]) pl84 rfl rfl rfl) ?_
  refine AOps.val (Gv.build (cps := [(0, [_]), (1, [_]), (2, [_])]) (rs := [_, _, _]) pl84 rfl rfl rfl) ?_
  refine AOps.val (Gv.build (cps := [(0, [_]), (1, [_]), (2, [_])]) (rs := [_, _, _]) pl84 rfl rfl rfl) ?_
  refine AOps.val (Gv.build (cps := [(0, [_]), (1, [_]), (2, [_])]) (rs := [_, _, _]) pl84 rfl rfl rfl) ?_
  refine AOps.val (Gv.build (cps := [(0, [_]), (1, [_]), (2, [_])]) (rs := [_, _, _]) pl84 rfl rfl rfl) ?_
  refine AOps.val (Gv.build (cps := [(0, [_]), (1, [_]), (2, [_])]) (rs := [_, _, _]) pl84 rfl rfl rfl) ?_
  refine AOps.val (Gv.build (cps := [(0, [_]), (1, [_]), (2, [_])]) (rs := [_, _, _]) pl84 rfl rfl rfl) ?_
  refine AOps.val (Gv.build (cps := [(0, [_]), (1, [_]), (2, [_])]) (rs := [_, _, _]) pl84 rfl rfl rfl) ?_
  refine AOps.val (Gv.build (cps := [(0, [_]), (1, [_]), (2, [_])]) (rs := [_, _, _]) pl84 rfl rfl rfl) ?_
  refine AOps.val (Gv.build (cps := [(0, [_]), (1, [_]), (2, [_])]) (rs := [_, _, _]) pl84 rfl rfl rfl) ?_
  refine AOps.val (Gv.buildAF (xs := [[_, _, _], [_, _, _], [_, _, _], [_, _, _], [_, _, _], [_, _, _], [_, _, _], [_, _, _], [_, _, _], [_, _, _], [_, _, _], [_, _, _], [_, _, _], [_, _, _], [_, _, _], [_, _, _], [_, _, _], [_, _, _], [_, _, _], [_, _, _], [_, _, _], [_, _, _], [_, _, _], [_, _, _], [_, _, _], [_, _, _], [_, _, _]]) pl100 rfl rfl rfl rfl) ?_
  refine AOps.storeW Tryd.sizeOf100 rfl rfl rfl rfl rfl rfl .head rfl ?_
  refine AOps.nil ?_
  refine AWP.ret ?_
  repeat (first | refine aseqQ_ret ?_ | refine ablockQ_ret ?_)
  refine afin.c1 rfl ⟨_, .head⟩ Tryd.isAgg100 Tryd.sizeOf100 rfl ?_
  rfl

theorem kRow_out {op : Int} (h : isOp op = false) : kRow op = (⟨#[]⟩, ⟨#[]⟩, ⟨#[]⟩) := by
  unfold isOp at h
  unfold kRow
  split
  · rename_i h0
    have : ¬ op < 27 := by simpa [h0] using h
    rw [List.getElem?_eq_none (by show 27 ≤ _; omega)]; rfl
  · rfl
theorem kRow_at {op : Int} (h : isOp op = true) : ∃ j : Nat, op = (j : Int) ∧ j < 27 ∧ ((kindT.flatMap encK).drop (j * 3)).take 3 = encK (kRow op) := by
  unfold isOp at h
  simp at h
  obtain ⟨j, rfl⟩ : ∃ j : Nat, op = j := ⟨op.toNat, by omega⟩
  have hj : j < 27 := by omega
  refine ⟨j, rfl, hj, flat_at (enc := encK) (k := 3) (fun _ => rfl) _ _ ?_⟩
  unfold kRow
  rw [if_pos h.1, Int.toNat_natCast, List.getElem?_eq_getElem (show j < kindT.length from hj)]; rfl

theorem of_spec (op : Int) : AFun Tryd.prog E 41 [.int .i64 op] (.agg (encK (kRow op))) := by
  refine ACall.intro Tryd.func41 rfl (by decide) rfl ?_
  refine AWP.seq ?_
  refine AWP.region rfl ?_
  refine AOps.alloc (cs := [.str ⟨#[]⟩, .str ⟨#[]⟩, .str ⟨#[]⟩]) Tryd.zeroValue84 rfl rfl ?_
  intro i2
  refine AOps.nil ?_
  refine AWP.seq ?_
  refine AWP.seq ?_
  refine AWP.region rfl ?_
  refine AOps.val (Gv.move (v := .int _ _) rfl) ?_
  refine AOps.callP (is_spec _) rfl ?_
  refine AOps.val (Gv.not rfl) ?_
  refine AOps.nil ?_
  refine AWP.cond rfl (fun c => ?_) (fun c => ?_)
  · skip
    have c : isOp op = false := by simpa using c
    rw [kRow_out c]
    refine AWP.seq ?_
    refine AWP.region rfl ?_
    refine AOps.val (Gv.build (cps := []) (rs := [.str ⟨#[]⟩, .str ⟨#[]⟩, .str ⟨#[]⟩]) pl84 rfl rfl rfl) ?_
    refine AOps.storeW Tryd.sizeOf84 rfl rfl rfl rfl rfl rfl .head rfl ?_
    refine AOps.nil ?_
    refine AWP.ret ?_
    repeat (first | refine aseqQ_ret ?_ | refine ablockQ_ret ?_)
    refine afin.c1 rfl ⟨_, .head⟩ Tryd.isAgg84 Tryd.sizeOf84 rfl ?_
    rfl
  · skip
    have c : isOp op = true := by simpa using c
    obtain ⟨j, hj1, hj2, hj3⟩ := kRow_at c
    refine AWP.skip ?_
    refine AWP.seq ?_
    refine AWP.region rfl ?_
    refine AOps.callP (kinds_spec) rfl ?_
    refine AOps.val (Gv.move (v := .int _ _) rfl) ?_
    refine AOps.val (Gv.indexA Tryd.underlying100 Tryd.isAgg84 Tryd.sizeOf84 rfl rfl hj1 hj2 hj3) ?_
    refine AOps.storeW Tryd.sizeOf84 rfl rfl rfl rfl rfl rfl .head rfl ?_
    refine AOps.nil ?_
    refine AWP.ret ?_
    repeat (first | refine aseqQ_ret ?_ | refine ablockQ_ret ?_)
    refine afin.c1 rfl ⟨_, .head⟩ Tryd.isAgg84 Tryd.sizeOf84 rfl ?_
    rfl

theorem word_spec (op : Int) : AFun Tryd.prog E 25 [.int .i64 op] (.str (kRow op).1) := by
  refine ACall.intro Tryd.func25 rfl (by decide) rfl ?_
  refine AWP.seq ?_
  refine AWP.region rfl ?_
  refine AOps.val (Gv.assign (v := .str _) rfl) ?_
  refine AOps.nil ?_
  refine AWP.seq ?_
  refine AWP.region rfl ?_
  refine AOps.val (Gv.move (v := .int _ _) rfl) ?_
  refine AOps.callP (of_spec _) rfl ?_
  refine AOps.val (Gv.field1 (v := .str _) Tryd.underlying84 rfl Tryd.isAgg9 rfl rfl) ?_
  refine AOps.val (Gv.assign (v := .str _) rfl) ?_
  refine AOps.nil ?_
  refine AWP.ret ?_
  repeat (first | refine aseqQ_ret ?_ | refine ablockQ_ret ?_)
  refine afin.t1 (x := .str _) rfl ?_
  rfl

def isNum (op : Int) : Bool := decide (op = 0) || decide (op = 25)
theorem numbered_spec (op : Int) : AFun Tryd.prog E 26 [.int .i64 op] (.bool (isNum op)) := by
  refine ACall.intro Tryd.func26 rfl (by decide) rfl ?_
  refine AWP.seq ?_
  refine AWP.region rfl ?_
  refine AOps.val (Gv.assign (v := .bool _) rfl) ?_
  refine AOps.nil ?_
  refine AWP.seq ?_
  refine AWP.region rfl ?_
  refine AOps.val (Gv.move (v := .int _ _) rfl) ?_
  refine AOps.val (Gv.eqlI rfl rfl) ?_
  refine AOps.val (Gv.move (v := .bool _) rfl) ?_
  refine AOps.case (s := 5) rfl (fun c2 => ?_) (fun c2 => ?_)
  · skip
    refine AOps.guardFd rfl rfl c2 ?_
    refine AOps.guardFd rfl rfl c2 ?_
    refine AOps.val (Gv.pickT (v := .bool _) rfl c2 rfl) ?_
    refine AOps.val (Gv.assign (v := .bool _) rfl) ?_
    refine AOps.nil ?_
    refine AWP.ret ?_
    repeat (first | refine aseqQ_ret ?_ | refine ablockQ_ret ?_)
    refine afin.t1 (x := .bool _) rfl ?_
    simp_all [isNum]
  · skip
    refine AOps.guardT rfl rfl c2 ?_
    refine AOps.val (Gv.move (v := .int _ _) rfl) ?_
    refine AOps.guardT rfl rfl c2 ?_
    refine AOps.val (Gv.eqlI rfl rfl) ?_
    refine AOps.val (Gv.pickF (v := .bool _) rfl c2 rfl) ?_
    refine AOps.val (Gv.assign (v := .bool _) rfl) ?_
    refine AOps.nil ?_
    refine AWP.ret ?_
    repeat (first | refine aseqQ_ret ?_ | refine ablockQ_ret ?_)
    refine afin.t1 (x := .bool _) rfl ?_
    simp_all [isNum]

def typeOf (c : Int) : Int := if c = 98 then 1 else if c = 97 then 2 else 0
theorem typed_spec (c : Int) : AFun Tryd.prog E 48 [.int .i32 c] (.int .i64 (typeOf c)) := by
  refine ACall.intro Tryd.func48 rfl (by decide) rfl ?_
  refine AWP.seq ?_
  refine AWP.region rfl ?_
  refine AOps.val (Gv.assign (v := .int _ _) rfl) ?_
  refine AOps.nil ?_
  refine AWP.seq ?_
  refine AWP.seq ?_
  refine AWP.region rfl ?_
  refine AOps.val (Gv.move (v := .int _ _) rfl) ?_
  refine AOps.nil ?_
  refine AWP.block ?_
  refine AWP.seq ?_
  refine AWP.region rfl ?_
  refine AOps.val (Gv.eqlI rfl rfl) ?_
  refine AOps.val (Gv.assign (v := .bool _) rfl) ?_
  refine AOps.nil ?_
  refine AWP.cond rfl (fun c3 => ?_) (fun c3 => ?_)
  · skip
    refine AWP.seq ?_
    refine AWP.region rfl ?_
    refine AOps.val (Gv.assign (v := .int _ _) rfl) ?_
    refine AOps.nil ?_
    refine AWP.ret ?_
    repeat (first | refine aseqQ_ret ?_ | refine ablockQ_ret ?_)
    refine afin.t1 (x := .int _ _) rfl ?_
    simp_all [typeOf]
  · skip
    refine AWP.seq ?_
    refine AWP.region rfl ?_
    refine AOps.val (Gv.eqlI rfl rfl) ?_
    refine AOps.val (Gv.assign (v := .bool _) rfl) ?_
    refine AOps.nil ?_
    refine AWP.cond rfl (fun c4 => ?_) (fun c4 => ?_)
    · skip
      refine AWP.seq ?_
      refine AWP.region rfl ?_
      refine AOps.val (Gv.assign (v := .int _ _) rfl) ?_
      refine AOps.nil ?_
      refine AWP.ret ?_
      repeat (first | refine aseqQ_ret ?_ | refine ablockQ_ret ?_)
      refine afin.t1 (x := .int _ _) rfl ?_
      simp_all [typeOf]
    · skip
      refine AWP.skip ?_
      refine AWP.seq ?_
      refine AWP.region rfl ?_
      refine AOps.val (Gv.assign (v := .int _ _) rfl) ?_
      refine AOps.nil ?_
      refine AWP.ret ?_
      repeat (first | refine aseqQ_ret ?_ | refine ablockQ_ret ?_)
      refine afin.t1 (x := .int _ _) rfl ?_
      simp_all [typeOf]

theorem kT_ascii : ∀ r ∈ kindT, (∀ b ∈ r.2.1.data.toList, b < 128) ∧ (∀ b ∈ r.2.2.data.toList, b < 128) := by decide
theorem kRow_mem (op : Int) : kRow op = (⟨#[]⟩, ⟨#[]⟩, ⟨#[]⟩) ∨ kRow op ∈ kindT := by
  unfold kRow
  split
  · cases h : kindT[op.toNat]? with
    | none => exact .inl rfl
    | some r => exact .inr (List.mem_of_getElem? h)
  · exact .inl rfl
theorem kRow_ascii (op : Int) : (∀ b ∈ (kRow op).2.1.data.toList, b < 128) ∧ (∀ b ∈ (kRow op).2.2.data.toList, b < 128) := by
  rcases kRow_mem op with h | h
  · rw [h]; simp
  · exact kT_ascii _ h

def takesL (op : Int) : List Int := (kRow op).2.1.data.toList.map fun b => typeOf b.toNat
def makesT (op : Int) : Int := ((kRow op).2.2.data.toList.head?.map fun b => typeOf b.toNat).getD 0
def makesB (op : Int) : Bool := !(kRow op).2.2.data.toList.isEmpty
end Go.Proofs.YtlfhoiakmbcnlaaDoor
