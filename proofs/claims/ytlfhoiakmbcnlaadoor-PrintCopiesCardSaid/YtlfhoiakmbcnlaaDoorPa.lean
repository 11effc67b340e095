/- When programs are the same: the printer's and the document's answer. No conditions but bounds. -/
import Derived.Test.YtlfhoiakmbcnlaaDoorRp
namespace Go.Proofs.YtlfhoiakmbcnlaaDoor
open Go.Proofs

variable {E : World}
set_option maxRecDepth 20000

def okL {α : Type} (l : List α) : Prop := l.length ≤ 140737488355328
def okPhi (p : PPhi) : Prop := okL p.args ∧ okL p.from_
def okBlk (b : PBlock) : Prop := okL b.phis ∧ okL b.insts ∧ (∀ p ∈ b.phis, okPhi p) ∧ (∀ x ∈ b.insts, okL x.args)
def okFunc (f : PFunc) : Prop := okL f.vars ∧ okL f.params ∧ okL f.blocks ∧ ∀ b ∈ f.blocks, okBlk b
theorem okL.lt {α : Type} {l : List α} (h : okL l) : l.length ≤ 140737488355328 := h
theorem jb {x y : Bool} (h : x = y) : AV.bool x = AV.bool y := congrArg AV.bool h

theorem eq_var (a c : ByteArray) (b d : Int) (w : World) : (Op.equalIn 10000 47 (.agg [.string a, .int .i64 b].toArray) (.agg [.string c, .int .i64 d].toArray)).run Tryd.prog w = .ok (decide (a = c ∧ b = d)) w := by
  have hS : Tryd.prog.underlying 47 = some (.struct (Tryd.prog.fieldsOf 47)) := by kernel_rfl
  have hp : Tryd.prog.stoodInHeld 47 = false := by kernel_rfl
  rw [show (10000 : Nat) = 9999 + 1 from rfl, run_equalIn_agg w 9999 _ _ _ hS hp]
  simp only [Program.fieldsOf, Tryd.underlying47]
  simp [Op.eqFields, part, Tryd.isAgg9, Tryd.isAgg45, run_equalIn_string, run_equalIn_int, Tryd.underlying9, Tryd.underlying45]
  have e := bytes_eq a c
  by_cases h1 : a = c
  · subst h1; by_cases h2 : b = d <;> simp [h2]
  · have h3 : ¬ a.toList = c.toList := by simpa [h1] using e
    simp [h1, h3]

theorem eq_arr (a b c d : Int) (w : World) (m : Nat) : (Op.equalIn (m + 2) 35 (.agg [.int .i64 a, .int .i64 b].toArray) (.agg [.int .i64 c, .int .i64 d].toArray)).run Tryd.prog w = .ok (decide (a = c ∧ b = d)) w := by
  rw [Op.equalIn]
  simp only [Sem.run_bind, run_underlying Tryd.underlying35, Result.andThen_ok]
  simp only [Std.Legacy.Range.forIn_eq_forIn_range', Std.Legacy.Range.size, Nat.sub_zero, Nat.add_sub_cancel, Nat.div_one, List.range'_succ, List.range'_zero, List.forIn_cons, List.forIn_nil]
  simp [part, Tryd.isAgg3, Tryd.sizeOf3, run_equalIn_int, Tryd.underlying3]
  by_cases h1 : a = c <;> by_cases h2 : b = d <;> simp [h1, h2]

theorem eq_term (k v t0 t1 k' v' t0' t1' : Int) (w : World) : (Op.equalIn 10000 37 (.agg [.int .i64 k, .int .i64 v, .int .i64 t0, .int .i64 t1].toArray) (.agg [.int .i64 k', .int .i64 v', .int .i64 t0', .int .i64 t1'].toArray)).run Tryd.prog w = .ok (decide (k = k' ∧ v = v' ∧ t0 = t0' ∧ t1 = t1')) w := by
  have hS : Tryd.prog.underlying 37 = some (.struct (Tryd.prog.fieldsOf 37)) := by kernel_rfl
  have hp : Tryd.prog.stoodInHeld 37 = false := by kernel_rfl
  rw [show (10000 : Nat) = 9999 + 1 from rfl, run_equalIn_agg w 9999 _ _ _ hS hp]
  simp only [Program.fieldsOf, Tryd.underlying37]
  have ha : (Op.equalIn 9999 35 (.agg #[.int .i64 t0, .int .i64 t1]) (.agg #[.int .i64 t0', .int .i64 t1'])).run Tryd.prog w = .ok (decide (t0 = t0' ∧ t1 = t1')) w := eq_arr t0 t1 t0' t1' w 9997
  simp [Op.eqFields, part, Tryd.isAgg3, Tryd.isAgg34, Tryd.isAgg35, Tryd.sizeOf35, run_equalIn_int, Tryd.underlying3, Tryd.underlying34, ha]
  by_cases h1 : k = k' <;> by_cases h2 : v = v' <;> by_cases h3 : t0 = t0' <;> by_cases h4 : t1 = t1' <;> simp [h1, h2, h3, h4]


theorem var_iff (x y : PVar) : decide (x = y) = decide (x.name = y.name ∧ x.ty = y.ty) := by
  cases x; cases y; simp
theorem term_iff (x y : PTerm) : decide (x = y) = decide (x.kind = y.kind ∧ x.var = y.var ∧ x.to0 = y.to0 ∧ x.to1 = y.to1) := by
  cases x; cases y; simp
theorem phi_iff (x y : PPhi) : decide (x = y) = (decide (x.dst = y.dst) && decide (x.args = y.args) && decide (x.from_ = y.from_)) := by
  cases x; cases y; simp [Bool.and_assoc]
theorem inst_iff (x y : PInst) : decide (x = y) = (decide (x.op = y.op) && decide (x.dst = y.dst) && decide (x.num = y.num) && decide (x.args = y.args)) := by
  cases x; cases y; apply Bool.eq_iff_iff.2; simp; constructor <;> (intro h; simp_all)
theorem blk_iff (x y : PBlock) : decide (x = y) = (decide (x.name = y.name) && decide (x.term = y.term) && decide (x.phis = y.phis) && decide (x.insts = y.insts)) := by
  cases x; cases y; apply Bool.eq_iff_iff.2; simp; constructor <;> (intro h; simp_all)
theorem var_ext {x y : PVar} (h : x.name = y.name ∧ x.ty = y.ty) : x = y := by
  cases x; cases y; simp_all
theorem func_iff (x y : PFunc) : decide (x = y) = (decide (x.vars = y.vars) && decide (x.params = y.params) && decide (x.blocks = y.blocks)) := by
  cases x; cases y; simp [Bool.and_assoc]

theorem equalI_spec (xs ys : List Int) (hl : okL xs) : AFun Tryd.prog E 18 [.fro 1 (xs.map encI), .fro 1 (ys.map encI)] (.bool (decide (xs = ys))) := by
  have hl := hl.lt
  refine ACall.intro Tryd.func18 rfl (by decide) rfl ?_
  refine AWP.seq ?_
  refine AWP.region rfl ?_
  refine AOps.val (Gv.assign (v := .bool _) rfl) ?_
  refine AOps.nil ?_
  refine AWP.seq ?_
  refine AWP.seq ?_
  refine AWP.region rfl ?_
  refine AOps.val (Gv.move (v := .fro _ _) rfl) ?_
  refine AOps.val (Gv.lenM Tryd.underlying23 rfl) ?_
  refine AOps.val (Gv.move (v := .fro _ _) rfl) ?_
  refine AOps.val (Gv.lenM Tryd.underlying23 rfl) ?_
  refine AOps.val (Gv.neqI rfl rfl) ?_
  refine AOps.nil ?_
  refine AWP.cond rfl (fun c0 => ?_) (fun c0 => ?_)
  · skip
    have h : ¬ xs = ys := fun e => by subst e; simp at c0
    refine AWP.seq ?_
    refine AWP.region rfl ?_
    refine AOps.val (Gv.assign (v := .bool _) rfl) ?_
    refine AOps.nil ?_
    refine AWP.ret ?_
    repeat (first | refine aseqQ_ret ?_ | refine ablockQ_ret ?_)
    refine afin.t1 (x := .bool _) rfl ?_
    rw [decide_eq_false h]
  · skip
    have hl2 : xs.length = ys.length := by simp at c0; omega
    refine AWP.skip ?_
    refine AWP.seq ?_
    refine AWP.seq ?_
    refine AWP.region rfl ?_
    refine AOps.val (Gv.move (v := .fro _ _) rfl) ?_
    refine AOps.val (Gv.lenM Tryd.underlying23 rfl) ?_
    refine AOps.val (Gv.move (v := .int _ _) rfl) ?_
    refine AOps.nil ?_
    refine AWP.block ?_
    refine AWP.loop (γ := Nat) [0, 1, 12] (fun k => [(13, .int .i64 k)]) (fun k => []) (fun k => k ≤ xs.length ∧ xs.take k = ys.take k) (fun k => xs.length - k) 0 ⟨rfl, trivial⟩ ⟨_, (.refl _), rfl⟩ (⟨Nat.zero_le _, rfl⟩) ?_
    rintro k ⟨hk, he⟩
    refine AWP.seq ?_
    refine AWP.region rfl ?_
    refine AOps.val (Gv.lss rfl rfl) ?_
    refine AOps.nil ?_
    refine AWP.seq ?_
    refine AWP.condP rfl (fun ck => ?_) (fun ck => ?_)
    · skip
      have hk2 : k < xs.length := by omega
      have hk3 : k < ys.length := by omega
      refine AWP.skip ?_
      refine AWP.seq ?_
      refine AWP.block ?_
      refine AWP.seq ?_
      refine AWP.region rfl ?_
      refine AOps.val (Gv.move (v := .int _ _) rfl) ?_
      refine AOps.val (Gv.assign (v := .int _ _) rfl) ?_
      refine AOps.nil ?_
      refine AWP.seq ?_
      refine AWP.regionDraw (fun j => false) (by kernel_rfl) rfl (Part.perm (.rest _)) ?_
      refine AAny.take (i := 0) rfl (by kernel_rfl) (by kernel_rfl) (by kernel_rfl) (by kernel_rfl) (Gv.move (v := .fro _ _) rfl) ?_
      refine AAny.take (i := 1) rfl (by kernel_rfl) (by kernel_rfl) (by kernel_rfl) (by kernel_rfl) (Gv.move (v := .int _ _) rfl) ?_
      refine AAny.take (i := 2) rfl (by kernel_rfl) (by kernel_rfl) (by kernel_rfl) (by kernel_rfl) (Gv.idxM Tryd.underlying23 Tryd.sizeOf3 rfl rfl rfl (List.getElem?_eq_getElem (by omega))) ?_
      refine AAny.take (i := 3) rfl (by kernel_rfl) (by kernel_rfl) (by kernel_rfl) (by kernel_rfl) (Gv.load1F (c := .int _ _) Tryd.isAgg3 rfl) ?_
      refine AAny.take (i := 4) rfl (by kernel_rfl) (by kernel_rfl) (by kernel_rfl) (by kernel_rfl) (Gv.move (v := .fro _ _) rfl) ?_
      refine AAny.take (i := 5) rfl (by kernel_rfl) (by kernel_rfl) (by kernel_rfl) (by kernel_rfl) (Gv.move (v := .int _ _) rfl) ?_
      refine AAny.take (i := 6) rfl (by kernel_rfl) (by kernel_rfl) (by kernel_rfl) (by kernel_rfl) (Gv.idxM Tryd.underlying23 Tryd.sizeOf3 rfl rfl rfl (List.getElem?_eq_getElem (by omega))) ?_
      refine AAny.take (i := 7) rfl (by kernel_rfl) (by kernel_rfl) (by kernel_rfl) (by kernel_rfl) (Gv.load1F (c := .int _ _) Tryd.isAgg3 rfl) ?_
      refine AAny.take (i := 8) rfl (by kernel_rfl) (by kernel_rfl) (by kernel_rfl) (by kernel_rfl) (Gv.neqI rfl rfl) ?_
      refine AAny.done (by kernel_rfl) ?_
      refine AWP.cond rfl (fun cd => ?_) (fun cd => ?_)
      · skip
        refine AWP.seq ?_
        refine AWP.region rfl ?_
        refine AOps.val (Gv.assign (v := .bool _) rfl) ?_
        refine AOps.nil ?_
        refine AWP.ret ?_
        repeat (first | refine aseqQ_ret ?_ | refine ablockQ_ret ?_)
        refine afin.t1 (x := .bool _) rfl ?_
        rw [decide_eq_false (ne_at hk2 hk3 (by simpa using cd))]
      · skip
        refine AWP.skip ?_
        refine AWP.region rfl ?_
        refine AOps.val (Gv.add rfl rfl (by unfold I64; omega)) ?_
        refine AOps.val (Gv.move (v := .int _ _) rfl) ?_
        refine AOps.nil ?_
        exact ⟨k + 1, ⟨rfl, rfl, rfl, trivial⟩, ⟨rfl, trivial⟩, ⟨_, (.refl _), rfl⟩, ⟨hk2, take_push hk2 hk3 he (by simpa using cd)⟩, by omega⟩
    · skip
      refine AWP.exit ?_
      refine AWP.seq ?_
      refine AWP.region rfl ?_
      refine AOps.val (Gv.assign (v := .bool _) rfl) ?_
      refine AOps.nil ?_
      refine AWP.ret ?_
      repeat (first | refine aseqQ_ret ?_ | refine ablockQ_ret ?_)
      refine afin.t1 (x := .bool _) rfl ?_
      rw [decide_eq_true (take_done hl2 (by omega) he)]


theorem ints_spec (xs ys : List Int) (hl : okL xs) : AFun Tryd.prog E 16 [.fro 1 (xs.map encI), .fro 1 (ys.map encI)] (.bool (decide (xs = ys))) := by
  have hl := hl.lt
  refine ACall.intro Tryd.func16 rfl (by decide) rfl ?_
  refine AWP.seq ?_
  refine AWP.region rfl ?_
  refine AOps.val (Gv.assign (v := .bool _) rfl) ?_
  refine AOps.nil ?_
  refine AWP.seq ?_
  refine AWP.seq ?_
  refine AWP.region rfl ?_
  refine AOps.val (Gv.move (v := .fro _ _) rfl) ?_
  refine AOps.val (Gv.lenM Tryd.underlying23 rfl) ?_
  refine AOps.val (Gv.move (v := .fro _ _) rfl) ?_
  refine AOps.val (Gv.lenM Tryd.underlying23 rfl) ?_
  refine AOps.val (Gv.neqI rfl rfl) ?_
  refine AOps.nil ?_
  refine AWP.cond rfl (fun c0 => ?_) (fun c0 => ?_)
  · skip
    have h : ¬ xs = ys := fun e => by subst e; simp at c0
    refine AWP.seq ?_
    refine AWP.region rfl ?_
    refine AOps.val (Gv.assign (v := .bool _) rfl) ?_
    refine AOps.nil ?_
    refine AWP.ret ?_
    repeat (first | refine aseqQ_ret ?_ | refine ablockQ_ret ?_)
    refine afin.t1 (x := .bool _) rfl ?_
    rw [decide_eq_false h]
  · skip
    have hl2 : xs.length = ys.length := by simp at c0; omega
    refine AWP.skip ?_
    refine AWP.seq ?_
    refine AWP.seq ?_
    refine AWP.region rfl ?_
    refine AOps.val (Gv.move (v := .fro _ _) rfl) ?_
    refine AOps.val (Gv.lenM Tryd.underlying23 rfl) ?_
    refine AOps.val (Gv.move (v := .int _ _) rfl) ?_
    refine AOps.nil ?_
    refine AWP.block ?_
    refine AWP.loop (γ := Nat) [0, 1, 12] (fun k => [(13, .int .i64 k)]) (fun k => []) (fun k => k ≤ xs.length ∧ xs.take k = ys.take k) (fun k => xs.length - k) 0 ⟨rfl, trivial⟩ ⟨_, (.refl _), rfl⟩ (⟨Nat.zero_le _, rfl⟩) ?_
    rintro k ⟨hk, he⟩
    refine AWP.seq ?_
    refine AWP.region rfl ?_
    refine AOps.val (Gv.lss rfl rfl) ?_
    refine AOps.nil ?_
    refine AWP.seq ?_
    refine AWP.condP rfl (fun ck => ?_) (fun ck => ?_)
    · skip
      have hk2 : k < xs.length := by omega
      have hk3 : k < ys.length := by omega
      refine AWP.skip ?_
      refine AWP.seq ?_
      refine AWP.block ?_
      refine AWP.seq ?_
      refine AWP.region rfl ?_
      refine AOps.val (Gv.move (v := .int _ _) rfl) ?_
      refine AOps.val (Gv.assign (v := .int _ _) rfl) ?_
      refine AOps.nil ?_
      refine AWP.seq ?_
      refine AWP.regionDraw (fun j => false) (by kernel_rfl) rfl (Part.perm (.rest _)) ?_
      refine AAny.take (i := 0) rfl (by kernel_rfl) (by kernel_rfl) (by kernel_rfl) (by kernel_rfl) (Gv.move (v := .fro _ _) rfl) ?_
      refine AAny.take (i := 1) rfl (by kernel_rfl) (by kernel_rfl) (by kernel_rfl) (by kernel_rfl) (Gv.move (v := .int _ _) rfl) ?_
      refine AAny.take (i := 2) rfl (by kernel_rfl) (by kernel_rfl) (by kernel_rfl) (by kernel_rfl) (Gv.idxM Tryd.underlying23 Tryd.sizeOf3 rfl rfl rfl (List.getElem?_eq_getElem (by omega))) ?_
      refine AAny.take (i := 3) rfl (by kernel_rfl) (by kernel_rfl) (by kernel_rfl) (by kernel_rfl) (Gv.load1F (c := .int _ _) Tryd.isAgg3 rfl) ?_
      refine AAny.take (i := 4) rfl (by kernel_rfl) (by kernel_rfl) (by kernel_rfl) (by kernel_rfl) (Gv.move (v := .fro _ _) rfl) ?_
      refine AAny.take (i := 5) rfl (by kernel_rfl) (by kernel_rfl) (by kernel_rfl) (by kernel_rfl) (Gv.move (v := .int _ _) rfl) ?_
      refine AAny.take (i := 6) rfl (by kernel_rfl) (by kernel_rfl) (by kernel_rfl) (by kernel_rfl) (Gv.idxM Tryd.underlying23 Tryd.sizeOf3 rfl rfl rfl (List.getElem?_eq_getElem (by omega))) ?_
      refine AAny.take (i := 7) rfl (by kernel_rfl) (by kernel_rfl) (by kernel_rfl) (by kernel_rfl) (Gv.load1F (c := .int _ _) Tryd.isAgg3 rfl) ?_
      refine AAny.take (i := 8) rfl (by kernel_rfl) (by kernel_rfl) (by kernel_rfl) (by kernel_rfl) (Gv.neqI rfl rfl) ?_
      refine AAny.done (by kernel_rfl) ?_
      refine AWP.cond rfl (fun cd => ?_) (fun cd => ?_)
      · skip
        refine AWP.seq ?_
        refine AWP.region rfl ?_
        refine AOps.val (Gv.assign (v := .bool _) rfl) ?_
        refine AOps.nil ?_
        refine AWP.ret ?_
        repeat (first | refine aseqQ_ret ?_ | refine ablockQ_ret ?_)
        refine afin.t1 (x := .bool _) rfl ?_
        rw [decide_eq_false (ne_at hk2 hk3 (by simpa using cd))]
      · skip
        refine AWP.skip ?_
        refine AWP.region rfl ?_
        refine AOps.val (Gv.add rfl rfl (by unfold I64; omega)) ?_
        refine AOps.val (Gv.move (v := .int _ _) rfl) ?_
        refine AOps.nil ?_
        exact ⟨k + 1, ⟨rfl, rfl, rfl, trivial⟩, ⟨rfl, trivial⟩, ⟨_, (.refl _), rfl⟩, ⟨hk2, take_push hk2 hk3 he (by simpa using cd)⟩, by omega⟩
    · skip
      refine AWP.exit ?_
      refine AWP.seq ?_
      refine AWP.region rfl ?_
      refine AOps.val (Gv.assign (v := .bool _) rfl) ?_
      refine AOps.nil ?_
      refine AWP.ret ?_
      repeat (first | refine aseqQ_ret ?_ | refine ablockQ_ret ?_)
      refine afin.t1 (x := .bool _) rfl ?_
      rw [decide_eq_true (take_done hl2 (by omega) he)]

theorem equalV_spec (xs ys : List PVar) (hl : okL xs) : AFun Tryd.prog E 17 [.fro 2 (xs.map encVar), .fro 2 (ys.map encVar)] (.bool (decide (xs = ys))) := by
  have hl := hl.lt
  refine ACall.intro Tryd.func17 rfl (by decide) rfl ?_
  refine AWP.seq ?_
  refine AWP.region rfl ?_
  refine AOps.val (Gv.assign (v := .bool _) rfl) ?_
  refine AOps.nil ?_
  refine AWP.seq ?_
  refine AWP.seq ?_
  refine AWP.region rfl ?_
  refine AOps.val (Gv.move (v := .fro _ _) rfl) ?_
  refine AOps.val (Gv.lenM Tryd.underlying22 rfl) ?_
  refine AOps.val (Gv.move (v := .fro _ _) rfl) ?_
  refine AOps.val (Gv.lenM Tryd.underlying22 rfl) ?_
  refine AOps.val (Gv.neqI rfl rfl) ?_
  refine AOps.nil ?_
  refine AWP.cond rfl (fun c0 => ?_) (fun c0 => ?_)
  · skip
    have h : ¬ xs = ys := fun e => by subst e; simp at c0
    refine AWP.seq ?_
    refine AWP.region rfl ?_
    refine AOps.val (Gv.assign (v := .bool _) rfl) ?_
    refine AOps.nil ?_
    refine AWP.ret ?_
    repeat (first | refine aseqQ_ret ?_ | refine ablockQ_ret ?_)
    refine afin.t1 (x := .bool _) rfl ?_
    rw [decide_eq_false h]
  · skip
    have hl2 : xs.length = ys.length := by simp at c0; omega
    refine AWP.skip ?_
    refine AWP.seq ?_
    refine AWP.seq ?_
    refine AWP.region rfl ?_
    refine AOps.val (Gv.move (v := .fro _ _) rfl) ?_
    refine AOps.val (Gv.lenM Tryd.underlying22 rfl) ?_
    refine AOps.val (Gv.move (v := .int _ _) rfl) ?_
    refine AOps.nil ?_
    refine AWP.block ?_
    refine AWP.loop (γ := Nat) [0, 1, 12] (fun k => [(13, .int .i64 k)]) (fun k => []) (fun k => k ≤ xs.length ∧ xs.take k = ys.take k) (fun k => xs.length - k) 0 ⟨rfl, trivial⟩ ⟨_, (.refl _), rfl⟩ (⟨Nat.zero_le _, rfl⟩) ?_
    rintro k ⟨hk, he⟩
    refine AWP.seq ?_
    refine AWP.region rfl ?_
    refine AOps.val (Gv.lss rfl rfl) ?_
    refine AOps.nil ?_
    refine AWP.seq ?_
    refine AWP.condP rfl (fun ck => ?_) (fun ck => ?_)
    · skip
      have hk2 : k < xs.length := by omega
      have hk3 : k < ys.length := by omega
      refine AWP.skip ?_
      refine AWP.seq ?_
      refine AWP.block ?_
      refine AWP.seq ?_
      refine AWP.region rfl ?_
      refine AOps.val (Gv.move (v := .int _ _) rfl) ?_
      refine AOps.val (Gv.assign (v := .int _ _) rfl) ?_
      refine AOps.nil ?_
      refine AWP.seq ?_
      refine AWP.regionDraw (fun j => false) (by kernel_rfl) rfl (Part.perm (.rest _)) ?_
      refine AAny.take (i := 0) rfl (by kernel_rfl) (by kernel_rfl) (by kernel_rfl) (by kernel_rfl) (Gv.move (v := .fro _ _) rfl) ?_
      refine AAny.take (i := 1) rfl (by kernel_rfl) (by kernel_rfl) (by kernel_rfl) (by kernel_rfl) (Gv.move (v := .int _ _) rfl) ?_
      refine AAny.take (i := 2) rfl (by kernel_rfl) (by kernel_rfl) (by kernel_rfl) (by kernel_rfl) (Gv.idxM Tryd.underlying22 Tryd.sizeOf47 rfl rfl rfl (List.getElem?_eq_getElem (by omega))) ?_
      refine AAny.take (i := 3) rfl (by kernel_rfl) (by kernel_rfl) (by kernel_rfl) (by kernel_rfl) (Gv.loadWF Tryd.isAgg47 Tryd.sizeOf47 rfl rfl) ?_
      refine AAny.take (i := 4) rfl (by kernel_rfl) (by kernel_rfl) (by kernel_rfl) (by kernel_rfl) (Gv.move (v := .fro _ _) rfl) ?_
      refine AAny.take (i := 5) rfl (by kernel_rfl) (by kernel_rfl) (by kernel_rfl) (by kernel_rfl) (Gv.move (v := .int _ _) rfl) ?_
      refine AAny.take (i := 6) rfl (by kernel_rfl) (by kernel_rfl) (by kernel_rfl) (by kernel_rfl) (Gv.idxM Tryd.underlying22 Tryd.sizeOf47 rfl rfl rfl (List.getElem?_eq_getElem (by omega))) ?_
      refine AAny.take (i := 7) rfl (by kernel_rfl) (by kernel_rfl) (by kernel_rfl) (by kernel_rfl) (Gv.loadWF Tryd.isAgg47 Tryd.sizeOf47 rfl rfl) ?_
      refine AAny.take (i := 8) rfl (by kernel_rfl) (by kernel_rfl) (by kernel_rfl) (by kernel_rfl) (Gv.neqP (xs := [.string _, .int _ _]) (ys := [.string _, .int _ _]) (by kernel_rfl) rfl rfl (fun w => eq_var _ _ _ _ w)) ?_
      refine AAny.done (by kernel_rfl) ?_
      refine AWP.cond rfl (fun cd => ?_) (fun cd => ?_)
      · skip
        refine AWP.seq ?_
        refine AWP.region rfl ?_
        refine AOps.val (Gv.assign (v := .bool _) rfl) ?_
        refine AOps.nil ?_
        refine AWP.ret ?_
        repeat (first | refine aseqQ_ret ?_ | refine ablockQ_ret ?_)
        refine afin.t1 (x := .bool _) rfl ?_
        rw [decide_eq_false (ne_at hk2 hk3 (by intro e; simp [e] at cd))]
      · skip
        refine AWP.skip ?_
        refine AWP.region rfl ?_
        refine AOps.val (Gv.add rfl rfl (by unfold I64; omega)) ?_
        refine AOps.val (Gv.move (v := .int _ _) rfl) ?_
        refine AOps.nil ?_
        exact ⟨k + 1, ⟨rfl, rfl, rfl, trivial⟩, ⟨rfl, trivial⟩, ⟨_, (.refl _), rfl⟩, ⟨hk2, take_push hk2 hk3 he (var_ext (by simpa using cd))⟩, by omega⟩
    · skip
      refine AWP.exit ?_
      refine AWP.seq ?_
      refine AWP.region rfl ?_
      refine AOps.val (Gv.assign (v := .bool _) rfl) ?_
      refine AOps.nil ?_
      refine AWP.ret ?_
      repeat (first | refine aseqQ_ret ?_ | refine ablockQ_ret ?_)
      refine afin.t1 (x := .bool _) rfl ?_
      rw [decide_eq_true (take_done hl2 (by omega) he)]

theorem equalP_spec {fn : FuncId} {c : List AV} (xs ys : List PPhi) (hl : okL xs) (hp : ∀ x ∈ xs, ∀ y, AFun Tryd.prog E fn ([.agg (encPhi x), .agg (encPhi y)] ++ c) (.bool (decide (x = y)))) : AFun Tryd.prog E 30 [.fro 3 (xs.map encPhi), .fro 3 (ys.map encPhi), .fn fn [] c] (.bool (decide (xs = ys))) := by
  have hl := hl.lt
  refine ACall.intro Tryd.func30 rfl (by decide) rfl ?_
  refine AWP.seq ?_
  refine AWP.region rfl ?_
  refine AOps.val (Gv.assign (v := .bool _) rfl) ?_
  refine AOps.nil ?_
  refine AWP.seq ?_
  refine AWP.seq ?_
  refine AWP.region rfl ?_
  refine AOps.val (Gv.move (v := .fro _ _) rfl) ?_
  refine AOps.val (Gv.lenM Tryd.underlying32 rfl) ?_
  refine AOps.val (Gv.move (v := .fro _ _) rfl) ?_
  refine AOps.val (Gv.lenM Tryd.underlying32 rfl) ?_
  refine AOps.val (Gv.neqI rfl rfl) ?_
  refine AOps.nil ?_
  refine AWP.cond rfl (fun c0 => ?_) (fun c0 => ?_)
  · skip
    have h : ¬ xs = ys := fun e => by subst e; simp at c0
    refine AWP.seq ?_
    refine AWP.region rfl ?_
    refine AOps.val (Gv.assign (v := .bool _) rfl) ?_
    refine AOps.nil ?_
    refine AWP.ret ?_
    repeat (first | refine aseqQ_ret ?_ | refine ablockQ_ret ?_)
    refine afin.t1 (x := .bool _) rfl ?_
    rw [decide_eq_false h]
  · skip
    have hl2 : xs.length = ys.length := by simp at c0; omega
    refine AWP.skip ?_
    refine AWP.seq ?_
    refine AWP.seq ?_
    refine AWP.region rfl ?_
    refine AOps.val (Gv.move (v := .fro _ _) rfl) ?_
    refine AOps.val (Gv.lenM Tryd.underlying32 rfl) ?_
    refine AOps.val (Gv.move (v := .int _ _) rfl) ?_
    refine AOps.nil ?_
    refine AWP.block ?_
    refine AWP.loop (γ := Nat) [1, 2, 15, 16] (fun k => [(17, .int .i64 k)]) (fun k => []) (fun k => k ≤ xs.length ∧ xs.take k = ys.take k) (fun k => xs.length - k) 0 ⟨rfl, trivial⟩ ⟨_, (.refl _), rfl⟩ (⟨Nat.zero_le _, rfl⟩) ?_
    rintro k ⟨hk, he⟩
    refine AWP.seq ?_
    refine AWP.region rfl ?_
    refine AOps.val (Gv.lss rfl rfl) ?_
    refine AOps.nil ?_
    refine AWP.seq ?_
    refine AWP.condP rfl (fun ck => ?_) (fun ck => ?_)
    · skip
      have hk2 : k < xs.length := by omega
      have hk3 : k < ys.length := by omega
      refine AWP.skip ?_
      refine AWP.seq ?_
      refine AWP.block ?_
      refine AWP.seq ?_
      refine AWP.region rfl ?_
      refine AOps.val (Gv.move (v := .int _ _) rfl) ?_
      refine AOps.val (Gv.idxM Tryd.underlying32 Tryd.sizeOf44 rfl rfl rfl (List.getElem?_eq_getElem (by omega))) ?_
      refine AOps.val (Gv.loadWF Tryd.isAgg44 Tryd.sizeOf44 rfl rfl) ?_
      refine AOps.alloc (cs := [.int .i64 0, .raw (.slice none 0 0), .raw (.slice none 0 0)]) Tryd.zeroValue44 rfl rfl ?_
      intro i8
      refine AOps.val (Gv.assign (v := .int _ _) rfl) ?_
      refine AOps.storeW Tryd.sizeOf44 rfl rfl rfl rfl rfl rfl .head rfl ?_
      refine AOps.nil ?_
      refine AWP.seq ?_
      refine AWP.region rfl ?_
      refine AOps.val (Gv.move (v := .fro _ _) rfl) ?_
      refine AOps.val (Gv.move (v := .int _ _) rfl) ?_
      refine AOps.val (Gv.idxM Tryd.underlying32 Tryd.sizeOf44 rfl rfl rfl (List.getElem?_eq_getElem (by omega))) ?_
      refine AOps.val (Gv.loadWF Tryd.isAgg44 Tryd.sizeOf44 rfl rfl) ?_
      refine AOps.alloc (cs := [.int .i64 0, .raw (.slice none 0 0), .raw (.slice none 0 0)]) Tryd.zeroValue44 rfl rfl ?_
      intro i9
      refine AOps.storeW Tryd.sizeOf44 rfl rfl rfl rfl rfl rfl .head rfl ?_
      refine AOps.nil ?_
      refine AWP.seq ?_
      refine AWP.region rfl ?_
      refine AOps.val (Gv.move (v := .fn _ _ _) rfl) ?_
      refine AOps.val (Gv.loadWC Tryd.isAgg44 Tryd.sizeOf44 rfl ⟨_, (.tail .head)⟩ rfl) ?_
      refine AOps.val (Gv.loadWC Tryd.isAgg44 Tryd.sizeOf44 rfl ⟨_, .head⟩ rfl) ?_
      refine AOps.callVP rfl (hp _ (List.getElem_mem _) _) rfl ?_
      refine AOps.val (Gv.not rfl) ?_
      refine AOps.nil ?_
      refine AWP.cond rfl (fun cd => ?_) (fun cd => ?_)
      · skip
        refine AWP.seq ?_
        refine AWP.region rfl ?_
        refine AOps.val (Gv.assign (v := .bool _) rfl) ?_
        refine AOps.nil ?_
        refine AWP.ret ?_
        repeat (first | refine aseqQ_ret ?_ | refine ablockQ_ret ?_)
        refine afin.t1 (x := .bool _) rfl ?_
        rw [decide_eq_false (ne_at hk2 hk3 (by simpa using cd))]
      · skip
        refine AWP.skip ?_
        refine AWP.region rfl ?_
        refine AOps.val (Gv.add rfl rfl (by unfold I64; omega)) ?_
        refine AOps.val (Gv.move (v := .int _ _) rfl) ?_
        refine AOps.nil ?_
        exact ⟨k + 1, ⟨rfl, rfl, rfl, rfl, trivial⟩, ⟨rfl, trivial⟩, ⟨_, (.drop (.drop (.refl _))), rfl⟩, ⟨hk2, take_push hk2 hk3 he (by simpa using cd)⟩, by omega⟩
    · skip
      refine AWP.exit ?_
      refine AWP.seq ?_
      refine AWP.region rfl ?_
      refine AOps.val (Gv.assign (v := .bool _) rfl) ?_
      refine AOps.nil ?_
      refine AWP.ret ?_
      repeat (first | refine aseqQ_ret ?_ | refine ablockQ_ret ?_)
      refine afin.t1 (x := .bool _) rfl ?_
      rw [decide_eq_true (take_done hl2 (by omega) he)]

theorem equalX_spec {fn : FuncId} {c : List AV} (xs ys : List PInst) (hl : okL xs) (hp : ∀ x ∈ xs, ∀ y, AFun Tryd.prog E fn ([.agg (encInst x), .agg (encInst y)] ++ c) (.bool (decide (x = y)))) : AFun Tryd.prog E 32 [.fro 4 (xs.map encInst), .fro 4 (ys.map encInst), .fn fn [] c] (.bool (decide (xs = ys))) := by
  have hl := hl.lt
  refine ACall.intro Tryd.func32 rfl (by decide) rfl ?_
  refine AWP.seq ?_
  refine AWP.region rfl ?_
  refine AOps.val (Gv.assign (v := .bool _) rfl) ?_
  refine AOps.nil ?_
  refine AWP.seq ?_
  refine AWP.seq ?_
  refine AWP.region rfl ?_
  refine AOps.val (Gv.move (v := .fro _ _) rfl) ?_
  refine AOps.val (Gv.lenM Tryd.underlying33 rfl) ?_
  refine AOps.val (Gv.move (v := .fro _ _) rfl) ?_
  refine AOps.val (Gv.lenM Tryd.underlying33 rfl) ?_
  refine AOps.val (Gv.neqI rfl rfl) ?_
  refine AOps.nil ?_
  refine AWP.cond rfl (fun c0 => ?_) (fun c0 => ?_)
  · skip
    have h : ¬ xs = ys := fun e => by subst e; simp at c0
    refine AWP.seq ?_
    refine AWP.region rfl ?_
    refine AOps.val (Gv.assign (v := .bool _) rfl) ?_
    refine AOps.nil ?_
    refine AWP.ret ?_
    repeat (first | refine aseqQ_ret ?_ | refine ablockQ_ret ?_)
    refine afin.t1 (x := .bool _) rfl ?_
    rw [decide_eq_false h]
  · skip
    have hl2 : xs.length = ys.length := by simp at c0; omega
    refine AWP.skip ?_
    refine AWP.seq ?_
    refine AWP.seq ?_
    refine AWP.region rfl ?_
    refine AOps.val (Gv.move (v := .fro _ _) rfl) ?_
    refine AOps.val (Gv.lenM Tryd.underlying33 rfl) ?_
    refine AOps.val (Gv.move (v := .int _ _) rfl) ?_
    refine AOps.nil ?_
    refine AWP.block ?_
    refine AWP.loop (γ := Nat) [1, 2, 15, 16] (fun k => [(17, .int .i64 k)]) (fun k => []) (fun k => k ≤ xs.length ∧ xs.take k = ys.take k) (fun k => xs.length - k) 0 ⟨rfl, trivial⟩ ⟨_, (.refl _), rfl⟩ (⟨Nat.zero_le _, rfl⟩) ?_
    rintro k ⟨hk, he⟩
    refine AWP.seq ?_
    refine AWP.region rfl ?_
    refine AOps.val (Gv.lss rfl rfl) ?_
    refine AOps.nil ?_
    refine AWP.seq ?_
    refine AWP.condP rfl (fun ck => ?_) (fun ck => ?_)
    · skip
      have hk2 : k < xs.length := by omega
      have hk3 : k < ys.length := by omega
      refine AWP.skip ?_
      refine AWP.seq ?_
      refine AWP.block ?_
      refine AWP.seq ?_
      refine AWP.region rfl ?_
      refine AOps.val (Gv.move (v := .int _ _) rfl) ?_
      refine AOps.val (Gv.idxM Tryd.underlying33 Tryd.sizeOf42 rfl rfl rfl (List.getElem?_eq_getElem (by omega))) ?_
      refine AOps.val (Gv.loadWF Tryd.isAgg42 Tryd.sizeOf42 rfl rfl) ?_
      refine AOps.alloc (cs := [.int .i64 0, .int .i64 0, .raw (.slice none 0 0), .int .i64 0]) Tryd.zeroValue42 rfl rfl ?_
      intro i8
      refine AOps.val (Gv.assign (v := .int _ _) rfl) ?_
      refine AOps.storeW Tryd.sizeOf42 rfl rfl rfl rfl rfl rfl .head rfl ?_
      refine AOps.nil ?_
      refine AWP.seq ?_
      refine AWP.region rfl ?_
      refine AOps.val (Gv.move (v := .fro _ _) rfl) ?_
      refine AOps.val (Gv.move (v := .int _ _) rfl) ?_
      refine AOps.val (Gv.idxM Tryd.underlying33 Tryd.sizeOf42 rfl rfl rfl (List.getElem?_eq_getElem (by omega))) ?_
      refine AOps.val (Gv.loadWF Tryd.isAgg42 Tryd.sizeOf42 rfl rfl) ?_
      refine AOps.alloc (cs := [.int .i64 0, .int .i64 0, .raw (.slice none 0 0), .int .i64 0]) Tryd.zeroValue42 rfl rfl ?_
      intro i9
      refine AOps.storeW Tryd.sizeOf42 rfl rfl rfl rfl rfl rfl .head rfl ?_
      refine AOps.nil ?_
      refine AWP.seq ?_
      refine AWP.region rfl ?_
      refine AOps.val (Gv.move (v := .fn _ _ _) rfl) ?_
      refine AOps.val (Gv.loadWC Tryd.isAgg42 Tryd.sizeOf42 rfl ⟨_, (.tail .head)⟩ rfl) ?_
      refine AOps.val (Gv.loadWC Tryd.isAgg42 Tryd.sizeOf42 rfl ⟨_, .head⟩ rfl) ?_
      refine AOps.callVP rfl (hp _ (List.getElem_mem _) _) rfl ?_
      refine AOps.val (Gv.not rfl) ?_
      refine AOps.nil ?_
      refine AWP.cond rfl (fun cd => ?_) (fun cd => ?_)
      · skip
        refine AWP.seq ?_
        refine AWP.region rfl ?_
        refine AOps.val (Gv.assign (v := .bool _) rfl) ?_
        refine AOps.nil ?_
        refine AWP.ret ?_
        repeat (first | refine aseqQ_ret ?_ | refine ablockQ_ret ?_)
        refine afin.t1 (x := .bool _) rfl ?_
        rw [decide_eq_false (ne_at hk2 hk3 (by simpa using cd))]
      · skip
        refine AWP.skip ?_
        refine AWP.region rfl ?_
        refine AOps.val (Gv.add rfl rfl (by unfold I64; omega)) ?_
        refine AOps.val (Gv.move (v := .int _ _) rfl) ?_
        refine AOps.nil ?_
        exact ⟨k + 1, ⟨rfl, rfl, rfl, rfl, trivial⟩, ⟨rfl, trivial⟩, ⟨_, (.drop (.drop (.refl _))), rfl⟩, ⟨hk2, take_push hk2 hk3 he (by simpa using cd)⟩, by omega⟩
    · skip
      refine AWP.exit ?_
      refine AWP.seq ?_
      refine AWP.region rfl ?_
      refine AOps.val (Gv.assign (v := .bool _) rfl) ?_
      refine AOps.nil ?_
      refine AWP.ret ?_
      repeat (first | refine aseqQ_ret ?_ | refine ablockQ_ret ?_)
      refine afin.t1 (x := .bool _) rfl ?_
      rw [decide_eq_true (take_done hl2 (by omega) he)]

theorem equalB_spec {fn : FuncId} {c : List AV} (xs ys : List PBlock) (hl : okL xs) (hp : ∀ x ∈ xs, ∀ y, AFun Tryd.prog E fn ([.agg (encBlk x), .agg (encBlk y)] ++ c) (.bool (decide (x = y)))) : AFun Tryd.prog E 19 [.fro 7 (xs.map encBlk), .fro 7 (ys.map encBlk), .fn fn [] c] (.bool (decide (xs = ys))) := by
  have hl := hl.lt
  refine ACall.intro Tryd.func19 rfl (by decide) rfl ?_
  refine AWP.seq ?_
  refine AWP.region rfl ?_
  refine AOps.val (Gv.assign (v := .bool _) rfl) ?_
  refine AOps.nil ?_
  refine AWP.seq ?_
  refine AWP.seq ?_
  refine AWP.region rfl ?_
  refine AOps.val (Gv.move (v := .fro _ _) rfl) ?_
  refine AOps.val (Gv.lenM Tryd.underlying24 rfl) ?_
  refine AOps.val (Gv.move (v := .fro _ _) rfl) ?_
  refine AOps.val (Gv.lenM Tryd.underlying24 rfl) ?_
  refine AOps.val (Gv.neqI rfl rfl) ?_
  refine AOps.nil ?_
  refine AWP.cond rfl (fun c0 => ?_) (fun c0 => ?_)
  · skip
    have h : ¬ xs = ys := fun e => by subst e; simp at c0
    refine AWP.seq ?_
    refine AWP.region rfl ?_
    refine AOps.val (Gv.assign (v := .bool _) rfl) ?_
    refine AOps.nil ?_
    refine AWP.ret ?_
    repeat (first | refine aseqQ_ret ?_ | refine ablockQ_ret ?_)
    refine afin.t1 (x := .bool _) rfl ?_
    rw [decide_eq_false h]
  · skip
    have hl2 : xs.length = ys.length := by simp at c0; omega
    refine AWP.skip ?_
    refine AWP.seq ?_
    refine AWP.seq ?_
    refine AWP.region rfl ?_
    refine AOps.val (Gv.move (v := .fro _ _) rfl) ?_
    refine AOps.val (Gv.lenM Tryd.underlying24 rfl) ?_
    refine AOps.val (Gv.move (v := .int _ _) rfl) ?_
    refine AOps.nil ?_
    refine AWP.block ?_
    refine AWP.loop (γ := Nat) [1, 2, 15, 16] (fun k => [(17, .int .i64 k)]) (fun k => []) (fun k => k ≤ xs.length ∧ xs.take k = ys.take k) (fun k => xs.length - k) 0 ⟨rfl, trivial⟩ ⟨_, (.refl _), rfl⟩ (⟨Nat.zero_le _, rfl⟩) ?_
    rintro k ⟨hk, he⟩
    refine AWP.seq ?_
    refine AWP.region rfl ?_
    refine AOps.val (Gv.lss rfl rfl) ?_
    refine AOps.nil ?_
    refine AWP.seq ?_
    refine AWP.condP rfl (fun ck => ?_) (fun ck => ?_)
    · skip
      have hk2 : k < xs.length := by omega
      have hk3 : k < ys.length := by omega
      refine AWP.skip ?_
      refine AWP.seq ?_
      refine AWP.block ?_
      refine AWP.seq ?_
      refine AWP.region rfl ?_
      refine AOps.val (Gv.move (v := .int _ _) rfl) ?_
      refine AOps.val (Gv.idxM Tryd.underlying24 Tryd.sizeOf39 rfl rfl rfl (List.getElem?_eq_getElem (by omega))) ?_
      refine AOps.val (Gv.loadWF Tryd.isAgg39 Tryd.sizeOf39 rfl rfl) ?_
      refine AOps.alloc (cs := [.str ⟨#[]⟩, .raw (.slice none 0 0), .raw (.slice none 0 0), .int .i64 0, .int .i64 0, .int .i64 0, .int .i64 0]) Tryd.zeroValue39 rfl rfl ?_
      intro i8
      refine AOps.val (Gv.assign (v := .int _ _) rfl) ?_
      refine AOps.storeW Tryd.sizeOf39 rfl rfl rfl rfl rfl rfl .head rfl ?_
      refine AOps.nil ?_
      refine AWP.seq ?_
      refine AWP.region rfl ?_
      refine AOps.val (Gv.move (v := .fro _ _) rfl) ?_
      refine AOps.val (Gv.move (v := .int _ _) rfl) ?_
      refine AOps.val (Gv.idxM Tryd.underlying24 Tryd.sizeOf39 rfl rfl rfl (List.getElem?_eq_getElem (by omega))) ?_
      refine AOps.val (Gv.loadWF Tryd.isAgg39 Tryd.sizeOf39 rfl rfl) ?_
      refine AOps.alloc (cs := [.str ⟨#[]⟩, .raw (.slice none 0 0), .raw (.slice none 0 0), .int .i64 0, .int .i64 0, .int .i64 0, .int .i64 0]) Tryd.zeroValue39 rfl rfl ?_
      intro i9
      refine AOps.storeW Tryd.sizeOf39 rfl rfl rfl rfl rfl rfl .head rfl ?_
      refine AOps.nil ?_
      refine AWP.seq ?_
      refine AWP.region rfl ?_
      refine AOps.val (Gv.move (v := .fn _ _ _) rfl) ?_
      refine AOps.val (Gv.loadWC Tryd.isAgg39 Tryd.sizeOf39 rfl ⟨_, (.tail .head)⟩ rfl) ?_
      refine AOps.val (Gv.loadWC Tryd.isAgg39 Tryd.sizeOf39 rfl ⟨_, .head⟩ rfl) ?_
      refine AOps.callVP rfl (hp _ (List.getElem_mem _) _) rfl ?_
      refine AOps.val (Gv.not rfl) ?_
      refine AOps.nil ?_
      refine AWP.cond rfl (fun cd => ?_) (fun cd => ?_)
      · skip
        refine AWP.seq ?_
        refine AWP.region rfl ?_
        refine AOps.val (Gv.assign (v := .bool _) rfl) ?_
        refine AOps.nil ?_
        refine AWP.ret ?_
        repeat (first | refine aseqQ_ret ?_ | refine ablockQ_ret ?_)
        refine afin.t1 (x := .bool _) rfl ?_
        rw [decide_eq_false (ne_at hk2 hk3 (by simpa using cd))]
      · skip
        refine AWP.skip ?_
        refine AWP.region rfl ?_
        refine AOps.val (Gv.add rfl rfl (by unfold I64; omega)) ?_
        refine AOps.val (Gv.move (v := .int _ _) rfl) ?_
        refine AOps.nil ?_
        exact ⟨k + 1, ⟨rfl, rfl, rfl, rfl, trivial⟩, ⟨rfl, trivial⟩, ⟨_, (.drop (.drop (.refl _))), rfl⟩, ⟨hk2, take_push hk2 hk3 he (by simpa using cd)⟩, by omega⟩
    · skip
      refine AWP.exit ?_
      refine AWP.seq ?_
      refine AWP.region rfl ?_
      refine AOps.val (Gv.assign (v := .bool _) rfl) ?_
      refine AOps.nil ?_
      refine AWP.ret ?_
      repeat (first | refine aseqQ_ret ?_ | refine ablockQ_ret ?_)
      refine afin.t1 (x := .bool _) rfl ?_
      rw [decide_eq_true (take_done hl2 (by omega) he)]

theorem samePhi_spec (x y : PPhi) (hx : okPhi x) : AFun Tryd.prog E 31 [.agg (encPhi x), .agg (encPhi y)] (.bool (decide (x = y))) := by
  obtain ⟨h1, h2⟩ := hx
  rw [phi_iff]
  refine ACall.intro Tryd.func31 rfl (by decide) rfl ?_
  refine AWP.seq ?_
  refine AWP.region rfl ?_
  refine AOps.boxF (cs := _) rfl rfl rfl ?_
  refine AOps.boxF (cs := _) rfl rfl rfl ?_
  refine AOps.val (Gv.assign (v := .bool _) rfl) ?_
  refine AOps.nil ?_
  refine AWP.seq ?_
  refine AWP.region rfl ?_
  refine AOps.val (Gv.fieldF Tryd.underlying44 rfl Tryd.sizeOf3 (by decide) rfl rfl) ?_
  refine AOps.val (Gv.load1F (c := .int _ _) Tryd.isAgg3 rfl) ?_
  refine AOps.val (Gv.fieldF Tryd.underlying44 rfl Tryd.sizeOf3 (by decide) rfl rfl) ?_
  refine AOps.val (Gv.load1F (c := .int _ _) Tryd.isAgg3 rfl) ?_
  refine AOps.val (Gv.eqlI rfl rfl) ?_
  refine AOps.val (Gv.move (v := .bool _) rfl) ?_
  refine AOps.case (s := 10) rfl (fun c1 => ?_) (fun c1 => ?_)
  · skip
    refine AOps.guardT rfl rfl c1 ?_
    refine AOps.val (Gv.fieldF Tryd.underlying44 rfl Tryd.sizeOf23 (by decide) rfl rfl) ?_
    refine AOps.guardT rfl rfl c1 ?_
    refine AOps.val (Gv.load1F (c := .fro _ _) Tryd.isAgg23 rfl) ?_
    refine AOps.guardT rfl rfl c1 ?_
    refine AOps.val (Gv.fieldF Tryd.underlying44 rfl Tryd.sizeOf23 (by decide) rfl rfl) ?_
    refine AOps.guardT rfl rfl c1 ?_
    refine AOps.val (Gv.load1F (c := .fro _ _) Tryd.isAgg23 rfl) ?_
    refine AOps.guardT rfl rfl c1 ?_
    refine AOps.callP (equalI_spec _ _ (by assumption)) rfl ?_
    refine AOps.val (Gv.pickT (v := .bool _) rfl c1 rfl) ?_
    refine AOps.val (Gv.move (v := .bool _) rfl) ?_
    refine AOps.case (s := 17) rfl (fun c2 => ?_) (fun c2 => ?_)
    · skip
      refine AOps.guardT rfl rfl c2 ?_
      refine AOps.val (Gv.fieldF Tryd.underlying44 rfl Tryd.sizeOf23 (by decide) rfl rfl) ?_
      refine AOps.guardT rfl rfl c2 ?_
      refine AOps.val (Gv.load1F (c := .fro _ _) Tryd.isAgg23 rfl) ?_
      refine AOps.guardT rfl rfl c2 ?_
      refine AOps.val (Gv.fieldF Tryd.underlying44 rfl Tryd.sizeOf23 (by decide) rfl rfl) ?_
      refine AOps.guardT rfl rfl c2 ?_
      refine AOps.val (Gv.load1F (c := .fro _ _) Tryd.isAgg23 rfl) ?_
      refine AOps.guardT rfl rfl c2 ?_
      refine AOps.callP (equalI_spec _ _ (by assumption)) rfl ?_
      refine AOps.val (Gv.pickT (v := .bool _) rfl c2 rfl) ?_
      refine AOps.val (Gv.assign (v := .bool _) rfl) ?_
      refine AOps.nil ?_
      refine AWP.ret ?_
      repeat (first | refine aseqQ_ret ?_ | refine ablockQ_ret ?_)
      refine afin.t1 (x := .bool _) rfl ?_
      exact jb (by simp_all)
    · skip
      refine AOps.guardFd rfl rfl c2 ?_
      refine AOps.guardFd rfl rfl c2 ?_
      refine AOps.guardFd rfl rfl c2 ?_
      refine AOps.guardFd rfl rfl c2 ?_
      refine AOps.guardFd rfl rfl c2 ?_
      refine AOps.val (Gv.pickF (v := .bool _) rfl c2 rfl) ?_
      refine AOps.val (Gv.assign (v := .bool _) rfl) ?_
      refine AOps.nil ?_
      refine AWP.ret ?_
      repeat (first | refine aseqQ_ret ?_ | refine ablockQ_ret ?_)
      refine afin.t1 (x := .bool _) rfl ?_
      exact jb (by simp_all)
  · skip
    refine AOps.guardFd rfl rfl c1 ?_
    refine AOps.guardFd rfl rfl c1 ?_
    refine AOps.guardFd rfl rfl c1 ?_
    refine AOps.guardFd rfl rfl c1 ?_
    refine AOps.guardFd rfl rfl c1 ?_
    refine AOps.val (Gv.pickF (v := .bool _) rfl c1 rfl) ?_
    refine AOps.val (Gv.move (v := .bool _) rfl) ?_
    refine AOps.guardFd rfl rfl rfl ?_
    refine AOps.guardFd rfl rfl rfl ?_
    refine AOps.guardFd rfl rfl rfl ?_
    refine AOps.guardFd rfl rfl rfl ?_
    refine AOps.guardFd rfl rfl rfl ?_
    refine AOps.val (Gv.pickF (v := .bool _) rfl rfl rfl) ?_
    refine AOps.val (Gv.assign (v := .bool _) rfl) ?_
    refine AOps.nil ?_
    refine AWP.ret ?_
    repeat (first | refine aseqQ_ret ?_ | refine ablockQ_ret ?_)
    refine afin.t1 (x := .bool _) rfl ?_
    exact jb (by simp_all)

theorem sameInst_spec (x y : PInst) (hx : okL x.args) : AFun Tryd.prog E 33 [.agg (encInst x), .agg (encInst y)] (.bool (decide (x = y))) := by
  rw [inst_iff]
  refine ACall.intro Tryd.func33 rfl (by decide) rfl ?_
  refine AWP.seq ?_
  refine AWP.region rfl ?_
  refine AOps.boxF (cs := _) rfl rfl rfl ?_
  refine AOps.boxF (cs := _) rfl rfl rfl ?_
  refine AOps.val (Gv.assign (v := .bool _) rfl) ?_
  refine AOps.nil ?_
  refine AWP.seq ?_
  refine AWP.region rfl ?_
  refine AOps.val (Gv.fieldF Tryd.underlying42 rfl Tryd.sizeOf40 (by decide) rfl rfl) ?_
  refine AOps.val (Gv.load1F (c := .int _ _) Tryd.isAgg40 rfl) ?_
  refine AOps.val (Gv.fieldF Tryd.underlying42 rfl Tryd.sizeOf40 (by decide) rfl rfl) ?_
  refine AOps.val (Gv.load1F (c := .int _ _) Tryd.isAgg40 rfl) ?_
  refine AOps.val (Gv.eqlI rfl rfl) ?_
  refine AOps.val (Gv.move (v := .bool _) rfl) ?_
  refine AOps.case (s := 10) rfl (fun c3 => ?_) (fun c3 => ?_)
  · skip
    refine AOps.guardT rfl rfl c3 ?_
    refine AOps.val (Gv.fieldF Tryd.underlying42 rfl Tryd.sizeOf3 (by decide) rfl rfl) ?_
    refine AOps.guardT rfl rfl c3 ?_
    refine AOps.val (Gv.load1F (c := .int _ _) Tryd.isAgg3 rfl) ?_
    refine AOps.guardT rfl rfl c3 ?_
    refine AOps.val (Gv.fieldF Tryd.underlying42 rfl Tryd.sizeOf3 (by decide) rfl rfl) ?_
    refine AOps.guardT rfl rfl c3 ?_
    refine AOps.val (Gv.load1F (c := .int _ _) Tryd.isAgg3 rfl) ?_
    refine AOps.guardT rfl rfl c3 ?_
    refine AOps.val (Gv.eqlI rfl rfl) ?_
    refine AOps.val (Gv.pickT (v := .bool _) rfl c3 rfl) ?_
    refine AOps.val (Gv.move (v := .bool _) rfl) ?_
    refine AOps.case (s := 17) rfl (fun c4 => ?_) (fun c4 => ?_)
    · skip
      refine AOps.guardT rfl rfl c4 ?_
      refine AOps.val (Gv.fieldF Tryd.underlying42 rfl Tryd.sizeOf2 (by decide) rfl rfl) ?_
      refine AOps.guardT rfl rfl c4 ?_
      refine AOps.val (Gv.load1F (c := .int _ _) Tryd.isAgg2 rfl) ?_
      refine AOps.guardT rfl rfl c4 ?_
      refine AOps.val (Gv.fieldF Tryd.underlying42 rfl Tryd.sizeOf2 (by decide) rfl rfl) ?_
      refine AOps.guardT rfl rfl c4 ?_
      refine AOps.val (Gv.load1F (c := .int _ _) Tryd.isAgg2 rfl) ?_
      refine AOps.guardT rfl rfl c4 ?_
      refine AOps.val (Gv.eqlI rfl rfl) ?_
      refine AOps.val (Gv.pickT (v := .bool _) rfl c4 rfl) ?_
      refine AOps.val (Gv.move (v := .bool _) rfl) ?_
      refine AOps.case (s := 24) rfl (fun c5 => ?_) (fun c5 => ?_)
      · skip
        refine AOps.guardT rfl rfl c5 ?_
        refine AOps.val (Gv.fieldF Tryd.underlying42 rfl Tryd.sizeOf23 (by decide) rfl rfl) ?_
        refine AOps.guardT rfl rfl c5 ?_
        refine AOps.val (Gv.load1F (c := .fro _ _) Tryd.isAgg23 rfl) ?_
        refine AOps.guardT rfl rfl c5 ?_
        refine AOps.val (Gv.fieldF Tryd.underlying42 rfl Tryd.sizeOf23 (by decide) rfl rfl) ?_
        refine AOps.guardT rfl rfl c5 ?_
        refine AOps.val (Gv.load1F (c := .fro _ _) Tryd.isAgg23 rfl) ?_
        refine AOps.guardT rfl rfl c5 ?_
        refine AOps.callP (equalI_spec _ _ (by assumption)) rfl ?_
        refine AOps.val (Gv.pickT (v := .bool _) rfl c5 rfl) ?_
        refine AOps.val (Gv.assign (v := .bool _) rfl) ?_
        refine AOps.nil ?_
        refine AWP.ret ?_
        repeat (first | refine aseqQ_ret ?_ | refine ablockQ_ret ?_)
        refine afin.t1 (x := .bool _) rfl ?_
        exact jb (by simp_all)
      · skip
        refine AOps.guardFd rfl rfl c5 ?_
        refine AOps.guardFd rfl rfl c5 ?_
        refine AOps.guardFd rfl rfl c5 ?_
        refine AOps.guardFd rfl rfl c5 ?_
        refine AOps.guardFd rfl rfl c5 ?_
        refine AOps.val (Gv.pickF (v := .bool _) rfl c5 rfl) ?_
        refine AOps.val (Gv.assign (v := .bool _) rfl) ?_
        refine AOps.nil ?_
        refine AWP.ret ?_
        repeat (first | refine aseqQ_ret ?_ | refine ablockQ_ret ?_)
        refine afin.t1 (x := .bool _) rfl ?_
        exact jb (by simp_all)
    · skip
      refine AOps.guardFd rfl rfl c4 ?_
      refine AOps.guardFd rfl rfl c4 ?_
      refine AOps.guardFd rfl rfl c4 ?_
      refine AOps.guardFd rfl rfl c4 ?_
      refine AOps.guardFd rfl rfl c4 ?_
      refine AOps.val (Gv.pickF (v := .bool _) rfl c4 rfl) ?_
      refine AOps.val (Gv.move (v := .bool _) rfl) ?_
      refine AOps.guardFd rfl rfl rfl ?_
      refine AOps.guardFd rfl rfl rfl ?_
      refine AOps.guardFd rfl rfl rfl ?_
      refine AOps.guardFd rfl rfl rfl ?_
      refine AOps.guardFd rfl rfl rfl ?_
      refine AOps.val (Gv.pickF (v := .bool _) rfl rfl rfl) ?_
      refine AOps.val (Gv.assign (v := .bool _) rfl) ?_
      refine AOps.nil ?_
      refine AWP.ret ?_
      repeat (first | refine aseqQ_ret ?_ | refine ablockQ_ret ?_)
      refine afin.t1 (x := .bool _) rfl ?_
      exact jb (by simp_all)
  · skip
    refine AOps.guardFd rfl rfl c3 ?_
    refine AOps.guardFd rfl rfl c3 ?_
    refine AOps.guardFd rfl rfl c3 ?_
    refine AOps.guardFd rfl rfl c3 ?_
    refine AOps.guardFd rfl rfl c3 ?_
    refine AOps.val (Gv.pickF (v := .bool _) rfl c3 rfl) ?_
    refine AOps.val (Gv.move (v := .bool _) rfl) ?_
    refine AOps.guardFd rfl rfl rfl ?_
    refine AOps.guardFd rfl rfl rfl ?_
    refine AOps.guardFd rfl rfl rfl ?_
    refine AOps.guardFd rfl rfl rfl ?_
    refine AOps.guardFd rfl rfl rfl ?_
    refine AOps.val (Gv.pickF (v := .bool _) rfl rfl rfl) ?_
    refine AOps.val (Gv.move (v := .bool _) rfl) ?_
    refine AOps.guardFd rfl rfl rfl ?_
    refine AOps.guardFd rfl rfl rfl ?_
    refine AOps.guardFd rfl rfl rfl ?_
    refine AOps.guardFd rfl rfl rfl ?_
    refine AOps.guardFd rfl rfl rfl ?_
    refine AOps.val (Gv.pickF (v := .bool _) rfl rfl rfl) ?_
    refine AOps.val (Gv.assign (v := .bool _) rfl) ?_
    refine AOps.nil ?_
    refine AWP.ret ?_
    repeat (first | refine aseqQ_ret ?_ | refine ablockQ_ret ?_)
    refine afin.t1 (x := .bool _) rfl ?_
    exact jb (by simp_all)

theorem sameBlock_spec (x y : PBlock) (hx : okBlk x) : AFun Tryd.prog E 20 [.agg (encBlk x), .agg (encBlk y)] (.bool (decide (x = y))) := by
  obtain ⟨h1, h2, h3, h4⟩ := hx
  rw [blk_iff, term_iff]
  refine ACall.intro Tryd.func20 rfl (by decide) rfl ?_
  refine AWP.seq ?_
  refine AWP.region rfl ?_
  refine AOps.boxF (cs := _) rfl rfl rfl ?_
  refine AOps.boxF (cs := _) rfl rfl rfl ?_
  refine AOps.val (Gv.assign (v := .bool _) rfl) ?_
  refine AOps.nil ?_
  refine AWP.seq ?_
  refine AWP.region rfl ?_
  refine AOps.val (Gv.fieldF Tryd.underlying39 rfl Tryd.sizeOf9 (by decide) rfl rfl) ?_
  refine AOps.val (Gv.load1F (c := .str _) Tryd.isAgg9 rfl) ?_
  refine AOps.val (Gv.fieldF Tryd.underlying39 rfl Tryd.sizeOf9 (by decide) rfl rfl) ?_
  refine AOps.val (Gv.load1F (c := .str _) Tryd.isAgg9 rfl) ?_
  refine AOps.val (Gv.eqlT rfl rfl) ?_
  refine AOps.val (Gv.move (v := .bool _) rfl) ?_
  refine AOps.case (s := 10) rfl (fun c6 => ?_) (fun c6 => ?_)
  · skip
    refine AOps.guardT rfl rfl c6 ?_
    refine AOps.val (Gv.fieldF Tryd.underlying39 rfl Tryd.sizeOf37 (by decide) rfl rfl) ?_
    refine AOps.guardT rfl rfl c6 ?_
    refine AOps.val (Gv.loadWF Tryd.isAgg37 Tryd.sizeOf37 rfl rfl) ?_
    refine AOps.guardT rfl rfl c6 ?_
    refine AOps.val (Gv.fieldF Tryd.underlying39 rfl Tryd.sizeOf37 (by decide) rfl rfl) ?_
    refine AOps.guardT rfl rfl c6 ?_
    refine AOps.val (Gv.loadWF Tryd.isAgg37 Tryd.sizeOf37 rfl rfl) ?_
    refine AOps.guardT rfl rfl c6 ?_
    refine AOps.val (Gv.eqlP (xs := [.int _ _, .int _ _, .int _ _, .int _ _]) (ys := [.int _ _, .int _ _, .int _ _, .int _ _]) (by kernel_rfl) rfl rfl (fun w => eq_term _ _ _ _ _ _ _ _ w)) ?_
    refine AOps.val (Gv.pickT (v := .bool _) rfl c6 rfl) ?_
    refine AOps.val (Gv.move (v := .bool _) rfl) ?_
    refine AOps.case (s := 17) rfl (fun c7 => ?_) (fun c7 => ?_)
    · skip
      refine AOps.guardT rfl rfl c7 ?_
      refine AOps.val (Gv.fieldF Tryd.underlying39 rfl Tryd.sizeOf32 (by decide) rfl rfl) ?_
      refine AOps.guardT rfl rfl c7 ?_
      refine AOps.val (Gv.load1F (c := .fro _ _) Tryd.isAgg32 rfl) ?_
      refine AOps.guardT rfl rfl c7 ?_
      refine AOps.val (Gv.fieldF Tryd.underlying39 rfl Tryd.sizeOf32 (by decide) rfl rfl) ?_
      refine AOps.guardT rfl rfl c7 ?_
      refine AOps.val (Gv.load1F (c := .fro _ _) Tryd.isAgg32 rfl) ?_
      refine AOps.guardT rfl rfl c7 ?_
      refine AOps.callP (equalP_spec _ _ h1 (fun p hp q => samePhi_spec p q (h3 p hp))) rfl ?_
      refine AOps.val (Gv.pickT (v := .bool _) rfl c7 rfl) ?_
      refine AOps.val (Gv.move (v := .bool _) rfl) ?_
      refine AOps.case (s := 24) rfl (fun c8 => ?_) (fun c8 => ?_)
      · skip
        refine AOps.guardT rfl rfl c8 ?_
        refine AOps.val (Gv.fieldF Tryd.underlying39 rfl Tryd.sizeOf33 (by decide) rfl rfl) ?_
        refine AOps.guardT rfl rfl c8 ?_
        refine AOps.val (Gv.load1F (c := .fro _ _) Tryd.isAgg33 rfl) ?_
        refine AOps.guardT rfl rfl c8 ?_
        refine AOps.val (Gv.fieldF Tryd.underlying39 rfl Tryd.sizeOf33 (by decide) rfl rfl) ?_
        refine AOps.guardT rfl rfl c8 ?_
        refine AOps.val (Gv.load1F (c := .fro _ _) Tryd.isAgg33 rfl) ?_
        refine AOps.guardT rfl rfl c8 ?_
        refine AOps.callP (equalX_spec _ _ h2 (fun p hp q => sameInst_spec p q (h4 p hp))) rfl ?_
        refine AOps.val (Gv.pickT (v := .bool _) rfl c8 rfl) ?_
        refine AOps.val (Gv.assign (v := .bool _) rfl) ?_
        refine AOps.nil ?_
        refine AWP.ret ?_
        repeat (first | refine aseqQ_ret ?_ | refine ablockQ_ret ?_)
        refine afin.t1 (x := .bool _) rfl ?_
        exact jb (by simp_all)
      · skip
        refine AOps.guardFd rfl rfl c8 ?_
        refine AOps.guardFd rfl rfl c8 ?_
        refine AOps.guardFd rfl rfl c8 ?_
        refine AOps.guardFd rfl rfl c8 ?_
        refine AOps.guardFd rfl rfl c8 ?_
        refine AOps.val (Gv.pickF (v := .bool _) rfl c8 rfl) ?_
        refine AOps.val (Gv.assign (v := .bool _) rfl) ?_
        refine AOps.nil ?_
        refine AWP.ret ?_
        repeat (first | refine aseqQ_ret ?_ | refine ablockQ_ret ?_)
        refine afin.t1 (x := .bool _) rfl ?_
        exact jb (by simp_all)
    · skip
      refine AOps.guardFd rfl rfl c7 ?_
      refine AOps.guardFd rfl rfl c7 ?_
      refine AOps.guardFd rfl rfl c7 ?_
      refine AOps.guardFd rfl rfl c7 ?_
      refine AOps.guardFd rfl rfl c7 ?_
      refine AOps.val (Gv.pickF (v := .bool _) rfl c7 rfl) ?_
      refine AOps.val (Gv.move (v := .bool _) rfl) ?_
      refine AOps.guardFd rfl rfl rfl ?_
      refine AOps.guardFd rfl rfl rfl ?_
      refine AOps.guardFd rfl rfl rfl ?_
      refine AOps.guardFd rfl rfl rfl ?_
      refine AOps.guardFd rfl rfl rfl ?_
      refine AOps.val (Gv.pickF (v := .bool _) rfl rfl rfl) ?_
      refine AOps.val (Gv.assign (v := .bool _) rfl) ?_
      refine AOps.nil ?_
      refine AWP.ret ?_
      repeat (first | refine aseqQ_ret ?_ | refine ablockQ_ret ?_)
      refine afin.t1 (x := .bool _) rfl ?_
      exact jb (by simp_all)
  · skip
    refine AOps.guardFd rfl rfl c6 ?_
    refine AOps.guardFd rfl rfl c6 ?_
    refine AOps.guardFd rfl rfl c6 ?_
    refine AOps.guardFd rfl rfl c6 ?_
    refine AOps.guardFd rfl rfl c6 ?_
    refine AOps.val (Gv.pickF (v := .bool _) rfl c6 rfl) ?_
    refine AOps.val (Gv.move (v := .bool _) rfl) ?_
    refine AOps.guardFd rfl rfl rfl ?_
    refine AOps.guardFd rfl rfl rfl ?_
    refine AOps.guardFd rfl rfl rfl ?_
    refine AOps.guardFd rfl rfl rfl ?_
    refine AOps.guardFd rfl rfl rfl ?_
    refine AOps.val (Gv.pickF (v := .bool _) rfl rfl rfl) ?_
    refine AOps.val (Gv.move (v := .bool _) rfl) ?_
    refine AOps.guardFd rfl rfl rfl ?_
    refine AOps.guardFd rfl rfl rfl ?_
    refine AOps.guardFd rfl rfl rfl ?_
    refine AOps.guardFd rfl rfl rfl ?_
    refine AOps.guardFd rfl rfl rfl ?_
    refine AOps.val (Gv.pickF (v := .bool _) rfl rfl rfl) ?_
    refine AOps.val (Gv.assign (v := .bool _) rfl) ?_
    refine AOps.nil ?_
    refine AWP.ret ?_
    repeat (first | refine aseqQ_ret ?_ | refine ablockQ_ret ?_)
    refine afin.t1 (x := .bool _) rfl ?_
    exact jb (by simp_all)

theorem same_spec (f g : PFunc) (hf : okFunc f) : AFun Tryd.prog E 9 [.agg (encF f), .agg (encF g)] (.bool (decide (f = g))) := by
  obtain ⟨h1, h2, h3, h4⟩ := hf
  rw [func_iff]
  refine ACall.intro Tryd.func9 rfl (by decide) rfl ?_
  refine AWP.seq ?_
  refine AWP.region rfl ?_
  refine AOps.boxF (cs := _) rfl rfl rfl ?_
  refine AOps.boxF (cs := _) rfl rfl rfl ?_
  refine AOps.val (Gv.assign (v := .bool _) rfl) ?_
  refine AOps.nil ?_
  refine AWP.seq ?_
  refine AWP.region rfl ?_
  refine AOps.val (Gv.fieldF Tryd.underlying26 rfl Tryd.sizeOf22 (by decide) rfl rfl) ?_
  refine AOps.val (Gv.load1F (c := .fro _ _) Tryd.isAgg22 rfl) ?_
  refine AOps.val (Gv.fieldF Tryd.underlying26 rfl Tryd.sizeOf22 (by decide) rfl rfl) ?_
  refine AOps.val (Gv.load1F (c := .fro _ _) Tryd.isAgg22 rfl) ?_
  refine AOps.callP (equalV_spec _ _ h1) rfl ?_
  refine AOps.val (Gv.move (v := .bool _) rfl) ?_
  refine AOps.case (s := 10) rfl (fun c9 => ?_) (fun c9 => ?_)
  · skip
    refine AOps.guardT rfl rfl c9 ?_
    refine AOps.val (Gv.fieldF Tryd.underlying26 rfl Tryd.sizeOf23 (by decide) rfl rfl) ?_
    refine AOps.guardT rfl rfl c9 ?_
    refine AOps.val (Gv.load1F (c := .fro _ _) Tryd.isAgg23 rfl) ?_
    refine AOps.guardT rfl rfl c9 ?_
    refine AOps.val (Gv.fieldF Tryd.underlying26 rfl Tryd.sizeOf23 (by decide) rfl rfl) ?_
    refine AOps.guardT rfl rfl c9 ?_
    refine AOps.val (Gv.load1F (c := .fro _ _) Tryd.isAgg23 rfl) ?_
    refine AOps.guardT rfl rfl c9 ?_
    refine AOps.callP (equalI_spec _ _ (by assumption)) rfl ?_
    refine AOps.val (Gv.pickT (v := .bool _) rfl c9 rfl) ?_
    refine AOps.val (Gv.move (v := .bool _) rfl) ?_
    refine AOps.case (s := 17) rfl (fun c10 => ?_) (fun c10 => ?_)
    · skip
      refine AOps.guardT rfl rfl c10 ?_
      refine AOps.val (Gv.fieldF Tryd.underlying26 rfl Tryd.sizeOf24 (by decide) rfl rfl) ?_
      refine AOps.guardT rfl rfl c10 ?_
      refine AOps.val (Gv.load1F (c := .fro _ _) Tryd.isAgg24 rfl) ?_
      refine AOps.guardT rfl rfl c10 ?_
      refine AOps.val (Gv.fieldF Tryd.underlying26 rfl Tryd.sizeOf24 (by decide) rfl rfl) ?_
      refine AOps.guardT rfl rfl c10 ?_
      refine AOps.val (Gv.load1F (c := .fro _ _) Tryd.isAgg24 rfl) ?_
      refine AOps.guardT rfl rfl c10 ?_
      refine AOps.callP (equalB_spec _ _ h3 (fun p hp q => sameBlock_spec p q (h4 p hp))) rfl ?_
      refine AOps.val (Gv.pickT (v := .bool _) rfl c10 rfl) ?_
      refine AOps.val (Gv.assign (v := .bool _) rfl) ?_
      refine AOps.nil ?_
      refine AWP.ret ?_
      repeat (first | refine aseqQ_ret ?_ | refine ablockQ_ret ?_)
      refine afin.t1 (x := .bool _) rfl ?_
      exact jb (by simp_all)
    · skip
      refine AOps.guardFd rfl rfl c10 ?_
      refine AOps.guardFd rfl rfl c10 ?_
      refine AOps.guardFd rfl rfl c10 ?_
      refine AOps.guardFd rfl rfl c10 ?_
      refine AOps.guardFd rfl rfl c10 ?_
      refine AOps.val (Gv.pickF (v := .bool _) rfl c10 rfl) ?_
      refine AOps.val (Gv.assign (v := .bool _) rfl) ?_
      refine AOps.nil ?_
      refine AWP.ret ?_
      repeat (first | refine aseqQ_ret ?_ | refine ablockQ_ret ?_)
      refine afin.t1 (x := .bool _) rfl ?_
      exact jb (by simp_all)
  · skip
    refine AOps.guardFd rfl rfl c9 ?_
    refine AOps.guardFd rfl rfl c9 ?_
    refine AOps.guardFd rfl rfl c9 ?_
    refine AOps.guardFd rfl rfl c9 ?_
    refine AOps.guardFd rfl rfl c9 ?_
    refine AOps.val (Gv.pickF (v := .bool _) rfl c9 rfl) ?_
    refine AOps.val (Gv.move (v := .bool _) rfl) ?_
    refine AOps.guardFd rfl rfl rfl ?_
    refine AOps.guardFd rfl rfl rfl ?_
    refine AOps.guardFd rfl rfl rfl ?_
    refine AOps.guardFd rfl rfl rfl ?_
    refine AOps.guardFd rfl rfl rfl ?_
    refine AOps.val (Gv.pickF (v := .bool _) rfl rfl rfl) ?_
    refine AOps.val (Gv.assign (v := .bool _) rfl) ?_
    refine AOps.nil ?_
    refine AWP.ret ?_
    repeat (first | refine aseqQ_ret ?_ | refine ablockQ_ret ?_)
    refine afin.t1 (x := .bool _) rfl ?_
    exact jb (by simp_all)

end Go.Proofs.YtlfhoiakmbcnlaaDoor