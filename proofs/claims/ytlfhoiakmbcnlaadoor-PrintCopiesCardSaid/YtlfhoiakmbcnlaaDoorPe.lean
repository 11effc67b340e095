/- Copies. Of programs that are little. -/
import Derived.Test.YtlfhoiakmbcnlaaDoorPd
import Derived.Test.YtlfhoiakmbcnlaaDoorBf
namespace Go.Proofs.YtlfhoiakmbcnlaaDoor
open Go.Proofs Go.Lib Go.Shelf Go.RowKit
theorem pl26 : Places Tryd.prog 26 #[(0, 1), (1, 1), (2, 1)] [.raw (.slice none 0 0), .raw (.slice none 0 0), .raw (.slice none 0 0)] := ⟨_, _, Tryd.underlying26, Tryd.zeroValue26, fun w => by kernel_rfl, rfl⟩
theorem pl39 : Places Tryd.prog 39 #[(0, 1), (1, 1), (2, 1), (3, 4)] [.str ⟨#[]⟩, .raw (.slice none 0 0), .raw (.slice none 0 0), .int .i64 0, .int .i64 0, .int .i64 0, .int .i64 0] := ⟨_, _, Tryd.underlying39, Tryd.zeroValue39, fun w => by kernel_rfl, rfl⟩
theorem pl44 : Places Tryd.prog 44 #[(0, 1), (1, 1), (2, 1)] [.int .i64 0, .raw (.slice none 0 0), .raw (.slice none 0 0)] := ⟨_, _, Tryd.underlying44, Tryd.zeroValue44, fun w => by kernel_rfl, rfl⟩
theorem ps32_1 : PlacesS Tryd.prog 32 44 1 3 [.int .i64 0, .raw (.slice none 0 0), .raw (.slice none 0 0)] := ⟨_, Tryd.underlying32, Tryd.sizeOf44, Tryd.zeroValue44, by decide, by decide, by kernel_rfl⟩
theorem ps33_1 : PlacesS Tryd.prog 33 42 1 4 [.int .i64 0, .int .i64 0, .raw (.slice none 0 0), .int .i64 0] := ⟨_, Tryd.underlying33, Tryd.sizeOf42, Tryd.zeroValue42, by decide, by decide, by kernel_rfl⟩
theorem ps24_1 : PlacesS Tryd.prog 24 39 1 7 [.str ⟨#[]⟩, .raw (.slice none 0 0), .raw (.slice none 0 0), .int .i64 0, .int .i64 0, .int .i64 0, .int .i64 0] := ⟨_, Tryd.underlying24, Tryd.sizeOf39, Tryd.zeroValue39, by decide, by decide, by kernel_rfl⟩
set_option maxRecDepth 20000
variable {E : World}

def smallBlk (b : PBlock) : Prop := b.name.size ≤ 1000 ∧ b.phis.length ≤ 1000 ∧ b.insts.length ≤ 1000 ∧ (∀ p ∈ b.phis, p.args.length ≤ 1000 ∧ p.from_.length ≤ 1000) ∧ ∀ x ∈ b.insts, x.args.length ≤ 1000
def small (f : PFunc) : Prop := f.vars.length ≤ 1000 ∧ f.params.length ≤ 1000 ∧ f.blocks.length ≤ 1000 ∧ (∀ v ∈ f.vars, v.name.size ≤ 1000) ∧ ∀ b ∈ f.blocks, smallBlk b
theorem small.ok {f : PFunc} (h : small f) : okFunc f := by
  obtain ⟨h1, h2, h3, h4, h5⟩ := h
  refine ⟨by unfold okL; omega, by unfold okL; omega, by unfold okL; omega, fun b hb => ?_⟩
  obtain ⟨g1, g2, g3, g4, g5⟩ := h5 b hb
  exact ⟨by unfold okL; omega, by unfold okL; omega, fun p hp => ⟨by have := g4 p hp; unfold okL; omega, by have := g4 p hp; unfold okL; omega⟩, fun x hx => by have := g5 x hx; unfold okL; omega⟩
theorem small.names {f : PFunc} (h : small f) : okNames f := ⟨fun v hv => by have := h.2.2.2.1 v hv; omega, fun b hb => by have := (h.2.2.2.2 b hb).1; omega⟩

theorem all_cell {α : Type} {enc : α → List AV} (h : ∀ x, (enc x).all AV.cell = true) (xs : List α) : (xs.map enc).flatten.all AV.cell = true := by
  induction xs with
  | nil => rfl
  | cons x xs ih => simp only [List.map_cons, List.flatten_cons, List.all_append, h, ih, Bool.and_self]

theorem cloneI_own (xs : List Int) (hl : xs.length ≤ 1000) : ACall Tryd.prog E 15 [.fro 1 (xs.map encI)] [] (fun x O' => ∃ i : Nat, x = .own i xs.length ∧ Left O' [(i, .grow 1 3 (xs.map encI).flatten)] ∧ True) := by
  refine ACall.intro Tryd.func15 rfl (by decide) rfl ?_
  refine AWP.seq ?_
  refine AWP.region rfl ?_
  refine AOps.val (Gv.assign (v := .raw _) rfl) ?_
  refine AOps.nil ?_
  refine AWP.seq ?_
  refine AWP.seq ?_
  refine AWP.region rfl ?_
  refine AOps.val (Gv.move (v := .fro _ _) rfl) ?_
  refine AOps.isNil Tryd.underlying23 rfl rfl (fun hnil => ?_) ?_
  · skip
    have hx : xs = [] := by simpa using hnil
    subst hx
    refine AOps.nil ?_
    refine AWP.condT rfl rfl ?_
    refine AWP.seq ?_
    refine AWP.region rfl ?_
    refine AOps.val (Gv.assign (v := .raw _) rfl) ?_
    refine AOps.nil ?_
    refine AWP.ret ?_
    repeat (first | refine aseqQ_ret ?_ | refine ablockQ_ret ?_)
    refine adopt_fin (s := 2) (k := 1) (T := 3) rfl (fun i => ?_)
    refine afin.t1 (x := .own _ _) rfl ?_
    exact ⟨i, rfl, .refl _, trivial⟩
  · skip
    refine AOps.nil ?_
    refine AWP.condF rfl rfl ?_
    refine AWP.skip ?_
    refine AWP.seq ?_
    refine AWP.region rfl ?_
    refine AOps.buildSlice0 (k := 1) Tryd.underlying23 Tryd.type3 ?_
    intro i5
    refine AOps.val (Gv.move (v := .fro _ _) rfl) ?_
    refine AOps.appendS (k := 1) Tryd.underlying23 Tryd.type3 rfl rfl rfl rfl rfl (fun _ => .head) (by simp) (by decide) (all_cell (fun _ => rfl) xs) (by show (_ + _) * 8 ≤ _; simp <;> omega) (by simp <;> omega) ?_
    intro i7
    refine AOps.val (Gv.assign (v := .own _ _) rfl) ?_
    refine AOps.nil ?_
    refine AWP.ret ?_
    repeat (first | refine aseqQ_ret ?_ | refine ablockQ_ret ?_)
    refine afin.t1 (x := .own _ _) rfl ?_
    exact ⟨i7, (by simp), ⟨_, .refl _, rfl⟩, trivial⟩
theorem cloneV_own (xs : List PVar) (hl : xs.length ≤ 1000) : ACall Tryd.prog E 14 [.fro 2 (xs.map encVar)] [] (fun x O' => ∃ i : Nat, x = .own i xs.length ∧ Left O' [(i, .grow 2 47 (xs.map encVar).flatten)] ∧ True) := by
  refine ACall.intro Tryd.func14 rfl (by decide) rfl ?_
  refine AWP.seq ?_
  refine AWP.region rfl ?_
  refine AOps.val (Gv.assign (v := .raw _) rfl) ?_
  refine AOps.nil ?_
  refine AWP.seq ?_
  refine AWP.seq ?_
  refine AWP.region rfl ?_
  refine AOps.val (Gv.move (v := .fro _ _) rfl) ?_
  refine AOps.isNil Tryd.underlying22 rfl rfl (fun hnil => ?_) ?_
  · skip
    have hx : xs = [] := by simpa using hnil
    subst hx
    refine AOps.nil ?_
    refine AWP.condT rfl rfl ?_
    refine AWP.seq ?_
    refine AWP.region rfl ?_
    refine AOps.val (Gv.assign (v := .raw _) rfl) ?_
    refine AOps.nil ?_
    refine AWP.ret ?_
    repeat (first | refine aseqQ_ret ?_ | refine ablockQ_ret ?_)
    refine adopt_fin (s := 2) (k := 2) (T := 47) rfl (fun i => ?_)
    refine afin.t1 (x := .own _ _) rfl ?_
    exact ⟨i, rfl, .refl _, trivial⟩
  · skip
    refine AOps.nil ?_
    refine AWP.condF rfl rfl ?_
    refine AWP.skip ?_
    refine AWP.seq ?_
    refine AWP.region rfl ?_
    refine AOps.buildSlice0 (k := 2) Tryd.underlying22 Tryd.type47 ?_
    intro i5
    refine AOps.val (Gv.move (v := .fro _ _) rfl) ?_
    refine AOps.appendS (k := 2) Tryd.underlying22 Tryd.type47 rfl rfl rfl rfl rfl (fun _ => .head) (by simp) (by decide) (all_cell (fun _ => rfl) xs) (by show (_ + _) * 24 ≤ _; simp <;> omega) (by simp <;> omega) ?_
    intro i7
    refine AOps.val (Gv.assign (v := .own _ _) rfl) ?_
    refine AOps.nil ?_
    refine AWP.ret ?_
    repeat (first | refine aseqQ_ret ?_ | refine ablockQ_ret ?_)
    refine afin.t1 (x := .own _ _) rfl ?_
    exact ⟨i7, (by simp), ⟨_, .refl _, rfl⟩, trivial⟩
theorem cloneI_spec (xs : List Int) (hl : xs.length ≤ 1000) : AFun Tryd.prog E 15 [.fro 1 (xs.map encI)] (.fro 1 (xs.map encI)) := (cloneI_own xs hl).frozen (by simp [encI]) (by decide) (by simp)
theorem cloneV_spec (xs : List PVar) (hl : xs.length ≤ 1000) : AFun Tryd.prog E 14 [.fro 2 (xs.map encVar)] (.fro 2 (xs.map encVar)) := (cloneV_own xs hl).frozen (by simp [encVar]) (by decide) (by simp)

theorem copyB_own (f : PFunc) (hf : small f) : ACall Tryd.prog E 7 [.agg (encF f)] [] (fun x O' => ∃ i : Nat, x = .agg [.fro 2 (f.vars.map encVar), .fro 1 (f.params.map encI), .own i f.blocks.length] ∧ Left O' [(i, .grow 7 39 (f.blocks.map encBlk).flatten)] ∧ True) := by
  obtain ⟨hf1, hf2, hf3, hf4, hf5⟩ := hf
  refine ACall.intro Tryd.func7 rfl (by decide) rfl ?_
  refine AWP.seq ?_
  refine AWP.region rfl ?_
  refine AOps.boxF (cs := _) rfl rfl rfl ?_
  refine AOps.alloc (cs := [.raw (.slice none 0 0), .raw (.slice none 0 0), .raw (.slice none 0 0)]) Tryd.zeroValue26 rfl rfl ?_
  intro i2
  refine AOps.nil ?_
  refine AWP.seq ?_
  refine AWP.cutS (γ := Nat) [1, 2] (fun i => [(3, .po i 0)]) (fun i => [(i, .cells 26 [.fro 2 (f.vars.map encVar), .fro 1 (f.params.map encI), .raw (.slice none 0 0)]), (i2, .cells 26 [.raw (.slice none 0 0), .raw (.slice none 0 0), .raw (.slice none 0 0)])]) (fun i => True) ?_ (fun _ _ h => h) ?_
  · skip
    refine AWP.regionDraw (fun j => Nat.beq j 8) (by kernel_rfl) rfl (Part.perm (.rest _)) ?_
    refine AAny.take (i := 0) rfl (by kernel_rfl) (by kernel_rfl) (by kernel_rfl) (by kernel_rfl) (Gv.fieldF Tryd.underlying26 rfl Tryd.sizeOf22 (by decide) rfl rfl) ?_
    refine AAny.take (i := 1) rfl (by kernel_rfl) (by kernel_rfl) (by kernel_rfl) (by kernel_rfl) (Gv.load1F (c := .fro _ _) Tryd.isAgg22 rfl) ?_
    refine AAny.take (i := 3) rfl (by kernel_rfl) (by kernel_rfl) (by kernel_rfl) (by kernel_rfl) (Gv.fieldF Tryd.underlying26 rfl Tryd.sizeOf23 (by decide) rfl rfl) ?_
    refine AAny.take (i := 4) rfl (by kernel_rfl) (by kernel_rfl) (by kernel_rfl) (by kernel_rfl) (Gv.load1F (c := .fro _ _) Tryd.isAgg23 rfl) ?_
    refine AAny.two (i := 2) (j := 7) rfl rfl (by kernel_rfl) ?_ ?_
    · skip
      refine AOps.callP (cloneV_spec _ (by omega)) rfl ?_
      refine AOps.nil ?_
      refine AAny.two (i := 5) (j := 7) rfl rfl (by kernel_rfl) ?_ ?_
      · skip
        refine AOps.callP (cloneI_spec _ (by omega)) rfl ?_
        refine AOps.nil ?_
        refine AAny.take (i := 6) rfl (by kernel_rfl) (by kernel_rfl) (by kernel_rfl) (by kernel_rfl) (Gv.build (cps := [(0, [_]), (1, [_])]) (rs := [_, _, .raw (.slice none 0 0)]) pl26 rfl rfl rfl) ?_
        refine AAny.one (i := 7) rfl (by kernel_rfl) ?_
        refine AOps.alloc (cs := [.raw (.slice none 0 0), .raw (.slice none 0 0), .raw (.slice none 0 0)]) Tryd.zeroValue26 rfl rfl ?_
        intro i3
        refine AOps.nil ?_
        refine AAny.writes ?_
        refine AAnyW.one (i := 8) rfl (by kernel_rfl) rfl ?_
        refine AOps.storeW Tryd.sizeOf26 rfl rfl rfl rfl rfl rfl .head rfl ?_
        refine AOps.nil ?_
        refine AAnyW.done (by kernel_rfl) ?_
        exact ⟨i3, ⟨rfl, rfl, trivial⟩, ⟨rfl, trivial⟩, ⟨_, (.refl _), rfl⟩, trivial⟩
      · skip
        refine AOps.alloc (cs := [.raw (.slice none 0 0), .raw (.slice none 0 0), .raw (.slice none 0 0)]) Tryd.zeroValue26 rfl rfl ?_
        intro i3
        refine AOps.nil ?_
        refine AAny.one (i := 5) rfl (by kernel_rfl) ?_
        refine AOps.callP (cloneI_spec _ (by omega)) rfl ?_
        refine AOps.nil ?_
        refine AAny.take (i := 6) rfl (by kernel_rfl) (by kernel_rfl) (by kernel_rfl) (by kernel_rfl) (Gv.build (cps := [(0, [_]), (1, [_])]) (rs := [_, _, .raw (.slice none 0 0)]) pl26 rfl rfl rfl) ?_
        refine AAny.writes ?_
        refine AAnyW.one (i := 8) rfl (by kernel_rfl) rfl ?_
        refine AOps.storeW Tryd.sizeOf26 rfl rfl rfl rfl rfl rfl .head rfl ?_
        refine AOps.nil ?_
        refine AAnyW.done (by kernel_rfl) ?_
        exact ⟨i3, ⟨rfl, rfl, trivial⟩, ⟨rfl, trivial⟩, ⟨_, (.refl _), rfl⟩, trivial⟩
    · skip
      refine AOps.alloc (cs := [.raw (.slice none 0 0), .raw (.slice none 0 0), .raw (.slice none 0 0)]) Tryd.zeroValue26 rfl rfl ?_
      intro i3
      refine AOps.nil ?_
      refine AAny.one (i := 2) rfl (by kernel_rfl) ?_
      refine AOps.callP (cloneV_spec _ (by omega)) rfl ?_
      refine AOps.nil ?_
      refine AAny.one (i := 5) rfl (by kernel_rfl) ?_
      refine AOps.callP (cloneI_spec _ (by omega)) rfl ?_
      refine AOps.nil ?_
      refine AAny.take (i := 6) rfl (by kernel_rfl) (by kernel_rfl) (by kernel_rfl) (by kernel_rfl) (Gv.build (cps := [(0, [_]), (1, [_])]) (rs := [_, _, .raw (.slice none 0 0)]) pl26 rfl rfl rfl) ?_
      refine AAny.writes ?_
      refine AAnyW.one (i := 8) rfl (by kernel_rfl) rfl ?_
      refine AOps.storeW Tryd.sizeOf26 rfl rfl rfl rfl rfl rfl .head rfl ?_
      refine AOps.nil ?_
      refine AAnyW.done (by kernel_rfl) ?_
      exact ⟨i3, ⟨rfl, rfl, trivial⟩, ⟨rfl, trivial⟩, ⟨_, (.refl _), rfl⟩, trivial⟩
  · skip
    rintro i3 _
    refine AWP.seq ?_
    refine AWP.seq ?_
    refine AWP.region rfl ?_
    refine AOps.val (Gv.fieldF Tryd.underlying26 rfl Tryd.sizeOf24 (by decide) rfl rfl) ?_
    refine AOps.val (Gv.load1F (c := .fro _ _) Tryd.isAgg24 rfl) ?_
    refine AOps.val (Gv.lenM Tryd.underlying24 rfl) ?_
    refine AOps.val (Gv.move (v := .int _ _) rfl) ?_
    refine AOps.nil ?_
    refine adoptC_wp (off := 2) (k := 7) (T := 39) (fun _ => .head) rfl ?_
    intro ib
    refine AWP.block ?_
    refine AWP.loop (γ := Nat × Nat) [2, 3, 19, 20] (fun g => [(21, .int .i64 g.1)]) (fun g => [(g.2, .grow 7 39 ((f.blocks.take g.1).map encBlk).flatten), (i3, .cells 26 [.fro 2 (f.vars.map encVar), .fro 1 (f.params.map encI), .own g.2 g.1]), (i2, .cells 26 [.raw (.slice none 0 0), .raw (.slice none 0 0), .raw (.slice none 0 0)])]) (fun g => g.1 ≤ f.blocks.length) (fun g => f.blocks.length - g.1) (0, ib) ⟨rfl, trivial⟩ ⟨_, (.refl _), rfl⟩ (Nat.zero_le _) ?_
    rintro ⟨k, ib⟩ hk
    try dsimp only at *
    refine AWP.seq ?_
    refine AWP.region rfl ?_
    refine AOps.val (Gv.lss rfl rfl) ?_
    refine AOps.nil ?_
    refine AWP.seq ?_
    refine AWP.condP rfl (fun ck => ?_) (fun ck => ?_)
    · skip
      have hk2 : k < f.blocks.length := by omega
      obtain ⟨hb0, hb1, hb2, hb3, hb4⟩ := hf5 _ (List.getElem_mem hk2)
      refine AWP.skip ?_
      refine AWP.seq ?_
      refine AWP.block ?_
      refine AWP.seq ?_
      refine AWP.region rfl ?_
      refine AOps.val (Gv.idxM Tryd.underlying24 Tryd.sizeOf39 rfl rfl rfl (List.getElem?_eq_getElem (by omega))) ?_
      refine AOps.val (Gv.loadWF Tryd.isAgg39 Tryd.sizeOf39 rfl rfl) ?_
      refine AOps.alloc (cs := [.str ⟨#[]⟩, .raw (.slice none 0 0), .raw (.slice none 0 0), .int .i64 0, .int .i64 0, .int .i64 0, .int .i64 0]) Tryd.zeroValue39 rfl rfl ?_
      intro i5
      refine AOps.storeW Tryd.sizeOf39 rfl rfl rfl rfl rfl rfl .head rfl ?_
      refine AOps.nil ?_
      refine AWP.seq ?_
      refine AWP.region rfl ?_
      refine AOps.val (Gv.fieldO Tryd.underlying39 rfl Tryd.sizeOf9 (by decide) rfl rfl) ?_
      refine AOps.val (Gv.load1C (c := .str _) Tryd.isAgg9 rfl ⟨_, .head⟩ rfl) ?_
      refine AOps.val (Gv.fieldO Tryd.underlying39 rfl Tryd.sizeOf37 (by decide) rfl rfl) ?_
      refine AOps.val (Gv.loadAC (l := [_, _, _, _]) Tryd.isAgg37 Tryd.sizeOf37 rfl ⟨_, .head⟩ rfl rfl) ?_
      refine AOps.val (Gv.build (cps := [(0, [_]), (3, [_, _, _, _])]) (rs := [_, .raw (.slice none 0 0), .raw (.slice none 0 0), _, _, _, _]) pl39 rfl rfl rfl) ?_
      refine AOps.alloc (cs := [.str ⟨#[]⟩, .raw (.slice none 0 0), .raw (.slice none 0 0), .int .i64 0, .int .i64 0, .int .i64 0, .int .i64 0]) Tryd.zeroValue39 rfl rfl ?_
      intro i6
      refine AOps.storeW Tryd.sizeOf39 rfl rfl rfl rfl rfl rfl .head rfl ?_
      refine AOps.nil ?_
      refine AWP.seq ?_
      refine AWP.seq ?_
      refine AWP.region rfl ?_
      refine AOps.val (Gv.fieldO Tryd.underlying39 rfl Tryd.sizeOf32 (by decide) rfl rfl) ?_
      refine AOps.val (Gv.load1C (c := .fro _ _) Tryd.isAgg32 rfl ⟨_, (.tail .head)⟩ rfl) ?_
      refine AOps.val (Gv.lenM Tryd.underlying32 rfl) ?_
      refine AOps.val (Gv.move (v := .int _ _) rfl) ?_
      refine AOps.nil ?_
      refine adoptC_wp (off := 1) (k := 3) (T := 44) (fun _ => .head) rfl ?_
      intro ip
      refine GStep.wp (GStep.perm (Pick.perm (.tail .head))) ?_
      refine AWP.block ?_
      refine AWP.loop (γ := Nat × Nat) [2, 3, 5, 6, 19, 20, 21, 31, 32] (fun g => [(33, .int .i64 g.1)]) (fun g => [(i6, .cells 39 [.str f.blocks[k].name, .own g.2 g.1, .raw (.slice none 0 0), .int .i64 f.blocks[k].term.kind, .int .i64 f.blocks[k].term.var, .int .i64 f.blocks[k].term.to0, .int .i64 f.blocks[k].term.to1]), (g.2, .grow 3 44 ((f.blocks[k].phis.take g.1).map encPhi).flatten), (i5, .cells 39 (encBlk f.blocks[k])), (ib, .grow 7 39 ((f.blocks.take k).map encBlk).flatten), (i3, .cells 26 [.fro 2 (f.vars.map encVar), .fro 1 (f.params.map encI), .own ib k]), (i2, .cells 26 [.raw (.slice none 0 0), .raw (.slice none 0 0), .raw (.slice none 0 0)])]) (fun g => g.1 ≤ f.blocks[k].phis.length) (fun g => f.blocks[k].phis.length - g.1) (0, ip) ⟨rfl, trivial⟩ ⟨_, (.refl _), rfl⟩ (Nat.zero_le _) ?_
      rintro ⟨m, ip⟩ hm
      try dsimp only at *
      refine AWP.seq ?_
      refine AWP.region rfl ?_
      refine AOps.val (Gv.lss rfl rfl) ?_
      refine AOps.nil ?_
      refine AWP.seq ?_
      refine AWP.condP rfl (fun cm => ?_) (fun cm => ?_)
      · skip
        have hm2 : m < f.blocks[k].phis.length := by omega
        obtain ⟨hp1, hp2⟩ := hb3 _ (List.getElem_mem hm2)
        refine AWP.skip ?_
        refine AWP.seq ?_
        refine AWP.block ?_
        refine AWP.seq ?_
        refine AWP.region rfl ?_
        refine AOps.val (Gv.idxM Tryd.underlying32 Tryd.sizeOf44 rfl rfl rfl (List.getElem?_eq_getElem (by omega))) ?_
        refine AOps.val (Gv.loadWF Tryd.isAgg44 Tryd.sizeOf44 rfl rfl) ?_
        refine AOps.alloc (cs := [.int .i64 0, .raw (.slice none 0 0), .raw (.slice none 0 0)]) Tryd.zeroValue44 rfl rfl ?_
        intro i8
        refine AOps.storeW Tryd.sizeOf44 rfl rfl rfl rfl rfl rfl .head rfl ?_
        refine AOps.nil ?_
        refine AWP.regionDraw (fun j => Nat.beq j 14) (by kernel_rfl) rfl (Part.perm (.r (.r (.rest _)))) ?_
        refine AAny.take (i := 0) rfl (by kernel_rfl) (by kernel_rfl) (by kernel_rfl) (by kernel_rfl) (Gv.fieldO Tryd.underlying39 rfl Tryd.sizeOf32 (by decide) rfl rfl) ?_
        refine AAny.take (i := 1) rfl (by kernel_rfl) (by kernel_rfl) (by kernel_rfl) (by kernel_rfl) (Gv.load1C (c := .own _ _) Tryd.isAgg32 rfl ⟨_, (.tail .head)⟩ rfl) ?_
        refine AAny.take (i := 2) rfl (by kernel_rfl) (by kernel_rfl) (by kernel_rfl) (by kernel_rfl) (Gv.fieldO Tryd.underlying44 rfl Tryd.sizeOf3 (by decide) rfl rfl) ?_
        refine AAny.take (i := 3) rfl (by kernel_rfl) (by kernel_rfl) (by kernel_rfl) (by kernel_rfl) (Gv.load1C (c := .int _ _) Tryd.isAgg3 rfl ⟨_, .head⟩ rfl) ?_
        refine AAny.take (i := 4) rfl (by kernel_rfl) (by kernel_rfl) (by kernel_rfl) (by kernel_rfl) (Gv.fieldO Tryd.underlying44 rfl Tryd.sizeOf23 (by decide) rfl rfl) ?_
        refine AAny.take (i := 5) rfl (by kernel_rfl) (by kernel_rfl) (by kernel_rfl) (by kernel_rfl) (Gv.load1C (c := .fro _ _) Tryd.isAgg23 rfl ⟨_, .head⟩ rfl) ?_
        refine AAny.take (i := 7) rfl (by kernel_rfl) (by kernel_rfl) (by kernel_rfl) (by kernel_rfl) (Gv.fieldO Tryd.underlying44 rfl Tryd.sizeOf23 (by decide) rfl rfl) ?_
        refine AAny.take (i := 8) rfl (by kernel_rfl) (by kernel_rfl) (by kernel_rfl) (by kernel_rfl) (Gv.load1C (c := .fro _ _) Tryd.isAgg23 rfl ⟨_, .head⟩ rfl) ?_
        refine AAny.one (i := 6) rfl (by kernel_rfl) ?_
        refine AOps.callP (cloneI_spec _ (by omega)) rfl ?_
        refine AOps.nil ?_
        refine AAny.one (i := 9) rfl (by kernel_rfl) ?_
        refine AOps.callP (cloneI_spec _ (by omega)) rfl ?_
        refine AOps.nil ?_
        refine AAny.take (i := 10) rfl (by kernel_rfl) (by kernel_rfl) (by kernel_rfl) (by kernel_rfl) (Gv.build (cps := [(0, [_]), (1, [_]), (2, [_])]) (rs := [_, _, _]) pl44 rfl rfl rfl) ?_
        refine AAny.one (i := 11) rfl (by kernel_rfl) ?_
        refine AOps.buildSliceFF (rows := [[_, _, _]]) ps32_1 rfl rfl rfl rfl rfl ?_
        refine AOps.nil ?_
        refine AAny.one (i := 12) rfl (by kernel_rfl) ?_
        refine AOps.appendS (k := 3) Tryd.underlying32 Tryd.type44 rfl rfl rfl rfl rfl (fun _ => .head) (by rw [grow_len (k := 3) (fun _ => rfl), List.length_take, Nat.min_eq_left hm]) (by decide) rfl (by show (_ + _) * 56 ≤ _; simp <;> omega) (by simp <;> omega) ?_
        intro i49
        refine AOps.nil ?_
        refine AAny.take (i := 13) rfl (by kernel_rfl) (by kernel_rfl) (by kernel_rfl) (by kernel_rfl) (Gv.fieldO Tryd.underlying39 rfl Tryd.sizeOf32 (by decide) rfl rfl) ?_
        refine AAny.writes ?_
        refine AAnyW.one (i := 14) rfl (by kernel_rfl) rfl ?_
        refine AOps.storeC (l := [_]) (new := [_, _, _, _, _, _, _]) Tryd.sizeOf32 rfl rfl rfl rfl rfl rfl (.tail .head) rfl rfl ?_
        refine AOps.nil ?_
        refine AAnyW.done (by kernel_rfl) ?_
        refine AWP.region rfl ?_
        refine AOps.val (Gv.add rfl rfl (by unfold I64; omega)) ?_
        refine AOps.val (Gv.move (v := .int _ _) rfl) ?_
        refine AOps.nil ?_
        exact ⟨(m + 1, i49), ⟨rfl, rfl, rfl, rfl, rfl, rfl, rfl, rfl, rfl, trivial⟩, ⟨rfl, trivial⟩, ⟨_, (.drop (.refl _)), by rw [← grow_push (List.take_succ_eq_append_getElem hm2)]; rfl⟩, hm2, by dsimp only; omega⟩
      · skip
        obtain rfl : m = f.blocks[k].phis.length := by omega
        refine AWP.exit ?_
        refine AWP.seq ?_
        refine AWP.seq ?_
        refine AWP.region rfl ?_
        refine AOps.val (Gv.fieldO Tryd.underlying39 rfl Tryd.sizeOf33 (by decide) rfl rfl) ?_
        refine AOps.val (Gv.load1C (c := .fro _ _) Tryd.isAgg33 rfl ⟨_, (.tail (.tail .head))⟩ rfl) ?_
        refine AOps.val (Gv.lenM Tryd.underlying33 rfl) ?_
        refine AOps.val (Gv.move (v := .int _ _) rfl) ?_
        refine AOps.nil ?_
        refine adoptC_wp (off := 2) (k := 4) (T := 42) (fun _ => .head) rfl ?_
        intro ii
        refine AWP.block ?_
        refine AWP.loop (γ := Nat × Nat) [2, 3, 6, 19, 20, 21, 53, 54] (fun g => [(55, .int .i64 g.1)]) (fun g => [(g.2, .grow 4 42 ((f.blocks[k].insts.take g.1).map encInst).flatten), (i6, .cells 39 [.str f.blocks[k].name, .own ip f.blocks[k].phis.length, .own g.2 g.1, .int .i64 f.blocks[k].term.kind, .int .i64 f.blocks[k].term.var, .int .i64 f.blocks[k].term.to0, .int .i64 f.blocks[k].term.to1]), (ip, .grow 3 44 (f.blocks[k].phis.map encPhi).flatten), (i5, .cells 39 (encBlk f.blocks[k])), (ib, .grow 7 39 ((f.blocks.take k).map encBlk).flatten), (i3, .cells 26 [.fro 2 (f.vars.map encVar), .fro 1 (f.params.map encI), .own ib k]), (i2, .cells 26 [.raw (.slice none 0 0), .raw (.slice none 0 0), .raw (.slice none 0 0)])]) (fun g => g.1 ≤ f.blocks[k].insts.length) (fun g => f.blocks[k].insts.length - g.1) (0, ii) ⟨rfl, trivial⟩ ⟨_, (.refl _), by rw [List.take_length]; rfl⟩ (Nat.zero_le _) ?_
        rintro ⟨m, ii⟩ hm
        try dsimp only at *
        refine AWP.seq ?_
        refine AWP.region rfl ?_
        refine AOps.val (Gv.lss rfl rfl) ?_
        refine AOps.nil ?_
        refine AWP.seq ?_
        refine AWP.condP rfl (fun cm => ?_) (fun cm => ?_)
        · skip
          have hm2 : m < f.blocks[k].insts.length := by omega
          have hp1 := hb4 _ (List.getElem_mem hm2)
          refine AWP.skip ?_
          refine AWP.seq ?_
          refine AWP.block ?_
          refine AWP.seq ?_
          refine AWP.region rfl ?_
          refine AOps.val (Gv.idxM Tryd.underlying33 Tryd.sizeOf42 rfl rfl rfl (List.getElem?_eq_getElem (by omega))) ?_
          refine AOps.val (Gv.loadWF Tryd.isAgg42 Tryd.sizeOf42 rfl rfl) ?_
          refine AOps.alloc (cs := [.int .i64 0, .int .i64 0, .raw (.slice none 0 0), .int .i64 0]) Tryd.zeroValue42 rfl rfl ?_
          intro i10
          refine AOps.storeW Tryd.sizeOf42 rfl rfl rfl rfl rfl rfl .head rfl ?_
          refine AOps.nil ?_
          refine AWP.seq ?_
          refine AWP.region rfl ?_
          refine AOps.val (Gv.fieldO Tryd.underlying42 rfl Tryd.sizeOf23 (by decide) rfl rfl) ?_
          refine AOps.val (Gv.load1C (c := .fro _ _) Tryd.isAgg23 rfl ⟨_, .head⟩ rfl) ?_
          refine AOps.callP (cloneI_spec _ (by omega)) rfl ?_
          refine AOps.val (Gv.fieldO Tryd.underlying42 rfl Tryd.sizeOf23 (by decide) rfl rfl) ?_
          refine AOps.storeC (l := [_]) (new := [_, _, _, _]) Tryd.sizeOf23 rfl rfl rfl rfl rfl rfl .head rfl rfl ?_
          refine AOps.nil ?_
          refine AWP.region rfl ?_
          refine AOps.val (Gv.fieldO Tryd.underlying39 rfl Tryd.sizeOf33 (by decide) rfl rfl) ?_
          refine AOps.val (Gv.load1C (c := .own _ _) Tryd.isAgg33 rfl ⟨_, (.tail (.tail .head))⟩ rfl) ?_
          refine AOps.val (Gv.loadWC Tryd.isAgg42 Tryd.sizeOf42 rfl ⟨_, .head⟩ rfl) ?_
          refine AOps.buildSliceFF (rows := [[_, _, _, _]]) ps33_1 rfl rfl rfl rfl rfl ?_
          refine AOps.appendS (k := 4) Tryd.underlying33 Tryd.type42 rfl rfl rfl rfl rfl (fun _ => (.tail .head)) (by rw [grow_len (k := 4) (fun _ => rfl), List.length_take, Nat.min_eq_left hm]) (by decide) rfl (by show (_ + _) * 48 ≤ _; simp <;> omega) (by simp <;> omega) ?_
          intro i67
          refine AOps.val (Gv.fieldO Tryd.underlying39 rfl Tryd.sizeOf33 (by decide) rfl rfl) ?_
          refine AOps.storeC (l := [_]) (new := [_, _, _, _, _, _, _]) Tryd.sizeOf33 rfl rfl rfl rfl rfl rfl (.tail (.tail .head)) rfl rfl ?_
          refine AOps.nil ?_
          refine AWP.region rfl ?_
          refine AOps.val (Gv.add rfl rfl (by unfold I64; omega)) ?_
          refine AOps.val (Gv.move (v := .int _ _) rfl) ?_
          refine AOps.nil ?_
          exact ⟨(m + 1, i67), ⟨rfl, rfl, rfl, rfl, rfl, rfl, rfl, rfl, trivial⟩, ⟨rfl, trivial⟩, ⟨_, (.drop (.refl _)), by rw [← grow_push (List.take_succ_eq_append_getElem hm2)]; rfl⟩, hm2, by dsimp only; omega⟩
        · skip
          obtain rfl : m = f.blocks[k].insts.length := by omega
          rw [List.take_length]
          refine AWP.exit ?_
          refine GStep.wp (GStep.knowC (off := 1) (rows := f.blocks[k].phis.map encPhi) (.tail (.tail .head)) (.tail .head) rfl (by simp [encI, encVar, encPhi, encInst, encBlk]) (by decide) (by simp)) ?_
          refine GStep.wp (GStep.knowC (off := 2) (rows := f.blocks[k].insts.map encInst) .head .head rfl (by simp [encI, encVar, encPhi, encInst, encBlk]) (by decide) (by simp)) ?_
          refine AWP.region rfl ?_
          refine AOps.val (Gv.fieldO Tryd.underlying26 rfl Tryd.sizeOf24 (by decide) rfl rfl) ?_
          refine AOps.val (Gv.load1C (c := .own _ _) Tryd.isAgg24 rfl ⟨_, (.tail (.tail (.tail .head)))⟩ rfl) ?_
          refine AOps.val (Gv.loadWC Tryd.isAgg39 Tryd.sizeOf39 rfl ⟨_, .head⟩ rfl) ?_
          refine AOps.buildSliceFF (rows := [[_, _, _, _, _, _, _]]) ps24_1 rfl rfl rfl rfl rfl ?_
          refine AOps.appendS (k := 7) Tryd.underlying24 Tryd.type39 rfl rfl rfl rfl rfl (fun _ => (.tail (.tail .head))) (by rw [grow_len (k := 7) (fun _ => rfl), List.length_take, Nat.min_eq_left hk]) (by decide) rfl (by show (_ + _) * 96 ≤ _; simp <;> omega) (by simp <;> omega) ?_
          intro i74
          refine AOps.val (Gv.fieldO Tryd.underlying26 rfl Tryd.sizeOf24 (by decide) rfl rfl) ?_
          refine AOps.storeC (l := [_]) (new := [_, _, _]) Tryd.sizeOf24 rfl rfl rfl rfl rfl rfl (.tail (.tail (.tail .head))) rfl rfl ?_
          refine AOps.nil ?_
          refine AWP.region rfl ?_
          refine AOps.val (Gv.add rfl rfl (by unfold I64; omega)) ?_
          refine AOps.val (Gv.move (v := .int _ _) rfl) ?_
          refine AOps.nil ?_
          exact ⟨(k + 1, i74), ⟨rfl, rfl, rfl, rfl, trivial⟩, ⟨rfl, trivial⟩, ⟨_, (.drop (.drop (.refl _))), by rw [← grow_push (List.take_succ_eq_append_getElem hk2)]; rfl⟩, hk2, by dsimp only; omega⟩
    · skip
      obtain rfl : k = f.blocks.length := by omega
      rw [List.take_length]
      refine AWP.exit ?_
      refine AWP.seq ?_
      refine AWP.region rfl ?_
      refine AOps.val (Gv.loadWC Tryd.isAgg26 Tryd.sizeOf26 rfl ⟨_, (.tail .head)⟩ rfl) ?_
      refine AOps.storeW Tryd.sizeOf26 rfl rfl rfl rfl rfl rfl (.tail (.tail .head)) rfl ?_
      refine AOps.nil ?_
      refine AWP.ret ?_
      repeat (first | refine aseqQ_ret ?_ | refine ablockQ_ret ?_)
      refine afin.c1 rfl ⟨_, (.tail (.tail .head))⟩ Tryd.isAgg26 Tryd.sizeOf26 rfl ?_
      exact ⟨ib, rfl, ⟨_, .keep (.drop (.drop (.refl _))), rfl⟩, trivial⟩
end Go.Proofs.YtlfhoiakmbcnlaaDoor
