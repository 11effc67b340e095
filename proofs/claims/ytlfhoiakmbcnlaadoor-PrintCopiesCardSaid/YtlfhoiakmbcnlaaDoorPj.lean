/- The law PrintLines, walked. No conditions but bounds. -/
import Derived.Test.YtlfhoiakmbcnlaaDoorPi
namespace Go.Proofs.YtlfhoiakmbcnlaaDoor
open Go.Proofs Go.Lib Go.Shelf Go.RowKit
theorem pl47 : Places Tryd.prog 47 #[(0, 1), (1, 1)] [.str ⟨#[]⟩, .int .i64 0] := ⟨_, _, Tryd.underlying47, Tryd.zeroValue47, fun w => by kernel_rfl, rfl⟩
theorem ps22_3 : PlacesS Tryd.prog 22 47 3 2 [.str ⟨#[]⟩, .int .i64 0, .str ⟨#[]⟩, .int .i64 0, .str ⟨#[]⟩, .int .i64 0] := ⟨_, Tryd.underlying22, Tryd.sizeOf47, Tryd.zeroValue47, by decide, by decide, by kernel_rfl⟩
theorem ps23_2 : PlacesS Tryd.prog 23 3 2 1 [.int .i64 0, .int .i64 0] := ⟨_, Tryd.underlying23, Tryd.sizeOf3, Tryd.zeroValue3, by decide, by decide, by kernel_rfl⟩
theorem pl42 : Places Tryd.prog 42 #[(0, 1), (1, 1), (2, 1), (3, 1)] [.int .i64 0, .int .i64 0, .raw (.slice none 0 0), .int .i64 0] := ⟨_, _, Tryd.underlying42, Tryd.zeroValue42, fun w => by kernel_rfl, rfl⟩
theorem pl37 : Places Tryd.prog 37 #[(0, 1), (1, 1), (2, 2)] [.int .i64 0, .int .i64 0, .int .i64 0, .int .i64 0] := ⟨_, _, Tryd.underlying37, Tryd.zeroValue37, fun w => by kernel_rfl, rfl⟩
set_option maxRecDepth 20000
variable {E : World}

/-- What is told of a value may be told less closely. -/
def Imp (x y : AV) : Prop := ∀ I v, RepV I x v → RepV I y v
def ImpL (xs ys : List AV) : Prop := ∀ I vs, RepL I xs vs → RepL I ys vs
theorem Imp.refl (x : AV) : Imp x x := fun _ _ h => h
theorem Imp.nil (k : Nat) : Imp (.raw (.slice none 0 0)) (.fro k []) := fun _ _ h => ⟨none, 0, 0, h, rfl, Nat.le_refl _, fun _ => rfl, trivial⟩
theorem ImpL.nil : ImpL [] [] := fun _ _ h => h
theorem ImpL.cons {x y : AV} {xs ys : List AV} (h : Imp x y) (hs : ImpL xs ys) : ImpL (x :: xs) (y :: ys) := fun I _ ⟨v, us, e, h1, h2⟩ => ⟨v, us, e, h I v h1, hs I us h2⟩
theorem Imp.agg {xs ys : List AV} (h : ImpL xs ys) : Imp (.agg xs) (.agg ys) := fun I _ ⟨vs, e, h1⟩ => ⟨vs, e, h I vs h1⟩

def livesF : PFunc := ⟨[⟨⟨#[120]⟩, 0⟩, ⟨⟨#[121]⟩, 0⟩, ⟨⟨#[122]⟩, 0⟩], [], []⟩
def livesX : PInst := ⟨2, 0, [1, 2], 0⟩
theorem livesLine : instLine livesF livesX = ⟨#[120, 32, 61, 32, 97, 100, 100, 32, 121, 32, 122]⟩ := by decide
theorem lives_spec (hT : Pows E) : AFun Tryd.prog E 5 [] (.bool true) := by
  refine ACall.intro Tryd.func5 rfl (by decide) rfl ?_
  refine AWP.seq ?_
  refine AWP.region rfl ?_
  refine AOps.val (Gv.assign (v := .bool _) rfl) ?_
  refine AOps.nil ?_
  refine AWP.seq ?_
  refine AWP.region rfl ?_
  refine AOps.val (Gv.build (cps := [(0, [_])]) (rs := [_, .int .i64 0]) pl47 rfl rfl rfl) ?_
  refine AOps.val (Gv.build (cps := [(0, [_])]) (rs := [_, .int .i64 0]) pl47 rfl rfl rfl) ?_
  refine AOps.val (Gv.build (cps := [(0, [_])]) (rs := [_, .int .i64 0]) pl47 rfl rfl rfl) ?_
  refine AOps.buildSliceFF (rows := [[_, _], [_, _], [_, _]]) ps22_3 rfl rfl rfl rfl rfl ?_
  refine AOps.val (Gv.build (cps := [(0, [_])]) (rs := [_, .raw (.slice none 0 0), .raw (.slice none 0 0)]) pl26 rfl rfl rfl) ?_
  refine GStep.ops (GStep.slot (t := 6) rfl (Imp.agg (.cons (.refl _) (.cons (.nil 1) (.cons (.nil 7) .nil))))) ?_
  refine AOps.alloc (cs := [.raw (.slice none 0 0), .raw (.slice none 0 0), .raw (.slice none 0 0)]) Tryd.zeroValue26 rfl rfl ?_
  intro i1
  refine AOps.storeW Tryd.sizeOf26 rfl rfl rfl rfl rfl rfl .head rfl ?_
  refine AOps.nil ?_
  refine AWP.seq ?_
  refine AWP.region rfl ?_
  refine AOps.val (Gv.loadWC Tryd.isAgg26 Tryd.sizeOf26 rfl ⟨_, .head⟩ rfl) ?_
  refine AOps.buildSliceFF (rows := [[_], [_]]) ps23_2 rfl rfl rfl rfl rfl ?_
  refine AOps.val (Gv.build (cps := [(0, [_]), (1, [_]), (2, [_])]) (rs := [_, _, _, .int .i64 0]) pl42 rfl rfl rfl) ?_
  refine AOps.callP (Inst_spec livesF livesX (by decide) (by decide) (fun h => by cases h) hT) rfl ?_
  refine AOps.val (Gv.eqlT rfl rfl) ?_
  refine AOps.val (Gv.assign (v := .bool _) rfl) ?_
  refine AOps.nil ?_
  refine AWP.ret ?_
  repeat (first | refine aseqQ_ret ?_ | refine ablockQ_ret ?_)
  refine afin.t1 (x := .bool _) rfl ?_
  rw [livesLine]; rfl

theorem lawShaped_spec (f : PFunc) (hf : okFunc f) (hn : okNames f) (hL : Letters E) : AFun Tryd.prog E 10 [.agg (encF f)] (.bool (decide (ShapedP f))) := by
  refine ACall.intro Tryd.func10 rfl (by decide) rfl ?_
  refine AWP.seq ?_
  refine AWP.region rfl ?_
  refine AOps.boxF (cs := _) rfl rfl rfl ?_
  refine AOps.val (Gv.assign (v := .bool _) rfl) ?_
  refine AOps.nil ?_
  refine AWP.seq ?_
  refine AWP.region rfl ?_
  refine AOps.val (Gv.loadWF Tryd.isAgg26 Tryd.sizeOf26 rfl rfl) ?_
  refine AOps.callP (refShaped_spec _ (by assumption) (by assumption) hL) rfl ?_
  refine AOps.val (Gv.assign (v := .bool _) rfl) ?_
  refine AOps.nil ?_
  refine AWP.ret ?_
  repeat (first | refine aseqQ_ret ?_ | refine ablockQ_ret ?_)
  refine afin.t1 (x := .bool _) rfl ?_
  rfl

theorem Left.none : ∀ O : OL, Left O []
  | [] => .refl _
  | _ :: O => let ⟨_, h, e⟩ := Left.none O; ⟨_, .drop h, e⟩
theorem few_ex (f : PFunc) (hf : wFunc f) : ACall Tryd.prog E 6 [.agg (encF f)] [] (fun x O' => ∃ b : Bool, x = .bool b ∧ O' = [] ∧ (b = true → little f)) :=
  ((few_spec f hf).mono fun x O' ⟨b, e, h⟩ => ⟨b, e, Left.none O', h⟩ : ACall Tryd.prog E 6 [.agg (encF f)] [] (fun x O' => ∃ b : Bool, x = .bool b ∧ Left O' [] ∧ (b = true → little f))).exact

set_option maxHeartbeats 8000000 in
theorem printLines_spec (f : PFunc) (x : PInst) (t : PTerm) (hw : wFunc f) (hxw : wL x.args) (hI : -9223372036854775808 ≤ x.num ∧ x.num ≤ 9223372036854775807) (hT : Pows E) (hL : Letters E) :
    AFun Tryd.prog E 4 [.agg (encF f), .agg (encInst x), .agg (encTerm t)] (.bool true) := by
  have hxl := hxw.lt
  refine ACall.intro Tryd.func4 rfl (by decide) rfl ?_
  refine AWP.seq ?_
  refine AWP.region rfl ?_
  refine AOps.boxF (cs := _) rfl rfl rfl ?_
  refine AOps.boxF (cs := _) rfl rfl rfl ?_
  refine AOps.boxF (cs := _) rfl rfl rfl ?_
  refine AOps.val (Gv.assign (v := .bool _) rfl) ?_
  refine AOps.nil ?_
  refine AWP.seq ?_
  refine AWP.seq ?_
  refine AWP.region rfl ?_
  refine AOps.callP (lives_spec hT) rfl ?_
  refine AOps.val (Gv.not rfl) ?_
  refine AOps.val (Gv.move (v := .bool _) rfl) ?_
  refine AOps.guardT rfl rfl rfl ?_
  refine AOps.val (Gv.loadWF Tryd.isAgg26 Tryd.sizeOf26 rfl rfl) ?_
  refine AOps.guardT rfl rfl rfl ?_
  refine AOps.callA rfl (Part.perm (.rest _)) (few_ex f hw) ?_
  rintro r14 O14 ⟨b, rfl, rfl, hb⟩
  cases b
  · skip
    refine AOps.guardT rfl rfl rfl ?_
    refine AOps.val (Gv.not rfl) ?_
    refine AOps.val (Gv.pickF (v := .bool _) rfl rfl rfl) ?_
    refine AOps.val (Gv.move (v := .bool _) rfl) ?_
    refine AOps.guardFd rfl rfl rfl ?_
    refine AOps.guardFd rfl rfl rfl ?_
    refine AOps.guardFd rfl rfl rfl ?_
    refine AOps.guardFd rfl rfl rfl ?_
    refine AOps.val (Gv.pickT (v := .bool _) rfl rfl rfl) ?_
    refine AOps.nil ?_
    refine AWP.condT rfl rfl ?_
    refine AWP.seq ?_
    refine AWP.region rfl ?_
    refine AOps.callP (lives_spec hT) rfl ?_
    refine AOps.val (Gv.assign (v := .bool _) rfl) ?_
    refine AOps.nil ?_
    refine AWP.ret ?_
    repeat (first | refine aseqQ_ret ?_ | refine ablockQ_ret ?_)
    refine afin.t1 (x := .bool _) rfl ?_
    rfl
  · skip
    have hlit := hb rfl
    have hsm := hlit.small
    refine AOps.guardT rfl rfl rfl ?_
    refine AOps.val (Gv.not rfl) ?_
    refine AOps.val (Gv.pickF (v := .bool _) rfl rfl rfl) ?_
    refine AOps.val (Gv.move (v := .bool _) rfl) ?_
    refine AOps.guardT rfl rfl rfl ?_
    refine AOps.val (Gv.fieldF Tryd.underlying42 rfl Tryd.sizeOf23 (by decide) rfl rfl) ?_
    refine AOps.guardT rfl rfl rfl ?_
    refine AOps.val (Gv.load1F (c := .fro _ _) Tryd.isAgg23 rfl) ?_
    refine AOps.guardT rfl rfl rfl ?_
    refine AOps.val (Gv.lenM Tryd.underlying23 rfl) ?_
    refine AOps.guardT rfl rfl rfl ?_
    refine AOps.val (Gv.gtr rfl rfl) ?_
    refine AOps.val (Gv.pickF (v := .bool _) rfl rfl rfl) ?_
    refine AOps.nil ?_
    refine AWP.condP rfl (fun c10 => ?_) (fun c10 => ?_)
    · skip
      refine AWP.seq ?_
      refine AWP.region rfl ?_
      refine AOps.callP (lives_spec hT) rfl ?_
      refine AOps.val (Gv.assign (v := .bool _) rfl) ?_
      refine AOps.nil ?_
      refine AWP.ret ?_
      repeat (first | refine aseqQ_ret ?_ | refine ablockQ_ret ?_)
      refine afin.t1 (x := .bool _) rfl ?_
      rfl
    · skip
      have hx10 : x.args.length ≤ 10 := by omega
      have hf := hsm.ok
      have hn := hsm.names
      have hx : okL x.args := by unfold okL; omega
      refine AWP.skip ?_
      refine AWP.seq ?_
      refine AWP.seq ?_
      refine AWP.region rfl ?_
      refine AOps.val (Gv.loadWF Tryd.isAgg26 Tryd.sizeOf26 rfl rfl) ?_
      refine AOps.callP (lawShaped_spec f hf hn hL) rfl ?_
      refine AOps.val (Gv.not rfl) ?_
      refine AOps.nil ?_
      refine AWP.cond rfl (fun cs => ?_) (fun cs => ?_)
      · skip
        refine AWP.seq ?_
        refine AWP.region rfl ?_
        refine AOps.val (Gv.assign (v := .bool _) rfl) ?_
        refine AOps.nil ?_
        refine AWP.ret ?_
        repeat (first | refine aseqQ_ret ?_ | refine ablockQ_ret ?_)
        refine afin.t1 (x := .bool _) rfl ?_
        rfl
      · skip
        have hsh : ShapedP f := by simpa using cs
        have hblk : 1 ≤ f.blocks.length := by have := hsh.1; unfold bad1 at this; simp at this; omega
        obtain ⟨b0, bs, hbs⟩ : ∃ b0 bs, f.blocks = b0 :: bs := by
          cases h : f.blocks with
          | nil => rw [h] at hblk; simp at hblk
          | cons b bs => exact ⟨b, bs, rfl⟩
        have hdst : InstP f x → (kRow x.op).2.2 ≠ ⟨#[]⟩ → hasV f x.dst = true := fun h1 h2 => by
          have hb := h1.2.2.1
          unfold bad2 at hb
          simp at hb
          have h3 : ¬ x.dst = -1 := fun e => by have := hb.2.1; simp_all
          exact hb.2.2.1 h3
        have hok1 : okFunc (only f x) := ⟨hf.1, hf.2.1, by simp [only, okL], fun b hb => by simp only [only, List.mem_singleton] at hb; subst hb; exact ⟨by simp [okL], by simp [okL], by simp, fun y hy => by rw [List.mem_singleton.1 hy]; exact hx⟩⟩
        have hok2 : okNames (only f x) := ⟨hn.1, fun b hb => by simp only [only, List.mem_singleton] at hb; subst hb; show 4 ≤ _; omega⟩
        have hb0 : b0 ∈ f.blocks := by rw [hbs]; exact .head _
        have hbl : ∀ b ∈ bs, b ∈ f.blocks := fun b hb => by rw [hbs]; exact .tail _ hb
        have hok3 : okFunc (ended f b0 bs t) := ⟨hf.1, hf.2.1, by have := hf.2.2.1; rw [hbs] at this; exact this, fun b hb => by
          simp only [ended, List.mem_cons] at hb
          rcases hb with rfl | hb
          · exact hf.2.2.2 b0 hb0
          · exact hf.2.2.2 b (hbl b hb)⟩
        have hok4 : okNames (ended f b0 bs t) := ⟨hn.1, fun b hb => by
          simp only [ended, List.mem_cons] at hb
          rcases hb with rfl | hb
          · exact hn.2 b0 hb0
          · exact hn.2 b (hbl b hb)⟩
        have hline : instLine f x = if ShapedP (only f x) then refLine f x else ⟨#[]⟩ := by
          by_cases h : InstP f x
          · rw [if_pos ((only_iff hsh x).2 h), line_eq h]
          · rw [if_neg (fun h2 => h ((only_iff hsh x).1 h2))]
            unfold instLine; rw [if_neg (fun h2 => h ((instOK_iff f x).1 h2))]
        have hterm : decide (ShapedP (ended f b0 bs t)) = termOK f t := by
          apply Bool.eq_iff_iff.2; rw [decide_eq_true_iff]; exact ended_iff hsh hbs
        have htl := termLine_ne f t
        refine AWP.skip ?_
        refine AWP.seq ?_
        refine AWP.region rfl ?_
        refine AOps.val (Gv.loadWF Tryd.isAgg26 Tryd.sizeOf26 rfl rfl) ?_
        refine AOps.callP (copyF_spec f hsm) rfl ?_
        refine AOps.alloc (cs := [.raw (.slice none 0 0), .raw (.slice none 0 0), .raw (.slice none 0 0)]) Tryd.zeroValue26 rfl rfl ?_
        intro i7
        refine AOps.storeW Tryd.sizeOf26 rfl rfl rfl rfl rfl rfl .head rfl ?_
        refine AOps.nil ?_
        refine AWP.seq ?_
        refine AWP.region rfl ?_
        refine AOps.val (Gv.loadWF Tryd.isAgg42 Tryd.sizeOf42 rfl rfl) ?_
        refine AOps.buildSliceFF (rows := [[_, _, _, _]]) ps33_1 rfl rfl rfl rfl rfl ?_
        refine AOps.val (Gv.build (cps := [(0, [_])]) (rs := [_, .int .i64 0, .int .i64 0, .int .i64 0]) pl37 rfl rfl rfl) ?_
        refine AOps.val (Gv.build (cps := [(0, [_]), (2, [_]), (3, [_, _, _, _])]) (rs := [_, .raw (.slice none 0 0), _, _, _, _, _]) pl39 rfl rfl rfl) ?_
        refine GStep.ops (GStep.slot (t := 32) rfl (Imp.agg (.cons (.refl _) (.cons (.nil 3) (.cons (.refl _) (.cons (.refl _) (.cons (.refl _) (.cons (.refl _) (.cons (.refl _) .nil))))))))) ?_
        refine AOps.buildSliceFF (rows := [[_, _, _, _, _, _, _]]) ps24_1 rfl rfl rfl rfl rfl ?_
        refine AOps.val (Gv.fieldO Tryd.underlying26 rfl Tryd.sizeOf24 (by decide) rfl rfl) ?_
        refine AOps.storeC (l := [_]) (new := [_, _, _]) Tryd.sizeOf24 rfl rfl rfl rfl rfl rfl .head rfl rfl ?_
        refine AOps.nil ?_
        refine AWP.seq ?_
        refine AWP.region rfl ?_
        refine AOps.val (Gv.assign (v := .str _) rfl) ?_
        refine AOps.nil ?_
        refine AWP.seq ?_
        refine AWP.seq ?_
        refine AWP.region rfl ?_
        refine AOps.val (Gv.loadWC Tryd.isAgg26 Tryd.sizeOf26 rfl ⟨_, .head⟩ rfl) ?_
        refine AOps.callP (lawShaped_spec (only f x) hok1 hok2 hL) rfl ?_
        refine AOps.nil ?_
        refine AWP.cutS (γ := Unit) [3, 4, 5] (fun u => [(8, .str (if ShapedP (only f x) then refLine f x else ⟨#[]⟩))]) (fun u => []) (fun u => True) ?_ (fun _ _ h => h) ?_
        · skip
          refine AWP.cond rfl (fun cg => ?_) (fun cg => ?_)
          · skip
            have hg : InstP f x := (only_iff hsh x).1 (of_decide_eq_true cg)
            refine AWP.region rfl ?_
            refine AOps.val (Gv.loadWF Tryd.isAgg26 Tryd.sizeOf26 rfl rfl) ?_
            refine AOps.val (Gv.loadWF Tryd.isAgg42 Tryd.sizeOf42 rfl rfl) ?_
            refine AOps.callP (refInst_spec f x hg (hdst hg) (by omega) hsm.2.2.2.1 hI) rfl ?_
            refine AOps.val (Gv.assign (v := .str _) rfl) ?_
            refine AOps.nil ?_
            exact ⟨(), ⟨rfl, rfl, rfl, trivial⟩, ⟨congrArg AV.str (by rw [if_pos (of_decide_eq_true cg)]), trivial⟩, ⟨_, (.drop (.refl _)), rfl⟩, trivial⟩
          · skip
            refine AWP.skip ?_
            exact ⟨(), ⟨rfl, rfl, rfl, trivial⟩, ⟨congrArg AV.str (by rw [if_neg (of_decide_eq_false cg)]), trivial⟩, ⟨_, (.drop (.refl _)), rfl⟩, trivial⟩
        · skip
          rintro _ _
          refine AWP.seq ?_
          refine AWP.region rfl ?_
          refine AOps.val (Gv.loadWF Tryd.isAgg26 Tryd.sizeOf26 rfl rfl) ?_
          refine AOps.callA rfl (Part.perm (.rest _)) ((copyB_own f hsm).exact) ?_
          rintro r41 O41 ⟨ib, rfl, rfl, _⟩
          refine AOps.alloc (cs := [.raw (.slice none 0 0), .raw (.slice none 0 0), .raw (.slice none 0 0)]) Tryd.zeroValue26 rfl rfl ?_
          intro i9
          refine AOps.storeW Tryd.sizeOf26 rfl rfl rfl rfl rfl rfl .head rfl ?_
          refine AOps.nil ?_
          have hne : (f.blocks.map encBlk).flatten ≠ [] := by rw [hbs]; simp [encBlk]
          have hlen : (f.blocks.map encBlk).flatten.length = f.blocks.length * 7 := grow_len (k := 7) (fun _ => rfl) _
          refine AWP.seq ?_
          refine AWP.region rfl ?_
          refine AOps.val (Gv.fieldO Tryd.underlying26 rfl Tryd.sizeOf24 (by decide) rfl rfl) ?_
          refine AOps.val (Gv.load1C (c := .own _ _) Tryd.isAgg24 rfl ⟨_, .head⟩ rfl) ?_
          refine AOps.val (Gv.loadWF Tryd.isAgg37 Tryd.sizeOf37 rfl rfl) ?_
          refine AOps.val (Gv.idxO (j := 0) Tryd.underlying24 Tryd.sizeOf39 rfl rfl rfl ⟨_, (.tail .head)⟩ hne (by omega)) ?_
          refine AOps.val (Gv.fieldO Tryd.underlying39 rfl Tryd.sizeOf37 (by decide) rfl rfl) ?_
          refine AOps.storeG (l := [_, _, _, _]) (new := ((ended f b0 bs t).blocks.map encBlk).flatten) Tryd.sizeOf37 rfl rfl rfl rfl rfl rfl (.tail .head) (by rw [hlen]; show 3 + 4 ≤ _; omega) (by decide) (by rw [hbs]; rfl) ?_
          refine AOps.nil ?_
          refine GStep.wp (GStep.knowC (off := 2) (rows := (ended f b0 bs t).blocks.map encBlk) (.tail .head) .head rfl (by simp [encI, encVar, encPhi, encInst, encBlk]) (by decide) (by rw [hbs]; simp [ended])) ?_
          refine AWP.seq ?_
          refine AWP.regionDraw (fun j => false) (by kernel_rfl) rfl (Part.perm (.r (.rest _))) ?_
          refine AAny.take (i := 0) rfl (by kernel_rfl) (by kernel_rfl) (by kernel_rfl) (by kernel_rfl) (Gv.loadWF Tryd.isAgg26 Tryd.sizeOf26 rfl rfl) ?_
          refine AAny.take (i := 1) rfl (by kernel_rfl) (by kernel_rfl) (by kernel_rfl) (by kernel_rfl) (Gv.loadWF Tryd.isAgg42 Tryd.sizeOf42 rfl rfl) ?_
          refine AAny.take (i := 3) rfl (by kernel_rfl) (by kernel_rfl) (by kernel_rfl) (by kernel_rfl) (Gv.move (v := .str _) rfl) ?_
          refine AAny.one (i := 2) rfl (by kernel_rfl) ?_
          refine AOps.callP (Inst_spec f x (by omega) hsm.2.2.2.1 (fun _ => hI) hT) rfl ?_
          refine AOps.nil ?_
          refine AAny.take (i := 4) rfl (by kernel_rfl) (by kernel_rfl) (by kernel_rfl) (by kernel_rfl) (Gv.eqlT rfl rfl) ?_
          refine AAny.take (i := 5) rfl (by kernel_rfl) (by kernel_rfl) (by kernel_rfl) (by kernel_rfl) (Gv.move (v := .bool _) rfl) ?_
          refine AAny.case (s := 52) rfl (fun c1 => ?_) (fun c1 => ?_)
          · skip
            refine AAny.takeT (i := 6) rfl rfl rfl c1 (by kernel_rfl) (by kernel_rfl) (by kernel_rfl) (by kernel_rfl) (Gv.loadWF Tryd.isAgg26 Tryd.sizeOf26 rfl rfl) ?_
            refine AAny.takeT (i := 7) rfl rfl rfl c1 (by kernel_rfl) (by kernel_rfl) (by kernel_rfl) (by kernel_rfl) (Gv.loadWF Tryd.isAgg37 Tryd.sizeOf37 rfl rfl) ?_
            refine AAny.takeT (i := 10) rfl rfl rfl c1 (by kernel_rfl) (by kernel_rfl) (by kernel_rfl) (by kernel_rfl) (Gv.loadWC Tryd.isAgg26 Tryd.sizeOf26 rfl ⟨_, .head⟩ rfl) ?_
            refine AAny.one (i := 8) rfl (by kernel_rfl) ?_
            refine AOps.guardT rfl rfl c1 ?_
            refine AOps.callP (Term_spec _ _ (by assumption)) rfl ?_
            refine AOps.nil ?_
            refine AAny.takeT (i := 9) rfl rfl rfl c1 (by kernel_rfl) (by kernel_rfl) (by kernel_rfl) (by kernel_rfl) (Gv.neqT rfl rfl) ?_
            refine AAny.one (i := 11) rfl (by kernel_rfl) ?_
            refine AOps.guardT rfl rfl c1 ?_
            refine AOps.callP (lawShaped_spec (ended f b0 bs t) hok3 hok4 hL) rfl ?_
            refine AOps.nil ?_
            refine AAny.takeT (i := 12) rfl rfl rfl c1 (by kernel_rfl) (by kernel_rfl) (by kernel_rfl) (by kernel_rfl) (Gv.eqlB Tryd.underlying4 rfl rfl) ?_
            refine AAny.take (i := 13) rfl (by kernel_rfl) (by kernel_rfl) (by kernel_rfl) (by kernel_rfl) (Gv.pickT (v := .bool _) rfl c1 rfl) ?_
            refine AAny.take (i := 14) rfl (by kernel_rfl) (by kernel_rfl) (by kernel_rfl) (by kernel_rfl) (Gv.assign (v := .bool _) rfl) ?_
            refine AAny.done (by kernel_rfl) ?_
            refine AWP.ret ?_
            repeat (first | refine aseqQ_ret ?_ | refine ablockQ_ret ?_)
            refine afin.t1 (x := .bool _) rfl ?_
            exact jb (by simp_all)
          · skip
            refine AAny.takeF (i := 6) rfl rfl rfl c1 (by kernel_rfl) (by kernel_rfl) (by kernel_rfl) (by kernel_rfl) ?_
            refine AAny.takeF (i := 7) rfl rfl rfl c1 (by kernel_rfl) (by kernel_rfl) (by kernel_rfl) (by kernel_rfl) ?_
            refine AAny.takeF (i := 8) rfl rfl rfl c1 (by kernel_rfl) (by kernel_rfl) (by kernel_rfl) (by kernel_rfl) ?_
            refine AAny.takeF (i := 9) rfl rfl rfl c1 (by kernel_rfl) (by kernel_rfl) (by kernel_rfl) (by kernel_rfl) ?_
            refine AAny.takeF (i := 10) rfl rfl rfl c1 (by kernel_rfl) (by kernel_rfl) (by kernel_rfl) (by kernel_rfl) ?_
            refine AAny.takeF (i := 11) rfl rfl rfl c1 (by kernel_rfl) (by kernel_rfl) (by kernel_rfl) (by kernel_rfl) ?_
            refine AAny.takeF (i := 12) rfl rfl rfl c1 (by kernel_rfl) (by kernel_rfl) (by kernel_rfl) (by kernel_rfl) ?_
            refine AAny.take (i := 13) rfl (by kernel_rfl) (by kernel_rfl) (by kernel_rfl) (by kernel_rfl) (Gv.pickF (v := .bool _) rfl c1 rfl) ?_
            refine AAny.take (i := 14) rfl (by kernel_rfl) (by kernel_rfl) (by kernel_rfl) (by kernel_rfl) (Gv.assign (v := .bool _) rfl) ?_
            refine AAny.done (by kernel_rfl) ?_
            refine AWP.ret ?_
            repeat (first | refine aseqQ_ret ?_ | refine ablockQ_ret ?_)
            refine afin.t1 (x := .bool _) rfl ?_
            exact jb (by simp_all)
end Go.Proofs.YtlfhoiakmbcnlaaDoor
