/- The law PrintCopies answers true for every input, and its input reads behind the call as it did: the tied card PrintCopiesCardSaid. No condition. -/
import Derived.Test.YtlfhoiakmbcnlaaDoorPk
import Derived.Test.YtlfhoiakmbcnlaaDoorPn
import Derived.Test.YtlfhoiakmbcnlaaDoorRows
import Derived.Test.YtlfhoiakmbcnlaaDoorCards
import Derived.Test.YtlfhoiakmbcnlaaDoorTie
import Derived.ProofKit
import Derived.OpenShut
import Derived.LaidMore
import Derived.Lay
import Derived.LaidOnce
import Derived.SevenTiedAt
namespace Go.Proofs.YtlfhoiakmbcnlaaDoor
open Go.ChangeShapes Go.WideShapes Go.ChangeAt Go.RowKit Go.Proofs Go.Lib

theorem own : ownKnob Tryd.prog.godebug = none := by kernel_rfl
theorem laidOut : laidOutB Tryd.prog = true := by kernel_rfl
theorem pow_eq : (Rows.laid_internal_strconv_uint64pow10 : DataW Unit) = Lib.tabData .u64 Lib.pow10Tab := by kernel_rfl

set_option maxRecDepth 100000 in
theorem lifted (os : Os) (started : os.Started) (H : Type) (enc : TypeId × Value → H) :
    ReturnsInHanded {} Tryd.checked os 3 .any (fun w args => (Rows.printCopiesSpec.pre enc Tryd.prog Tryd.f3 Rows.printCopiesRow.domain false w args ∧ laidMetH Tryd.prog Rows.printCopiesRow.laid w) ∧ sizedMet enc Tryd.prog Tryd.f3 (OpenSpec.ofChange Rows.printCopiesSpec) false w args)
      (Rows.printCopiesSpec.post enc Tryd.prog Tryd.f3 false true false false) := by
  refine returnsInHanded_of_change_and (C := Tryd.checked) (X := fun w _ => laidMetH Tryd.prog Rows.printCopiesRow.laid w) (fun _ _ _ hh h => h.of_heap hh) own started (by kernel_rfl) Tryd.func3
    (ChangeSpec.witness_shaped (enc := enc) (C := Tryd.checked) (os := os) (X := fun w _ => laidMetH Tryd.prog Rows.printCopiesRow.laid w) false (World.laidAll Tryd.prog os Rows.printCopiesRow.laid)
      #[.agg #[.slice none 0 0, .slice none 0 0, .slice none 0 0], .agg #[.slice none 0 0, .slice none 0 0, .slice none 0 0]] 8 (World.laidAll_os _ _ _)
      (World.shaped_of_ZipB (by kernel_rfl) (by kernel_rfl)) (by kernel_rfl) (by kernel_rfl) (by kernel_rfl)
      (by rw [MakeChecks.laidMetH_plain _ _ _ (by kernel_rfl)]; exact laidMet_laidAll _ (by kernel_rfl) (by kernel_rfl))) ?_
  intro W base args ds gs before hval0 hW _ _ hL _
  have hval : ∀ (j : Nat) t v, Tryd.f3.params[j]? = some t → args[j]? = some v → Value.okWide Tryd.prog W .any base t v := hval0
  have hW' := hW
  obtain ⟨p, q, hA0, hV, rfl, _, _⟩ := hW
  have hA : DataW.TrodAll enc Tryd.prog W 0 (fun _ => true) true Tryd.f3.params.toList args.toList ds p := hA0
  rw [Tryd.params3] at hA hval
  obtain ⟨v0, v1, d0, d1, p0, p1, rfl, rfl, rfl, h0, h1⟩ := trodAll_two hA
  obtain ⟨rfl, rfl⟩ := trodVars_none hV
  clear hA0 hval0
  obtain ⟨f, hf, rf⟩ := of_struct decF Tryd.underlying26 (hval 0 26 v0 rfl rfl) h0
  obtain ⟨g, hg, rg⟩ := of_struct decF Tryd.underlying26 (hval 1 26 v1 rfl rfl) h1
  rw [MakeChecks.laidMetH_plain _ _ _ (by kernel_rfl)] at hL
  have hT : Pows W := pows_of (pow_eq ▸ Lib.laidMet.reads hL (.tail _ (.tail _ (.head _))))
  simp only [List.append_nil] at hW'
  have hlt : ∀ y ∈ p0 ++ p1, y.block < W.heap.size := fun y hy => by simpa using hW'.lt y hy
  have hfn := (printCopies_spec (E := W) f g hf hg hT).call (vs := [v0, v1]) ⟨_, _, rfl, rf, _, _, rfl, rg, rfl⟩ rfl
  refine hfn.mono fun e W' ⟨v, he, hv, hb⟩ => ?_
  have hv : v = .bool true := hv
  subst he hv
  have t0 := Below.trod laidOut (by kernel_rfl) (of_decide_eq_true (by kernel_rfl)) h0 hb (fun y hy => hlt y (List.mem_append_left _ hy))
  have t1 := Below.trod laidOut (by kernel_rfl) (of_decide_eq_true (by kernel_rfl)) h1 hb (fun y hy => hlt y (List.mem_append_right _ hy))
  refine ⟨_, rfl, [d0, d1], [], p0 ++ p1, [], p0 ++ p1, [], hW', ?_, ?_, rfl, hb.frame _, fun h => by cases h⟩
  · exact trodAll_cons_mk (shut_bool Tryd.underlying4 _) trodAll_mk0
  · have := trodAll_cons_mk t0 (trodAll_cons_mk t1 (trodAll_mk0 (enc := enc) (P := Tryd.prog) (w := W') (base := 0) (spare := fun b => decide (b < W.heap.size)) (held := true)))
    rw [List.append_nil] at this
    exact this

theorem printCopies_holds : Rows.PrintCopiesSaid :=
  OpenClaim.holds_of_wide 3 Tryd.f3 rfl rfl rfl rfl rfl rfl rfl ⟨rfl, rfl, rfl, rfl, rfl⟩ rfl rfl rfl rfl rfl (by kernel_rfl) Tryd.func3 (by kernel_rfl)
    (of_decide_eq_true (by kernel_rfl)) (by unfold Func.isWrapper; first | (rw [if_pos (by decide +kernel)]; kernel_rfl) | (rw [if_neg (by decide +kernel)]; exact ⟨rfl, rfl⟩))
    (fun os started H enc _ => lifted os started H enc)

theorem printCopies_card_holds : Rows.PrintCopiesCardSaid :=
  Claim7.holds_tied_plain_at .later [] [.data, .data, .data] true (true, "a5cac2afbcdcfe728e1348f8a7c3690f8cdcc0a700e2d14029034d2daf9ceb47") false printCopies_holds (fun _ h => by cases h) (by kernel_rfl) (fun _ h => by cases h) printCopies_row_tie rfl ⟨rfl, rfl⟩ (by kernel_rfl) rfl
    (fun f fn hf hfn => by
      obtain rfl : f = 3 := Option.some.inj ((show Tryd.prog.funcNamed "checkrein/checkreinlaw05.PrintCopies" = some 3 by kernel_rfl).symm.trans hf) |>.symm
      obtain rfl : fn = Tryd.f3 := (Option.some.inj (Tryd.func3.symm.trans hfn)).symm
      exact ⟨by kernel_rfl, fun j t ht => by
        rw [Tryd.params3] at ht
        have hm : t ∈ [26, 26] := by simpa using Array.mem_of_getElem? ht
        have hall : ([26, 26].all fun u => !Tryd.prog.wantsStandIn u) = true := by kernel_rfl
        exact (show Tryd.prog.wantsStandIn t = false by simpa using List.all_eq_true.1 hall t hm)⟩)
    (by kernel_rfl)
end Go.Proofs.YtlfhoiakmbcnlaaDoor
