/- The law PrintCopies, walked. No conditions but bounds. -/
import Derived.Test.YtlfhoiakmbcnlaaDoorPm
namespace Go.Proofs.YtlfhoiakmbcnlaaDoor
open Go.Proofs Go.Lib Go.Shelf Go.RowKit

set_option maxRecDepth 20000
variable {E : World}

set_option maxHeartbeats 8000000 in
theorem printCopies_spec (f g : PFunc) (hw : wFunc f) (hwg : wFunc g) (hT : Pows E) :
    AFun Tryd.prog E 3 [.agg (encF f), .agg (encF g)] (.bool true) := by
  refine ACall.intro Tryd.func3 rfl (by decide) rfl ?_
  refine AWP.seq ?_
  refine AWP.region rfl ?_
  refine AOps.boxF (cs := _) rfl rfl rfl ?_
  refine AOps.boxF (cs := _) rfl rfl rfl ?_
  refine AOps.val (Gv.assign (v := .bool _) rfl) ?_
  refine AOps.nil ?_
  refine AWP.seq ?_
  refine AWP.seq ?_
  refine AWP.region rfl ?_
  refine AOps.callP (lives_spec hT) rfl ?_
  refine AOps.val (Gv.not rfl) ?_
  refine AOps.val (Gv.move (v := .bool _) rfl) ?_
  refine AOps.guardT rfl rfl rfl ?_
  refine AOps.val (Gv.loadWF Tryd.isAgg26 Tryd.sizeOf26 rfl rfl) ?_
  refine AOps.guardT rfl rfl rfl ?_
  refine AOps.callA rfl (Part.perm (.rest _)) (few_ex f hw) ?_
  rintro r19 O19 ⟨b, rfl, rfl, hb⟩
  cases b
  · skip
    refine AOps.guardT rfl rfl rfl ?_
    refine AOps.val (Gv.not rfl) ?_
    refine AOps.val (Gv.pickF (v := .bool _) rfl rfl rfl) ?_
    refine AOps.val (Gv.move (v := .bool _) rfl) ?_
    refine AOps.guardFd rfl rfl rfl ?_
    refine AOps.guardFd rfl rfl rfl ?_
    refine AOps.guardFd rfl rfl rfl ?_
    refine AOps.val (Gv.pickT (v := .bool _) rfl rfl rfl) ?_
    refine AOps.nil ?_
    refine AWP.condT rfl rfl ?_
    refine AWP.seq ?_
    refine AWP.region rfl ?_
    refine AOps.callP (lives_spec hT) rfl ?_
    refine AOps.val (Gv.assign (v := .bool _) rfl) ?_
    refine AOps.nil ?_
    refine AWP.ret ?_
    repeat (first | refine aseqQ_ret ?_ | refine ablockQ_ret ?_)
    refine afin.t1 (x := .bool _) rfl ?_
    rfl
  · skip
    have hlf := hb rfl
    refine AOps.guardT rfl rfl rfl ?_
    refine AOps.val (Gv.not rfl) ?_
    refine AOps.val (Gv.pickF (v := .bool _) rfl rfl rfl) ?_
    refine AOps.val (Gv.move (v := .bool _) rfl) ?_
    refine AOps.guardT rfl rfl rfl ?_
    refine AOps.val (Gv.loadWF Tryd.isAgg26 Tryd.sizeOf26 rfl rfl) ?_
    refine AOps.guardT rfl rfl rfl ?_
    refine AOps.callA rfl (Part.perm (.rest _)) (few_ex g hwg) ?_
    rintro r24 O24 ⟨b, rfl, rfl, hb2⟩
    cases b
    · skip
      refine AOps.guardT rfl rfl rfl ?_
      refine AOps.val (Gv.not rfl) ?_
      refine AOps.val (Gv.pickF (v := .bool _) rfl rfl rfl) ?_
      refine AOps.nil ?_
      refine AWP.condT rfl rfl ?_
      refine AWP.seq ?_
      refine AWP.region rfl ?_
      refine AOps.callP (lives_spec hT) rfl ?_
      refine AOps.val (Gv.assign (v := .bool _) rfl) ?_
      refine AOps.nil ?_
      refine AWP.ret ?_
      repeat (first | refine aseqQ_ret ?_ | refine ablockQ_ret ?_)
      refine afin.t1 (x := .bool _) rfl ?_
      rfl
    · skip
      have hlg := hb2 rfl
      have hsf := hlf.small
      have hsg := hlg.small
      refine AOps.guardT rfl rfl rfl ?_
      refine AOps.val (Gv.not rfl) ?_
      refine AOps.val (Gv.pickF (v := .bool _) rfl rfl rfl) ?_
      refine AOps.nil ?_
      refine AWP.condF rfl rfl ?_
      refine AWP.skip ?_
      refine AWP.seq ?_
      refine AWP.cutS (γ := List (Nat × Obj) × Nat × Nat) [2, 3] (fun q => [(5, .po q.2.1 0), (6, .po q.2.2 0)]) (fun q => [(0, .heap (fun L' => L' = q.1)), (q.2.1, .cells 26 ((encF f).map (inp q.1))), (q.2.2, .cells 26 (encF f))]) (fun q => True) ?_ (fun _ _ h => h) ?_
      · skip
        refine AWP.regionDraw (fun j => false) (by kernel_rfl) rfl (Part.perm (.rest _)) ?_
        refine AAny.take (i := 0) rfl (by kernel_rfl) (by kernel_rfl) (by kernel_rfl) (by kernel_rfl) (Gv.loadWF Tryd.isAgg26 Tryd.sizeOf26 rfl rfl) ?_
        refine AAny.take (i := 2) rfl (by kernel_rfl) (by kernel_rfl) (by kernel_rfl) (by kernel_rfl) (Gv.loadWF Tryd.isAgg26 Tryd.sizeOf26 rfl rfl) ?_
        refine AAny.three (i := 1) (j := 4) (m := 5) rfl rfl rfl (by kernel_rfl) ?_ ?_ ?_
        · skip
          refine AOps.callA rfl (Part.perm (.rest _)) (copyL_spec f hsf) ?_
          rintro r29 O29 ⟨L, rfl, rfl⟩
          refine AOps.nil ?_
          refine AAny.three (i := 3) (j := 4) (m := 5) rfl rfl rfl (by kernel_rfl) ?_ ?_ ?_
          · skip
            refine AOps.callP (copyF_spec f hsf) rfl ?_
            refine AOps.nil ?_
            refine AAny.two (i := 4) (j := 5) rfl rfl (by kernel_rfl) ?_ ?_
            · skip
              refine AOps.alloc (cs := [.raw (.slice none 0 0), .raw (.slice none 0 0), .raw (.slice none 0 0)]) Tryd.zeroValue26 rfl rfl ?_
              intro i5
              refine AOps.nil ?_
              refine AAny.one (i := 5) rfl (by kernel_rfl) ?_
              refine AOps.alloc (cs := [.raw (.slice none 0 0), .raw (.slice none 0 0), .raw (.slice none 0 0)]) Tryd.zeroValue26 rfl rfl ?_
              intro i6
              refine AOps.nil ?_
              refine AAny.one (i := 6) rfl (by kernel_rfl) ?_
              refine AOps.storeW Tryd.sizeOf26 rfl rfl rfl rfl rfl rfl (.tail .head) rfl ?_
              refine AOps.nil ?_
              refine AAny.one (i := 7) rfl (by kernel_rfl) ?_
              refine AOps.storeW Tryd.sizeOf26 rfl rfl rfl rfl rfl rfl .head rfl ?_
              refine GStep.ops (GStep.perm (Pick.perm .head)) ?_
              refine GStep.ops (GStep.perm (Pick.perm (.tail .head))) ?_
              refine GStep.ops (GStep.perm (Pick.perm (.tail (.tail .head)))) ?_
              refine AOps.nil ?_
              refine AAny.done (by kernel_rfl) ?_
              exact ⟨(L, i5, i6), ⟨rfl, rfl, trivial⟩, ⟨rfl, rfl, trivial⟩, ⟨_, (.refl _), rfl⟩, trivial⟩
            · skip
              refine AOps.alloc (cs := [.raw (.slice none 0 0), .raw (.slice none 0 0), .raw (.slice none 0 0)]) Tryd.zeroValue26 rfl rfl ?_
              intro i6
              refine AOps.nil ?_
              refine AAny.one (i := 4) rfl (by kernel_rfl) ?_
              refine AOps.alloc (cs := [.raw (.slice none 0 0), .raw (.slice none 0 0), .raw (.slice none 0 0)]) Tryd.zeroValue26 rfl rfl ?_
              intro i5
              refine AOps.nil ?_
              refine AAny.one (i := 6) rfl (by kernel_rfl) ?_
              refine AOps.storeW Tryd.sizeOf26 rfl rfl rfl rfl rfl rfl .head rfl ?_
              refine AOps.nil ?_
              refine AAny.one (i := 7) rfl (by kernel_rfl) ?_
              refine AOps.storeW Tryd.sizeOf26 rfl rfl rfl rfl rfl rfl (.tail .head) rfl ?_
              refine GStep.ops (GStep.perm (Pick.perm (.tail .head))) ?_
              refine GStep.ops (GStep.perm (Pick.perm (.tail .head))) ?_
              refine GStep.ops (GStep.perm (Pick.perm (.tail (.tail .head)))) ?_
              refine AOps.nil ?_
              refine AAny.done (by kernel_rfl) ?_
              exact ⟨(L, i5, i6), ⟨rfl, rfl, trivial⟩, ⟨rfl, rfl, trivial⟩, ⟨_, (.refl _), rfl⟩, trivial⟩
          · skip
            refine AOps.alloc (cs := [.raw (.slice none 0 0), .raw (.slice none 0 0), .raw (.slice none 0 0)]) Tryd.zeroValue26 rfl rfl ?_
            intro i5
            refine AOps.nil ?_
            refine AAny.two (i := 3) (j := 5) rfl rfl (by kernel_rfl) ?_ ?_
            · skip
              refine AOps.callP (copyF_spec f hsf) rfl ?_
              refine AOps.nil ?_
              refine AAny.one (i := 5) rfl (by kernel_rfl) ?_
              refine AOps.alloc (cs := [.raw (.slice none 0 0), .raw (.slice none 0 0), .raw (.slice none 0 0)]) Tryd.zeroValue26 rfl rfl ?_
              intro i6
              refine AOps.nil ?_
              refine AAny.one (i := 6) rfl (by kernel_rfl) ?_
              refine AOps.storeW Tryd.sizeOf26 rfl rfl rfl rfl rfl rfl (.tail .head) rfl ?_
              refine AOps.nil ?_
              refine AAny.one (i := 7) rfl (by kernel_rfl) ?_
              refine AOps.storeW Tryd.sizeOf26 rfl rfl rfl rfl rfl rfl .head rfl ?_
              refine GStep.ops (GStep.perm (Pick.perm .head)) ?_
              refine GStep.ops (GStep.perm (Pick.perm (.tail .head))) ?_
              refine GStep.ops (GStep.perm (Pick.perm (.tail (.tail .head)))) ?_
              refine AOps.nil ?_
              refine AAny.done (by kernel_rfl) ?_
              exact ⟨(L, i5, i6), ⟨rfl, rfl, trivial⟩, ⟨rfl, rfl, trivial⟩, ⟨_, (.refl _), rfl⟩, trivial⟩
            · skip
              refine AOps.alloc (cs := [.raw (.slice none 0 0), .raw (.slice none 0 0), .raw (.slice none 0 0)]) Tryd.zeroValue26 rfl rfl ?_
              intro i6
              refine AOps.nil ?_
              refine AAny.one (i := 3) rfl (by kernel_rfl) ?_
              refine AOps.callP (copyF_spec f hsf) rfl ?_
              refine AOps.nil ?_
              refine AAny.one (i := 6) rfl (by kernel_rfl) ?_
              refine AOps.storeW Tryd.sizeOf26 rfl rfl rfl rfl rfl rfl (.tail .head) rfl ?_
              refine AOps.nil ?_
              refine AAny.one (i := 7) rfl (by kernel_rfl) ?_
              refine AOps.storeW Tryd.sizeOf26 rfl rfl rfl rfl rfl rfl .head rfl ?_
              refine GStep.ops (GStep.perm (Pick.perm .head)) ?_
              refine GStep.ops (GStep.perm (Pick.perm (.tail .head))) ?_
              refine GStep.ops (GStep.perm (Pick.perm (.tail (.tail .head)))) ?_
              refine AOps.nil ?_
              refine AAny.done (by kernel_rfl) ?_
              exact ⟨(L, i5, i6), ⟨rfl, rfl, trivial⟩, ⟨rfl, rfl, trivial⟩, ⟨_, (.refl _), rfl⟩, trivial⟩
          · skip
            refine AOps.alloc (cs := [.raw (.slice none 0 0), .raw (.slice none 0 0), .raw (.slice none 0 0)]) Tryd.zeroValue26 rfl rfl ?_
            intro i6
            refine AOps.nil ?_
            refine AAny.two (i := 3) (j := 4) rfl rfl (by kernel_rfl) ?_ ?_
            · skip
              refine AOps.callP (copyF_spec f hsf) rfl ?_
              refine AOps.nil ?_
              refine AAny.one (i := 4) rfl (by kernel_rfl) ?_
              refine AOps.alloc (cs := [.raw (.slice none 0 0), .raw (.slice none 0 0), .raw (.slice none 0 0)]) Tryd.zeroValue26 rfl rfl ?_
              intro i5
              refine AOps.nil ?_
              refine AAny.one (i := 6) rfl (by kernel_rfl) ?_
              refine AOps.storeW Tryd.sizeOf26 rfl rfl rfl rfl rfl rfl .head rfl ?_
              refine AOps.nil ?_
              refine AAny.one (i := 7) rfl (by kernel_rfl) ?_
              refine AOps.storeW Tryd.sizeOf26 rfl rfl rfl rfl rfl rfl (.tail .head) rfl ?_
              refine GStep.ops (GStep.perm (Pick.perm (.tail .head))) ?_
              refine GStep.ops (GStep.perm (Pick.perm (.tail .head))) ?_
              refine GStep.ops (GStep.perm (Pick.perm (.tail (.tail .head)))) ?_
              refine AOps.nil ?_
              refine AAny.done (by kernel_rfl) ?_
              exact ⟨(L, i5, i6), ⟨rfl, rfl, trivial⟩, ⟨rfl, rfl, trivial⟩, ⟨_, (.refl _), rfl⟩, trivial⟩
            · skip
              refine AOps.alloc (cs := [.raw (.slice none 0 0), .raw (.slice none 0 0), .raw (.slice none 0 0)]) Tryd.zeroValue26 rfl rfl ?_
              intro i5
              refine AOps.nil ?_
              refine AAny.one (i := 3) rfl (by kernel_rfl) ?_
              refine AOps.callP (copyF_spec f hsf) rfl ?_
              refine AOps.nil ?_
              refine AAny.one (i := 6) rfl (by kernel_rfl) ?_
              refine AOps.storeW Tryd.sizeOf26 rfl rfl rfl rfl rfl rfl .head rfl ?_
              refine AOps.nil ?_
              refine AAny.one (i := 7) rfl (by kernel_rfl) ?_
              refine AOps.storeW Tryd.sizeOf26 rfl rfl rfl rfl rfl rfl (.tail .head) rfl ?_
              refine GStep.ops (GStep.perm (Pick.perm (.tail .head))) ?_
              refine GStep.ops (GStep.perm (Pick.perm (.tail .head))) ?_
              refine GStep.ops (GStep.perm (Pick.perm (.tail (.tail .head)))) ?_
              refine AOps.nil ?_
              refine AAny.done (by kernel_rfl) ?_
              exact ⟨(L, i5, i6), ⟨rfl, rfl, trivial⟩, ⟨rfl, rfl, trivial⟩, ⟨_, (.refl _), rfl⟩, trivial⟩
        · skip
          refine AOps.alloc (cs := [.raw (.slice none 0 0), .raw (.slice none 0 0), .raw (.slice none 0 0)]) Tryd.zeroValue26 rfl rfl ?_
          intro i5
          refine AOps.nil ?_
          refine AAny.two (i := 1) (j := 5) rfl rfl (by kernel_rfl) ?_ ?_
          · skip
            refine AOps.callA rfl (Part.perm (.r (.rest _))) (copyL_spec f hsf) ?_
            rintro r29 O29 ⟨L, rfl, rfl⟩
            refine AOps.nil ?_
            refine AAny.two (i := 3) (j := 5) rfl rfl (by kernel_rfl) ?_ ?_
            · skip
              refine AOps.callP (copyF_spec f hsf) rfl ?_
              refine AOps.nil ?_
              refine AAny.one (i := 5) rfl (by kernel_rfl) ?_
              refine AOps.alloc (cs := [.raw (.slice none 0 0), .raw (.slice none 0 0), .raw (.slice none 0 0)]) Tryd.zeroValue26 rfl rfl ?_
              intro i6
              refine AOps.nil ?_
              refine AAny.one (i := 6) rfl (by kernel_rfl) ?_
              refine AOps.storeW Tryd.sizeOf26 rfl rfl rfl rfl rfl rfl (.tail (.tail .head)) rfl ?_
              refine AOps.nil ?_
              refine AAny.one (i := 7) rfl (by kernel_rfl) ?_
              refine AOps.storeW Tryd.sizeOf26 rfl rfl rfl rfl rfl rfl .head rfl ?_
              refine GStep.ops (GStep.perm (Pick.perm .head)) ?_
              refine GStep.ops (GStep.perm (Pick.perm (.tail (.tail .head)))) ?_
              refine GStep.ops (GStep.perm (Pick.perm (.tail (.tail .head)))) ?_
              refine AOps.nil ?_
              refine AAny.done (by kernel_rfl) ?_
              exact ⟨(L, i5, i6), ⟨rfl, rfl, trivial⟩, ⟨rfl, rfl, trivial⟩, ⟨_, (.refl _), rfl⟩, trivial⟩
            · skip
              refine AOps.alloc (cs := [.raw (.slice none 0 0), .raw (.slice none 0 0), .raw (.slice none 0 0)]) Tryd.zeroValue26 rfl rfl ?_
              intro i6
              refine AOps.nil ?_
              refine AAny.one (i := 3) rfl (by kernel_rfl) ?_
              refine AOps.callP (copyF_spec f hsf) rfl ?_
              refine AOps.nil ?_
              refine AAny.one (i := 6) rfl (by kernel_rfl) ?_
              refine AOps.storeW Tryd.sizeOf26 rfl rfl rfl rfl rfl rfl (.tail (.tail .head)) rfl ?_
              refine AOps.nil ?_
              refine AAny.one (i := 7) rfl (by kernel_rfl) ?_
              refine AOps.storeW Tryd.sizeOf26 rfl rfl rfl rfl rfl rfl .head rfl ?_
              refine GStep.ops (GStep.perm (Pick.perm .head)) ?_
              refine GStep.ops (GStep.perm (Pick.perm (.tail (.tail .head)))) ?_
              refine GStep.ops (GStep.perm (Pick.perm (.tail (.tail .head)))) ?_
              refine AOps.nil ?_
              refine AAny.done (by kernel_rfl) ?_
              exact ⟨(L, i5, i6), ⟨rfl, rfl, trivial⟩, ⟨rfl, rfl, trivial⟩, ⟨_, (.refl _), rfl⟩, trivial⟩
          · skip
            refine AOps.alloc (cs := [.raw (.slice none 0 0), .raw (.slice none 0 0), .raw (.slice none 0 0)]) Tryd.zeroValue26 rfl rfl ?_
            intro i6
            refine AOps.nil ?_
            refine AAny.one (i := 1) rfl (by kernel_rfl) ?_
            refine AOps.callA rfl (Part.perm (.r (.r (.rest _)))) (copyL_spec f hsf) ?_
            rintro r29 O29 ⟨L, rfl, rfl⟩
            refine AOps.nil ?_
            refine AAny.one (i := 3) rfl (by kernel_rfl) ?_
            refine AOps.callP (copyF_spec f hsf) rfl ?_
            refine AOps.nil ?_
            refine AAny.one (i := 6) rfl (by kernel_rfl) ?_
            refine AOps.storeW Tryd.sizeOf26 rfl rfl rfl rfl rfl rfl (.tail (.tail .head)) rfl ?_
            refine AOps.nil ?_
            refine AAny.one (i := 7) rfl (by kernel_rfl) ?_
            refine AOps.storeW Tryd.sizeOf26 rfl rfl rfl rfl rfl rfl (.tail .head) rfl ?_
            refine GStep.ops (GStep.perm (Pick.perm (.tail .head))) ?_
            refine GStep.ops (GStep.perm (Pick.perm (.tail (.tail .head)))) ?_
            refine GStep.ops (GStep.perm (Pick.perm (.tail (.tail .head)))) ?_
            refine AOps.nil ?_
            refine AAny.done (by kernel_rfl) ?_
            exact ⟨(L, i5, i6), ⟨rfl, rfl, trivial⟩, ⟨rfl, rfl, trivial⟩, ⟨_, (.refl _), rfl⟩, trivial⟩
        · skip
          refine AOps.alloc (cs := [.raw (.slice none 0 0), .raw (.slice none 0 0), .raw (.slice none 0 0)]) Tryd.zeroValue26 rfl rfl ?_
          intro i6
          refine AOps.nil ?_
          refine AAny.two (i := 1) (j := 4) rfl rfl (by kernel_rfl) ?_ ?_
          · skip
            refine AOps.callA rfl (Part.perm (.r (.rest _))) (copyL_spec f hsf) ?_
            rintro r29 O29 ⟨L, rfl, rfl⟩
            refine AOps.nil ?_
            refine AAny.two (i := 3) (j := 4) rfl rfl (by kernel_rfl) ?_ ?_
            · skip
              refine AOps.callP (copyF_spec f hsf) rfl ?_
              refine AOps.nil ?_
              refine AAny.one (i := 4) rfl (by kernel_rfl) ?_
              refine AOps.alloc (cs := [.raw (.slice none 0 0), .raw (.slice none 0 0), .raw (.slice none 0 0)]) Tryd.zeroValue26 rfl rfl ?_
              intro i5
              refine AOps.nil ?_
              refine AAny.one (i := 6) rfl (by kernel_rfl) ?_
              refine AOps.storeW Tryd.sizeOf26 rfl rfl rfl rfl rfl rfl .head rfl ?_
              refine AOps.nil ?_
              refine AAny.one (i := 7) rfl (by kernel_rfl) ?_
              refine AOps.storeW Tryd.sizeOf26 rfl rfl rfl rfl rfl rfl (.tail (.tail .head)) rfl ?_
              refine GStep.ops (GStep.perm (Pick.perm (.tail (.tail .head)))) ?_
              refine GStep.ops (GStep.perm (Pick.perm (.tail .head))) ?_
              refine GStep.ops (GStep.perm (Pick.perm (.tail (.tail .head)))) ?_
              refine AOps.nil ?_
              refine AAny.done (by kernel_rfl) ?_
              exact ⟨(L, i5, i6), ⟨rfl, rfl, trivial⟩, ⟨rfl, rfl, trivial⟩, ⟨_, (.refl _), rfl⟩, trivial⟩
            · skip
              refine AOps.alloc (cs := [.raw (.slice none 0 0), .raw (.slice none 0 0), .raw (.slice none 0 0)]) Tryd.zeroValue26 rfl rfl ?_
              intro i5
              refine AOps.nil ?_
              refine AAny.one (i := 3) rfl (by kernel_rfl) ?_
              refine AOps.callP (copyF_spec f hsf) rfl ?_
              refine AOps.nil ?_
              refine AAny.one (i := 6) rfl (by kernel_rfl) ?_
              refine AOps.storeW Tryd.sizeOf26 rfl rfl rfl rfl rfl rfl .head rfl ?_
              refine AOps.nil ?_
              refine AAny.one (i := 7) rfl (by kernel_rfl) ?_
              refine AOps.storeW Tryd.sizeOf26 rfl rfl rfl rfl rfl rfl (.tail (.tail .head)) rfl ?_
              refine GStep.ops (GStep.perm (Pick.perm (.tail (.tail .head)))) ?_
              refine GStep.ops (GStep.perm (Pick.perm (.tail .head))) ?_
              refine GStep.ops (GStep.perm (Pick.perm (.tail (.tail .head)))) ?_
              refine AOps.nil ?_
              refine AAny.done (by kernel_rfl) ?_
              exact ⟨(L, i5, i6), ⟨rfl, rfl, trivial⟩, ⟨rfl, rfl, trivial⟩, ⟨_, (.refl _), rfl⟩, trivial⟩
          · skip
            refine AOps.alloc (cs := [.raw (.slice none 0 0), .raw (.slice none 0 0), .raw (.slice none 0 0)]) Tryd.zeroValue26 rfl rfl ?_
            intro i5
            refine AOps.nil ?_
            refine AAny.one (i := 1) rfl (by kernel_rfl) ?_
            refine AOps.callA rfl (Part.perm (.r (.r (.rest _)))) (copyL_spec f hsf) ?_
            rintro r29 O29 ⟨L, rfl, rfl⟩
            refine AOps.nil ?_
            refine AAny.one (i := 3) rfl (by kernel_rfl) ?_
            refine AOps.callP (copyF_spec f hsf) rfl ?_
            refine AOps.nil ?_
            refine AAny.one (i := 6) rfl (by kernel_rfl) ?_
            refine AOps.storeW Tryd.sizeOf26 rfl rfl rfl rfl rfl rfl (.tail .head) rfl ?_
            refine AOps.nil ?_
            refine AAny.one (i := 7) rfl (by kernel_rfl) ?_
            refine AOps.storeW Tryd.sizeOf26 rfl rfl rfl rfl rfl rfl (.tail (.tail .head)) rfl ?_
            refine AOps.nil ?_
            refine AAny.done (by kernel_rfl) ?_
            exact ⟨(L, i5, i6), ⟨rfl, rfl, trivial⟩, ⟨rfl, rfl, trivial⟩, ⟨_, (.refl _), rfl⟩, trivial⟩
      · skip
        rintro ⟨L, i5, i6⟩ _
        refine AWP.seq ?_
        refine AWP.seq ?_
        refine AWP.cutS (γ := Unit) [2, 5, 6] (fun u => [(50, .bool false)]) (fun u => [(i5, .cells 26 ((encF f).map (inp L))), (0, .heap (fun L' => L' = L)), (i6, .cells 26 (encF f))]) (fun u => True) ?_ (fun _ _ h => h) ?_
        · skip
          refine AWP.regionDraw (fun j => false) (by kernel_rfl) rfl (Part.perm (.l (.r (.rest _)))) ?_
          refine AAny.take (i := 0) rfl (by kernel_rfl) (by kernel_rfl) (by kernel_rfl) (by kernel_rfl) (Gv.loadWC Tryd.isAgg26 Tryd.sizeOf26 rfl ⟨_, .head⟩ rfl) ?_
          refine AAny.take (i := 1) rfl (by kernel_rfl) (by kernel_rfl) (by kernel_rfl) (by kernel_rfl) (Gv.loadWF Tryd.isAgg26 Tryd.sizeOf26 rfl rfl) ?_
          refine AAny.one (i := 2) rfl (by kernel_rfl) ?_
          refine AOps.callA rfl (Part.perm (.l (.r (.rest _)))) (ACall.lookL1 (refSame_spec f f hsf.ok) rfl) ?_
          rintro r34 O34 ⟨rfl, rfl⟩
          refine AOps.nil ?_
          refine AAny.take (i := 3) rfl (by kernel_rfl) (by kernel_rfl) (by kernel_rfl) (by kernel_rfl) (Gv.not rfl) ?_
          refine AAny.take (i := 4) rfl (by kernel_rfl) (by kernel_rfl) (by kernel_rfl) (by kernel_rfl) (Gv.move (v := .bool _) rfl) ?_
          refine AAny.case (s := 36) rfl (fun c1 => ?_) (fun c1 => ?_)
          · skip
            refine AAny.takeF (i := 5) rfl rfl rfl c1 (by kernel_rfl) (by kernel_rfl) (by kernel_rfl) (by kernel_rfl) ?_
            refine AAny.takeF (i := 6) rfl rfl rfl c1 (by kernel_rfl) (by kernel_rfl) (by kernel_rfl) (by kernel_rfl) ?_
            refine AAny.takeF (i := 7) rfl rfl rfl c1 (by kernel_rfl) (by kernel_rfl) (by kernel_rfl) (by kernel_rfl) ?_
            refine AAny.takeF (i := 8) rfl rfl rfl c1 (by kernel_rfl) (by kernel_rfl) (by kernel_rfl) (by kernel_rfl) ?_
            refine AAny.take (i := 9) rfl (by kernel_rfl) (by kernel_rfl) (by kernel_rfl) (by kernel_rfl) (Gv.pickT (v := .bool _) rfl c1 rfl) ?_
            refine AAny.take (i := 10) rfl (by kernel_rfl) (by kernel_rfl) (by kernel_rfl) (by kernel_rfl) (Gv.move (v := .bool _) rfl) ?_
            refine AAny.takeF (i := 11) rfl rfl rfl rfl (by kernel_rfl) (by kernel_rfl) (by kernel_rfl) (by kernel_rfl) ?_
            refine AAny.takeF (i := 12) rfl rfl rfl rfl (by kernel_rfl) (by kernel_rfl) (by kernel_rfl) (by kernel_rfl) ?_
            refine AAny.takeF (i := 13) rfl rfl rfl rfl (by kernel_rfl) (by kernel_rfl) (by kernel_rfl) (by kernel_rfl) ?_
            refine AAny.takeF (i := 14) rfl rfl rfl rfl (by kernel_rfl) (by kernel_rfl) (by kernel_rfl) (by kernel_rfl) ?_
            refine AAny.takeF (i := 15) rfl rfl rfl rfl (by kernel_rfl) (by kernel_rfl) (by kernel_rfl) (by kernel_rfl) ?_
            refine AAny.takeF (i := 16) rfl rfl rfl rfl (by kernel_rfl) (by kernel_rfl) (by kernel_rfl) (by kernel_rfl) ?_
            refine AAny.takeF (i := 17) rfl rfl rfl rfl (by kernel_rfl) (by kernel_rfl) (by kernel_rfl) (by kernel_rfl) ?_
            refine AAny.take (i := 18) rfl (by kernel_rfl) (by kernel_rfl) (by kernel_rfl) (by kernel_rfl) (Gv.pickT (v := .bool _) rfl rfl rfl) ?_
            refine AAny.done (by kernel_rfl) ?_
            exact ⟨(), ⟨rfl, rfl, rfl, trivial⟩, ⟨jb (by simp_all), trivial⟩, ⟨_, (.refl _), rfl⟩, trivial⟩
          · skip
            refine AAny.takeT (i := 5) rfl rfl rfl c1 (by kernel_rfl) (by kernel_rfl) (by kernel_rfl) (by kernel_rfl) (Gv.loadWC Tryd.isAgg26 Tryd.sizeOf26 rfl ⟨_, .head⟩ rfl) ?_
            refine AAny.takeT (i := 6) rfl rfl rfl c1 (by kernel_rfl) (by kernel_rfl) (by kernel_rfl) (by kernel_rfl) (Gv.loadWF Tryd.isAgg26 Tryd.sizeOf26 rfl rfl) ?_
            refine AAny.one (i := 7) rfl (by kernel_rfl) ?_
            refine AOps.guardT rfl rfl c1 ?_
            refine AOps.callA rfl (Part.perm (.l (.r (.rest _)))) (ACall.lookL1 (same_spec f f hsf.ok) rfl) ?_
            rintro r39 O39 ⟨rfl, rfl⟩
            refine AOps.nil ?_
            refine AAny.takeT (i := 8) rfl rfl rfl c1 (by kernel_rfl) (by kernel_rfl) (by kernel_rfl) (by kernel_rfl) (Gv.not rfl) ?_
            refine AAny.take (i := 9) rfl (by kernel_rfl) (by kernel_rfl) (by kernel_rfl) (by kernel_rfl) (Gv.pickF (v := .bool _) rfl c1 rfl) ?_
            refine AAny.take (i := 10) rfl (by kernel_rfl) (by kernel_rfl) (by kernel_rfl) (by kernel_rfl) (Gv.move (v := .bool _) rfl) ?_
            refine AAny.case (s := 42) rfl (fun c2 => ?_) (fun c2 => ?_)
            · skip
              refine AAny.takeF (i := 11) rfl rfl rfl c2 (by kernel_rfl) (by kernel_rfl) (by kernel_rfl) (by kernel_rfl) ?_
              refine AAny.takeF (i := 12) rfl rfl rfl c2 (by kernel_rfl) (by kernel_rfl) (by kernel_rfl) (by kernel_rfl) ?_
              refine AAny.takeF (i := 13) rfl rfl rfl c2 (by kernel_rfl) (by kernel_rfl) (by kernel_rfl) (by kernel_rfl) ?_
              refine AAny.takeF (i := 14) rfl rfl rfl c2 (by kernel_rfl) (by kernel_rfl) (by kernel_rfl) (by kernel_rfl) ?_
              refine AAny.takeF (i := 15) rfl rfl rfl c2 (by kernel_rfl) (by kernel_rfl) (by kernel_rfl) (by kernel_rfl) ?_
              refine AAny.takeF (i := 16) rfl rfl rfl c2 (by kernel_rfl) (by kernel_rfl) (by kernel_rfl) (by kernel_rfl) ?_
              refine AAny.takeF (i := 17) rfl rfl rfl c2 (by kernel_rfl) (by kernel_rfl) (by kernel_rfl) (by kernel_rfl) ?_
              refine AAny.take (i := 18) rfl (by kernel_rfl) (by kernel_rfl) (by kernel_rfl) (by kernel_rfl) (Gv.pickT (v := .bool _) rfl c2 rfl) ?_
              refine AAny.done (by kernel_rfl) ?_
              exact ⟨(), ⟨rfl, rfl, rfl, trivial⟩, ⟨jb (by simp_all), trivial⟩, ⟨_, (.refl _), rfl⟩, trivial⟩
            · skip
              refine AAny.takeT (i := 11) rfl rfl rfl c2 (by kernel_rfl) (by kernel_rfl) (by kernel_rfl) (by kernel_rfl) (Gv.loadWF Tryd.isAgg26 Tryd.sizeOf26 rfl rfl) ?_
              refine AAny.takeT (i := 12) rfl rfl rfl c2 (by kernel_rfl) (by kernel_rfl) (by kernel_rfl) (by kernel_rfl) (Gv.loadWF Tryd.isAgg26 Tryd.sizeOf26 rfl rfl) ?_
              refine AAny.takeT (i := 14) rfl rfl rfl c2 (by kernel_rfl) (by kernel_rfl) (by kernel_rfl) (by kernel_rfl) (Gv.loadWF Tryd.isAgg26 Tryd.sizeOf26 rfl rfl) ?_
              refine AAny.takeT (i := 15) rfl rfl rfl c2 (by kernel_rfl) (by kernel_rfl) (by kernel_rfl) (by kernel_rfl) (Gv.loadWF Tryd.isAgg26 Tryd.sizeOf26 rfl rfl) ?_
              refine AAny.one (i := 13) rfl (by kernel_rfl) ?_
              refine AOps.guardT rfl rfl c2 ?_
              refine AOps.callP (same_spec f g hsf.ok) rfl ?_
              refine AOps.nil ?_
              refine AAny.one (i := 16) rfl (by kernel_rfl) ?_
              refine AOps.guardT rfl rfl c2 ?_
              refine AOps.callP (refSame_spec f g hsf.ok) rfl ?_
              refine AOps.nil ?_
              refine AAny.takeT (i := 17) rfl rfl rfl c2 (by kernel_rfl) (by kernel_rfl) (by kernel_rfl) (by kernel_rfl) (Gv.neqB Tryd.underlying4 rfl rfl) ?_
              refine AAny.take (i := 18) rfl (by kernel_rfl) (by kernel_rfl) (by kernel_rfl) (by kernel_rfl) (Gv.pickF (v := .bool _) rfl c2 rfl) ?_
              refine AAny.done (by kernel_rfl) ?_
              exact ⟨(), ⟨rfl, rfl, rfl, trivial⟩, ⟨jb (by simp_all), trivial⟩, ⟨_, (.refl _), rfl⟩, trivial⟩
        · skip
          rintro _ _
          refine GStep.wp (GStep.turn (.tail .head)) ?_
          obtain ⟨hf1, hf2, hf3, hf4, hf5⟩ := id hsf
          refine AWP.condF rfl rfl ?_
          refine AWP.skip ?_
          refine AWP.seq ?_
          refine AWP.seq ?_
          refine AWP.region rfl ?_
          refine AOps.val (Gv.fieldO Tryd.underlying26 rfl Tryd.sizeOf24 (by decide) rfl rfl) ?_
          refine AOps.val (Gv.load1C (c := inp _ (.fro _ _)) Tryd.isAgg24 rfl ⟨_, .head⟩ rfl) ?_
          refine AOps.val (Gv.lenX Tryd.underlying24 rfl) ?_
          refine AOps.val (Gv.move (v := .int _ _) rfl) ?_
          refine AOps.nil ?_
          refine AWP.block ?_
          refine AWP.loop (γ := Nat) [2, 5, 6, 53] (fun i => [(54, .int .i64 i)]) (fun i => [(i5, .cells 26 ((encF f).map (inp L))), (0, .heap (Turned (i) L)), (i6, .cells 26 (encF f))]) (fun i => i ≤ f.blocks.length) (fun i => f.blocks.length - i) 0 ⟨rfl, trivial⟩ ⟨_, (.refl _), rfl⟩ (Nat.zero_le _) ?_
          rintro i hi
          refine AWP.seq ?_
          refine AWP.region rfl ?_
          refine AOps.val (Gv.lss rfl rfl) ?_
          refine AOps.nil ?_
          refine AWP.seq ?_
          refine AWP.condP rfl (fun ci => ?_) (fun ci => ?_)
          · skip
            have hi2 : i < f.blocks.length := by omega
            obtain ⟨hb0, hb1, hb2, hb3, hb4⟩ := hf5 _ (List.getElem_mem hi2)
            refine AWP.skip ?_
            refine AWP.seq ?_
            refine AWP.block ?_
            refine AWP.seq ?_
            refine AWP.region rfl ?_
            refine AOps.val (Gv.move (v := .int _ _) rfl) ?_
            refine AOps.val (Gv.assign (v := .int _ _) rfl) ?_
            refine AOps.nil ?_
            refine AWP.seq ?_
            refine AWP.region rfl ?_
            refine AOps.val (Gv.fieldO Tryd.underlying26 rfl Tryd.sizeOf24 (by decide) rfl rfl) ?_
            refine AOps.val (Gv.load1C (c := inp _ (.fro _ _)) Tryd.isAgg24 rfl ⟨_, .head⟩ rfl) ?_
            refine AOps.val (Gv.move (v := .int _ _) rfl) ?_
            refine AOps.val (Gv.idxX Tryd.underlying24 Tryd.sizeOf39 rfl rfl rfl (List.getElem?_eq_getElem (by omega))) ?_
            refine AOps.val (Gv.assign (v := inp _ (.pf _)) rfl) ?_
            refine AOps.nil ?_
            refine AWP.seq ?_
            refine AWP.region rfl ?_
            refine AOps.val (Gv.move (v := inp _ (.pf _)) rfl) ?_
            refine AOps.val (Gv.nilCheckX rfl) ?_
            refine AOps.val (Gv.fieldX Tryd.underlying39 rfl Tryd.sizeOf9 (by decide) rfl rfl) ?_
            refine AOps.loadXS Tryd.isAgg9 rfl ⟨_, (.tail .head)⟩ ?_
            intro s64 hs64
            refine AOps.val (Gv.addT rfl rfl (by show _ + 1 ≤ _; omega)) ?_
            refine AOps.val (Gv.nilCheckX rfl) ?_
            refine AOps.val (Gv.fieldX Tryd.underlying39 rfl Tryd.sizeOf9 (by decide) rfl rfl) ?_
            refine AOps.storeXS Tryd.sizeOf9 rfl rfl (by rw [app_size]; show _ + 1 ≤ _; omega) (.tail .head) ?_
            refine AOps.nil ?_
            refine AWP.seq ?_
            refine AWP.seq ?_
            refine AWP.region rfl ?_
            refine AOps.val (Gv.move (v := inp _ (.pf _)) rfl) ?_
            refine AOps.val (Gv.nilCheckX rfl) ?_
            refine AOps.val (Gv.fieldX Tryd.underlying39 rfl Tryd.sizeOf33 (by decide) rfl rfl) ?_
            refine AOps.val (Gv.loadX Tryd.isAgg33 rfl ⟨_, (.tail .head)⟩) ?_
            refine AOps.val (Gv.lenX Tryd.underlying33 rfl) ?_
            refine AOps.val (Gv.move (v := .int _ _) rfl) ?_
            refine AOps.nil ?_
            refine AWP.block ?_
            refine AWP.loop (γ := Nat) [2, 5, 6, 8, 53, 54, 72] (fun k => [(73, .int .i64 k)]) (fun k => [(i5, .cells 26 ((encF f).map (inp L))), (0, .heap (Turned (i + 1) L)), (i6, .cells 26 (encF f))]) (fun k => k ≤ f.blocks[i].insts.length) (fun k => f.blocks[i].insts.length - k) 0 ⟨rfl, trivial⟩ ⟨_, (.refl _), rfl⟩ (Nat.zero_le _) ?_
            rintro k hk
            refine AWP.seq ?_
            refine AWP.region rfl ?_
            refine AOps.val (Gv.lss rfl rfl) ?_
            refine AOps.nil ?_
            refine AWP.seq ?_
            refine AWP.condP rfl (fun ck => ?_) (fun ck => ?_)
            · skip
              have hk2 : k < f.blocks[i].insts.length := by omega
              have hc := hb4 _ (List.getElem_mem hk2)
              refine AWP.skip ?_
              refine AWP.seq ?_
              refine AWP.block ?_
              refine AWP.seq ?_
              refine AWP.region rfl ?_
              refine AOps.val (Gv.move (v := .int _ _) rfl) ?_
              refine AOps.val (Gv.assign (v := .int _ _) rfl) ?_
              refine AOps.nil ?_
              refine AWP.seq ?_
              refine AWP.region rfl ?_
              refine AOps.val (Gv.move (v := inp _ (.pf _)) rfl) ?_
              refine AOps.val (Gv.nilCheckX rfl) ?_
              refine AOps.val (Gv.fieldX Tryd.underlying39 rfl Tryd.sizeOf33 (by decide) rfl rfl) ?_
              refine AOps.val (Gv.loadX Tryd.isAgg33 rfl ⟨_, (.tail .head)⟩) ?_
              refine AOps.val (Gv.move (v := .int _ _) rfl) ?_
              refine AOps.val (Gv.idxX Tryd.underlying33 Tryd.sizeOf42 rfl rfl rfl (List.getElem?_eq_getElem (by omega))) ?_
              refine AOps.val (Gv.fieldX Tryd.underlying42 rfl Tryd.sizeOf23 (by decide) rfl rfl) ?_
              refine AOps.val (Gv.loadX Tryd.isAgg23 rfl ⟨_, (.tail .head)⟩) ?_
              refine AOps.val (Gv.lenX Tryd.underlying23 rfl) ?_
              refine AOps.val (Gv.move (v := .int _ _) rfl) ?_
              refine AOps.nil ?_
              refine AWP.block ?_
              refine AWP.loop (γ := Nat) [2, 5, 6, 8, 9, 53, 54, 72, 73, 84] (fun j => [(85, .int .i64 j)]) (fun j => [(i5, .cells 26 ((encF f).map (inp L))), (0, .heap (Turned (i + 1) L)), (i6, .cells 26 (encF f))]) (fun j => j ≤ f.blocks[i].insts[k].args.length) (fun j => f.blocks[i].insts[k].args.length - j) 0 ⟨rfl, trivial⟩ ⟨_, (.refl _), rfl⟩ (Nat.zero_le _) ?_
              rintro j hj
              refine AWP.seq ?_
              refine AWP.region rfl ?_
              refine AOps.val (Gv.lss rfl rfl) ?_
              refine AOps.nil ?_
              refine AWP.seq ?_
              refine AWP.condP rfl (fun cj => ?_) (fun cj => ?_)
              · skip
                have hj2 : j < f.blocks[i].insts[k].args.length := by omega
                refine AWP.skip ?_
                refine AWP.seq ?_
                refine AWP.block ?_
                refine AWP.seq ?_
                refine AWP.region rfl ?_
                refine AOps.val (Gv.move (v := .int _ _) rfl) ?_
                refine AOps.val (Gv.assign (v := .int _ _) rfl) ?_
                refine AOps.nil ?_
                refine AWP.region rfl ?_
                refine AOps.val (Gv.move (v := inp _ (.pf _)) rfl) ?_
                refine AOps.val (Gv.nilCheckX rfl) ?_
                refine AOps.val (Gv.fieldX Tryd.underlying39 rfl Tryd.sizeOf33 (by decide) rfl rfl) ?_
                refine AOps.val (Gv.loadX Tryd.isAgg33 rfl ⟨_, (.tail .head)⟩) ?_
                refine AOps.val (Gv.move (v := .int _ _) rfl) ?_
                refine AOps.val (Gv.idxX Tryd.underlying33 Tryd.sizeOf42 rfl rfl rfl (List.getElem?_eq_getElem (by omega))) ?_
                refine AOps.val (Gv.fieldX Tryd.underlying42 rfl Tryd.sizeOf23 (by decide) rfl rfl) ?_
                refine AOps.val (Gv.loadX Tryd.isAgg23 rfl ⟨_, (.tail .head)⟩) ?_
                refine AOps.val (Gv.move (v := .int _ _) rfl) ?_
                refine AOps.val (Gv.idxX Tryd.underlying23 Tryd.sizeOf3 rfl rfl rfl (List.getElem?_eq_getElem (by omega))) ?_
                refine AOps.loadXI Tryd.isAgg3 rfl ⟨_, (.tail .head)⟩ ?_
                intro m98
                refine AOps.val (Gv.addW rfl rfl) ?_
                refine AOps.val (Gv.idxX Tryd.underlying23 Tryd.sizeOf3 rfl rfl rfl (List.getElem?_eq_getElem (by omega))) ?_
                refine AOps.storeXI Tryd.sizeOf3 rfl rfl (.tail .head) ?_
                refine AOps.nil ?_
                refine AWP.region rfl ?_
                refine AOps.val (Gv.add rfl rfl (by unfold I64; omega)) ?_
                refine AOps.val (Gv.move (v := .int _ _) rfl) ?_
                refine AOps.nil ?_
                exact ⟨j + 1, ⟨rfl, rfl, rfl, rfl, rfl, rfl, rfl, rfl, rfl, rfl, trivial⟩, ⟨rfl, trivial⟩, ⟨_, (.refl _), rfl⟩, hj2, by omega⟩
              · skip
                refine AWP.exit ?_
                refine AWP.region rfl ?_
                refine AOps.val (Gv.add rfl rfl (by unfold I64; omega)) ?_
                refine AOps.val (Gv.move (v := .int _ _) rfl) ?_
                refine AOps.nil ?_
                exact ⟨k + 1, ⟨rfl, rfl, rfl, rfl, rfl, rfl, rfl, trivial⟩, ⟨rfl, trivial⟩, ⟨_, (.refl _), rfl⟩, hk2, by omega⟩
            · skip
              refine AWP.exit ?_
              refine AWP.seq ?_
              refine AWP.region rfl ?_
              refine AOps.val (Gv.move (v := inp _ (.pf _)) rfl) ?_
              refine AOps.val (Gv.nilCheckX rfl) ?_
              refine AOps.val (Gv.fieldX Tryd.underlying39 rfl Tryd.sizeOf32 (by decide) rfl rfl) ?_
              refine AOps.val (Gv.loadX Tryd.isAgg32 rfl ⟨_, (.tail .head)⟩) ?_
              refine AOps.val (Gv.lenX Tryd.underlying32 rfl) ?_
              refine AOps.val (Gv.move (v := .int _ _) rfl) ?_
              refine AOps.nil ?_
              refine AWP.block ?_
              refine AWP.loop (γ := Nat) [2, 5, 6, 8, 53, 54, 107] (fun k => [(108, .int .i64 k)]) (fun k => [(i5, .cells 26 ((encF f).map (inp L))), (0, .heap (Turned (i + 1) L)), (i6, .cells 26 (encF f))]) (fun k => k ≤ f.blocks[i].phis.length) (fun k => f.blocks[i].phis.length - k) 0 ⟨rfl, trivial⟩ ⟨_, (.refl _), rfl⟩ (Nat.zero_le _) ?_
              rintro k hk
              refine AWP.seq ?_
              refine AWP.region rfl ?_
              refine AOps.val (Gv.lss rfl rfl) ?_
              refine AOps.nil ?_
              refine AWP.seq ?_
              refine AWP.condP rfl (fun ck2 => ?_) (fun ck2 => ?_)
              · skip
                have hk2 : k < f.blocks[i].phis.length := by omega
                obtain ⟨hp1, hp2⟩ := hb3 _ (List.getElem_mem hk2)
                refine AWP.skip ?_
                refine AWP.seq ?_
                refine AWP.block ?_
                refine AWP.seq ?_
                refine AWP.region rfl ?_
                refine AOps.val (Gv.move (v := .int _ _) rfl) ?_
                refine AOps.val (Gv.assign (v := .int _ _) rfl) ?_
                refine AOps.nil ?_
                refine AWP.seq ?_
                refine AWP.seq ?_
                refine AWP.region rfl ?_
                refine AOps.val (Gv.move (v := inp _ (.pf _)) rfl) ?_
                refine AOps.val (Gv.nilCheckX rfl) ?_
                refine AOps.val (Gv.fieldX Tryd.underlying39 rfl Tryd.sizeOf32 (by decide) rfl rfl) ?_
                refine AOps.val (Gv.loadX Tryd.isAgg32 rfl ⟨_, (.tail .head)⟩) ?_
                refine AOps.val (Gv.move (v := .int _ _) rfl) ?_
                refine AOps.val (Gv.idxX Tryd.underlying32 Tryd.sizeOf44 rfl rfl rfl (List.getElem?_eq_getElem (by omega))) ?_
                refine AOps.val (Gv.fieldX Tryd.underlying44 rfl Tryd.sizeOf23 (by decide) rfl rfl) ?_
                refine AOps.val (Gv.loadX Tryd.isAgg23 rfl ⟨_, (.tail .head)⟩) ?_
                refine AOps.val (Gv.lenX Tryd.underlying23 rfl) ?_
                refine AOps.val (Gv.move (v := .int _ _) rfl) ?_
                refine AOps.nil ?_
                refine AWP.block ?_
                refine AWP.loop (γ := Nat) [2, 5, 6, 8, 11, 53, 54, 107, 108, 119] (fun j => [(120, .int .i64 j)]) (fun j => [(i5, .cells 26 ((encF f).map (inp L))), (0, .heap (Turned (i + 1) L)), (i6, .cells 26 (encF f))]) (fun j => j ≤ f.blocks[i].phis[k].args.length) (fun j => f.blocks[i].phis[k].args.length - j) 0 ⟨rfl, trivial⟩ ⟨_, (.refl _), rfl⟩ (Nat.zero_le _) ?_
                rintro j hj
                refine AWP.seq ?_
                refine AWP.region rfl ?_
                refine AOps.val (Gv.lss rfl rfl) ?_
                refine AOps.nil ?_
                refine AWP.seq ?_
                refine AWP.condP rfl (fun cj => ?_) (fun cj => ?_)
                · skip
                  have hj2 : j < f.blocks[i].phis[k].args.length := by omega
                  refine AWP.skip ?_
                  refine AWP.seq ?_
                  refine AWP.block ?_
                  refine AWP.seq ?_
                  refine AWP.region rfl ?_
                  refine AOps.val (Gv.move (v := .int _ _) rfl) ?_
                  refine AOps.val (Gv.assign (v := .int _ _) rfl) ?_
                  refine AOps.nil ?_
                  refine AWP.region rfl ?_
                  refine AOps.val (Gv.move (v := inp _ (.pf _)) rfl) ?_
                  refine AOps.val (Gv.nilCheckX rfl) ?_
                  refine AOps.val (Gv.fieldX Tryd.underlying39 rfl Tryd.sizeOf32 (by decide) rfl rfl) ?_
                  refine AOps.val (Gv.loadX Tryd.isAgg32 rfl ⟨_, (.tail .head)⟩) ?_
                  refine AOps.val (Gv.move (v := .int _ _) rfl) ?_
                  refine AOps.val (Gv.idxX Tryd.underlying32 Tryd.sizeOf44 rfl rfl rfl (List.getElem?_eq_getElem (by omega))) ?_
                  refine AOps.val (Gv.fieldX Tryd.underlying44 rfl Tryd.sizeOf23 (by decide) rfl rfl) ?_
                  refine AOps.val (Gv.loadX Tryd.isAgg23 rfl ⟨_, (.tail .head)⟩) ?_
                  refine AOps.val (Gv.move (v := .int _ _) rfl) ?_
                  refine AOps.val (Gv.idxX Tryd.underlying23 Tryd.sizeOf3 rfl rfl rfl (List.getElem?_eq_getElem (by omega))) ?_
                  refine AOps.loadXI Tryd.isAgg3 rfl ⟨_, (.tail .head)⟩ ?_
                  intro m133
                  refine AOps.val (Gv.addW rfl rfl) ?_
                  refine AOps.val (Gv.idxX Tryd.underlying23 Tryd.sizeOf3 rfl rfl rfl (List.getElem?_eq_getElem (by omega))) ?_
                  refine AOps.storeXI Tryd.sizeOf3 rfl rfl (.tail .head) ?_
                  refine AOps.nil ?_
                  refine AWP.region rfl ?_
                  refine AOps.val (Gv.add rfl rfl (by unfold I64; omega)) ?_
                  refine AOps.val (Gv.move (v := .int _ _) rfl) ?_
                  refine AOps.nil ?_
                  exact ⟨j + 1, ⟨rfl, rfl, rfl, rfl, rfl, rfl, rfl, rfl, rfl, rfl, trivial⟩, ⟨rfl, trivial⟩, ⟨_, (.refl _), rfl⟩, hj2, by omega⟩
                · skip
                  refine AWP.exit ?_
                  refine AWP.seq ?_
                  refine AWP.region rfl ?_
                  refine AOps.val (Gv.move (v := inp _ (.pf _)) rfl) ?_
                  refine AOps.val (Gv.nilCheckX rfl) ?_
                  refine AOps.val (Gv.fieldX Tryd.underlying39 rfl Tryd.sizeOf32 (by decide) rfl rfl) ?_
                  refine AOps.val (Gv.loadX Tryd.isAgg32 rfl ⟨_, (.tail .head)⟩) ?_
                  refine AOps.val (Gv.move (v := .int _ _) rfl) ?_
                  refine AOps.val (Gv.idxX Tryd.underlying32 Tryd.sizeOf44 rfl rfl rfl (List.getElem?_eq_getElem (by omega))) ?_
                  refine AOps.val (Gv.fieldX Tryd.underlying44 rfl Tryd.sizeOf23 (by decide) rfl rfl) ?_
                  refine AOps.val (Gv.loadX Tryd.isAgg23 rfl ⟨_, (.tail .head)⟩) ?_
                  refine AOps.val (Gv.lenX Tryd.underlying23 rfl) ?_
                  refine AOps.val (Gv.move (v := .int _ _) rfl) ?_
                  refine AOps.nil ?_
                  refine AWP.block ?_
                  refine AWP.loop (γ := Nat) [2, 5, 6, 8, 11, 53, 54, 107, 108, 145] (fun j => [(146, .int .i64 j)]) (fun j => [(i5, .cells 26 ((encF f).map (inp L))), (0, .heap (Turned (i + 1) L)), (i6, .cells 26 (encF f))]) (fun j => j ≤ f.blocks[i].phis[k].from_.length) (fun j => f.blocks[i].phis[k].from_.length - j) 0 ⟨rfl, trivial⟩ ⟨_, (.refl _), rfl⟩ (Nat.zero_le _) ?_
                  rintro j hj
                  refine AWP.seq ?_
                  refine AWP.region rfl ?_
                  refine AOps.val (Gv.lss rfl rfl) ?_
                  refine AOps.nil ?_
                  refine AWP.seq ?_
                  refine AWP.condP rfl (fun cj2 => ?_) (fun cj2 => ?_)
                  · skip
                    have hj2 : j < f.blocks[i].phis[k].from_.length := by omega
                    refine AWP.skip ?_
                    refine AWP.seq ?_
                    refine AWP.block ?_
                    refine AWP.seq ?_
                    refine AWP.region rfl ?_
                    refine AOps.val (Gv.move (v := .int _ _) rfl) ?_
                    refine AOps.val (Gv.assign (v := .int _ _) rfl) ?_
                    refine AOps.nil ?_
                    refine AWP.region rfl ?_
                    refine AOps.val (Gv.move (v := inp _ (.pf _)) rfl) ?_
                    refine AOps.val (Gv.nilCheckX rfl) ?_
                    refine AOps.val (Gv.fieldX Tryd.underlying39 rfl Tryd.sizeOf32 (by decide) rfl rfl) ?_
                    refine AOps.val (Gv.loadX Tryd.isAgg32 rfl ⟨_, (.tail .head)⟩) ?_
                    refine AOps.val (Gv.move (v := .int _ _) rfl) ?_
                    refine AOps.val (Gv.idxX Tryd.underlying32 Tryd.sizeOf44 rfl rfl rfl (List.getElem?_eq_getElem (by omega))) ?_
                    refine AOps.val (Gv.fieldX Tryd.underlying44 rfl Tryd.sizeOf23 (by decide) rfl rfl) ?_
                    refine AOps.val (Gv.loadX Tryd.isAgg23 rfl ⟨_, (.tail .head)⟩) ?_
                    refine AOps.val (Gv.move (v := .int _ _) rfl) ?_
                    refine AOps.val (Gv.idxX Tryd.underlying23 Tryd.sizeOf3 rfl rfl rfl (List.getElem?_eq_getElem (by omega))) ?_
                    refine AOps.loadXI Tryd.isAgg3 rfl ⟨_, (.tail .head)⟩ ?_
                    intro m159
                    refine AOps.val (Gv.addW rfl rfl) ?_
                    refine AOps.val (Gv.idxX Tryd.underlying23 Tryd.sizeOf3 rfl rfl rfl (List.getElem?_eq_getElem (by omega))) ?_
                    refine AOps.storeXI Tryd.sizeOf3 rfl rfl (.tail .head) ?_
                    refine AOps.nil ?_
                    refine AWP.region rfl ?_
                    refine AOps.val (Gv.add rfl rfl (by unfold I64; omega)) ?_
                    refine AOps.val (Gv.move (v := .int _ _) rfl) ?_
                    refine AOps.nil ?_
                    exact ⟨j + 1, ⟨rfl, rfl, rfl, rfl, rfl, rfl, rfl, rfl, rfl, rfl, trivial⟩, ⟨rfl, trivial⟩, ⟨_, (.refl _), rfl⟩, hj2, by omega⟩
                  · skip
                    refine AWP.exit ?_
                    refine AWP.region rfl ?_
                    refine AOps.val (Gv.add rfl rfl (by unfold I64; omega)) ?_
                    refine AOps.val (Gv.move (v := .int _ _) rfl) ?_
                    refine AOps.nil ?_
                    exact ⟨k + 1, ⟨rfl, rfl, rfl, rfl, rfl, rfl, rfl, trivial⟩, ⟨rfl, trivial⟩, ⟨_, (.refl _), rfl⟩, hk2, by omega⟩
              · skip
                refine AWP.exit ?_
                refine AWP.region rfl ?_
                refine AOps.val (Gv.add rfl rfl (by unfold I64; omega)) ?_
                refine AOps.val (Gv.move (v := .int _ _) rfl) ?_
                refine AOps.nil ?_
                exact ⟨i + 1, ⟨rfl, rfl, rfl, rfl, trivial⟩, ⟨rfl, trivial⟩, ⟨_, (.refl _), rfl⟩, hi2, by omega⟩
          · skip
            obtain rfl : i = f.blocks.length := by omega
            refine AWP.exit ?_
            refine AWP.seq ?_
            refine AWP.seq ?_
            refine AWP.region rfl ?_
            refine AOps.val (Gv.fieldO Tryd.underlying26 rfl Tryd.sizeOf22 (by decide) rfl rfl) ?_
            refine AOps.val (Gv.load1C (c := inp _ (.fro _ _)) Tryd.isAgg22 rfl ⟨_, .head⟩ rfl) ?_
            refine AOps.val (Gv.lenX Tryd.underlying22 rfl) ?_
            refine AOps.val (Gv.move (v := .int _ _) rfl) ?_
            refine AOps.nil ?_
            refine AWP.block ?_
            refine AWP.loop (γ := Nat) [2, 5, 6, 167] (fun k => [(168, .int .i64 k)]) (fun k => [(i5, .cells 26 ((encF f).map (inp L))), (0, .heap (Turned (f.blocks.length + k) L)), (i6, .cells 26 (encF f))]) (fun k => k ≤ f.vars.length) (fun k => f.vars.length - k) 0 ⟨rfl, trivial⟩ ⟨_, (.refl _), rfl⟩ (Nat.zero_le _) ?_
            rintro k hk
            refine AWP.seq ?_
            refine AWP.region rfl ?_
            refine AOps.val (Gv.lss rfl rfl) ?_
            refine AOps.nil ?_
            refine AWP.seq ?_
            refine AWP.condP rfl (fun ck => ?_) (fun ck => ?_)
            · skip
              have hk2 : k < f.vars.length := by omega
              have hv := hf4 _ (List.getElem_mem hk2)
              refine AWP.skip ?_
              refine AWP.seq ?_
              refine AWP.block ?_
              refine AWP.seq ?_
              refine AWP.region rfl ?_
              refine AOps.val (Gv.move (v := .int _ _) rfl) ?_
              refine AOps.val (Gv.assign (v := .int _ _) rfl) ?_
              refine AOps.nil ?_
              refine AWP.region rfl ?_
              refine AOps.val (Gv.fieldO Tryd.underlying26 rfl Tryd.sizeOf22 (by decide) rfl rfl) ?_
              refine AOps.val (Gv.load1C (c := inp _ (.fro _ _)) Tryd.isAgg22 rfl ⟨_, .head⟩ rfl) ?_
              refine AOps.val (Gv.move (v := .int _ _) rfl) ?_
              refine AOps.val (Gv.idxX Tryd.underlying22 Tryd.sizeOf47 rfl rfl rfl (List.getElem?_eq_getElem (by omega))) ?_
              refine AOps.val (Gv.fieldX Tryd.underlying47 rfl Tryd.sizeOf9 (by decide) rfl rfl) ?_
              refine AOps.loadXS Tryd.isAgg9 rfl ⟨_, (.tail .head)⟩ ?_
              intro s176 hs176
              refine AOps.val (Gv.addT rfl rfl (by show _ + 1 ≤ _; omega)) ?_
              refine AOps.val (Gv.idxX Tryd.underlying22 Tryd.sizeOf47 rfl rfl rfl (List.getElem?_eq_getElem (by omega))) ?_
              refine AOps.val (Gv.fieldX Tryd.underlying47 rfl Tryd.sizeOf9 (by decide) rfl rfl) ?_
              refine AOps.storeXS Tryd.sizeOf9 rfl rfl (by rw [app_size]; show _ + 1 ≤ _; omega) (.tail .head) ?_
              refine AOps.nil ?_
              refine AWP.region rfl ?_
              refine AOps.val (Gv.add rfl rfl (by unfold I64; omega)) ?_
              refine AOps.val (Gv.move (v := .int _ _) rfl) ?_
              refine AOps.nil ?_
              exact ⟨k + 1, ⟨rfl, rfl, rfl, rfl, trivial⟩, ⟨rfl, trivial⟩, ⟨_, (.refl _), rfl⟩, hk2, by omega⟩
            · skip
              refine AWP.exit ?_
              refine AWP.seq ?_
              refine AWP.region rfl ?_
              refine AOps.val (Gv.loadWC Tryd.isAgg26 Tryd.sizeOf26 rfl ⟨_, (.tail (.tail .head))⟩ rfl) ?_
              refine AOps.val (Gv.loadWF Tryd.isAgg26 Tryd.sizeOf26 rfl rfl) ?_
              refine AOps.callP (refSame_spec f f hsf.ok) rfl ?_
              refine AOps.val (Gv.assign (v := .bool _) rfl) ?_
              refine AOps.nil ?_
              refine AWP.ret ?_
              repeat (first | refine aseqQ_ret ?_ | refine ablockQ_ret ?_)
              refine afin.t1 (x := .bool _) rfl ?_
              simp
end Go.Proofs.YtlfhoiakmbcnlaaDoor
