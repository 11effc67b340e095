/- The law FoldTells answers true for every input, and its input reads behind the call as it did: the tied card FoldTellsCardSaid. No condition. -/
import Derived.Test.YtjpnhkmfhlnpcaaGreatDoorJm
import Derived.Test.YtjpnhkmfhlnpcaaGreatDoorJq
import Derived.Test.YtjpnhkmfhlnpcaaGreatDoorRows
import Derived.Test.YtjpnhkmfhlnpcaaGreatDoorCards
import Derived.Test.YtjpnhkmfhlnpcaaGreatDoorTie
import Derived.ProofKit
import Derived.OpenShut
import Derived.LaidMore
import Derived.Lay
import Derived.LaidOnce
import Derived.SevenTiedAt
set_option linter.unusedVariables false
set_option linter.unusedSimpArgs false
set_option linter.unusedSectionVars false
namespace Go.Proofs.YtjpnhkmfhlnpcaaGreatDoor
open Go.ChangeShapes Go.WideShapes Go.ChangeAt Go.RowKit Go.Proofs Go.Lib
theorem own:ownKnob Tryz.prog.godebug=none:=by kernel_rfl
theorem rK:laidOutB Tryz.prog=true:=by kernel_rfl
theorem vC:Rows.laid_unicode_Letter=rtabData letterT:=by kernel_rfl
theorem xa:(Rows.laid_unicode_properties:DataW Unit)=Lib.tabData .u8 Lib.propertiesTab:=by kernel_rfl
set_option maxRecDepth 100000 in
theorem lifted (os:Os) (started:os.Started) (H:Type) (enc:TypeId × Value→H) :
    ReturnsInHanded {} Tryz.checked os 3 .any (fun w args=>(Rows.foldTellsSpec.pre enc Tryz.prog Tryz.f3 Rows.foldTellsRow.domain false w args∧laidMetH Tryz.prog Rows.foldTellsRow.laid w)∧sizedMet enc Tryz.prog Tryz.f3 (OpenSpec.ofChange Rows.foldTellsSpec) false w args)
      (Rows.foldTellsSpec.post enc Tryz.prog Tryz.f3 false true false false):=by
  refine CD (X:=fun w _=>laidMetH Tryz.prog Rows.foldTellsRow.laid w) (fun _ _ _ hh h=>h.of_heap hh) own started (by kernel_rfl) Tryz.func3
    (ChangeSpec.witness_shaped (enc:=enc) (C:=Tryz.checked) (os:=os) (X:=fun w _=>laidMetH Tryz.prog Rows.foldTellsRow.laid w) false (World.laidAll Tryz.prog os Rows.foldTellsRow.laid)
      #[.agg #[.slice none 0 0,.slice none 0 0,.slice none 0 0],.slice none 0 0] 8 (World.laidAll_os _ _ _)
      (World.shaped_of_ZipB (by kernel_rfl) (by kernel_rfl)) (by kernel_rfl) (by kernel_rfl) (by kernel_rfl)
      (by rw[MakeChecks.laidMetH_plain _ _ _ (by kernel_rfl)];exact laidMet_laidAll _ (by kernel_rfl) (by kernel_rfl))) ?_
  intro W base args ds gs before hval0 hW hL hSh
  have hval:∀(j:Nat) t v,Tryz.f3.params[j]?=some t→args[j]?=some v→Value.okWide Tryz.prog W .any base t v:=hval0
  have hW':=hW
  obtain ⟨p,q,hA0,hV,rfl,_,_⟩:=hW
  have hA:DataW.TrodAll enc Tryz.prog W 0 (fun _=>true) true Tryz.f3.params.toList args.toList ds p:=hA0
  rw[Tryz.params3] at hA hval
  obtain ⟨v0,v1,d0,d1,p0,p1,rfl,rfl,rfl,h0,h1⟩:=trodAll_two hA
  obtain ⟨rfl,rfl⟩:=trodVars_none hV
  clear hA0 hval0
  obtain ⟨f,hf,rf⟩:=wG Ee Tryz.underlying26 (hval 0 26 v0 rfl rfl) h0
  obtain ⟨li,hli,rli⟩:=x9 pL Tryz.underlying23 (hval 1 23 v1 rfl rfl) h1
  rw[MakeChecks.laidMetH_plain _ _ _ (by kernel_rfl)] at hL
  have hLt:ah W:=rm (xa▸Lib.laidMet.reads hL (.head _)) (vC▸Lib.laidMet.reads hL (.tail _ (.head _)))
  obtain ⟨pw,hPw⟩:=CC hSh
  simp only[List.append_nil] at hW'
  have hlt:∀y∈p0++p1,y.block<W.heap.size:=fun y hy=>by simpa using hW'.lt y hy
  have hfn:=(mZ (E:=W) f hf.1 hLt (oC hLt hPw) li hli).call (vs:=[v0,v1]) ⟨_,_,rfl,rf,_,_,rfl,rli,rfl⟩ rfl
  refine hfn.mono fun e W' ⟨v,he,hv,hb⟩=>?_
  have hv:v=.bool true:=hv
  subst he hv
  have t0:=Below.trod rK (by kernel_rfl) (of_decide_eq_true (by kernel_rfl)) h0 hb (fun y hy=>hlt y (List.mem_append_left _ hy))
  have t1:=Below.trod rK (by kernel_rfl) (of_decide_eq_true (by kernel_rfl)) h1 hb (fun y hy=>hlt y (List.mem_append_right _ hy))
  refine ⟨_,rfl,[d0,d1],[],p0++p1,[],p0++p1,[],hW',?_,?_,rfl,hb.frame _,fun h=>by cases h⟩
  · exact trodAll_cons_mk (shut_bool Tryz.underlying4 _) trodAll_mk0
  · have:=trodAll_cons_mk t0 (trodAll_cons_mk t1 (trodAll_mk0 (enc:=enc) (P:=Tryz.prog) (w:=W') (base:=0) (spare:=fun b=>decide (b<W.heap.size)) (held:=true)))
    rw[List.append_nil] at this
    exact this
theorem foldTells_holds:Rows.FoldTellsSaid:=
  OpenClaim.holds_of_wide 3 Tryz.f3 rfl rfl rfl rfl rfl rfl rfl ⟨rfl,rfl,rfl,rfl,rfl⟩ rfl rfl rfl rfl rfl (by kernel_rfl) Tryz.func3 closed
    (of_decide_eq_true (by kernel_rfl)) (by unfold Func.isWrapper;first|(rw[if_pos (by decide +kernel)];kernel_rfl)|(rw[if_neg (by decide +kernel)];exact ⟨rfl,rfl⟩))
    (fun os started H enc _=>lifted os started H enc)
theorem foldTells_card_holds:Rows.FoldTellsCardSaid:=
  Claim7.holds_tied_plain_at .later [] [.data,.pinned] true (true, "42539b71b4861cf977487b80ecd99f31a4cd16453546707823a2e654b5ad080e") true foldTells_holds (fun _ h=>by cases h) (by kernel_rfl) (fun _ h=>by cases h) foldTells_row_tie rfl ⟨rfl,rfl⟩ (by kernel_rfl) rfl
    (fun f fn hf hfn=>by
      obtain rfl:f=3:=Option.some.inj ((show Tryz.prog.funcNamed "checkrein/checkreinlaw30.FoldTells" = some 3 by kernel_rfl).symm.trans hf) |>.symm
      obtain rfl:fn=Tryz.f3:=(Option.some.inj (Tryz.func3.symm.trans hfn)).symm
      exact ⟨by kernel_rfl,fun j t ht=>by
        rw[Tryz.params3] at ht
        have hm:t∈[26,23]:=by simpa using Array.mem_of_getElem? ht
        have hall:([26,23].all fun u=>!Tryz.prog.wantsStandIn u)=true:=by kernel_rfl
        exact (show Tryz.prog.wantsStandIn t=false by simpa using List.all_eq_true.1 hall t hm)⟩)
    (by kernel_rfl)
end Go.Proofs.YtjpnhkmfhlnpcaaGreatDoor
