/- The law RangesHold answers true for every input, and its input reads behind the call as it did: the tied card RangesHoldCardSaid. No condition. -/
import Derived.Test.YtbbonnfjealmpaaGreatDoorZXn
import Derived.Test.YtbbonnfjealmpaaGreatDoorRows
import Derived.Test.YtbbonnfjealmpaaGreatDoorCards
import Derived.Test.YtbbonnfjealmpaaGreatDoorTie
import Derived.ProofKit
import Derived.OpenShut
import Derived.LaidMore
import Derived.Lay
import Derived.LaidOnce
import Derived.SevenTiedAt
set_option linter.unusedVariables false
set_option linter.unusedSimpArgs false
set_option linter.unusedSectionVars false
namespace Go.Proofs.YtbbonnfjealmpaaGreatDoor
open Go.ChangeShapes Go.WideShapes Go.ChangeAt Go.RowKit Go.Proofs Go.Lib
theorem own:ownKnob Tryz.prog.godebug=none:=by kernel_rfl
theorem xp:laidOutB Tryz.prog=true:=by kernel_rfl
theorem EZ:Rows.laid_unicode_Letter=rtabData letterT:=by kernel_rfl
theorem GW:(Rows.laid_unicode_properties:DataW Unit)=Lib.tabData .u8 Lib.propertiesTab:=by kernel_rfl
set_option maxRecDepth 100000 in
theorem lifted (os:Os) (started:os.Started) (H:Type) (enc:TypeId × Value→H) :
    ReturnsInHanded {} Tryz.checked os 5 .any (fun w args=>(Rows.rangesHoldSpec.pre enc Tryz.prog Tryz.f5 Rows.rangesHoldRow.domain false w args∧laidMetH Tryz.prog Rows.rangesHoldRow.laid w)∧sizedMet enc Tryz.prog Tryz.f5 (OpenSpec.ofChange Rows.rangesHoldSpec) false w args)
      (Rows.rangesHoldSpec.post enc Tryz.prog Tryz.f5 false true false false):=by
  refine returnsInHanded_of_change_and (C:=Tryz.checked) (X:=fun w _=>laidMetH Tryz.prog Rows.rangesHoldRow.laid w) (fun _ _ _ hh h=>h.of_heap hh) own started (by kernel_rfl) Tryz.func5
    (ChangeSpec.witness_shaped (enc:=enc) (C:=Tryz.checked) (os:=os) (X:=fun w _=>laidMetH Tryz.prog Rows.rangesHoldRow.laid w) false (World.laidAll Tryz.prog os Rows.rangesHoldRow.laid)
      #[.agg #[.slice none 0 0,.slice none 0 0,.slice none 0 0],.agg #[.slice none 0 0,.slice none 0 0],.int .u16 0] 8 (World.laidAll_os _ _ _)
      (World.shaped_of_ZipB (by kernel_rfl) (by kernel_rfl)) (by kernel_rfl) (by kernel_rfl) (by kernel_rfl)
      (by rw[MakeChecks.laidMetH_plain _ _ _ (by kernel_rfl)];exact laidMet_laidAll _ (by kernel_rfl) (by kernel_rfl))) ?_
  intro W base args ds gs before hval0 hW _ _ hL _
  have hval:∀(j:Nat) t v,Tryz.f5.params[j]?=some t→args[j]?=some v→Value.okWide Tryz.prog W .any base t v:=hval0
  have hW':=hW
  obtain ⟨p,q,hA0,hV,rfl,_,_⟩:=hW
  have hA:DataW.TrodAll enc Tryz.prog W 0 (fun _=>true) true Tryz.f5.params.toList args.toList ds p:=hA0
  rw[Tryz.params5] at hA hval
  obtain ⟨v0,v1,v2,d0,d1,d2,p0,p1,p2,rfl,rfl,rfl,h0,h1,h2⟩:=trodAll_three hA
  obtain ⟨rfl,rfl⟩:=trodVars_none hV
  clear hA0 hval0
  obtain ⟨f,hf,rf⟩:=xo OT Tryz.underlying26 (hval 0 26 v0 rfl rfl) h0
  obtain ⟨q,hq,rq⟩:=xo O3 Tryz.underlying30 (hval 1 30 v1 rfl rfl) h1
  obtain ⟨m,hm,rfl⟩:=NK Tryz.underlying31 (hval 2 31 v2 rfl rfl) h2
  rw[MakeChecks.laidMetH_plain _ _ _ (by kernel_rfl)] at hL
  have hLt:bS W:=DO (GW▸Lib.laidMet.reads hL (.head _)) (EZ▸Lib.laidMet.reads hL (.tail _ (.head _)))
  simp only[List.append_nil] at hW'
  have hlt:∀y∈p0++p1++p2,y.block<W.heap.size:=fun y hy=>by simpa using hW'.lt y hy
  have hfn:=(vn (E:=W) f hf.1 hf.2 hLt q hq.1 hq.2.1 hq.2.2 m hm).call (vs:=[v0,v1,.int .u16 m]) ⟨_,_,rfl,rf,_,_,rfl,rq,_,_,rfl,rfl,rfl⟩ rfl
  refine hfn.mono fun e W' ⟨v,he,hv,hb⟩=>?_
  have hv:v=.bool true:=hv
  subst he hv
  have t0:=Below.trod xp (by kernel_rfl) (of_decide_eq_true (by kernel_rfl)) h0 hb (fun y hy=>hlt y (List.mem_append_left _ (List.mem_append_left _ hy)))
  have t1:=Below.trod xp (by kernel_rfl) (of_decide_eq_true (by kernel_rfl)) h1 hb (fun y hy=>hlt y (List.mem_append_left _ (List.mem_append_right _ hy)))
  have t2:=Below.trod xp (by kernel_rfl) (of_decide_eq_true (by kernel_rfl)) h2 hb (fun y hy=>hlt y (List.mem_append_right _ hy))
  refine ⟨_,rfl,[d0,d1,d2],[],p0++p1++p2,[],p0++p1++p2,[],hW',?_,?_,rfl,hb.frame _,fun h=>by cases h⟩
  · exact trodAll_cons_mk (shut_bool Tryz.underlying4 _) trodAll_mk0
  · have:=trodAll_cons_mk t0 (trodAll_cons_mk t1 (trodAll_cons_mk t2 (trodAll_mk0 (enc:=enc) (P:=Tryz.prog) (w:=W') (base:=0) (spare:=fun b=>decide (b<W.heap.size)) (held:=true))))
    rw[List.append_nil,←List.append_assoc] at this
    exact this
theorem rangesHold_holds:Rows.RangesHoldSaid:=
  OpenClaim.holds_of_wide 5 Tryz.f5 rfl rfl rfl rfl rfl rfl rfl ⟨rfl,rfl,rfl,rfl,rfl⟩ rfl rfl rfl rfl rfl (by kernel_rfl) Tryz.func5 closed
    (of_decide_eq_true (by kernel_rfl)) (by unfold Func.isWrapper;first|(rw[if_pos (by decide +kernel)];kernel_rfl)|(rw[if_neg (by decide +kernel)];exact ⟨rfl,rfl⟩))
    (fun os started H enc _=>lifted os started H enc)
theorem rangesHold_card_holds:Rows.RangesHoldCardSaid:=
  Claim7.holds_tied_plain_at .later [] [.data,.pinned] true (true, "8eac1b4af91aec170571058b5eadc7dce020872f1bf59c2b4ceef612bbbdb06a") false rangesHold_holds (fun _ h=>by cases h) (by kernel_rfl) (fun _ h=>by cases h) rangesHold_row_tie rfl ⟨rfl,rfl⟩ (by kernel_rfl) rfl
    (fun f fn hf hfn=>by
      obtain rfl:f=5:=Option.some.inj ((show Tryz.prog.funcNamed "checkrein/checkreinlaw22.RangesHold" = some 5 by kernel_rfl).symm.trans hf) |>.symm
      obtain rfl:fn=Tryz.f5:=(Option.some.inj (Tryz.func5.symm.trans hfn)).symm
      exact ⟨by kernel_rfl,fun j t ht=>by
        rw[Tryz.params5] at ht
        have hm:t∈[26,30,31]:=by simpa using Array.mem_of_getElem? ht
        have hall:([26,30,31].all fun u=>!Tryz.prog.wantsStandIn u)=true:=by kernel_rfl
        exact (show Tryz.prog.wantsStandIn t=false by simpa using List.all_eq_true.1 hall t hm)⟩)
    (by kernel_rfl)
end Go.Proofs.YtbbonnfjealmpaaGreatDoor
