/- The law TableRangesHold answers true for every input, and its input reads behind the call as it did: the tied card TableRangesHoldCardSaid. No condition. -/
import Derived.Test.YtbbonnfjealmpaaGreatDoorZbc
import Derived.Test.YtbbonnfjealmpaaGreatDoorRows
import Derived.Test.YtbbonnfjealmpaaGreatDoorCards
import Derived.Test.YtbbonnfjealmpaaGreatDoorTie
import Derived.ProofKit
import Derived.OpenShut
import Derived.LaidMore
import Derived.Lay
import Derived.LaidOnce
import Derived.SevenTiedAt
set_option linter.unusedVariables false
set_option linter.unusedSimpArgs false
set_option linter.unusedSectionVars false
namespace Go.Proofs.YtbbonnfjealmpaaGreatDoor
open Go.ChangeShapes Go.WideShapes Go.ChangeAt Go.RowKit Go.Proofs Go.Lib
theorem own:ownKnob Tryz.prog.godebug=none:=by kernel_rfl
theorem p4:laidOutB Tryz.prog=true:=by kernel_rfl
theorem CB:Rows.laid_unicode_Letter=rtabData letterT:=by kernel_rfl
theorem Ei:(Rows.laid_unicode_properties:DataW Unit)=Lib.tabData .u8 Lib.propertiesTab:=by kernel_rfl
set_option maxRecDepth 100000 in
theorem lifted (os:Os) (started:os.Started) (H:Type) (enc:TypeId × Value→H) :
    ReturnsInHanded {} Tryz.checked os 4 .any (fun w args=>(Rows.tableRangesHoldSpec.pre enc Tryz.prog Tryz.f4 Rows.tableRangesHoldRow.domain false w args∧laidMetH Tryz.prog Rows.tableRangesHoldRow.laid w)∧sizedMet enc Tryz.prog Tryz.f4 (OpenSpec.ofChange Rows.tableRangesHoldSpec) false w args)
      (Rows.tableRangesHoldSpec.post enc Tryz.prog Tryz.f4 false true false false):=by
  refine returnsInHanded_of_change_and (C:=Tryz.checked) (X:=fun w _=>laidMetH Tryz.prog Rows.tableRangesHoldRow.laid w) (fun _ _ _ hh h=>h.of_heap hh) own started (by kernel_rfl) Tryz.func4
    (ChangeSpec.witness_shaped (enc:=enc) (C:=Tryz.checked) (os:=os) (X:=fun w _=>laidMetH Tryz.prog Rows.tableRangesHoldRow.laid w) false (World.laidAll Tryz.prog os Rows.tableRangesHoldRow.laid)
      #[.agg #[.slice none 0 0,.slice none 0 0,.slice none 0 0],.agg #[.slice none 0 0,.slice none 0 0],.int .u16 0,.slice none 0 0] 8 (World.laidAll_os _ _ _)
      (World.shaped_of_ZipB (by kernel_rfl) (by kernel_rfl)) (by kernel_rfl) (by kernel_rfl) (by kernel_rfl)
      (by rw[MakeChecks.laidMetH_plain _ _ _ (by kernel_rfl)];exact laidMet_laidAll _ (by kernel_rfl) (by kernel_rfl))) ?_
  intro W base args ds gs before hval0 hW _ _ hL _
  have hval:∀(j:Nat) t v,Tryz.f4.params[j]?=some t→args[j]?=some v→Value.okWide Tryz.prog W .any base t v:=hval0
  have hW':=hW
  obtain ⟨p,q,hA0,hV,rfl,_,_⟩:=hW
  have hA:DataW.TrodAll enc Tryz.prog W 0 (fun _=>true) true Tryz.f4.params.toList args.toList ds p:=hA0
  rw[Tryz.params4] at hA hval
  obtain ⟨v0,v1,v2,v3,d0,d1,d2,d3,p0,p1,p2,p3,rfl,rfl,rfl,h0,h1,h2,h3⟩:=trodAll_four hA
  obtain ⟨rfl,rfl⟩:=trodVars_none hV
  clear hA0 hval0
  obtain ⟨f,hf,rf⟩:=uh KX Tryz.underlying26 (hval 0 26 v0 rfl rfl) h0
  obtain ⟨q,hq,rq⟩:=uh K5 Tryz.underlying30 (hval 1 30 v1 rfl rfl) h1
  obtain ⟨m,hm,rfl⟩:=Jr Tryz.underlying31 (hval 2 31 v2 rfl rfl) h2
  obtain ⟨l,hl,rl⟩:=EB Hq Tryz.underlying40 (hval 3 40 v3 rfl rfl) h3
  rw[MakeChecks.laidMetH_plain _ _ _ (by kernel_rfl)] at hL
  have hLt:bx W:=Ah (Ei▸Lib.laidMet.reads hL (.head _)) (CB▸Lib.laidMet.reads hL (.tail _ (.head _)))
  simp only[List.append_nil] at hW'
  have hlt:∀y∈p0++p1++p2++p3,y.block<W.heap.size:=fun y hy=>by simpa using hW'.lt y hy
  have hfn:=(mJ (E:=W) f hf.1 hf.2 hLt q hq.1 hq.2.1 hq.2.2 m hm l hl.1 hl.2).call (vs:=[v0,v1,.int .u16 m,v3]) ⟨_,_,rfl,rf,_,_,rfl,rq,_,_,rfl,rfl,_,_,rfl,rl,rfl⟩ rfl
  refine hfn.mono fun e W' ⟨v,he,hv,hb⟩=>?_
  have hv:v=.bool true:=hv
  subst he hv
  have t0:=Below.trod p4 (by kernel_rfl) (of_decide_eq_true (by kernel_rfl)) h0 hb (fun y hy=>hlt y (List.mem_append_left _ (List.mem_append_left _ (List.mem_append_left _ hy))))
  have t1:=Below.trod p4 (by kernel_rfl) (of_decide_eq_true (by kernel_rfl)) h1 hb (fun y hy=>hlt y (List.mem_append_left _ (List.mem_append_left _ (List.mem_append_right _ hy))))
  have t2:=Below.trod p4 (by kernel_rfl) (of_decide_eq_true (by kernel_rfl)) h2 hb (fun y hy=>hlt y (List.mem_append_left _ (List.mem_append_right _ hy)))
  have t3:=Below.trod p4 (by kernel_rfl) (of_decide_eq_true (by kernel_rfl)) h3 hb (fun y hy=>hlt y (List.mem_append_right _ hy))
  refine ⟨_,rfl,[d0,d1,d2,d3],[],p0++p1++p2++p3,[],p0++p1++p2++p3,[],hW',?_,?_,rfl,hb.frame _,fun h=>by cases h⟩
  · exact trodAll_cons_mk (shut_bool Tryz.underlying4 _) trodAll_mk0
  · have:=trodAll_cons_mk t0 (trodAll_cons_mk t1 (trodAll_cons_mk t2 (trodAll_cons_mk t3 (trodAll_mk0 (enc:=enc) (P:=Tryz.prog) (w:=W') (base:=0) (spare:=fun b=>decide (b<W.heap.size)) (held:=true)))))
    rw[List.append_nil,←List.append_assoc,←List.append_assoc] at this
    exact this
theorem tableRangesHold_holds:Rows.TableRangesHoldSaid:=
  OpenClaim.holds_of_wide 4 Tryz.f4 rfl rfl rfl rfl rfl rfl rfl ⟨rfl,rfl,rfl,rfl,rfl⟩ rfl rfl rfl rfl rfl (by kernel_rfl) Tryz.func4 closed
    (of_decide_eq_true (by kernel_rfl)) (by unfold Func.isWrapper;first|(rw[if_pos (by decide +kernel)];kernel_rfl)|(rw[if_neg (by decide +kernel)];exact ⟨rfl,rfl⟩))
    (fun os started H enc _=>lifted os started H enc)
theorem tableRangesHold_card_holds:Rows.TableRangesHoldCardSaid:=
  Claim7.holds_tied_plain_at .later [] [.data,.pinned] true (true, "8eac1b4af91aec170571058b5eadc7dce020872f1bf59c2b4ceef612bbbdb06a") false tableRangesHold_holds (fun _ h=>by cases h) (by kernel_rfl) (fun _ h=>by cases h) tableRangesHold_row_tie rfl ⟨rfl,rfl⟩ (by kernel_rfl) rfl
    (fun f fn hf hfn=>by
      obtain rfl:f=4:=Option.some.inj ((show Tryz.prog.funcNamed "checkrein/checkreinlaw27.TableRangesHold" = some 4 by kernel_rfl).symm.trans hf) |>.symm
      obtain rfl:fn=Tryz.f4:=(Option.some.inj (Tryz.func4.symm.trans hfn)).symm
      exact ⟨by kernel_rfl,fun j t ht=>by
        rw[Tryz.params4] at ht
        have hm:t∈[26,30,31,40]:=by simpa using Array.mem_of_getElem? ht
        have hall:([26,30,31,40].all fun u=>!Tryz.prog.wantsStandIn u)=true:=by kernel_rfl
        exact (show Tryz.prog.wantsStandIn t=false by simpa using List.all_eq_true.1 hall t hm)⟩)
    (by kernel_rfl)
end Go.Proofs.YtbbonnfjealmpaaGreatDoor
