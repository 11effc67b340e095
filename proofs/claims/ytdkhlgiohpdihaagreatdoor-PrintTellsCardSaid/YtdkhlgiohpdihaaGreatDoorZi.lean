/- A program's lines. No conditions but bounds. -/
import Derived.Test.YtdkhlgiohpdihaaGreatDoorZh
set_option linter.unusedVariables false
set_option linter.unusedSimpArgs false
set_option linter.unusedSectionVars false
namespace Go.Proofs.YtdkhlgiohpdihaaGreatDoor
open Go.Proofs Go.Lib Go.Shelf Go.RowKit
theorem ps104_1 : PlacesS Tryz.prog 104 145 1 1 [.raw .nilIface] := ⟨_, Tryz.underlying104, Tryz.sizeOf145, Tryz.zeroValue145, by decide, by decide, by kernel_rfl⟩
set_option maxRecDepth 20000
variable {E : World}
def PItem.isPhi : PItem → Bool
  | .phi _ _ _ => true
  | .inst _ _ _ _ => false
theorem isPhi_spec1 (d : ByteArray) (f a : List ByteArray) : AFun Tryz.prog E 103 [itemV (.phi d f a)] (.bool true) := by
  refine ACall.intro Tryz.func103 rfl (by decide) rfl ?_
  refine AWP.seq ?_
  refine AWP.region rfl ?_
  refine AOps.val (Gv.assign (v := .bool _) rfl) ?_
  refine AOps.nil ?_
  refine AWP.seq ?_
  refine AWP.region rfl ?_
  refine AOps.val (Gv.move (v := .ifc _ _) rfl) ?_
  refine AOps.val (Gv.assertT Tryz.underlying148 rfl rfl) ?_
  refine AOps.val (Gv.move (v := .tup _) rfl) ?_
  refine AOps.val (Gv.extract (v := .agg _) rfl rfl) ?_
  refine AOps.val (Gv.extract (v := .bool _) rfl rfl) ?_
  refine AOps.alloc (cs := [.str ⟨#[]⟩, .raw (.slice none 0 0), .raw (.slice none 0 0)]) Tryz.zeroValue148 rfl rfl ?_
  intro i3
  refine AOps.storeW Tryz.sizeOf148 rfl rfl rfl rfl rfl rfl .head rfl ?_
  refine AOps.val (Gv.assign (v := .bool _) rfl) ?_
  refine AOps.nil ?_
  refine AWP.seq ?_
  refine AWP.region rfl ?_
  refine AOps.val (Gv.move (v := .bool _) rfl) ?_
  refine AOps.val (Gv.assign (v := .bool _) rfl) ?_
  refine AOps.nil ?_
  refine AWP.ret ?_
  repeat (first | refine aseqQ_ret ?_ | refine ablockQ_ret ?_)
  refine afin.t1 (x := .bool _) rfl ?_
  rfl
theorem isPhi_spec2 (op : Int) (d : ByteArray) (a : List ByteArray) (n : Int) : AFun Tryz.prog E 103 [itemV (.inst op d a n)] (.bool false) := by
  refine ACall.intro Tryz.func103 rfl (by decide) rfl ?_
  refine AWP.seq ?_
  refine AWP.region rfl ?_
  refine AOps.val (Gv.assign (v := .bool _) rfl) ?_
  refine AOps.nil ?_
  refine AWP.seq ?_
  refine AWP.region rfl ?_
  refine AOps.val (Gv.move (v := .ifc _ _) rfl) ?_
  refine AOps.val (Gv.assertF (zx := .agg [.str ⟨#[]⟩, .raw (.slice none 0 0), .raw (.slice none 0 0)]) Tryz.underlying148 rfl rfl (Nat.ne_of_beq_eq_false rfl) Tryz.zeroValue148 (fun I => ⟨_, rfl, lit_reps I [.string ⟨#[]⟩, (.slice none 0 0), (.slice none 0 0)]⟩)) ?_
  refine AOps.val (Gv.move (v := .tup _) rfl) ?_
  refine AOps.val (Gv.extract (v := .agg _) rfl rfl) ?_
  refine AOps.val (Gv.extract (v := .bool _) rfl rfl) ?_
  refine AOps.alloc (cs := [.str ⟨#[]⟩, .raw (.slice none 0 0), .raw (.slice none 0 0)]) Tryz.zeroValue148 rfl rfl ?_
  intro i3
  refine AOps.storeW Tryz.sizeOf148 rfl rfl rfl rfl rfl rfl .head rfl ?_
  refine AOps.val (Gv.assign (v := .bool _) rfl) ?_
  refine AOps.nil ?_
  refine AWP.seq ?_
  refine AWP.region rfl ?_
  refine AOps.val (Gv.move (v := .bool _) rfl) ?_
  refine AOps.val (Gv.assign (v := .bool _) rfl) ?_
  refine AOps.nil ?_
  refine AWP.ret ?_
  repeat (first | refine aseqQ_ret ?_ | refine ablockQ_ret ?_)
  refine afin.t1 (x := .bool _) rfl ?_
  rfl
theorem isPhi_spec : ∀ x : PItem, AFun Tryz.prog E 103 [itemV x] (.bool x.isPhi)
  | .phi d f a => isPhi_spec1 d f a
  | .inst op d a n => isPhi_spec2 op d a n
structure PHead where
  name : ByteArray
  kind : Int
  v : ByteArray
  tos : List ByteArray
  ended : Bool
deriving DecidableEq
def rowB (l : AV) (h : PHead) : List AV := [.str h.name, l, .int .i64 h.kind, .str h.v, .fro 1 (h.tos.map encS), .bool h.ended]
def jumpS : ByteArray := ⟨#[106, 117, 109, 112]⟩
def ifS : ByteArray := ⟨#[105, 102]⟩
def retS : ByteArray := ⟨#[114, 101, 116]⟩
def endB (h : PHead) (w : List ByteArray) : Option PHead :=
  if w.length < 2 ∨ ¬ namesOk (w.drop 1) = true then none
  else if atW w 0 = jumpS ∧ w.length = 2 then some ⟨h.name, 0, h.v, w.drop 1, true⟩
  else if atW w 0 = ifS ∧ w.length = 4 then some ⟨h.name, 1, atW w 1, w.drop 2, true⟩
  else if atW w 0 = retS ∧ w.length = 2 then some ⟨h.name, 2, atW w 1, h.tos, true⟩
  else none
theorem end_spec {jl : Nat} {A : List AV} {l : AV} (h : PHead) (w : List ByteArray) (hl : w.length ≤ 100000) (hs : ∀ x ∈ w, x.size ≤ 100000) (hL : Letters E) :
    ACall Tryz.prog E 101 [.po jl A.length, .fro 1 (w.map encS)] [(jl, .grow 6 106 (A ++ rowB l h))]
      (fun x O' => x = .bool (endB h w).isSome ∧ O' = [(jl, .grow 6 106 (A ++ rowB l ((endB h w).getD h)))]) := by
  refine ACall.intro Tryz.func101 rfl (by decide) rfl ?_
  refine AWP.seq ?_
  refine AWP.region rfl ?_
  refine AOps.val (Gv.assign (v := .bool _) rfl) ?_
  refine AOps.nil ?_
  refine AWP.seq ?_
  refine AWP.seq ?_
  refine AWP.region rfl ?_
  refine AOps.val (Gv.move (v := .fro _ _) rfl) ?_
  refine AOps.val (Gv.lenM Tryz.underlying62 rfl) ?_
  refine AOps.val (Gv.lss rfl rfl) ?_
  refine AOps.val (Gv.move (v := .bool _) rfl) ?_
  by_cases h2 : w.length < 2
  · skip
    have hend : endB h w = none := by unfold endB; rw [if_pos (.inl h2)]
    refine AOps.guardFd rfl rfl (by simp; omega) ?_
    refine AOps.guardFd rfl rfl (by simp; omega) ?_
    refine AOps.guardFd rfl rfl (by simp; omega) ?_
    refine AOps.guardFd rfl rfl (by simp; omega) ?_
    refine AOps.val (Gv.pickT (v := .bool _) rfl (by simp; omega) rfl) ?_
    refine AOps.nil ?_
    refine AWP.condT rfl rfl ?_
    refine AWP.seq ?_
    refine AWP.region rfl ?_
    refine AOps.val (Gv.assign (v := .bool _) rfl) ?_
    refine AOps.nil ?_
    refine AWP.ret ?_
    repeat (first | refine aseqQ_ret ?_ | refine ablockQ_ret ?_)
    refine afin.t1 (x := .bool _) rfl ?_
    exact ⟨by rw [hend]; rfl, by rw [hend]; rfl⟩
  · skip
    refine AOps.guardT rfl rfl (by simp; omega) ?_
    refine AOps.val (Gv.move (v := .fro _ _) rfl) ?_
    refine AOps.guardT rfl rfl (by simp; omega) ?_
    refine AOps.val (Gv.cutLoM (j := 1) Tryz.underlying62 Tryz.sizeOf9 rfl rfl rfl (by omega)) ?_
    refine AOps.guardT rfl rfl (by simp; omega) ?_
    refine AOps.callP (names_spec (w.drop 1) (by simp; omega) (fun x hx => hs x (List.mem_of_mem_drop hx)) hL) rfl ?_
    refine AOps.guardT rfl rfl (by simp; omega) ?_
    refine AOps.val (Gv.not rfl) ?_
    refine AOps.val (Gv.pickF (v := .bool _) rfl (by simp; omega) rfl) ?_
    refine AOps.nil ?_
    refine AWP.cond rfl (fun cn => ?_) (fun cn => ?_)
    · skip
      have hend : endB h w = none := by unfold endB; rw [if_pos (.inr (by simpa using cn))]
      refine AWP.seq ?_
      refine AWP.region rfl ?_
      refine AOps.val (Gv.assign (v := .bool _) rfl) ?_
      refine AOps.nil ?_
      refine AWP.ret ?_
      repeat (first | refine aseqQ_ret ?_ | refine ablockQ_ret ?_)
      refine afin.t1 (x := .bool _) rfl ?_
      exact ⟨by rw [hend]; rfl, by rw [hend]; rfl⟩
    · skip
      have hn : namesOk (w.drop 1) = true := by simpa using cn
      have he : endB h w = (if atW w 0 = jumpS ∧ w.length = 2 then some ⟨h.name, 0, h.v, w.drop 1, true⟩
          else if atW w 0 = ifS ∧ w.length = 4 then some ⟨h.name, 1, atW w 1, w.drop 2, true⟩
          else if atW w 0 = retS ∧ w.length = 2 then some ⟨h.name, 2, atW w 1, h.tos, true⟩
          else none) := by unfold endB; rw [if_neg (by rintro (hx | hx); exact h2 hx; exact hx hn)]
      refine AWP.skip ?_
      refine AWP.seq ?_
      refine AWP.block ?_
      refine AWP.seq ?_
      refine AWP.cutS (γ := Unit) [0, 1] (fun u => [(14, .bool (decide (atW w 0 = jumpS ∧ w.length = 2)))]) (fun u => [(jl, .grow 6 106 (A ++ rowB l h))]) (fun u => True) ?_ (fun _ _ h => h) ?_
      · skip
        refine AWP.region rfl ?_
        refine AOps.val (Gv.move (v := .fro _ _) rfl) ?_
        refine AOps.val (Gv.idxM (j := 0) Tryz.underlying62 Tryz.sizeOf9 rfl rfl rfl (atW_get (by omega))) ?_
        refine AOps.val (Gv.load1F (c := .str _) Tryz.isAgg9 rfl) ?_
        refine AOps.val (Gv.eqlT rfl rfl) ?_
        refine AOps.val (Gv.move (v := .bool _) rfl) ?_
        refine AOps.case (s := 19) rfl (fun c1 => ?_) (fun c1 => ?_)
        · skip
          refine AOps.guardT rfl rfl c1 ?_
          refine AOps.val (Gv.move (v := .fro _ _) rfl) ?_
          refine AOps.guardT rfl rfl c1 ?_
          refine AOps.val (Gv.lenM Tryz.underlying62 rfl) ?_
          refine AOps.guardT rfl rfl c1 ?_
          refine AOps.val (Gv.eqlI rfl rfl) ?_
          refine AOps.val (Gv.pickT (v := .bool _) rfl c1 rfl) ?_
          refine AOps.val (Gv.assign (v := .bool _) rfl) ?_
          refine AOps.nil ?_
          exact ⟨(), ⟨rfl, rfl, trivial⟩, ⟨jb (by simp_all [jumpS] <;> omega), trivial⟩, ⟨_, (.refl _), rfl⟩, trivial⟩
        · skip
          refine AOps.guardFd rfl rfl c1 ?_
          refine AOps.guardFd rfl rfl c1 ?_
          refine AOps.guardFd rfl rfl c1 ?_
          refine AOps.val (Gv.pickF (v := .bool _) rfl c1 rfl) ?_
          refine AOps.val (Gv.assign (v := .bool _) rfl) ?_
          refine AOps.nil ?_
          exact ⟨(), ⟨rfl, rfl, trivial⟩, ⟨jb (by simp_all [jumpS] <;> omega), trivial⟩, ⟨_, (.refl _), rfl⟩, trivial⟩
      · skip
        rintro _ _
        refine AWP.condP rfl (fun c1 => ?_) (fun c1 => ?_)
        · skip
          have hend : endB h w = some ⟨h.name, 0, h.v, w.drop 1, true⟩ := by rw [he, if_pos c1]
          refine AWP.regionDraw (fun j => Nat.beq j 6 || Nat.beq j 9) (by kernel_rfl) rfl (Part.perm (.rest _)) ?_
          refine AAny.take (i := 0) rfl (by kernel_rfl) (by kernel_rfl) (by kernel_rfl) (by kernel_rfl) (by kernel_rfl) (by kernel_rfl) (Gv.move (v := .po _ _) rfl) ?_
          refine AAny.takeK (i := 1) rfl (by kernel_rfl) (by kernel_rfl) (by kernel_rfl) (by kernel_rfl) (Gv.move (v := .po _ _) rfl) ?_
          refine AAny.takeK (i := 2) rfl (by kernel_rfl) (by kernel_rfl) (by kernel_rfl) (by kernel_rfl) (Gv.move (v := .fro _ _) rfl) ?_
          refine AAny.takeK (i := 3) rfl (by kernel_rfl) (by kernel_rfl) (by kernel_rfl) (by kernel_rfl) (Gv.cutLoM (j := 1) Tryz.underlying62 Tryz.sizeOf9 rfl rfl rfl (by omega)) ?_
          refine AAny.takeK (i := 4) rfl (by kernel_rfl) (by kernel_rfl) (by kernel_rfl) (by kernel_rfl) (Gv.nilCheckO rfl) ?_
          refine AAny.take (i := 5) rfl (by kernel_rfl) (by kernel_rfl) (by kernel_rfl) (by kernel_rfl) (by kernel_rfl) (by kernel_rfl) (Gv.fieldO Tryz.underlying106 rfl Tryz.sizeOf43 (by decide) rfl rfl) ?_
          refine AAny.writes ?_
          refine AAnyW.one (i := 6) rfl (by kernel_rfl) (by kernel_rfl) ?_
          refine AOps.storeL (j := 2) (l := [_]) (new := [_, _, _, _, _, _]) Tryz.sizeOf43 rfl rfl rfl rfl rfl rfl rfl .head rfl rfl rfl ?_
          refine AOps.nil ?_
          refine AAnyW.one (i := 7) rfl (by kernel_rfl) (by kernel_rfl) ?_
          refine AOps.val (Gv.nilCheckO rfl) ?_
          refine AOps.nil ?_
          refine AAnyW.one (i := 8) rfl (by kernel_rfl) (by kernel_rfl) ?_
          refine AOps.val (Gv.fieldO Tryz.underlying106 rfl Tryz.sizeOf62 (by decide) rfl rfl) ?_
          refine AOps.nil ?_
          refine AAnyW.one (i := 9) rfl (by kernel_rfl) (by kernel_rfl) ?_
          refine AOps.storeL (j := 4) (l := [_]) (new := [_, _, _, _, _, _]) Tryz.sizeOf62 rfl rfl rfl rfl rfl rfl rfl .head rfl rfl rfl ?_
          refine AOps.nil ?_
          refine AAnyW.done (by kernel_rfl) ?_
          refine AWP.seq ?_
          refine AWP.region rfl ?_
          refine AOps.val (Gv.move (v := .po _ _) rfl) ?_
          refine AOps.val (Gv.nilCheckO rfl) ?_
          refine AOps.val (Gv.fieldO Tryz.underlying106 rfl Tryz.sizeOf4 (by decide) rfl rfl) ?_
          refine AOps.storeL (j := 5) (l := [_]) (new := [_, _, _, _, _, _]) Tryz.sizeOf4 rfl rfl rfl rfl rfl rfl rfl .head rfl rfl rfl ?_
          refine AOps.nil ?_
          refine AWP.seq ?_
          refine AWP.region rfl ?_
          refine AOps.val (Gv.assign (v := .bool _) rfl) ?_
          refine AOps.nil ?_
          refine AWP.ret ?_
          repeat (first | refine aseqQ_ret ?_ | refine ablockQ_ret ?_)
          refine afin.t1 (x := .bool _) rfl ?_
          exact ⟨by rw [hend]; rfl, by rw [hend]; rfl⟩
        · skip
          rw [if_neg c1] at he
          refine AWP.seq ?_
          refine AWP.cutS (γ := Unit) [0, 1] (fun u => [(32, .bool (decide (atW w 0 = ifS ∧ w.length = 4)))]) (fun u => [(jl, .grow 6 106 (A ++ rowB l h))]) (fun u => True) ?_ (fun _ _ h => h) ?_
          · skip
            refine AWP.region rfl ?_
            refine AOps.val (Gv.move (v := .fro _ _) rfl) ?_
            refine AOps.val (Gv.idxM (j := 0) Tryz.underlying62 Tryz.sizeOf9 rfl rfl rfl (atW_get (by omega))) ?_
            refine AOps.val (Gv.load1F (c := .str _) Tryz.isAgg9 rfl) ?_
            refine AOps.val (Gv.eqlT rfl rfl) ?_
            refine AOps.val (Gv.move (v := .bool _) rfl) ?_
            refine AOps.case (s := 37) rfl (fun c2 => ?_) (fun c2 => ?_)
            · skip
              refine AOps.guardT rfl rfl c2 ?_
              refine AOps.val (Gv.move (v := .fro _ _) rfl) ?_
              refine AOps.guardT rfl rfl c2 ?_
              refine AOps.val (Gv.lenM Tryz.underlying62 rfl) ?_
              refine AOps.guardT rfl rfl c2 ?_
              refine AOps.val (Gv.eqlI rfl rfl) ?_
              refine AOps.val (Gv.pickT (v := .bool _) rfl c2 rfl) ?_
              refine AOps.val (Gv.assign (v := .bool _) rfl) ?_
              refine AOps.nil ?_
              exact ⟨(), ⟨rfl, rfl, trivial⟩, ⟨jb (by simp_all [ifS] <;> omega), trivial⟩, ⟨_, (.refl _), rfl⟩, trivial⟩
            · skip
              refine AOps.guardFd rfl rfl c2 ?_
              refine AOps.guardFd rfl rfl c2 ?_
              refine AOps.guardFd rfl rfl c2 ?_
              refine AOps.val (Gv.pickF (v := .bool _) rfl c2 rfl) ?_
              refine AOps.val (Gv.assign (v := .bool _) rfl) ?_
              refine AOps.nil ?_
              exact ⟨(), ⟨rfl, rfl, trivial⟩, ⟨jb (by simp_all [ifS] <;> omega), trivial⟩, ⟨_, (.refl _), rfl⟩, trivial⟩
          · skip
            rintro _ _
            refine AWP.condP rfl (fun c2 => ?_) (fun c2 => ?_)
            · skip
              have hend : endB h w = some ⟨h.name, 1, atW w 1, w.drop 2, true⟩ := by rw [he, if_pos c2]
              refine AWP.regionDraw (fun j => Nat.beq j 10 || Nat.beq j 13 || Nat.beq j 16) (by kernel_rfl) rfl (Part.perm (.rest _)) ?_
              refine AAny.take (i := 0) rfl (by kernel_rfl) (by kernel_rfl) (by kernel_rfl) (by kernel_rfl) (by kernel_rfl) (by kernel_rfl) (Gv.move (v := .po _ _) rfl) ?_
              refine AAny.takeK (i := 1) rfl (by kernel_rfl) (by kernel_rfl) (by kernel_rfl) (by kernel_rfl) (Gv.move (v := .po _ _) rfl) ?_
              refine AAny.takeK (i := 2) rfl (by kernel_rfl) (by kernel_rfl) (by kernel_rfl) (by kernel_rfl) (Gv.move (v := .po _ _) rfl) ?_
              refine AAny.takeK (i := 3) rfl (by kernel_rfl) (by kernel_rfl) (by kernel_rfl) (by kernel_rfl) (Gv.move (v := .fro _ _) rfl) ?_
              refine AAny.takeK (i := 4) rfl (by kernel_rfl) (by kernel_rfl) (by kernel_rfl) (by kernel_rfl) (Gv.idxM (j := 1) Tryz.underlying62 Tryz.sizeOf9 rfl rfl rfl (atW_get (by omega))) ?_
              refine AAny.take (i := 5) rfl (by kernel_rfl) (by kernel_rfl) (by kernel_rfl) (by kernel_rfl) (by kernel_rfl) (by kernel_rfl) (Gv.load1F (c := .str _) Tryz.isAgg9 rfl) ?_
              refine AAny.takeK (i := 6) rfl (by kernel_rfl) (by kernel_rfl) (by kernel_rfl) (by kernel_rfl) (Gv.move (v := .fro _ _) rfl) ?_
              refine AAny.takeK (i := 7) rfl (by kernel_rfl) (by kernel_rfl) (by kernel_rfl) (by kernel_rfl) (Gv.cutLoM (j := 2) Tryz.underlying62 Tryz.sizeOf9 rfl rfl rfl (by omega)) ?_
              refine AAny.takeK (i := 8) rfl (by kernel_rfl) (by kernel_rfl) (by kernel_rfl) (by kernel_rfl) (Gv.nilCheckO rfl) ?_
              refine AAny.take (i := 9) rfl (by kernel_rfl) (by kernel_rfl) (by kernel_rfl) (by kernel_rfl) (by kernel_rfl) (by kernel_rfl) (Gv.fieldO Tryz.underlying106 rfl Tryz.sizeOf43 (by decide) rfl rfl) ?_
              refine AAny.writes ?_
              refine AAnyW.one (i := 10) rfl (by kernel_rfl) (by kernel_rfl) ?_
              refine AOps.storeL (j := 2) (l := [_]) (new := [_, _, _, _, _, _]) Tryz.sizeOf43 rfl rfl rfl rfl rfl rfl rfl .head rfl rfl rfl ?_
              refine AOps.nil ?_
              refine AAnyW.one (i := 11) rfl (by kernel_rfl) (by kernel_rfl) ?_
              refine AOps.val (Gv.nilCheckO rfl) ?_
              refine AOps.nil ?_
              refine AAnyW.one (i := 12) rfl (by kernel_rfl) (by kernel_rfl) ?_
              refine AOps.val (Gv.fieldO Tryz.underlying106 rfl Tryz.sizeOf9 (by decide) rfl rfl) ?_
              refine AOps.nil ?_
              refine AAnyW.one (i := 13) rfl (by kernel_rfl) (by kernel_rfl) ?_
              refine AOps.storeL (j := 3) (l := [_]) (new := [_, _, _, _, _, _]) Tryz.sizeOf9 rfl rfl rfl rfl rfl rfl rfl .head rfl rfl rfl ?_
              refine AOps.nil ?_
              refine AAnyW.one (i := 14) rfl (by kernel_rfl) (by kernel_rfl) ?_
              refine AOps.val (Gv.nilCheckO rfl) ?_
              refine AOps.nil ?_
              refine AAnyW.one (i := 15) rfl (by kernel_rfl) (by kernel_rfl) ?_
              refine AOps.val (Gv.fieldO Tryz.underlying106 rfl Tryz.sizeOf62 (by decide) rfl rfl) ?_
              refine AOps.nil ?_
              refine AAnyW.one (i := 16) rfl (by kernel_rfl) (by kernel_rfl) ?_
              refine AOps.storeL (j := 4) (l := [_]) (new := [_, _, _, _, _, _]) Tryz.sizeOf62 rfl rfl rfl rfl rfl rfl rfl .head rfl rfl rfl ?_
              refine AOps.nil ?_
              refine AAnyW.done (by kernel_rfl) ?_
              refine AWP.seq ?_
              refine AWP.region rfl ?_
              refine AOps.val (Gv.move (v := .po _ _) rfl) ?_
              refine AOps.val (Gv.nilCheckO rfl) ?_
              refine AOps.val (Gv.fieldO Tryz.underlying106 rfl Tryz.sizeOf4 (by decide) rfl rfl) ?_
              refine AOps.storeL (j := 5) (l := [_]) (new := [_, _, _, _, _, _]) Tryz.sizeOf4 rfl rfl rfl rfl rfl rfl rfl .head rfl rfl rfl ?_
              refine AOps.nil ?_
              refine AWP.seq ?_
              refine AWP.region rfl ?_
              refine AOps.val (Gv.assign (v := .bool _) rfl) ?_
              refine AOps.nil ?_
              refine AWP.ret ?_
              repeat (first | refine aseqQ_ret ?_ | refine ablockQ_ret ?_)
              refine afin.t1 (x := .bool _) rfl ?_
              exact ⟨by rw [hend]; rfl, by rw [hend]; rfl⟩
            · skip
              rw [if_neg c2] at he
              refine AWP.seq ?_
              refine AWP.cutS (γ := Unit) [0, 1] (fun u => [(56, .bool (decide (atW w 0 = retS ∧ w.length = 2)))]) (fun u => [(jl, .grow 6 106 (A ++ rowB l h))]) (fun u => True) ?_ (fun _ _ h => h) ?_
              · skip
                refine AWP.region rfl ?_
                refine AOps.val (Gv.move (v := .fro _ _) rfl) ?_
                refine AOps.val (Gv.idxM (j := 0) Tryz.underlying62 Tryz.sizeOf9 rfl rfl rfl (atW_get (by omega))) ?_
                refine AOps.val (Gv.load1F (c := .str _) Tryz.isAgg9 rfl) ?_
                refine AOps.val (Gv.eqlT rfl rfl) ?_
                refine AOps.val (Gv.move (v := .bool _) rfl) ?_
                refine AOps.case (s := 61) rfl (fun c3 => ?_) (fun c3 => ?_)
                · skip
                  refine AOps.guardT rfl rfl c3 ?_
                  refine AOps.val (Gv.move (v := .fro _ _) rfl) ?_
                  refine AOps.guardT rfl rfl c3 ?_
                  refine AOps.val (Gv.lenM Tryz.underlying62 rfl) ?_
                  refine AOps.guardT rfl rfl c3 ?_
                  refine AOps.val (Gv.eqlI rfl rfl) ?_
                  refine AOps.val (Gv.pickT (v := .bool _) rfl c3 rfl) ?_
                  refine AOps.val (Gv.assign (v := .bool _) rfl) ?_
                  refine AOps.nil ?_
                  exact ⟨(), ⟨rfl, rfl, trivial⟩, ⟨jb (by simp_all [retS] <;> omega), trivial⟩, ⟨_, (.refl _), rfl⟩, trivial⟩
                · skip
                  refine AOps.guardFd rfl rfl c3 ?_
                  refine AOps.guardFd rfl rfl c3 ?_
                  refine AOps.guardFd rfl rfl c3 ?_
                  refine AOps.val (Gv.pickF (v := .bool _) rfl c3 rfl) ?_
                  refine AOps.val (Gv.assign (v := .bool _) rfl) ?_
                  refine AOps.nil ?_
                  exact ⟨(), ⟨rfl, rfl, trivial⟩, ⟨jb (by simp_all [retS] <;> omega), trivial⟩, ⟨_, (.refl _), rfl⟩, trivial⟩
              · skip
                rintro _ _
                refine AWP.condP rfl (fun c3 => ?_) (fun c3 => ?_)
                · skip
                  have hend : endB h w = some ⟨h.name, 2, atW w 1, h.tos, true⟩ := by rw [he, if_pos c3]
                  refine AWP.region rfl ?_
                  refine AOps.val (Gv.move (v := .po _ _) rfl) ?_
                  refine AOps.val (Gv.move (v := .po _ _) rfl) ?_
                  refine AOps.val (Gv.move (v := .fro _ _) rfl) ?_
                  refine AOps.val (Gv.idxM (j := 1) Tryz.underlying62 Tryz.sizeOf9 rfl rfl rfl (atW_get (by omega))) ?_
                  refine AOps.val (Gv.load1F (c := .str _) Tryz.isAgg9 rfl) ?_
                  refine AOps.val (Gv.nilCheckO rfl) ?_
                  refine AOps.val (Gv.fieldO Tryz.underlying106 rfl Tryz.sizeOf43 (by decide) rfl rfl) ?_
                  refine AOps.storeL (j := 2) (l := [_]) (new := [_, _, _, _, _, _]) Tryz.sizeOf43 rfl rfl rfl rfl rfl rfl rfl .head rfl rfl rfl ?_
                  refine AOps.val (Gv.nilCheckO rfl) ?_
                  refine AOps.val (Gv.fieldO Tryz.underlying106 rfl Tryz.sizeOf9 (by decide) rfl rfl) ?_
                  refine AOps.storeL (j := 3) (l := [_]) (new := [_, _, _, _, _, _]) Tryz.sizeOf9 rfl rfl rfl rfl rfl rfl rfl .head rfl rfl rfl ?_
                  refine AOps.nil ?_
                  refine AWP.seq ?_
                  refine AWP.region rfl ?_
                  refine AOps.val (Gv.move (v := .po _ _) rfl) ?_
                  refine AOps.val (Gv.nilCheckO rfl) ?_
                  refine AOps.val (Gv.fieldO Tryz.underlying106 rfl Tryz.sizeOf4 (by decide) rfl rfl) ?_
                  refine AOps.storeL (j := 5) (l := [_]) (new := [_, _, _, _, _, _]) Tryz.sizeOf4 rfl rfl rfl rfl rfl rfl rfl .head rfl rfl rfl ?_
                  refine AOps.nil ?_
                  refine AWP.seq ?_
                  refine AWP.region rfl ?_
                  refine AOps.val (Gv.assign (v := .bool _) rfl) ?_
                  refine AOps.nil ?_
                  refine AWP.ret ?_
                  repeat (first | refine aseqQ_ret ?_ | refine ablockQ_ret ?_)
                  refine afin.t1 (x := .bool _) rfl ?_
                  exact ⟨by rw [hend]; rfl, by rw [hend]; rfl⟩
                · skip
                  rw [if_neg c3] at he
                  refine AWP.seq ?_
                  refine AWP.region rfl ?_
                  refine AOps.val (Gv.assign (v := .bool _) rfl) ?_
                  refine AOps.nil ?_
                  refine AWP.ret ?_
                  repeat (first | refine aseqQ_ret ?_ | refine ablockQ_ret ?_)
                  refine afin.t1 (x := .bool _) rfl ?_
                  exact ⟨by rw [he]; rfl, by rw [he]; rfl⟩
def lineB (h : PHead) (items : List PItem) (w : List ByteArray) : Option (PHead × List PItem) :=
  if h.ended = true then none
  else match endB h w with
    | some h' => some (h', items)
    | none => match instrItem w with
      | none => none
      | some x => if x.isPhi = true ∧ (items.getLast?.map PItem.isPhi) = some false then none else some (h, items ++ [x])
theorem encItem_len (x : PItem) : (encItem x).length = 1 := by cases x <;> rfl
theorem last_item (pre : List PItem) (y : PItem) : (((pre ++ [y]).map encItem).flatten).drop (((pre ++ [y]).length - 1) * 1) = itemV y :: [] := by
  rw [List.map_append, List.flatten_append, List.drop_append, List.drop_eq_nil_of_le (by rw [grow_len (k := 1) encItem_len]; simp)]
  rw [grow_len (k := 1) encItem_len]
  simp [encItem_eq]
theorem item_push (items : List PItem) (x : PItem) : (items.map encItem).flatten ++ [[itemV x]].flatten = ((items ++ [x]).map encItem).flatten := by
  rw [← encItem_eq]; exact grow_push rfl
theorem snoc_cases {α : Type} (l : List α) : l = [] ∨ ∃ pre y, l = pre ++ [y] := by
  rcases List.eq_nil_or_concat l with h | ⟨p, y, h⟩
  · exact .inl h
  · exact .inr ⟨p, y, by rw [h, List.concat_eq_append]⟩
theorem bline_fin {jl q : Nat} {A : List AV} {h : PHead} {items : List PItem} {x : PItem} : ([(jl, .grow 6 106 (A ++ rowB (.own q (items.length + 1)) h)), (q, .grow 1 145 ((items.map encItem).flatten ++ [[itemV x]].flatten))] : OL) =
    [(jl, .grow 6 106 (A ++ rowB (.own q (items ++ [x]).length) h)), (q, .grow 1 145 ((items ++ [x]).map encItem).flatten)] := by rw [← item_push]; simp
theorem bline_spec {jl ji : Nat} {A : List AV} (h : PHead) (items : List PItem) (w : List ByteArray) (hit : items.length ≤ 100000) (hl : w.length ≤ 100000) (hs : ∀ x ∈ w, x.size ≤ 100000) (hL : Letters E) (hT : Pows E) (hV : Vars0 E) :
    ACall Tryz.prog E 79 [.po jl A.length, .fro 1 (w.map encS)] [(jl, .grow 6 106 (A ++ rowB (.own ji items.length) h)), (ji, .grow 1 145 (items.map encItem).flatten)]
      (fun x O' => ∃ q : Nat, x = .bool (lineB h items w).isSome ∧ O' = [(jl, .grow 6 106 (A ++ rowB (.own q ((lineB h items w).getD (h, items)).2.length) ((lineB h items w).getD (h, items)).1)), (q, .grow 1 145 (((lineB h items w).getD (h, items)).2.map encItem).flatten)]) := by
  refine ACall.intro Tryz.func79 rfl (by decide) rfl ?_
  refine AWP.seq ?_
  refine AWP.region rfl ?_
  refine AOps.val (Gv.assign (v := .bool _) rfl) ?_
  refine AOps.nil ?_
  refine AWP.seq ?_
  refine AWP.seq ?_
  refine AWP.region rfl ?_
  refine AOps.val (Gv.move (v := .po _ _) rfl) ?_
  refine AOps.val (Gv.nilCheckO rfl) ?_
  refine AOps.val (Gv.fieldO Tryz.underlying106 rfl Tryz.sizeOf4 (by decide) rfl rfl) ?_
  refine AOps.val (Gv.loadL (c := .bool _) (j := 5) Tryz.isAgg4 rfl rfl ⟨_, .head⟩ rfl) ?_
  refine AOps.nil ?_
  refine AWP.cond rfl (fun ce => ?_) (fun ce => ?_)
  · skip
    have hb : lineB h items w = none := by unfold lineB; rw [if_pos ce]
    refine AWP.seq ?_
    refine AWP.region rfl ?_
    refine AOps.val (Gv.assign (v := .bool _) rfl) ?_
    refine AOps.nil ?_
    refine AWP.ret ?_
    repeat (first | refine aseqQ_ret ?_ | refine ablockQ_ret ?_)
    refine afin.t1 (x := .bool _) rfl ?_
    exact ⟨ji, by rw [hb]; rfl, by rw [hb]; rfl⟩
  · skip
    have hb0 : lineB h items w = (match endB h w with
      | some h' => some (h', items)
      | none => match instrItem w with
        | none => none
        | some x => if x.isPhi = true ∧ (items.getLast?.map PItem.isPhi) = some false then none else some (h, items ++ [x])) := by unfold lineB; rw [if_neg (by simpa using ce)]
    have hsp := end_spec (E := E) (jl := jl) (A := A) (l := .own ji items.length) h w hl hs hL
    refine AWP.skip ?_
    refine AWP.seq ?_
    refine AWP.seq ?_
    refine AWP.region rfl ?_
    refine AOps.val (Gv.move (v := .po _ _) rfl) ?_
    refine AOps.val (Gv.move (v := .fro _ _) rfl) ?_
    rcases he : endB h w with _ | h'
    · skip
      rw [he] at hb0 hsp
      refine AOps.callA rfl (Part.perm (.l (.r (.rest _)))) (hsp) ?_
      rintro r13 O13 ⟨rfl, rfl⟩
      refine AOps.nil ?_
      refine AWP.condF rfl rfl ?_
      have hsi := instruction_spec (E := E) w hl hs hL hT hV
      refine AWP.skip ?_
      refine AWP.seq ?_
      refine AWP.region rfl ?_
      refine AOps.val (Gv.move (v := .fro _ _) rfl) ?_
      rcases hi : instrItem w with _ | x
      · skip
        rw [hi] at hb0 hsi
        dsimp only at hb0
        refine AOps.callP (hsi) rfl ?_
        refine AOps.val (Gv.move (v := .tup _) rfl) ?_
        refine AOps.val (Gv.extract (v := _) rfl rfl) ?_
        refine AOps.val (Gv.extract (v := .bool _) rfl rfl) ?_
        refine AOps.val (Gv.assign (v := _) rfl) ?_
        refine AOps.val (Gv.assign (v := .bool _) rfl) ?_
        refine AOps.nil ?_
        refine AWP.seq ?_
        refine AWP.seq ?_
        refine AWP.regionDraw (fun j => false) (by kernel_rfl) rfl (Part.perm (.r (.r (.rest _)))) ?_
        refine AAny.take (i := 0) rfl (by kernel_rfl) (by kernel_rfl) (by kernel_rfl) (by kernel_rfl) (by kernel_rfl) (by kernel_rfl) (Gv.move (v := .bool _) rfl) ?_
        refine AAny.take (i := 1) rfl (by kernel_rfl) (by kernel_rfl) (by kernel_rfl) (by kernel_rfl) (by kernel_rfl) (by kernel_rfl) (Gv.not rfl) ?_
        refine AAny.take (i := 2) rfl (by kernel_rfl) (by kernel_rfl) (by kernel_rfl) (by kernel_rfl) (by kernel_rfl) (by kernel_rfl) (Gv.move (v := .bool _) rfl) ?_
        refine AAny.takeF (i := 3) rfl rfl rfl rfl (by kernel_rfl) (by kernel_rfl) (by kernel_rfl) (by kernel_rfl) (by kernel_rfl) (by kernel_rfl) ?_
        refine AAny.takeF (i := 4) rfl rfl rfl rfl (by kernel_rfl) (by kernel_rfl) (by kernel_rfl) (by kernel_rfl) (by kernel_rfl) (by kernel_rfl) ?_
        refine AAny.takeF (i := 5) rfl rfl rfl rfl (by kernel_rfl) (by kernel_rfl) (by kernel_rfl) (by kernel_rfl) (by kernel_rfl) (by kernel_rfl) ?_
        refine AAny.one (i := 6) rfl (by kernel_rfl) ?_
        refine AOps.guardUd rfl rfl ?_
        refine AOps.nil ?_
        refine AAny.one (i := 7) rfl (by kernel_rfl) ?_
        refine AOps.guardUd rfl rfl ?_
        refine AOps.nil ?_
        refine AAny.one (i := 8) rfl (by kernel_rfl) ?_
        refine AOps.guardUd rfl rfl ?_
        refine AOps.nil ?_
        refine AAny.one (i := 9) rfl (by kernel_rfl) ?_
        refine AOps.guardUd rfl rfl ?_
        refine AOps.nil ?_
        refine AAny.one (i := 10) rfl (by kernel_rfl) ?_
        refine AOps.guardUd rfl rfl ?_
        refine AOps.nil ?_
        refine AAny.one (i := 11) rfl (by kernel_rfl) ?_
        refine AOps.guardUd rfl rfl ?_
        refine AOps.nil ?_
        refine AAny.takeF (i := 12) rfl rfl rfl rfl (by kernel_rfl) (by kernel_rfl) (by kernel_rfl) (by kernel_rfl) (by kernel_rfl) (by kernel_rfl) ?_
        refine AAny.takeF (i := 13) rfl rfl rfl rfl (by kernel_rfl) (by kernel_rfl) (by kernel_rfl) (by kernel_rfl) (by kernel_rfl) (by kernel_rfl) ?_
        refine AAny.takeU (i := 14) rfl rfl rfl (by kernel_rfl) (by kernel_rfl) (by kernel_rfl) (by kernel_rfl) (by kernel_rfl) (by kernel_rfl) ?_
        refine AAny.takeU (i := 15) rfl rfl rfl (by kernel_rfl) (by kernel_rfl) (by kernel_rfl) (by kernel_rfl) (by kernel_rfl) (by kernel_rfl) ?_
        refine AAny.takeU (i := 16) rfl rfl rfl (by kernel_rfl) (by kernel_rfl) (by kernel_rfl) (by kernel_rfl) (by kernel_rfl) (by kernel_rfl) ?_
        refine AAny.takeU (i := 17) rfl rfl rfl (by kernel_rfl) (by kernel_rfl) (by kernel_rfl) (by kernel_rfl) (by kernel_rfl) (by kernel_rfl) ?_
        refine AAny.one (i := 18) rfl (by kernel_rfl) ?_
        refine AOps.guardUd rfl rfl ?_
        refine AOps.nil ?_
        refine AAny.one (i := 19) rfl (by kernel_rfl) ?_
        refine AOps.guardUd rfl rfl ?_
        refine AOps.nil ?_
        refine AAny.one (i := 20) rfl (by kernel_rfl) ?_
        refine AOps.guardUd rfl rfl ?_
        refine AOps.nil ?_
        refine AAny.one (i := 21) rfl (by kernel_rfl) ?_
        refine AOps.guardUd rfl rfl ?_
        refine AOps.nil ?_
        refine AAny.one (i := 22) rfl (by kernel_rfl) ?_
        refine AOps.guardUd rfl rfl ?_
        refine AOps.nil ?_
        refine AAny.one (i := 23) rfl (by kernel_rfl) ?_
        refine AOps.guardUd rfl rfl ?_
        refine AOps.nil ?_
        refine AAny.one (i := 24) rfl (by kernel_rfl) ?_
        refine AOps.guardUd rfl rfl ?_
        refine AOps.nil ?_
        refine AAny.one (i := 25) rfl (by kernel_rfl) ?_
        refine AOps.guardUd rfl rfl ?_
        refine AOps.nil ?_
        refine AAny.one (i := 26) rfl (by kernel_rfl) ?_
        refine AOps.guardUd rfl rfl ?_
        refine AOps.nil ?_
        refine AAny.one (i := 27) rfl (by kernel_rfl) ?_
        refine AOps.guardUd rfl rfl ?_
        refine AOps.nil ?_
        refine AAny.takeF (i := 28) rfl rfl rfl rfl (by kernel_rfl) (by kernel_rfl) (by kernel_rfl) (by kernel_rfl) (by kernel_rfl) (by kernel_rfl) ?_
        refine AAny.take (i := 29) rfl (by kernel_rfl) (by kernel_rfl) (by kernel_rfl) (by kernel_rfl) (by kernel_rfl) (by kernel_rfl) (Gv.pickT (v := .bool _) rfl rfl rfl) ?_
        refine AAny.done (by kernel_rfl) ?_
        refine AWP.condT rfl rfl ?_
        refine AWP.seq ?_
        refine AWP.region rfl ?_
        refine AOps.val (Gv.assign (v := .bool _) rfl) ?_
        refine AOps.nil ?_
        refine AWP.ret ?_
        repeat (first | refine aseqQ_ret ?_ | refine ablockQ_ret ?_)
        refine afin.t1 (x := .bool _) rfl ?_
        exact ⟨ji, by rw [hb0]; rfl, by rw [hb0]; rfl⟩
      · skip
        rw [hi] at hb0 hsi
        dsimp only at hb0
        refine AOps.callP (hsi) rfl ?_
        refine AOps.val (Gv.move (v := .tup _) rfl) ?_
        refine AOps.val (Gv.extract (v := _) rfl rfl) ?_
        refine AOps.val (Gv.extract (v := .bool _) rfl rfl) ?_
        refine AOps.val (Gv.assign (v := _) rfl) ?_
        refine AOps.val (Gv.assign (v := .bool _) rfl) ?_
        refine AOps.nil ?_
        refine AWP.seq ?_
        refine AWP.seq ?_
        refine AWP.regionDraw (fun j => false) (by kernel_rfl) rfl (Part.perm (.r (.r (.rest _)))) ?_
        refine AAny.take (i := 0) rfl (by kernel_rfl) (by kernel_rfl) (by kernel_rfl) (by kernel_rfl) (by kernel_rfl) (by kernel_rfl) (Gv.move (v := .bool _) rfl) ?_
        refine AAny.take (i := 1) rfl (by kernel_rfl) (by kernel_rfl) (by kernel_rfl) (by kernel_rfl) (by kernel_rfl) (by kernel_rfl) (Gv.not rfl) ?_
        refine AAny.take (i := 2) rfl (by kernel_rfl) (by kernel_rfl) (by kernel_rfl) (by kernel_rfl) (by kernel_rfl) (by kernel_rfl) (Gv.move (v := .bool _) rfl) ?_
        refine AAny.takeT (i := 3) rfl rfl rfl rfl (by kernel_rfl) (by kernel_rfl) (by kernel_rfl) (by kernel_rfl) (by kernel_rfl) (by kernel_rfl) (Gv.move (v := _) rfl) ?_
        refine AAny.one (i := 4) rfl (by kernel_rfl) ?_
        refine AOps.guardT rfl rfl rfl ?_
        refine AOps.callP (isPhi_spec x) rfl ?_
        refine AOps.nil ?_
        refine AAny.takeT (i := 5) rfl rfl rfl rfl (by kernel_rfl) (by kernel_rfl) (by kernel_rfl) (by kernel_rfl) (by kernel_rfl) (by kernel_rfl) (Gv.move (v := .bool _) rfl) ?_
        refine AAny.case (s := 24) rfl (fun cx => ?_) (fun cx => ?_)
        · skip
          rcases snoc_cases items with rfl | ⟨pre, y, rfl⟩
          · skip
            refine AAny.takeT (i := 6) rfl rfl rfl cx (by kernel_rfl) (by kernel_rfl) (by kernel_rfl) (by kernel_rfl) (by kernel_rfl) (by kernel_rfl) (Gv.move (v := .po _ _) rfl) ?_
            refine AAny.takeT (i := 7) rfl rfl rfl cx (by kernel_rfl) (by kernel_rfl) (by kernel_rfl) (by kernel_rfl) (by kernel_rfl) (by kernel_rfl) (Gv.nilCheckO rfl) ?_
            refine AAny.takeT (i := 8) rfl rfl rfl cx (by kernel_rfl) (by kernel_rfl) (by kernel_rfl) (by kernel_rfl) (by kernel_rfl) (by kernel_rfl) (Gv.fieldO Tryz.underlying106 rfl Tryz.sizeOf104 (by decide) rfl rfl) ?_
            refine AAny.takeT (i := 9) rfl rfl rfl cx (by kernel_rfl) (by kernel_rfl) (by kernel_rfl) (by kernel_rfl) (by kernel_rfl) (by kernel_rfl) (Gv.loadL (c := .own _ _) (j := 1) Tryz.isAgg104 rfl rfl ⟨_, .head⟩ rfl) ?_
            refine AAny.takeT (i := 10) rfl rfl rfl cx (by kernel_rfl) (by kernel_rfl) (by kernel_rfl) (by kernel_rfl) (by kernel_rfl) (by kernel_rfl) (Gv.lenO Tryz.underlying104 rfl) ?_
            refine AAny.takeT (i := 11) rfl rfl rfl cx (by kernel_rfl) (by kernel_rfl) (by kernel_rfl) (by kernel_rfl) (by kernel_rfl) (by kernel_rfl) (Gv.gtr rfl rfl) ?_
            refine AAny.takeT (i := 12) rfl rfl rfl rfl (by kernel_rfl) (by kernel_rfl) (by kernel_rfl) (by kernel_rfl) (by kernel_rfl) (by kernel_rfl) (Gv.pickT (v := .bool _) rfl cx rfl) ?_
            refine AAny.takeT (i := 13) rfl rfl rfl rfl (by kernel_rfl) (by kernel_rfl) (by kernel_rfl) (by kernel_rfl) (by kernel_rfl) (by kernel_rfl) (Gv.move (v := .bool _) rfl) ?_
            refine AAny.takeF (i := 14) rfl rfl rfl rfl (by kernel_rfl) (by kernel_rfl) (by kernel_rfl) (by kernel_rfl) (by kernel_rfl) (by kernel_rfl) ?_
            refine AAny.takeF (i := 15) rfl rfl rfl rfl (by kernel_rfl) (by kernel_rfl) (by kernel_rfl) (by kernel_rfl) (by kernel_rfl) (by kernel_rfl) ?_
            refine AAny.takeF (i := 16) rfl rfl rfl rfl (by kernel_rfl) (by kernel_rfl) (by kernel_rfl) (by kernel_rfl) (by kernel_rfl) (by kernel_rfl) ?_
            refine AAny.takeF (i := 17) rfl rfl rfl rfl (by kernel_rfl) (by kernel_rfl) (by kernel_rfl) (by kernel_rfl) (by kernel_rfl) (by kernel_rfl) ?_
            refine AAny.takeF (i := 18) rfl rfl rfl rfl (by kernel_rfl) (by kernel_rfl) (by kernel_rfl) (by kernel_rfl) (by kernel_rfl) (by kernel_rfl) ?_
            refine AAny.takeF (i := 19) rfl rfl rfl rfl (by kernel_rfl) (by kernel_rfl) (by kernel_rfl) (by kernel_rfl) (by kernel_rfl) (by kernel_rfl) ?_
            refine AAny.takeF (i := 20) rfl rfl rfl rfl (by kernel_rfl) (by kernel_rfl) (by kernel_rfl) (by kernel_rfl) (by kernel_rfl) (by kernel_rfl) ?_
            refine AAny.takeF (i := 21) rfl rfl rfl rfl (by kernel_rfl) (by kernel_rfl) (by kernel_rfl) (by kernel_rfl) (by kernel_rfl) (by kernel_rfl) ?_
            refine AAny.takeF (i := 22) rfl rfl rfl rfl (by kernel_rfl) (by kernel_rfl) (by kernel_rfl) (by kernel_rfl) (by kernel_rfl) (by kernel_rfl) ?_
            refine AAny.takeF (i := 23) rfl rfl rfl rfl (by kernel_rfl) (by kernel_rfl) (by kernel_rfl) (by kernel_rfl) (by kernel_rfl) (by kernel_rfl) ?_
            refine AAny.takeF (i := 24) rfl rfl rfl rfl (by kernel_rfl) (by kernel_rfl) (by kernel_rfl) (by kernel_rfl) (by kernel_rfl) (by kernel_rfl) ?_
            refine AAny.takeF (i := 25) rfl rfl rfl rfl (by kernel_rfl) (by kernel_rfl) (by kernel_rfl) (by kernel_rfl) (by kernel_rfl) (by kernel_rfl) ?_
            refine AAny.takeF (i := 26) rfl rfl rfl rfl (by kernel_rfl) (by kernel_rfl) (by kernel_rfl) (by kernel_rfl) (by kernel_rfl) (by kernel_rfl) ?_
            refine AAny.takeF (i := 27) rfl rfl rfl rfl (by kernel_rfl) (by kernel_rfl) (by kernel_rfl) (by kernel_rfl) (by kernel_rfl) (by kernel_rfl) ?_
            refine AAny.takeT (i := 28) rfl rfl rfl rfl (by kernel_rfl) (by kernel_rfl) (by kernel_rfl) (by kernel_rfl) (by kernel_rfl) (by kernel_rfl) (Gv.pickF (v := .bool _) rfl rfl rfl) ?_
            refine AAny.take (i := 29) rfl (by kernel_rfl) (by kernel_rfl) (by kernel_rfl) (by kernel_rfl) (by kernel_rfl) (by kernel_rfl) (Gv.pickF (v := .bool _) rfl rfl rfl) ?_
            refine AAny.done (by kernel_rfl) ?_
            refine AWP.condF rfl rfl ?_
            refine AWP.skip ?_
            refine AWP.seq ?_
            refine AWP.region rfl ?_
            refine AOps.val (Gv.move (v := .po _ _) rfl) ?_
            refine AOps.val (Gv.move (v := .po _ _) rfl) ?_
            refine AOps.val (Gv.nilCheckO rfl) ?_
            refine AOps.val (Gv.fieldO Tryz.underlying106 rfl Tryz.sizeOf104 (by decide) rfl rfl) ?_
            refine AOps.val (Gv.loadL (c := .own _ _) (j := 1) Tryz.isAgg104 rfl rfl ⟨_, .head⟩ rfl) ?_
            refine AOps.val (Gv.move (v := _) rfl) ?_
            refine AOps.buildSliceFF (rows := [[_]]) ps104_1 rfl rfl rfl rfl rfl ?_
            refine AOps.appendS (k := 1) Tryz.underlying104 Tryz.type145 rfl rfl rfl rfl rfl (fun _ => (.tail .head)) (by rw [grow_len (k := 1) encItem_len]) (by decide) rfl (by show (_ + _) * 16 ≤ _; simp <;> omega) (by simp <;> omega) ?_
            intro i56
            refine AOps.val (Gv.nilCheckO rfl) ?_
            refine AOps.val (Gv.fieldO Tryz.underlying106 rfl Tryz.sizeOf104 (by decide) rfl rfl) ?_
            refine AOps.storeL (j := 1) (l := [_]) (new := [_, _, _, _, _, _]) Tryz.sizeOf104 rfl rfl rfl rfl rfl rfl rfl .head rfl rfl rfl ?_
            refine AOps.nil ?_
            refine AWP.seq ?_
            refine AWP.region rfl ?_
            refine AOps.val (Gv.assign (v := .bool _) rfl) ?_
            refine AOps.nil ?_
            refine AWP.ret ?_
            repeat (first | refine aseqQ_ret ?_ | refine ablockQ_ret ?_)
            refine afin.t1 (x := .bool _) rfl ?_
            exact ⟨i56, by rw [hb0, if_neg (by simp)]; rfl, by rw [hb0, if_neg (by simp)]; exact bline_fin⟩
          · skip
            refine AAny.takeT (i := 6) rfl rfl rfl cx (by kernel_rfl) (by kernel_rfl) (by kernel_rfl) (by kernel_rfl) (by kernel_rfl) (by kernel_rfl) (Gv.move (v := .po _ _) rfl) ?_
            refine AAny.takeT (i := 7) rfl rfl rfl cx (by kernel_rfl) (by kernel_rfl) (by kernel_rfl) (by kernel_rfl) (by kernel_rfl) (by kernel_rfl) (Gv.nilCheckO rfl) ?_
            refine AAny.takeT (i := 8) rfl rfl rfl cx (by kernel_rfl) (by kernel_rfl) (by kernel_rfl) (by kernel_rfl) (by kernel_rfl) (by kernel_rfl) (Gv.fieldO Tryz.underlying106 rfl Tryz.sizeOf104 (by decide) rfl rfl) ?_
            refine AAny.takeT (i := 9) rfl rfl rfl cx (by kernel_rfl) (by kernel_rfl) (by kernel_rfl) (by kernel_rfl) (by kernel_rfl) (by kernel_rfl) (Gv.loadL (c := .own _ _) (j := 1) Tryz.isAgg104 rfl rfl ⟨_, .head⟩ rfl) ?_
            refine AAny.takeT (i := 10) rfl rfl rfl cx (by kernel_rfl) (by kernel_rfl) (by kernel_rfl) (by kernel_rfl) (by kernel_rfl) (by kernel_rfl) (Gv.lenO Tryz.underlying104 rfl) ?_
            refine AAny.takeT (i := 11) rfl rfl rfl cx (by kernel_rfl) (by kernel_rfl) (by kernel_rfl) (by kernel_rfl) (by kernel_rfl) (by kernel_rfl) (Gv.gtr rfl rfl) ?_
            have hit2 : pre.length ≤ 100000 := by simp at hit; omega
            refine AAny.takeT (i := 12) rfl rfl rfl rfl (by kernel_rfl) (by kernel_rfl) (by kernel_rfl) (by kernel_rfl) (by kernel_rfl) (by kernel_rfl) (Gv.pickT (v := .bool _) rfl cx rfl) ?_
            refine AAny.takeT (i := 13) rfl rfl rfl rfl (by kernel_rfl) (by kernel_rfl) (by kernel_rfl) (by kernel_rfl) (by kernel_rfl) (by kernel_rfl) (Gv.move (v := .bool _) rfl) ?_
            refine AAny.takeT (i := 14) rfl rfl rfl (by simp) (by kernel_rfl) (by kernel_rfl) (by kernel_rfl) (by kernel_rfl) (by kernel_rfl) (by kernel_rfl) (Gv.move (v := .po _ _) rfl) ?_
            refine AAny.takeT (i := 15) rfl rfl rfl (by simp) (by kernel_rfl) (by kernel_rfl) (by kernel_rfl) (by kernel_rfl) (by kernel_rfl) (by kernel_rfl) (Gv.nilCheckO rfl) ?_
            refine AAny.takeT (i := 16) rfl rfl rfl (by simp) (by kernel_rfl) (by kernel_rfl) (by kernel_rfl) (by kernel_rfl) (by kernel_rfl) (by kernel_rfl) (Gv.fieldO Tryz.underlying106 rfl Tryz.sizeOf104 (by decide) rfl rfl) ?_
            refine AAny.takeT (i := 17) rfl rfl rfl (by simp) (by kernel_rfl) (by kernel_rfl) (by kernel_rfl) (by kernel_rfl) (by kernel_rfl) (by kernel_rfl) (Gv.loadL (c := .own _ _) (j := 1) Tryz.isAgg104 rfl rfl ⟨_, .head⟩ rfl) ?_
            refine AAny.takeT (i := 18) rfl rfl rfl (by simp) (by kernel_rfl) (by kernel_rfl) (by kernel_rfl) (by kernel_rfl) (by kernel_rfl) (by kernel_rfl) (Gv.move (v := .po _ _) rfl) ?_
            refine AAny.takeT (i := 19) rfl rfl rfl (by simp) (by kernel_rfl) (by kernel_rfl) (by kernel_rfl) (by kernel_rfl) (by kernel_rfl) (by kernel_rfl) (Gv.nilCheckO rfl) ?_
            refine AAny.takeT (i := 20) rfl rfl rfl (by simp) (by kernel_rfl) (by kernel_rfl) (by kernel_rfl) (by kernel_rfl) (by kernel_rfl) (by kernel_rfl) (Gv.fieldO Tryz.underlying106 rfl Tryz.sizeOf104 (by decide) rfl rfl) ?_
            refine AAny.takeT (i := 21) rfl rfl rfl (by simp) (by kernel_rfl) (by kernel_rfl) (by kernel_rfl) (by kernel_rfl) (by kernel_rfl) (by kernel_rfl) (Gv.loadL (c := .own _ _) (j := 1) Tryz.isAgg104 rfl rfl ⟨_, .head⟩ rfl) ?_
            refine AAny.takeT (i := 22) rfl rfl rfl (by simp) (by kernel_rfl) (by kernel_rfl) (by kernel_rfl) (by kernel_rfl) (by kernel_rfl) (by kernel_rfl) (Gv.lenO Tryz.underlying104 rfl) ?_
            refine AAny.takeT (i := 23) rfl rfl rfl (by simp) (by kernel_rfl) (by kernel_rfl) (by kernel_rfl) (by kernel_rfl) (by kernel_rfl) (by kernel_rfl) (Gv.sub rfl rfl (by unfold I64; omega)) ?_
            refine AAny.takeT (i := 24) rfl rfl rfl (by simp) (by kernel_rfl) (by kernel_rfl) (by kernel_rfl) (by kernel_rfl) (by kernel_rfl) (by kernel_rfl) (Gv.idxO (j := ((pre ++ [y]).length - 1)) Tryz.underlying104 Tryz.sizeOf145 rfl rfl (by simp) ⟨_, (.tail .head)⟩ (by simp [encItem_eq]) (by simp)) ?_
            refine AAny.takeT (i := 25) rfl rfl rfl (by simp) (by kernel_rfl) (by kernel_rfl) (by kernel_rfl) (by kernel_rfl) (by kernel_rfl) (by kernel_rfl) (Gv.load1G (c := _) Tryz.isAgg145 rfl ⟨_, (.tail .head)⟩ (last_item pre y)) ?_
            refine AAny.one (i := 26) rfl (by kernel_rfl) ?_
            refine AOps.guardT rfl rfl (by simp) ?_
            refine AOps.callP (isPhi_spec y) rfl ?_
            refine AOps.nil ?_
            refine AAny.takeT (i := 27) rfl rfl rfl (by simp) (by kernel_rfl) (by kernel_rfl) (by kernel_rfl) (by kernel_rfl) (by kernel_rfl) (by kernel_rfl) (Gv.not rfl) ?_
            refine AAny.takeT (i := 28) rfl rfl rfl rfl (by kernel_rfl) (by kernel_rfl) (by kernel_rfl) (by kernel_rfl) (by kernel_rfl) (by kernel_rfl) (Gv.pickT (v := .bool _) rfl (by simp) rfl) ?_
            refine AAny.take (i := 29) rfl (by kernel_rfl) (by kernel_rfl) (by kernel_rfl) (by kernel_rfl) (by kernel_rfl) (by kernel_rfl) (Gv.pickF (v := .bool _) rfl rfl rfl) ?_
            refine AAny.done (by kernel_rfl) ?_
            refine AWP.cond rfl (fun cy => ?_) (fun cy => ?_)
            · skip
              have hg : x.isPhi = true ∧ ((pre ++ [y]).getLast?.map PItem.isPhi) = some false := ⟨cx, by simpa using cy⟩
              refine AWP.seq ?_
              refine AWP.region rfl ?_
              refine AOps.val (Gv.assign (v := .bool _) rfl) ?_
              refine AOps.nil ?_
              refine AWP.ret ?_
              repeat (first | refine aseqQ_ret ?_ | refine ablockQ_ret ?_)
              refine afin.t1 (x := .bool _) rfl ?_
              exact ⟨ji, by rw [hb0, if_pos hg]; rfl, by rw [hb0, if_pos hg]; rfl⟩
            · skip
              have hg : ¬ (x.isPhi = true ∧ ((pre ++ [y]).getLast?.map PItem.isPhi) = some false) := by rintro ⟨_, h2⟩; simp at h2 cy; rw [h2] at cy; cases cy
              refine AWP.skip ?_
              refine AWP.seq ?_
              refine AWP.region rfl ?_
              refine AOps.val (Gv.move (v := .po _ _) rfl) ?_
              refine AOps.val (Gv.move (v := .po _ _) rfl) ?_
              refine AOps.val (Gv.nilCheckO rfl) ?_
              refine AOps.val (Gv.fieldO Tryz.underlying106 rfl Tryz.sizeOf104 (by decide) rfl rfl) ?_
              refine AOps.val (Gv.loadL (c := .own _ _) (j := 1) Tryz.isAgg104 rfl rfl ⟨_, .head⟩ rfl) ?_
              refine AOps.val (Gv.move (v := _) rfl) ?_
              refine AOps.buildSliceFF (rows := [[_]]) ps104_1 rfl rfl rfl rfl rfl ?_
              refine AOps.appendS (k := 1) Tryz.underlying104 Tryz.type145 rfl rfl rfl rfl rfl (fun _ => (.tail .head)) (by rw [grow_len (k := 1) encItem_len]) (by decide) rfl (by show (_ + _) * 16 ≤ _; simp <;> omega) (by simp <;> omega) ?_
              intro i56
              refine AOps.val (Gv.nilCheckO rfl) ?_
              refine AOps.val (Gv.fieldO Tryz.underlying106 rfl Tryz.sizeOf104 (by decide) rfl rfl) ?_
              refine AOps.storeL (j := 1) (l := [_]) (new := [_, _, _, _, _, _]) Tryz.sizeOf104 rfl rfl rfl rfl rfl rfl rfl .head rfl rfl rfl ?_
              refine AOps.nil ?_
              refine AWP.seq ?_
              refine AWP.region rfl ?_
              refine AOps.val (Gv.assign (v := .bool _) rfl) ?_
              refine AOps.nil ?_
              refine AWP.ret ?_
              repeat (first | refine aseqQ_ret ?_ | refine ablockQ_ret ?_)
              refine afin.t1 (x := .bool _) rfl ?_
              exact ⟨i56, by rw [hb0, if_neg hg]; rfl, by rw [hb0, if_neg hg]; exact bline_fin⟩
        · skip
          have hg : ¬ (x.isPhi = true ∧ (items.getLast?.map PItem.isPhi) = some false) := by rintro ⟨h2, _⟩; rw [cx] at h2; cases h2
          refine AAny.takeF (i := 6) rfl rfl rfl cx (by kernel_rfl) (by kernel_rfl) (by kernel_rfl) (by kernel_rfl) (by kernel_rfl) (by kernel_rfl) ?_
          refine AAny.takeF (i := 7) rfl rfl rfl cx (by kernel_rfl) (by kernel_rfl) (by kernel_rfl) (by kernel_rfl) (by kernel_rfl) (by kernel_rfl) ?_
          refine AAny.takeF (i := 8) rfl rfl rfl cx (by kernel_rfl) (by kernel_rfl) (by kernel_rfl) (by kernel_rfl) (by kernel_rfl) (by kernel_rfl) ?_
          refine AAny.takeF (i := 9) rfl rfl rfl cx (by kernel_rfl) (by kernel_rfl) (by kernel_rfl) (by kernel_rfl) (by kernel_rfl) (by kernel_rfl) ?_
          refine AAny.takeF (i := 10) rfl rfl rfl cx (by kernel_rfl) (by kernel_rfl) (by kernel_rfl) (by kernel_rfl) (by kernel_rfl) (by kernel_rfl) ?_
          refine AAny.takeF (i := 11) rfl rfl rfl cx (by kernel_rfl) (by kernel_rfl) (by kernel_rfl) (by kernel_rfl) (by kernel_rfl) (by kernel_rfl) ?_
          refine AAny.takeT (i := 12) rfl rfl rfl rfl (by kernel_rfl) (by kernel_rfl) (by kernel_rfl) (by kernel_rfl) (by kernel_rfl) (by kernel_rfl) (Gv.pickF (v := .bool _) rfl cx rfl) ?_
          refine AAny.takeT (i := 13) rfl rfl rfl rfl (by kernel_rfl) (by kernel_rfl) (by kernel_rfl) (by kernel_rfl) (by kernel_rfl) (by kernel_rfl) (Gv.move (v := .bool _) rfl) ?_
          refine AAny.takeF (i := 14) rfl rfl rfl rfl (by kernel_rfl) (by kernel_rfl) (by kernel_rfl) (by kernel_rfl) (by kernel_rfl) (by kernel_rfl) ?_
          refine AAny.takeF (i := 15) rfl rfl rfl rfl (by kernel_rfl) (by kernel_rfl) (by kernel_rfl) (by kernel_rfl) (by kernel_rfl) (by kernel_rfl) ?_
          refine AAny.takeF (i := 16) rfl rfl rfl rfl (by kernel_rfl) (by kernel_rfl) (by kernel_rfl) (by kernel_rfl) (by kernel_rfl) (by kernel_rfl) ?_
          refine AAny.takeF (i := 17) rfl rfl rfl rfl (by kernel_rfl) (by kernel_rfl) (by kernel_rfl) (by kernel_rfl) (by kernel_rfl) (by kernel_rfl) ?_
          refine AAny.takeF (i := 18) rfl rfl rfl rfl (by kernel_rfl) (by kernel_rfl) (by kernel_rfl) (by kernel_rfl) (by kernel_rfl) (by kernel_rfl) ?_
          refine AAny.takeF (i := 19) rfl rfl rfl rfl (by kernel_rfl) (by kernel_rfl) (by kernel_rfl) (by kernel_rfl) (by kernel_rfl) (by kernel_rfl) ?_
          refine AAny.takeF (i := 20) rfl rfl rfl rfl (by kernel_rfl) (by kernel_rfl) (by kernel_rfl) (by kernel_rfl) (by kernel_rfl) (by kernel_rfl) ?_
          refine AAny.takeF (i := 21) rfl rfl rfl rfl (by kernel_rfl) (by kernel_rfl) (by kernel_rfl) (by kernel_rfl) (by kernel_rfl) (by kernel_rfl) ?_
          refine AAny.takeF (i := 22) rfl rfl rfl rfl (by kernel_rfl) (by kernel_rfl) (by kernel_rfl) (by kernel_rfl) (by kernel_rfl) (by kernel_rfl) ?_
          refine AAny.takeF (i := 23) rfl rfl rfl rfl (by kernel_rfl) (by kernel_rfl) (by kernel_rfl) (by kernel_rfl) (by kernel_rfl) (by kernel_rfl) ?_
          refine AAny.takeF (i := 24) rfl rfl rfl rfl (by kernel_rfl) (by kernel_rfl) (by kernel_rfl) (by kernel_rfl) (by kernel_rfl) (by kernel_rfl) ?_
          refine AAny.takeF (i := 25) rfl rfl rfl rfl (by kernel_rfl) (by kernel_rfl) (by kernel_rfl) (by kernel_rfl) (by kernel_rfl) (by kernel_rfl) ?_
          refine AAny.takeF (i := 26) rfl rfl rfl rfl (by kernel_rfl) (by kernel_rfl) (by kernel_rfl) (by kernel_rfl) (by kernel_rfl) (by kernel_rfl) ?_
          refine AAny.takeF (i := 27) rfl rfl rfl rfl (by kernel_rfl) (by kernel_rfl) (by kernel_rfl) (by kernel_rfl) (by kernel_rfl) (by kernel_rfl) ?_
          refine AAny.takeT (i := 28) rfl rfl rfl rfl (by kernel_rfl) (by kernel_rfl) (by kernel_rfl) (by kernel_rfl) (by kernel_rfl) (by kernel_rfl) (Gv.pickF (v := .bool _) rfl rfl rfl) ?_
          refine AAny.take (i := 29) rfl (by kernel_rfl) (by kernel_rfl) (by kernel_rfl) (by kernel_rfl) (by kernel_rfl) (by kernel_rfl) (Gv.pickF (v := .bool _) rfl rfl rfl) ?_
          refine AAny.done (by kernel_rfl) ?_
          refine AWP.condF rfl rfl ?_
          refine AWP.skip ?_
          refine AWP.seq ?_
          refine AWP.region rfl ?_
          refine AOps.val (Gv.move (v := .po _ _) rfl) ?_
          refine AOps.val (Gv.move (v := .po _ _) rfl) ?_
          refine AOps.val (Gv.nilCheckO rfl) ?_
          refine AOps.val (Gv.fieldO Tryz.underlying106 rfl Tryz.sizeOf104 (by decide) rfl rfl) ?_
          refine AOps.val (Gv.loadL (c := .own _ _) (j := 1) Tryz.isAgg104 rfl rfl ⟨_, .head⟩ rfl) ?_
          refine AOps.val (Gv.move (v := _) rfl) ?_
          refine AOps.buildSliceFF (rows := [[_]]) ps104_1 rfl rfl rfl rfl rfl ?_
          refine AOps.appendS (k := 1) Tryz.underlying104 Tryz.type145 rfl rfl rfl rfl rfl (fun _ => (.tail .head)) (by rw [grow_len (k := 1) encItem_len]) (by decide) rfl (by show (_ + _) * 16 ≤ _; simp <;> omega) (by simp <;> omega) ?_
          intro i56
          refine AOps.val (Gv.nilCheckO rfl) ?_
          refine AOps.val (Gv.fieldO Tryz.underlying106 rfl Tryz.sizeOf104 (by decide) rfl rfl) ?_
          refine AOps.storeL (j := 1) (l := [_]) (new := [_, _, _, _, _, _]) Tryz.sizeOf104 rfl rfl rfl rfl rfl rfl rfl .head rfl rfl rfl ?_
          refine AOps.nil ?_
          refine AWP.seq ?_
          refine AWP.region rfl ?_
          refine AOps.val (Gv.assign (v := .bool _) rfl) ?_
          refine AOps.nil ?_
          refine AWP.ret ?_
          repeat (first | refine aseqQ_ret ?_ | refine ablockQ_ret ?_)
          refine afin.t1 (x := .bool _) rfl ?_
          exact ⟨i56, by rw [hb0, if_neg hg]; rfl, by rw [hb0, if_neg hg]; exact bline_fin⟩
    · skip
      rw [he] at hb0 hsp
      refine AOps.callA rfl (Part.perm (.l (.r (.rest _)))) (hsp) ?_
      rintro r13 O13 ⟨rfl, rfl⟩
      refine AOps.nil ?_
      refine AWP.condT rfl rfl ?_
      refine AWP.seq ?_
      refine AWP.region rfl ?_
      refine AOps.val (Gv.assign (v := .bool _) rfl) ?_
      refine AOps.nil ?_
      refine AWP.ret ?_
      repeat (first | refine aseqQ_ret ?_ | refine ablockQ_ret ?_)
      refine afin.t1 (x := .bool _) rfl ?_
      exact ⟨ji, by rw [hb0]; rfl, by rw [hb0]; rfl⟩
end Go.Proofs.YtdkhlgiohpdihaaGreatDoor
namespace Go.Proofs.YtdkhlgiohpdihaaGreatDoor
open Go.Proofs Go.Lib Go.Shelf Go.RowKit
theorem pl106 : Places Tryz.prog 106 #[(0, 1), (1, 1), (2, 1), (3, 1), (4, 1), (5, 1)] [.str ⟨#[]⟩, .raw (.slice none 0 0), .int .i64 0, .str ⟨#[]⟩, .raw (.slice none 0 0), .bool false] := ⟨_, _, Tryz.underlying106, Tryz.zeroValue106, fun w => by kernel_rfl, rfl⟩
theorem ps54_1 : PlacesS Tryz.prog 54 106 1 6 [.str ⟨#[]⟩, .raw (.slice none 0 0), .int .i64 0, .str ⟨#[]⟩, .raw (.slice none 0 0), .bool false] := ⟨_, Tryz.underlying54, Tryz.sizeOf106, Tryz.zeroValue106, by decide, by decide, by kernel_rfl⟩
set_option maxRecDepth 20000
variable {E : World}
structure PProg where
  params : List PVar
  vars : List PVar
  done : List (PHead × List PItem)
  cur : Option (PHead × List PItem)
def encPB (b : PHead × List PItem) : List AV := rowB (.fro 1 (b.2.map encItem)) b.1
def blockS : ByteArray := ⟨#[98, 108, 111, 99, 107]⟩
def varS : ByteArray := ⟨#[118, 97, 114]⟩
def newHead (name : ByteArray) : PHead := ⟨name, 0, ⟨#[]⟩, [], false⟩
def isBlockLine (w : List ByteArray) : Bool := decide (atW w 0 = blockS ∧ w.length = 2 ∧ scanName (atW w 1) = true)
def isVarLine (w : List ByteArray) : Bool := decide (atW w 0 = varS ∧ 1 < w.length)
def lineP0 (S : PProg) (w : List ByteArray) : Option PProg :=
  if isBlockLine w = true then some { S with cur := some (newHead (atW w 1), []) }
  else if isVarLine w = true ∧ varsOk (w.drop 1) = true then some { S with vars := S.vars ++ varsOf (w.drop 1) } else none
def lineP1 (S : PProg) (b : PHead × List PItem) (w : List ByteArray) : Option PProg :=
  if isBlockLine w = true then (if b.1.ended = true then some { S with done := S.done ++ [b], cur := some (newHead (atW w 1), []) } else none)
  else (lineB b.1 b.2 w).map fun r => { S with cur := some r }
def lineP (S : PProg) (w : List ByteArray) : Option PProg :=
  match S.cur with
  | none => lineP0 S w
  | some b => lineP1 S b w
def curRow (ji : Nat) : Option (PHead × List PItem) → List AV
  | none => []
  | some b => rowB (.own ji b.2.length) b.1
def curItems : Option (PHead × List PItem) → List AV
  | none => []
  | some b => (b.2.map encItem).flatten
def curN : Option (PHead × List PItem) → Nat
  | none => 0
  | some _ => 1
def progO (p : Nat) (q : Nat × Nat × Nat) (S : PProg) : OL :=
  [(p, .cells 56 [.fro 2 (S.params.map encVar), .own q.1 S.vars.length, .own q.2.1 (S.done.length + curN S.cur)]), (q.1, .grow 2 38 (S.vars.map encVar).flatten),
   (q.2.1, .grow 6 106 ((S.done.map encPB).flatten ++ curRow q.2.2 S.cur)), (q.2.2, .grow 1 145 (curItems S.cur))]
theorem block_cond {w : List ByteArray} {b : Bool} (h : b = isBlockLine w) : AV.bool b = .bool (isBlockLine w) := by rw [h]
theorem pnew_fin {p jv i j : Nat} {params vars : List PVar} {done : List (PHead × List PItem)} {b : PHead × List PItem} {nm : ByteArray} :
    ([(p, .cells 56 [.fro 2 (params.map encVar), .own jv vars.length, .own i (done.length + 1 + 1)]), (jv, .grow 2 38 (vars.map encVar).flatten),
      (i, .grow 6 106 (((done.map encPB).flatten ++ encPB b) ++ rowB (.own j 0) (newHead nm))), (j, .grow 1 145 [])] : OL) = progO p (jv, i, j) ⟨params, vars, done ++ [b], some (newHead nm, [])⟩ := by
  simp [progO, curRow, curItems, curN]
theorem pline1_spec {p jv jl ji : Nat} (S : PProg) (h : PHead) (it : List PItem) (hS : S.cur = some (h, it)) (w : List ByteArray) (hd : S.done.length ≤ 100000) (hit : it.length ≤ 100000) (hw : 0 < w.length) (hl : w.length ≤ 100000) (hs : ∀ x ∈ w, x.size ≤ 100000) (hL : Letters E) (hT : Pows E) (hV : Vars0 E) :
    ACall Tryz.prog E 49 [.po p 0, .fro 1 (w.map encS)] (progO p (jv, jl, ji) S)
      (fun x O' => ∃ q : Nat × Nat × Nat, x = .bool (lineP1 S (h, it) w).isSome ∧ O' = progO p q ((lineP1 S (h, it) w).getD S)) := by
  obtain ⟨params, vars, done, cur⟩ := S
  dsimp only at hS hd
  subst hS
  have hsz : ∀ k, (atW w k).size ≤ 100000 := fun k => by
    unfold atW
    cases h : w[k]? with
    | none => exact Nat.zero_le _
    | some x => exact hs x (List.mem_of_getElem? h)
  refine ACall.intro Tryz.func49 rfl (by decide) rfl ?_
  refine AWP.seq ?_
  refine AWP.region rfl ?_
  refine AOps.val (Gv.assign (v := .bool _) rfl) ?_
  refine AOps.nil ?_
  refine AWP.seq ?_
  refine AWP.region rfl ?_
  refine AOps.val (Gv.move (v := .po _ _) rfl) ?_
  refine AOps.val (Gv.nilCheckO rfl) ?_
  refine AOps.val (Gv.fieldO Tryz.underlying56 rfl Tryz.sizeOf54 (by decide) rfl rfl) ?_
  refine AOps.val (Gv.load1C (c := .own _ _) Tryz.isAgg54 rfl ⟨_, .head⟩ rfl) ?_
  refine AOps.val (Gv.lenO Tryz.underlying54 rfl) ?_
  refine AOps.val (Gv.assign (v := .int _ _) rfl) ?_
  refine AOps.nil ?_
  refine AWP.seq ?_
  refine AWP.block ?_
  refine AWP.seq ?_
  refine AWP.cutS (γ := Unit) [0, 1, 5] (fun u => [(13, .bool (isBlockLine w))]) (fun u => progO p (jv, jl, ji) ⟨params, vars, done, some (h, it)⟩) (fun u => True) ?_ (fun _ _ h => h) ?_
  · skip
    refine AWP.region rfl ?_
    refine AOps.val (Gv.move (v := .fro _ _) rfl) ?_
    refine AOps.val (Gv.idxM (j := 0) Tryz.underlying62 Tryz.sizeOf9 rfl rfl rfl (atW_get (by omega))) ?_
    refine AOps.val (Gv.load1F (c := .str _) Tryz.isAgg9 rfl) ?_
    refine AOps.val (Gv.eqlT rfl rfl) ?_
    refine AOps.val (Gv.move (v := .bool _) rfl) ?_
    refine AOps.case (s := 18) rfl (fun c1 => ?_) (fun c1 => ?_)
    · skip
      refine AOps.guardT rfl rfl c1 ?_
      refine AOps.val (Gv.move (v := .fro _ _) rfl) ?_
      refine AOps.guardT rfl rfl c1 ?_
      refine AOps.val (Gv.lenM Tryz.underlying62 rfl) ?_
      refine AOps.guardT rfl rfl c1 ?_
      refine AOps.val (Gv.eqlI rfl rfl) ?_
      refine AOps.val (Gv.pickT (v := .bool _) rfl c1 rfl) ?_
      refine AOps.val (Gv.move (v := .bool _) rfl) ?_
      refine AOps.case (s := 23) rfl (fun c2 => ?_) (fun c2 => ?_)
      · skip
        refine AOps.guardT rfl rfl c2 ?_
        refine AOps.val (Gv.move (v := .fro _ _) rfl) ?_
        refine AOps.guardT rfl rfl c2 ?_
        refine AOps.val (Gv.idxM (j := 1) Tryz.underlying62 Tryz.sizeOf9 rfl rfl rfl (atW_get (by simp_all <;> omega))) ?_
        refine AOps.guardT rfl rfl c2 ?_
        refine AOps.val (Gv.load1F (c := .str _) Tryz.isAgg9 rfl) ?_
        refine AOps.guardT rfl rfl c2 ?_
        refine AOps.callP (zname_spec _ (by have := hsz 1; omega) hL) rfl ?_
        refine AOps.val (Gv.pickT (v := .bool _) rfl c2 rfl) ?_
        refine AOps.val (Gv.assign (v := .bool _) rfl) ?_
        refine AOps.nil ?_
        exact ⟨(), ⟨rfl, rfl, rfl, trivial⟩, ⟨block_cond (by unfold isBlockLine; simp_all [blockS] <;> omega), trivial⟩, ⟨_, (.refl _), rfl⟩, trivial⟩
      · skip
        refine AOps.guardFd rfl rfl c2 ?_
        refine AOps.guardFd rfl rfl c2 ?_
        refine AOps.guardFd rfl rfl c2 ?_
        refine AOps.guardFd rfl rfl c2 ?_
        refine AOps.val (Gv.pickF (v := .bool _) rfl c2 rfl) ?_
        refine AOps.val (Gv.assign (v := .bool _) rfl) ?_
        refine AOps.nil ?_
        exact ⟨(), ⟨rfl, rfl, rfl, trivial⟩, ⟨block_cond (by unfold isBlockLine; simp_all [blockS] <;> omega), trivial⟩, ⟨_, (.refl _), rfl⟩, trivial⟩
    · skip
      refine AOps.guardFd rfl rfl c1 ?_
      refine AOps.guardFd rfl rfl c1 ?_
      refine AOps.guardFd rfl rfl c1 ?_
      refine AOps.val (Gv.pickF (v := .bool _) rfl c1 rfl) ?_
      refine AOps.val (Gv.move (v := .bool _) rfl) ?_
      refine AOps.guardFd rfl rfl rfl ?_
      refine AOps.guardFd rfl rfl rfl ?_
      refine AOps.guardFd rfl rfl rfl ?_
      refine AOps.guardFd rfl rfl rfl ?_
      refine AOps.val (Gv.pickF (v := .bool _) rfl rfl rfl) ?_
      refine AOps.val (Gv.assign (v := .bool _) rfl) ?_
      refine AOps.nil ?_
      exact ⟨(), ⟨rfl, rfl, rfl, trivial⟩, ⟨block_cond (by unfold isBlockLine; simp_all [blockS] <;> omega), trivial⟩, ⟨_, (.refl _), rfl⟩, trivial⟩
  · skip
    rintro _ _
    refine AWP.cond rfl (fun c1 => ?_) (fun c1 => ?_)
    · skip
      have hwl : w.length = 2 := by unfold isBlockLine at c1; simp at c1; omega
      refine AWP.seq ?_
      refine AWP.seq ?_
      refine AWP.region rfl ?_
      refine AOps.val (Gv.move (v := .int _ _) rfl) ?_
      refine AOps.val (Gv.gtr rfl rfl) ?_
      refine AOps.val (Gv.move (v := .bool _) rfl) ?_
      refine AOps.guardT rfl rfl (by show decide (0 < ((done.length + 1 : Nat) : Int)) = true; simp) ?_
      refine AOps.val (Gv.move (v := .po _ _) rfl) ?_
      refine AOps.guardT rfl rfl (by show decide (0 < ((done.length + 1 : Nat) : Int)) = true; simp) ?_
      refine AOps.val (Gv.nilCheckO rfl) ?_
      refine AOps.guardT rfl rfl (by show decide (0 < ((done.length + 1 : Nat) : Int)) = true; simp) ?_
      refine AOps.val (Gv.fieldO Tryz.underlying56 rfl Tryz.sizeOf54 (by decide) rfl rfl) ?_
      refine AOps.guardT rfl rfl (by show decide (0 < ((done.length + 1 : Nat) : Int)) = true; simp) ?_
      refine AOps.val (Gv.load1C (c := .own _ _) Tryz.isAgg54 rfl ⟨_, .head⟩ rfl) ?_
      refine AOps.guardT rfl rfl (by show decide (0 < ((done.length + 1 : Nat) : Int)) = true; simp) ?_
      refine AOps.val (Gv.move (v := .int _ _) rfl) ?_
      refine AOps.guardT rfl rfl (by show decide (0 < ((done.length + 1 : Nat) : Int)) = true; simp) ?_
      refine AOps.val (Gv.sub rfl rfl (by unfold I64; show _ ∧ ((done.length + 1 : Nat) : Int) - 1 ≤ _; omega)) ?_
      refine AOps.guardT rfl rfl (by show decide (0 < ((done.length + 1 : Nat) : Int)) = true; simp) ?_
      refine AOps.val (Gv.idxOL (j := done.length) Tryz.underlying54 Tryz.sizeOf106 rfl rfl (by show ((done.length + 1 : Nat) : Int) - 1 = _; omega) ⟨_, (.tail (.tail .head))⟩ (by simp [curRow, rowB]) (by show done.length < done.length + 1; omega) (show done.length * 6 = ((done.map encPB).flatten).length by rw [grow_len (k := 6) (fun _ => rfl)])) ?_
      refine AOps.guardT rfl rfl (by show decide (0 < ((done.length + 1 : Nat) : Int)) = true; simp) ?_
      refine AOps.val (Gv.fieldO Tryz.underlying106 rfl Tryz.sizeOf4 (by decide) rfl rfl) ?_
      refine AOps.guardT rfl rfl (by show decide (0 < ((done.length + 1 : Nat) : Int)) = true; simp) ?_
      refine AOps.val (Gv.loadL (c := .bool _) (j := 5) Tryz.isAgg4 rfl rfl ⟨_, (.tail (.tail .head))⟩ rfl) ?_
      refine AOps.guardT rfl rfl (by show decide (0 < ((done.length + 1 : Nat) : Int)) = true; simp) ?_
      refine AOps.val (Gv.not rfl) ?_
      refine AOps.val (Gv.pickT (v := .bool _) rfl (by show decide (0 < ((done.length + 1 : Nat) : Int)) = true; simp) rfl) ?_
      refine AOps.nil ?_
      refine AWP.cond rfl (fun c2 => ?_) (fun c2 => ?_)
      · skip
        have hr : lineP1 ⟨params, vars, done, some (h, it)⟩ (h, it) w = none := by unfold lineP1; rw [if_pos c1, if_neg (by simpa using c2)]
        refine AWP.seq ?_
        refine AWP.region rfl ?_
        refine AOps.val (Gv.assign (v := .bool _) rfl) ?_
        refine AOps.nil ?_
        refine AWP.ret ?_
        repeat (first | refine aseqQ_ret ?_ | refine ablockQ_ret ?_)
        refine afin.t1 (x := .bool _) rfl ?_
        exact ⟨(jv, jl, ji), by rw [hr]; rfl, by rw [hr]; rfl⟩
      · skip
        have hr : lineP1 ⟨params, vars, done, some (h, it)⟩ (h, it) w = some ⟨params, vars, done ++ [(h, it)], some (newHead (atW w 1), [])⟩ := by unfold lineP1; rw [if_pos c1, if_pos (by simpa using c2)]
        refine GStep.wp (GStep.knowL (off := 1) (rows := it.map encItem) (.tail (.tail (.tail .head))) (.tail (.tail .head)) rfl (by intro r hr; obtain ⟨x, _, rfl⟩ := List.mem_map.1 hr; exact encItem_len x) (by decide) (by simp)) ?_
        refine AWP.skip ?_
        refine AWP.seq ?_
        refine AWP.regionDraw (fun j => Nat.beq j 13) (by kernel_rfl) rfl (Part.perm (.r (.rest _))) ?_
        refine AAny.take (i := 0) rfl (by kernel_rfl) (by kernel_rfl) (by kernel_rfl) (by kernel_rfl) (by kernel_rfl) (by kernel_rfl) (Gv.move (v := .po _ _) rfl) ?_
        refine AAny.take (i := 1) rfl (by kernel_rfl) (by kernel_rfl) (by kernel_rfl) (by kernel_rfl) (by kernel_rfl) (by kernel_rfl) (Gv.move (v := .po _ _) rfl) ?_
        refine AAny.take (i := 2) rfl (by kernel_rfl) (by kernel_rfl) (by kernel_rfl) (by kernel_rfl) (by kernel_rfl) (by kernel_rfl) (Gv.nilCheckO rfl) ?_
        refine AAny.take (i := 3) rfl (by kernel_rfl) (by kernel_rfl) (by kernel_rfl) (by kernel_rfl) (by kernel_rfl) (by kernel_rfl) (Gv.fieldO Tryz.underlying56 rfl Tryz.sizeOf54 (by decide) rfl rfl) ?_
        refine AAny.take (i := 4) rfl (by kernel_rfl) (by kernel_rfl) (by kernel_rfl) (by kernel_rfl) (by kernel_rfl) (by kernel_rfl) (Gv.load1C (c := .own _ _) Tryz.isAgg54 rfl ⟨_, .head⟩ rfl) ?_
        refine AAny.take (i := 5) rfl (by kernel_rfl) (by kernel_rfl) (by kernel_rfl) (by kernel_rfl) (by kernel_rfl) (by kernel_rfl) (Gv.move (v := .fro _ _) rfl) ?_
        refine AAny.take (i := 6) rfl (by kernel_rfl) (by kernel_rfl) (by kernel_rfl) (by kernel_rfl) (by kernel_rfl) (by kernel_rfl) (Gv.idxM (j := 1) Tryz.underlying62 Tryz.sizeOf9 rfl rfl rfl (atW_get (by omega))) ?_
        refine AAny.take (i := 7) rfl (by kernel_rfl) (by kernel_rfl) (by kernel_rfl) (by kernel_rfl) (by kernel_rfl) (by kernel_rfl) (Gv.load1F (c := .str _) Tryz.isAgg9 rfl) ?_
        refine AAny.take (i := 8) rfl (by kernel_rfl) (by kernel_rfl) (by kernel_rfl) (by kernel_rfl) (by kernel_rfl) (by kernel_rfl) (Gv.build (cps := [(0, [_])]) (rs := [_, .raw (.slice none 0 0), .int .i64 0, .str ⟨#[]⟩, .raw (.slice none 0 0), .bool false]) pl106 rfl rfl rfl) ?_
        refine AAny.one (i := 9) rfl (by kernel_rfl) ?_
        refine AOps.buildSliceFF (rows := [[_, _, _, _, _, _]]) ps54_1 rfl rfl rfl rfl rfl ?_
        refine AOps.nil ?_
        refine AAny.one (i := 10) rfl (by kernel_rfl) ?_
        refine AOps.appendS (k := 6) Tryz.underlying54 Tryz.type106 rfl rfl rfl rfl rfl (fun _ => (.tail .head)) (by rw [List.length_append, grow_len (k := 6) (fun _ => rfl)]; show done.length * 6 + 6 = (done.length + 1) * 6; omega) (by decide) rfl (by show (done.length + 1 + 1) * 96 ≤ 140737488355328; omega) (by show done.length + 1 + 1 ≤ 140737488355328; omega) ?_
        intro i53
        refine AOps.nil ?_
        refine AAny.takeK (i := 11) rfl (by kernel_rfl) (by kernel_rfl) (by kernel_rfl) (by kernel_rfl) (Gv.nilCheckO rfl) ?_
        refine AAny.take (i := 12) rfl (by kernel_rfl) (by kernel_rfl) (by kernel_rfl) (by kernel_rfl) (by kernel_rfl) (by kernel_rfl) (Gv.fieldO Tryz.underlying56 rfl Tryz.sizeOf54 (by decide) rfl rfl) ?_
        refine AAny.writes ?_
        refine AAnyW.one (i := 13) rfl (by kernel_rfl) (by kernel_rfl) ?_
        refine AOps.storeC (l := [_]) (new := [_, _, _]) Tryz.sizeOf54 rfl rfl rfl rfl rfl rfl .head rfl rfl ?_
        refine AOps.nil ?_
        refine AAnyW.done (by kernel_rfl) ?_
        refine GStep.wp (GStep.impL (off := 4) (.tail (.tail .head)) rfl (nil_fro 1)) ?_
        refine adoptL_wp (off := 1) (k := 1) (T := 145) (fun _ => (.tail (.tail .head))) rfl ?_
        intro j2
        refine GStep.wp (GStep.perm (Pick.perm (.tail (.tail (.tail .head))))) ?_
        refine GStep.wp (GStep.perm (Pick.perm (.tail (.tail (.tail .head))))) ?_
        refine GStep.wp (GStep.perm (Pick.perm (.tail (.tail (.tail .head))))) ?_
        refine AWP.seq ?_
        refine AWP.region rfl ?_
        refine AOps.val (Gv.assign (v := .bool _) rfl) ?_
        refine AOps.nil ?_
        refine AWP.ret ?_
        repeat (first | refine aseqQ_ret ?_ | refine ablockQ_ret ?_)
        refine afin.t1 (x := .bool _) rfl ?_
        exact ⟨(jv, i53, j2), by rw [hr]; rfl, by rw [hr]; exact pnew_fin⟩
    · skip
      have hsp := bline_spec (E := E) (jl := jl) (ji := ji) (A := (done.map encPB).flatten) h it w hit hl hs hL hT hV
      have hr0 : lineP1 ⟨params, vars, done, some (h, it)⟩ (h, it) w = (lineB h it w).map fun r => ⟨params, vars, done, some r⟩ := by unfold lineP1; rw [if_neg (by rw [c1]; simp)]
      refine AWP.seq ?_
      refine AWP.region rfl ?_
      refine AOps.val (Gv.move (v := .int _ _) rfl) ?_
      refine AOps.val (Gv.gtr rfl rfl) ?_
      refine AOps.val (Gv.assign (v := .bool _) rfl) ?_
      refine AOps.nil ?_
      refine AWP.condT rfl (by show decide (0 < ((done.length + 1 : Nat) : Int)) = true; simp) ?_
      refine AWP.seq ?_
      refine AWP.region rfl ?_
      refine AOps.val (Gv.move (v := .po _ _) rfl) ?_
      refine AOps.val (Gv.nilCheckO rfl) ?_
      refine AOps.val (Gv.fieldO Tryz.underlying56 rfl Tryz.sizeOf54 (by decide) rfl rfl) ?_
      refine AOps.val (Gv.load1C (c := .own _ _) Tryz.isAgg54 rfl ⟨_, .head⟩ rfl) ?_
      refine AOps.val (Gv.move (v := .int _ _) rfl) ?_
      refine AOps.val (Gv.sub rfl rfl (by unfold I64; show _ ∧ ((done.length + 1 : Nat) : Int) - 1 ≤ _; omega)) ?_
      refine AOps.val (Gv.idxOL (j := done.length) Tryz.underlying54 Tryz.sizeOf106 rfl rfl (by show ((done.length + 1 : Nat) : Int) - 1 = _; omega) ⟨_, (.tail (.tail .head))⟩ (by simp [curRow, rowB]) (by show done.length < done.length + 1; omega) (show done.length * 6 = ((done.map encPB).flatten).length by rw [grow_len (k := 6) (fun _ => rfl)])) ?_
      refine AOps.val (Gv.move (v := .fro _ _) rfl) ?_
      rcases hb : lineB h it w with _ | r
      · skip
        rw [hb] at hsp hr0
        refine AOps.callA rfl (Part.perm (.r (.r (.l (.l (.rest _)))))) (hsp) ?_
        rintro r67 O67 ⟨q, rfl, rfl⟩
        refine GStep.ops (GStep.perm (Pick.perm (.tail .head))) ?_
        refine GStep.ops (GStep.perm (Pick.perm (.tail .head))) ?_
        refine GStep.ops (GStep.perm (Pick.perm (.tail (.tail (.tail .head))))) ?_
        refine GStep.ops (GStep.perm (Pick.perm (.tail (.tail (.tail .head))))) ?_
        refine AOps.val (Gv.assign (v := .bool _) rfl) ?_
        refine AOps.nil ?_
        refine AWP.ret ?_
        repeat (first | refine aseqQ_ret ?_ | refine ablockQ_ret ?_)
        refine afin.t1 (x := .bool _) rfl ?_
        exact ⟨(jv, jl, q), by rw [hr0]; rfl, by rw [hr0]; rfl⟩
      · skip
        rw [hb] at hsp hr0
        refine AOps.callA rfl (Part.perm (.r (.r (.l (.l (.rest _)))))) (hsp) ?_
        rintro r67 O67 ⟨q, rfl, rfl⟩
        refine GStep.ops (GStep.perm (Pick.perm (.tail .head))) ?_
        refine GStep.ops (GStep.perm (Pick.perm (.tail .head))) ?_
        refine GStep.ops (GStep.perm (Pick.perm (.tail (.tail (.tail .head))))) ?_
        refine GStep.ops (GStep.perm (Pick.perm (.tail (.tail (.tail .head))))) ?_
        refine AOps.val (Gv.assign (v := .bool _) rfl) ?_
        refine AOps.nil ?_
        refine AWP.ret ?_
        repeat (first | refine aseqQ_ret ?_ | refine ablockQ_ret ?_)
        refine afin.t1 (x := .bool _) rfl ?_
        exact ⟨(jv, jl, q), by rw [hr0]; rfl, by rw [hr0]; rfl⟩
theorem pnew0_fin {p jv i j : Nat} {params vars : List PVar} {nm : ByteArray} :
    ([(p, .cells 56 [.fro 2 (params.map encVar), .own jv vars.length, .own i 1]), (jv, .grow 2 38 (vars.map encVar).flatten),
      (i, .grow 6 106 ([] ++ rowB (.own j 0) (newHead nm))), (j, .grow 1 145 [])] : OL) = progO p (jv, i, j) ⟨params, vars, [], some (newHead nm, [])⟩ := by
  simp [progO, curRow, curItems, curN]
theorem pvar_fin {p jl ji i : Nat} {params vars vs : List PVar} :
    ([(p, .cells 56 [.fro 2 (params.map encVar), .own i (vars.length + (vs.map encVar).length), .own jl 0]), (i, .grow 2 38 ((vars.map encVar).flatten ++ (vs.map encVar).flatten)),
      (jl, .grow 6 106 []), (ji, .grow 1 145 [])] : OL) = progO p (i, jl, ji) ⟨params, vars ++ vs, [], none⟩ := by
  simp [progO, curRow, curItems, curN]
theorem pvar0_fin {p jl ji i : Nat} {params vars vs : List PVar} (h : vs = []) :
    ([(p, .cells 56 [.fro 2 (params.map encVar), .own i (vars.length + (vs.map encVar).length), .own jl 0]), (i, .grow 2 38 ((vars.map encVar).flatten ++ (vs.map encVar).flatten)),
      (jl, .grow 6 106 []), (ji, .grow 1 145 [])] : OL) = progO p (i, jl, ji) ⟨params, vars, [], none⟩ := by
  subst h; simp [progO, curRow, curItems, curN]
theorem allVar (l : List PVar) : ((l.map encVar).flatten).all AV.cell = true := by induction l <;> simp_all [encVar, AV.cell]
theorem pline0_spec {p jv jl ji : Nat} (S : PProg) (hS : S.cur = none) (hd : S.done = []) (w : List ByteArray) (hv : S.vars.length ≤ 1000000000) (hw : 0 < w.length) (hl : w.length ≤ 100000) (hs : ∀ x ∈ w, x.size ≤ 100000) (hL : Letters E) (hV : Vars0 E) :
    ACall Tryz.prog E 49 [.po p 0, .fro 1 (w.map encS)] (progO p (jv, jl, ji) S)
      (fun x O' => ∃ q : Nat × Nat × Nat, x = .bool (lineP0 S w).isSome ∧ O' = progO p q ((lineP0 S w).getD S)) := by
  obtain ⟨params, vars, done, cur⟩ := S
  dsimp only at hS hd hv
  subst hS hd
  have hsz : ∀ k, (atW w k).size ≤ 100000 := fun k => by
    unfold atW
    cases h : w[k]? with
    | none => exact Nat.zero_le _
    | some x => exact hs x (List.mem_of_getElem? h)
  refine ACall.intro Tryz.func49 rfl (by decide) rfl ?_
  refine AWP.seq ?_
  refine AWP.region rfl ?_
  refine AOps.val (Gv.assign (v := .bool _) rfl) ?_
  refine AOps.nil ?_
  refine AWP.seq ?_
  refine AWP.region rfl ?_
  refine AOps.val (Gv.move (v := .po _ _) rfl) ?_
  refine AOps.val (Gv.nilCheckO rfl) ?_
  refine AOps.val (Gv.fieldO Tryz.underlying56 rfl Tryz.sizeOf54 (by decide) rfl rfl) ?_
  refine AOps.val (Gv.load1C (c := .own _ _) Tryz.isAgg54 rfl ⟨_, .head⟩ rfl) ?_
  refine AOps.val (Gv.lenO Tryz.underlying54 rfl) ?_
  refine AOps.val (Gv.assign (v := .int _ _) rfl) ?_
  refine AOps.nil ?_
  refine AWP.seq ?_
  refine AWP.block ?_
  refine AWP.seq ?_
  refine AWP.cutS (γ := Unit) [0, 1, 5] (fun u => [(13, .bool (isBlockLine w))]) (fun u => progO p (jv, jl, ji) ⟨params, vars, [], none⟩) (fun u => True) ?_ (fun _ _ h => h) ?_
  · skip
    refine AWP.region rfl ?_
    refine AOps.val (Gv.move (v := .fro _ _) rfl) ?_
    refine AOps.val (Gv.idxM (j := 0) Tryz.underlying62 Tryz.sizeOf9 rfl rfl rfl (atW_get (by omega))) ?_
    refine AOps.val (Gv.load1F (c := .str _) Tryz.isAgg9 rfl) ?_
    refine AOps.val (Gv.eqlT rfl rfl) ?_
    refine AOps.val (Gv.move (v := .bool _) rfl) ?_
    refine AOps.case (s := 18) rfl (fun c3 => ?_) (fun c3 => ?_)
    · skip
      refine AOps.guardT rfl rfl c3 ?_
      refine AOps.val (Gv.move (v := .fro _ _) rfl) ?_
      refine AOps.guardT rfl rfl c3 ?_
      refine AOps.val (Gv.lenM Tryz.underlying62 rfl) ?_
      refine AOps.guardT rfl rfl c3 ?_
      refine AOps.val (Gv.eqlI rfl rfl) ?_
      refine AOps.val (Gv.pickT (v := .bool _) rfl c3 rfl) ?_
      refine AOps.val (Gv.move (v := .bool _) rfl) ?_
      refine AOps.case (s := 23) rfl (fun c4 => ?_) (fun c4 => ?_)
      · skip
        refine AOps.guardT rfl rfl c4 ?_
        refine AOps.val (Gv.move (v := .fro _ _) rfl) ?_
        refine AOps.guardT rfl rfl c4 ?_
        refine AOps.val (Gv.idxM (j := 1) Tryz.underlying62 Tryz.sizeOf9 rfl rfl rfl (atW_get (by simp_all <;> omega))) ?_
        refine AOps.guardT rfl rfl c4 ?_
        refine AOps.val (Gv.load1F (c := .str _) Tryz.isAgg9 rfl) ?_
        refine AOps.guardT rfl rfl c4 ?_
        refine AOps.callP (zname_spec _ (by have := hsz 1; omega) hL) rfl ?_
        refine AOps.val (Gv.pickT (v := .bool _) rfl c4 rfl) ?_
        refine AOps.val (Gv.assign (v := .bool _) rfl) ?_
        refine AOps.nil ?_
        exact ⟨(), ⟨rfl, rfl, rfl, trivial⟩, ⟨block_cond (by unfold isBlockLine; simp_all [blockS] <;> omega), trivial⟩, ⟨_, (.refl _), rfl⟩, trivial⟩
      · skip
        refine AOps.guardFd rfl rfl c4 ?_
        refine AOps.guardFd rfl rfl c4 ?_
        refine AOps.guardFd rfl rfl c4 ?_
        refine AOps.guardFd rfl rfl c4 ?_
        refine AOps.val (Gv.pickF (v := .bool _) rfl c4 rfl) ?_
        refine AOps.val (Gv.assign (v := .bool _) rfl) ?_
        refine AOps.nil ?_
        exact ⟨(), ⟨rfl, rfl, rfl, trivial⟩, ⟨block_cond (by unfold isBlockLine; simp_all [blockS] <;> omega), trivial⟩, ⟨_, (.refl _), rfl⟩, trivial⟩
    · skip
      refine AOps.guardFd rfl rfl c3 ?_
      refine AOps.guardFd rfl rfl c3 ?_
      refine AOps.guardFd rfl rfl c3 ?_
      refine AOps.val (Gv.pickF (v := .bool _) rfl c3 rfl) ?_
      refine AOps.val (Gv.move (v := .bool _) rfl) ?_
      refine AOps.guardFd rfl rfl rfl ?_
      refine AOps.guardFd rfl rfl rfl ?_
      refine AOps.guardFd rfl rfl rfl ?_
      refine AOps.guardFd rfl rfl rfl ?_
      refine AOps.val (Gv.pickF (v := .bool _) rfl rfl rfl) ?_
      refine AOps.val (Gv.assign (v := .bool _) rfl) ?_
      refine AOps.nil ?_
      exact ⟨(), ⟨rfl, rfl, rfl, trivial⟩, ⟨block_cond (by unfold isBlockLine; simp_all [blockS] <;> omega), trivial⟩, ⟨_, (.refl _), rfl⟩, trivial⟩
  · skip
    rintro _ _
    refine AWP.cond rfl (fun c1 => ?_) (fun c1 => ?_)
    · skip
      have hwl : w.length = 2 := by unfold isBlockLine at c1; simp at c1; omega
      have hr : lineP0 ⟨params, vars, [], none⟩ w = some ⟨params, vars, [], some (newHead (atW w 1), [])⟩ := by unfold lineP0; rw [if_pos c1]
      refine AWP.seq ?_
      refine AWP.seq ?_
      refine AWP.region rfl ?_
      refine AOps.val (Gv.move (v := .int _ _) rfl) ?_
      refine AOps.val (Gv.gtr rfl rfl) ?_
      refine AOps.val (Gv.move (v := .bool _) rfl) ?_
      refine AOps.guardFd rfl rfl rfl ?_
      refine AOps.guardFd rfl rfl rfl ?_
      refine AOps.guardFd rfl rfl rfl ?_
      refine AOps.guardFd rfl rfl rfl ?_
      refine AOps.guardFd rfl rfl rfl ?_
      refine AOps.guardFd rfl rfl rfl ?_
      refine AOps.guardFd rfl rfl rfl ?_
      refine AOps.guardFd rfl rfl rfl ?_
      refine AOps.guardFd rfl rfl rfl ?_
      refine AOps.guardFd rfl rfl rfl ?_
      refine AOps.val (Gv.pickF (v := .bool _) rfl rfl rfl) ?_
      refine AOps.nil ?_
      refine AWP.condF rfl rfl ?_
      refine AWP.skip ?_
      refine AWP.seq ?_
      refine AWP.regionDraw (fun j => Nat.beq j 13) (by kernel_rfl) rfl (Part.perm (.r (.rest _))) ?_
      refine AAny.take (i := 0) rfl (by kernel_rfl) (by kernel_rfl) (by kernel_rfl) (by kernel_rfl) (by kernel_rfl) (by kernel_rfl) (Gv.move (v := .po _ _) rfl) ?_
      refine AAny.take (i := 1) rfl (by kernel_rfl) (by kernel_rfl) (by kernel_rfl) (by kernel_rfl) (by kernel_rfl) (by kernel_rfl) (Gv.move (v := .po _ _) rfl) ?_
      refine AAny.take (i := 2) rfl (by kernel_rfl) (by kernel_rfl) (by kernel_rfl) (by kernel_rfl) (by kernel_rfl) (by kernel_rfl) (Gv.nilCheckO rfl) ?_
      refine AAny.take (i := 3) rfl (by kernel_rfl) (by kernel_rfl) (by kernel_rfl) (by kernel_rfl) (by kernel_rfl) (by kernel_rfl) (Gv.fieldO Tryz.underlying56 rfl Tryz.sizeOf54 (by decide) rfl rfl) ?_
      refine AAny.take (i := 4) rfl (by kernel_rfl) (by kernel_rfl) (by kernel_rfl) (by kernel_rfl) (by kernel_rfl) (by kernel_rfl) (Gv.load1C (c := .own _ _) Tryz.isAgg54 rfl ⟨_, .head⟩ rfl) ?_
      refine AAny.take (i := 5) rfl (by kernel_rfl) (by kernel_rfl) (by kernel_rfl) (by kernel_rfl) (by kernel_rfl) (by kernel_rfl) (Gv.move (v := .fro _ _) rfl) ?_
      refine AAny.take (i := 6) rfl (by kernel_rfl) (by kernel_rfl) (by kernel_rfl) (by kernel_rfl) (by kernel_rfl) (by kernel_rfl) (Gv.idxM (j := 1) Tryz.underlying62 Tryz.sizeOf9 rfl rfl rfl (atW_get (by omega))) ?_
      refine AAny.take (i := 7) rfl (by kernel_rfl) (by kernel_rfl) (by kernel_rfl) (by kernel_rfl) (by kernel_rfl) (by kernel_rfl) (Gv.load1F (c := .str _) Tryz.isAgg9 rfl) ?_
      refine AAny.take (i := 8) rfl (by kernel_rfl) (by kernel_rfl) (by kernel_rfl) (by kernel_rfl) (by kernel_rfl) (by kernel_rfl) (Gv.build (cps := [(0, [_])]) (rs := [_, .raw (.slice none 0 0), .int .i64 0, .str ⟨#[]⟩, .raw (.slice none 0 0), .bool false]) pl106 rfl rfl rfl) ?_
      refine AAny.one (i := 9) rfl (by kernel_rfl) ?_
      refine AOps.buildSliceFF (rows := [[_, _, _, _, _, _]]) ps54_1 rfl rfl rfl rfl rfl ?_
      refine AOps.nil ?_
      refine AAny.one (i := 10) rfl (by kernel_rfl) ?_
      refine AOps.appendS (k := 6) Tryz.underlying54 Tryz.type106 rfl rfl rfl rfl rfl (fun _ => (.tail .head)) rfl (by decide) rfl (by show (0 + 1) * 96 ≤ 140737488355328; omega) (by show 0 + 1 ≤ 140737488355328; omega) ?_
      intro i53
      refine AOps.nil ?_
      refine AAny.takeK (i := 11) rfl (by kernel_rfl) (by kernel_rfl) (by kernel_rfl) (by kernel_rfl) (Gv.nilCheckO rfl) ?_
      refine AAny.take (i := 12) rfl (by kernel_rfl) (by kernel_rfl) (by kernel_rfl) (by kernel_rfl) (by kernel_rfl) (by kernel_rfl) (Gv.fieldO Tryz.underlying56 rfl Tryz.sizeOf54 (by decide) rfl rfl) ?_
      refine AAny.writes ?_
      refine AAnyW.one (i := 13) rfl (by kernel_rfl) (by kernel_rfl) ?_
      refine AOps.storeC (l := [_]) (new := [_, _, _]) Tryz.sizeOf54 rfl rfl rfl rfl rfl rfl .head rfl rfl ?_
      refine AOps.nil ?_
      refine AAnyW.done (by kernel_rfl) ?_
      refine GStep.wp (GStep.impL (off := 4) (.tail (.tail .head)) rfl (nil_fro 1)) ?_
      refine adoptL_wp (off := 1) (k := 1) (T := 145) (fun _ => (.tail (.tail .head))) rfl ?_
      intro j2
      refine GStep.wp (GStep.drop (.tail (.tail (.tail (.tail .head))))) ?_
      refine GStep.wp (GStep.perm (Pick.perm (.tail (.tail (.tail .head))))) ?_
      refine GStep.wp (GStep.perm (Pick.perm (.tail (.tail (.tail .head))))) ?_
      refine GStep.wp (GStep.perm (Pick.perm (.tail (.tail (.tail .head))))) ?_
      refine AWP.seq ?_
      refine AWP.region rfl ?_
      refine AOps.val (Gv.assign (v := .bool _) rfl) ?_
      refine AOps.nil ?_
      refine AWP.ret ?_
      repeat (first | refine aseqQ_ret ?_ | refine ablockQ_ret ?_)
      refine afin.t1 (x := .bool _) rfl ?_
      exact ⟨(jv, i53, j2), by rw [hr]; rfl, by rw [hr]; exact pnew0_fin⟩
    · skip
      refine AWP.seq ?_
      refine AWP.region rfl ?_
      refine AOps.val (Gv.move (v := .int _ _) rfl) ?_
      refine AOps.val (Gv.gtr rfl rfl) ?_
      refine AOps.val (Gv.assign (v := .bool _) rfl) ?_
      refine AOps.nil ?_
      refine AWP.condF rfl rfl ?_
      refine AWP.seq ?_
      refine AWP.cutS (γ := Unit) [0, 1] (fun u => [(68, .bool (isVarLine w))]) (fun u => progO p (jv, jl, ji) ⟨params, vars, [], none⟩) (fun u => True) ?_ (fun _ _ h => h) ?_
      · skip
        refine AWP.region rfl ?_
        refine AOps.val (Gv.move (v := .fro _ _) rfl) ?_
        refine AOps.val (Gv.idxM (j := 0) Tryz.underlying62 Tryz.sizeOf9 rfl rfl rfl (atW_get (by omega))) ?_
        refine AOps.val (Gv.load1F (c := .str _) Tryz.isAgg9 rfl) ?_
        refine AOps.val (Gv.eqlT rfl rfl) ?_
        refine AOps.val (Gv.move (v := .bool _) rfl) ?_
        refine AOps.case (s := 73) rfl (fun c5 => ?_) (fun c5 => ?_)
        · skip
          refine AOps.guardT rfl rfl c5 ?_
          refine AOps.val (Gv.move (v := .fro _ _) rfl) ?_
          refine AOps.guardT rfl rfl c5 ?_
          refine AOps.val (Gv.lenM Tryz.underlying62 rfl) ?_
          refine AOps.guardT rfl rfl c5 ?_
          refine AOps.val (Gv.gtr rfl rfl) ?_
          refine AOps.val (Gv.pickT (v := .bool _) rfl c5 rfl) ?_
          refine AOps.val (Gv.assign (v := .bool _) rfl) ?_
          refine AOps.nil ?_
          exact ⟨(), ⟨rfl, rfl, trivial⟩, ⟨jb (by unfold isVarLine; simp_all [varS] <;> omega), trivial⟩, ⟨_, (.refl _), rfl⟩, trivial⟩
        · skip
          refine AOps.guardFd rfl rfl c5 ?_
          refine AOps.guardFd rfl rfl c5 ?_
          refine AOps.guardFd rfl rfl c5 ?_
          refine AOps.val (Gv.pickF (v := .bool _) rfl c5 rfl) ?_
          refine AOps.val (Gv.assign (v := .bool _) rfl) ?_
          refine AOps.nil ?_
          exact ⟨(), ⟨rfl, rfl, trivial⟩, ⟨jb (by unfold isVarLine; simp_all [varS] <;> omega), trivial⟩, ⟨_, (.refl _), rfl⟩, trivial⟩
      · skip
        rintro _ _
        refine AWP.cond rfl (fun c2 => ?_) (fun c2 => ?_)
        · skip
          have hwl : 1 < w.length := by unfold isVarLine at c2; simp at c2; omega
          have hvl : (varsOf (w.drop 1)).length ≤ 100000 := by unfold varsOf; split <;> simp <;> omega
          refine AWP.seq ?_
          refine AWP.region rfl ?_
          refine AOps.val (Gv.move (v := .fro _ _) rfl) ?_
          refine AOps.val (Gv.cutLoM (j := 1) Tryz.underlying62 Tryz.sizeOf9 rfl rfl rfl (by omega)) ?_
          refine AOps.callP (zvars_spec (w.drop 1) (by simp; omega) (fun x hx => hs x (List.mem_of_mem_drop hx)) hL hV) rfl ?_
          refine AOps.val (Gv.move (v := .tup _) rfl) ?_
          refine AOps.val (Gv.extract (v := .fro _ _) rfl rfl) ?_
          refine AOps.val (Gv.extract (v := .bool _) rfl rfl) ?_
          refine AOps.val (Gv.assign (v := .fro _ _) rfl) ?_
          refine AOps.val (Gv.assign (v := .bool _) rfl) ?_
          refine AOps.nil ?_
          refine AWP.seq ?_
          refine AWP.region rfl ?_
          refine AOps.val (Gv.move (v := .po _ _) rfl) ?_
          refine AOps.val (Gv.move (v := .po _ _) rfl) ?_
          refine AOps.val (Gv.nilCheckO rfl) ?_
          refine AOps.val (Gv.fieldO Tryz.underlying56 rfl Tryz.sizeOf23 (by decide) rfl rfl) ?_
          refine AOps.val (Gv.load1C (c := .own _ _) Tryz.isAgg23 rfl ⟨_, .head⟩ rfl) ?_
          refine AOps.val (Gv.move (v := .fro _ _) rfl) ?_
          refine AOps.appendS (k := 2) Tryz.underlying23 Tryz.type38 rfl rfl rfl rfl rfl (fun _ => (.tail .head)) (by rw [grow_len (k := 2) (fun _ => rfl)]) (by decide) (allVar _) (by show (vars.length + ((varsOf (w.drop 1)).map encVar).length) * 24 ≤ 140737488355328; rw [List.length_map]; omega) (by show vars.length + ((varsOf (w.drop 1)).map encVar).length ≤ 140737488355328; rw [List.length_map]; omega) ?_
          intro i90
          refine AOps.val (Gv.nilCheckO rfl) ?_
          refine AOps.val (Gv.fieldO Tryz.underlying56 rfl Tryz.sizeOf23 (by decide) rfl rfl) ?_
          refine AOps.storeC (l := [_]) (new := [_, _, _]) Tryz.sizeOf23 rfl rfl rfl rfl rfl rfl .head rfl rfl ?_
          refine AOps.nil ?_
          refine AWP.seq ?_
          refine AWP.region rfl ?_
          refine AOps.val (Gv.move (v := .bool _) rfl) ?_
          refine AOps.val (Gv.assign (v := .bool _) rfl) ?_
          refine AOps.nil ?_
          refine AWP.ret ?_
          rcases hv2 : varsOk (w.drop 1)
          · skip
            have hr : lineP0 ⟨params, vars, [], none⟩ w = none := by unfold lineP0; rw [if_neg (by rw [c1]; simp), if_neg (by rw [hv2]; simp)]
            have hvs : varsOf (w.drop 1) = [] := by unfold varsOf; rw [hv2]; rfl
            repeat (first | refine aseqQ_ret ?_ | refine ablockQ_ret ?_)
            refine afin.t1 (x := .bool _) rfl ?_
            exact ⟨(i90, jl, ji), by rw [hr]; rfl, by rw [hr]; exact pvar0_fin hvs⟩
          · skip
            have hr : lineP0 ⟨params, vars, [], none⟩ w = some ⟨params, vars ++ varsOf (w.drop 1), [], none⟩ := by unfold lineP0; rw [if_neg (by rw [c1]; simp), if_pos ⟨c2, hv2⟩]
            repeat (first | refine aseqQ_ret ?_ | refine ablockQ_ret ?_)
            refine afin.t1 (x := .bool _) rfl ?_
            exact ⟨(i90, jl, ji), by rw [hr]; rfl, by rw [hr]; exact pvar_fin⟩
        · skip
          have hr : lineP0 ⟨params, vars, [], none⟩ w = none := by unfold lineP0; rw [if_neg (by rw [c1]; simp), if_neg (by rw [c2]; simp)]
          refine AWP.skip ?_
          refine AWP.seq ?_
          refine AWP.region rfl ?_
          refine AOps.val (Gv.assign (v := .bool _) rfl) ?_
          refine AOps.nil ?_
          refine AWP.ret ?_
          repeat (first | refine aseqQ_ret ?_ | refine ablockQ_ret ?_)
          refine afin.t1 (x := .bool _) rfl ?_
          exact ⟨(jv, jl, ji), by rw [hr]; rfl, by rw [hr]; rfl⟩
theorem pline_spec {p : Nat} {q : Nat × Nat × Nat} (S : PProg) (hinv : S.cur = none → S.done = []) (w : List ByteArray) (hd : S.done.length ≤ 100000) (hit : ∀ b, S.cur = some b → b.2.length ≤ 100000) (hv : S.vars.length ≤ 1000000000) (hw : 0 < w.length) (hl : w.length ≤ 100000) (hs : ∀ x ∈ w, x.size ≤ 100000) (hL : Letters E) (hT : Pows E) (hV : Vars0 E) :
    ACall Tryz.prog E 49 [.po p 0, .fro 1 (w.map encS)] (progO p q S)
      (fun x O' => ∃ q' : Nat × Nat × Nat, x = .bool (lineP S w).isSome ∧ O' = progO p q' ((lineP S w).getD S)) := by
  unfold lineP
  cases hc : S.cur with
  | none => exact pline0_spec S hc (hinv hc) w hv hw hl hs hL hV
  | some b => exact pline1_spec S b.1 b.2 hc w hd (hit b hc) hw hl hs hL hT hV
end Go.Proofs.YtdkhlgiohpdihaaGreatDoor
