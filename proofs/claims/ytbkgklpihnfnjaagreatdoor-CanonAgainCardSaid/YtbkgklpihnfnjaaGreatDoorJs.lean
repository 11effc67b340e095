/- The table of powers of ten, out of what a call is handed. No conditions. -/
import Derived.Test.YtbkgklpihnfnjaaGreatDoorJr
import Derived.Shelf.Strings.Builder1
import Derived.Test.YtbkgklpihnfnjaaGreatDoorJi
import Derived.Test.YtbkgklpihnfnjaaGreatDoorJd
import Derived.Test.YtbkgklpihnfnjaaGreatDoorJn
import Derived.Test.YtbkgklpihnfnjaaGreatDoorJh
import Derived.Test.YtbkgklpihnfnjaaGreatDoorJc
import Derived.Test.YtbkgklpihnfnjaaGreatDoorJj
import Derived.Lib.LaidRTab
import Derived.Test.YtbkgklpihnfnjaaGreatDoorJf
set_option linter.unusedVariables false
set_option linter.unusedSimpArgs false
set_option linter.unusedSectionVars false
namespace Go.Proofs.YtbkgklpihnfnjaaGreatDoor
open Go.Proofs.Tryz
open Go.Proofs Go.Lib Go.Shelf Go.RowKit
set_option maxRecDepth 20000
def Unlike (ns : List ByteArray) : Prop := ∀ i (h : i < ns.length), ns[i] ∉ ns.take i
def mapFrom : List ByteArray → Nat → NMap
 | [], _ => []
 | n :: ns, k => (n, (k : Int)) :: mapFrom ns (k + 1)
theorem mapFrom_len : ∀ (ns : List ByteArray) (k : Nat), (mapFrom ns k).length = ns.length
 | [], _ => rfl
 | _ :: ns, k => by rw [mapFrom, List.length_cons, List.length_cons, mapFrom_len ns]
theorem mapFrom_app : ∀ (ns ms : List ByteArray) (k : Nat), mapFrom (ns ++ ms) k = mapFrom ns k ++ mapFrom ms (k + ns.length)
 | [], _, _ => rfl
 | n :: ns, ms, k => by rw [List.cons_append, mapFrom, mapFrom_app ns ms, mapFrom, List.cons_append, List.length_cons]; congr 3; omega
theorem mget_no {s : ByteArray} : ∀ {ns : List ByteArray} {k : Nat}, s ∉ ns → mget s (mapFrom ns k) = none
 | [], _, _ => rfl
 | n :: ns, k, h => by
  rw [mapFrom, mget, if_neg (fun e => h (by rw [e]; exact .head _))]
  exact mget_no fun hm => h (.tail _ hm)
theorem mset_new {s : ByteArray} {v : Int} : ∀ {es : NMap}, mget s es = none → mset s v es = es ++ [(s, v)]
 | [], _ => rfl
 | (k, u) :: es, h => by
  rw [mget] at h
  split at h
  ·cases h
  ·rename_i hk
   rw [mset, if_neg hk, mset_new h]; rfl
theorem Unlike.cons {n : ByteArray} {ns : List ByteArray} (h : Unlike (n :: ns)) : n ∉ ns ∧ Unlike ns := by
 constructor
 ·intro hm
  obtain ⟨i, hi, e⟩ := List.getElem_of_mem hm
  have := h (i + 1) (by simp; omega)
  exact this (by rw [List.getElem_cons_succ, e, List.take_succ_cons]; exact .head _)
 ·intro i hi hm
  have := h (i + 1) (by simp; omega)
  exact this (by rw [List.getElem_cons_succ, List.take_succ_cons]; exact .tail _ hm)
theorem mget_at {s : ByteArray} : ∀ {ns : List ByteArray} {k i : Nat}, Unlike ns → ns[i]? = some s → mget s (mapFrom ns k) = some (((k + i : Nat) : Int))
 | [], _, _, _, h => by simp at h
 | n :: ns, k, 0, _, h => by
  simp at h; subst h
  rw [mapFrom, mget, if_pos rfl]; rfl
 | n :: ns, k, i + 1, hu, h => by
  obtain ⟨h1, h2⟩ := hu.cons
  have h : ns[i]? = some s := by simpa using h
  have hne : ¬ s = n := fun e => h1 (by rw [← e]; exact qm h)
  rw [mapFrom, mget, if_neg hne, mget_at h2 h]
  congr 2; omega
theorem putAllQ_un {l0 : Bool} {ns : List ByteArray} (h : Unlike ns) : ∀ k, k ≤ ns.length → putAllQ ([], l0) (ns.take k) = (mapFrom (ns.take k) 0, l0)
 | 0, _ => rfl
 | k + 1, hk => by
  have hk2 : k < ns.length := by omega
  have hno : mget ns[k] (mapFrom (ns.take k) 0) = none := mget_no (h k hk2)
  rw [putAllQ_step hk2, putAllQ_un h k (by omega)]
  unfold putSQ hasM
  dsimp only
  rw [hno, mset_new hno, qe hk2, mapFrom_app, mapFrom_len, qp, Nat.min_eq_left (by omega), Nat.zero_add]
  simp [mapFrom]
theorem putAllQ_all {l0 : Bool} {ns : List ByteArray} (h : Unlike ns) : putAllQ ([], l0) ns = (mapFrom ns 0, l0) := by
 have := putAllQ_un (l0 := l0) h ns.length (Nat.le_refl _)
 rwa [qi] at this
theorem shaped_ok {f : PFunc} (h : ShapedP f) : FOk f ∧ Unlike (f.vars.map PVar.name) ∧ Unlike (f.blocks.map PBlock.name) ∧ f.blocks ≠ [] := by
 obtain ⟨h1, h2, h3, h4, h5, h6⟩ := h
 refine ⟨⟨fun v hv => ?_, fun b hb => ?_⟩, fun i hi hm => ?_, fun i hi hm => ?_, fun e=>?_⟩
 ·obtain ⟨i, hi, rfl⟩ := List.getElem_of_mem hv
  obtain ⟨g1, g2, g3, _⟩ := h3 i hi
  exact ⟨by rw [← name_eq]; exact g1, g2, g3⟩
 ·obtain ⟨i, hi, rfl⟩ := List.getElem_of_mem hb
  exact ⟨by rw [← name_eq]; exact (h4 i hi).1, h6 _ hb⟩
 ·have hi2 : i < f.vars.length := by simpa using hi
  rw [List.getElem_map, ← List.map_take] at hm
  exact (h3 i hi2).2.2.2 _ hm rfl
 ·have hi2 : i < f.blocks.length := by simpa using hi
  rw [List.getElem_map, ← List.map_take] at hm
  exact (h4 i hi2).2 _ hm rfl
 ·unfold bad1 at h1; rw [e] at h1; simp at h1
theorem var_at {f : PFunc} (hu : Unlike (f.vars.map PVar.name)) {v : Int} (h : hasV f v = true) : mget (vname f v) (mapFrom (f.vars.map PVar.name) 0) = some v := by
 obtain ⟨h1, h2, h3, h4⟩ := has_get h
 have := mget_at (s := vname f v) (k := 0) (i := v.toNat) hu (by rw [ql, h2, h4]; rfl)
 rw [this]; congr 1; omega
theorem blk_at {f : PFunc} (hu : Unlike (f.blocks.map PBlock.name)) {v : Int} (h : hasB f v = true) : mget (bname f v) (mapFrom (f.blocks.map PBlock.name) 0) = some v := by
 obtain ⟨h1, h2, h3, h4⟩ := hasB_get h
 have := mget_at (s := bname f v) (k := 0) (i := v.toNat) hu (by rw [ql, h2, h4]; rfl)
 rw [this]; congr 1; omega
section
variable {f : PFunc} (hf : FOk f) (hu : Unlike (f.vars.map PVar.name)) (hb : Unlike (f.blocks.map PBlock.name))
theorem getV {v : Int} (hu : Unlike (f.vars.map PVar.name)) (h : hasV f v = true) : getI (mapFrom (f.vars.map PVar.name) 0) (vname f v) = v ∧ hasM (mapFrom (f.vars.map PVar.name) 0) (vname f v) = true := by
 unfold getI hasM; rw [var_at hu h]; exact ⟨rfl, rfl⟩
theorem getB {v : Int} (hb : Unlike (f.blocks.map PBlock.name)) (h : hasB f v = true) : getI (mapFrom (f.blocks.map PBlock.name) 0) (bname f v) = v ∧ hasM (mapFrom (f.blocks.map PBlock.name) 0) (bname f v) = true := by
 unfold getI hasM; rw [blk_at hb h]; exact ⟨rfl, rfl⟩
theorem map_back {g : Int → ByteArray} {k : ByteArray → Int} : ∀ {l : List Int}, (∀ a ∈ l, k (g a) = a) → (l.map g).map k = l
 | [], _ => rfl
 | a :: l, h => by rw [List.map_cons, List.map_cons, h a (.head _), map_back fun x hx => h x (.tail _ hx)]
theorem any_back {g : Int → ByteArray} {k : ByteArray → Bool} {l : List Int} (h : ∀ a ∈ l, k (g a) = true) : (l.map g).any (fun s => !k s) = false := by
 rw [List.any_map]
 exact List.any_eq_false.2 fun a ha => by simp [h a ha]
theorem phi_back (hf : FOk f) (hu : Unlike (f.vars.map PVar.name)) (hb : Unlike (f.blocks.map PBlock.name)) {p : PPhi} (hp : PhiP f p) :
  phiOf (mapFrom (f.vars.map PVar.name) 0) (mapFrom (f.blocks.map PBlock.name) 0) (toPhi f p) = some p ∧ lostI (mapFrom (f.vars.map PVar.name) 0) (mapFrom (f.blocks.map PBlock.name) 0) (toPhi f p) = false := by
 obtain ⟨h1, _, _, h4, h5⟩ := hp
 have h4 := List.all_eq_true.1 h4
 have h5 := List.all_eq_true.1 h5
 have hne := name_ne (vname_ok hf h1)
 constructor
 ·unfold toPhi phiOf dstI
  dsimp only
  rw [if_neg hne, (getV hu h1).1, map_back fun a ha => (getV hu (h4 a ha)).1, map_back fun a ha => (getB hb (h5 a ha)).1]
 ·unfold toPhi lostI dstL
  dsimp only
  rw [(getV hu h1).2, any_back fun a ha => (getV hu (h4 a ha)).2, any_back fun a ha => (getB hb (h5 a ha)).2]; simp
theorem inst_back (hf : FOk f) (hu : Unlike (f.vars.map PVar.name)) {bm : NMap} {x : PInst} (hx : InstF f x) :
  instOfQ (mapFrom (f.vars.map PVar.name) 0) (toInst f x) = some x ∧ lostI (mapFrom (f.vars.map PVar.name) 0) bm (toInst f x) = false := by
 have hd : dstI (mapFrom (f.vars.map PVar.name) 0) (if x.dst = -1 then ⟨#[]⟩ else vname f x.dst) = x.dst ∧ dstL (mapFrom (f.vars.map PVar.name) 0) (if x.dst = -1 then ⟨#[]⟩ else vname f x.dst) = false := by
  rcases hx.dst with ⟨_, d2⟩ | ⟨_, d2, d3⟩
  ·rw [if_pos d2]; unfold dstI dstL; rw [if_pos rfl, d2]; exact ⟨rfl, rfl⟩
  ·rw [if_neg d2]; unfold dstI dstL
   rw [if_neg (name_ne (vname_ok hf d3)), (getV hu d3).1, (getV hu d3).2]; exact ⟨rfl, by simp⟩
 constructor
 ·unfold toInst instOfQ
  dsimp only
  rw [hd.1, map_back fun a ha => (getV hu (hx.args a ha)).1]
 ·unfold toInst lostI
  dsimp only
  rw [hd.2, any_back fun a ha => (getV hu (hx.args a ha)).2]; rfl
theorem fm_some {α β γ : Type} {g : α → β} {k : β → Option γ} {j : α → γ} : ∀ {l : List α}, (∀ a ∈ l, k (g a) = some (j a)) → (l.map g).filterMap k = l.map j
 | [], _ => rfl
 | a :: l, h => by rw [List.map_cons, List.filterMap_cons, h a (.head _)]; dsimp only; rw [fm_some fun x hx => h x (.tail _ hx)]; rfl
theorem fm_none {α β γ : Type} {g : α → β} {k : β → Option γ} : ∀ {l : List α}, (∀ a ∈ l, k (g a) = none) → (l.map g).filterMap k = []
 | [], _ => rfl
 | a :: l, h => by rw [List.map_cons, List.filterMap_cons, h a (.head _)]; dsimp only; exact fm_none fun x hx => h x (.tail _ hx)
theorem blk_back (hf : FOk f) (hu : Unlike (f.vars.map PVar.name)) (hb : Unlike (f.blocks.map PBlock.name)) {b : PBlock} (hp : BlkP f b) :
  blockOf (mapFrom (f.vars.map PVar.name) 0) (mapFrom (f.blocks.map PBlock.name) 0) (toB f b) = b ∧ lostBlk (mapFrom (f.vars.map PVar.name) 0) (mapFrom (f.blocks.map PBlock.name) 0) (toB f b) = false := by
 obtain ⟨h1, h2, h3⟩ := hp
 have e1 : (toB f b).2.filterMap (phiOf (mapFrom (f.vars.map PVar.name) 0) (mapFrom (f.blocks.map PBlock.name) 0)) = b.phis := by
  show (b.phis.map (toPhi f) ++ b.insts.map (toInst f)).filterMap _ = _
  rw [List.filterMap_append, fm_some (j := id) fun p hp => (phi_back hf hu hb (h1 p hp)).1, fm_none fun x _ => rfl]; simp
 have e2 : (toB f b).2.filterMap (instOfQ (mapFrom (f.vars.map PVar.name) 0)) = b.insts := by
  show (b.phis.map (toPhi f) ++ b.insts.map (toInst f)).filterMap _ = _
  rw [List.filterMap_append, fm_none fun x _ => rfl, fm_some (j := id) fun x hx => (inst_back (bm := []) hf hu (instP_F (h2 x hx))).1]; simp
 have e3 : (toB f b).2.any (lostI (mapFrom (f.vars.map PVar.name) 0) (mapFrom (f.blocks.map PBlock.name) 0)) = false := by
  show (b.phis.map (toPhi f) ++ b.insts.map (toInst f)).any _ = _
  rw [List.any_append, List.any_map, List.any_map]
  rw [List.any_eq_false.2 fun p hp => by simp [(phi_back hf hu hb (h1 p hp)).2], List.any_eq_false.2 fun x hx => by simp [(inst_back hf hu (instP_F (h2 x hx))).2]]; rfl
 have e4 : (toHead f b).name = b.name := by unfold toHead; split; rfl; split <;> rfl
 have e5 : termOf (mapFrom (f.vars.map PVar.name) 0) (mapFrom (f.blocks.map PBlock.name) 0) (toHead f b) = b.term ∧ ((!decide ((toHead f b).v = ⟨#[]⟩) && !hasM (mapFrom (f.vars.map PVar.name) 0) (toHead f b).v) = false ∧ (toHead f b).tos.any (fun s => !hasM (mapFrom (f.blocks.map PBlock.name) 0) s) = false) := by
  obtain ⟨bn, bp, bi, ⟨tk, tv, t0, t1⟩⟩ := b
  unfold toHead
  by_cases k0 : tk = 0
  ·have hb0 := termOK_0 h3 k0
   have h3' := h3
   unfold termOK at h3'
   rw [if_pos k0] at h3'
   simp only [qs, qu] at h3'
   rw [if_pos k0]
   refine ⟨?_, ?_, ?_⟩
   ·unfold termOf
    rw [if_pos rfl]
    simp only [List.map_cons, List.map_nil]
    rw [(getB hb hb0).1]
    simp [k0, h3']
   ·simp
   ·simp [(getB hb hb0).2]
  ·rw [if_neg k0]
   by_cases k1 : tk = 1
   ·obtain ⟨g1, g2, g3⟩ := termOK_1 h3 k1
    have hne := name_ne (vname_ok hf g1)
    rw [if_pos k1]
    refine ⟨?_, ?_, ?_⟩
    ·unfold termOf
     dsimp only
     rw [if_neg hne, (getV hu g1).1]
     simp only [List.map_cons, List.map_nil]
     rw [(getB hb g2).1, (getB hb g3).1]
     simp [k1]
    ·dsimp only; rw [(getV hu g1).2]; simp
    ·simp [(getB hb g2).2, (getB hb g3).2]
   ·have g1 := termOK_2 h3 k0 k1
    have hne := name_ne (vname_ok hf g1)
    have h3' := h3
    unfold termOK at h3'
    rw [if_neg k0, if_neg k1] at h3'
    rw [if_neg k1]
    refine ⟨?_, ?_, ?_⟩
    ·unfold termOf
     dsimp only
     rw [if_neg hne, (getV hu g1).1]
     split at h3'
     ·rename_i k2
      simp only [qs, qu] at h3'
      have k2 : tk = 2 := k2
      simp [k2, h3']
     ·cases h3'
    ·dsimp only; rw [(getV hu g1).2]; simp
    ·rfl
 constructor
 ·unfold blockOf
  rw [e1, e2]
  show PBlock.mk (toHead f b).name b.phis b.insts (termOf _ _ (toHead f b)) = b
  rw [e4, e5.1]
 ·unfold lostBlk
  rw [e3]
  show (false || (!decide ((toHead f b).v = ⟨#[]⟩) && !hasM _ (toHead f b).v) || (toHead f b).tos.any _) = false
  rw [e5.2.1, e5.2.2]; rfl
end
end Go.Proofs.YtbkgklpihnfnjaaGreatDoor
namespace Go.Proofs.YtbkgklpihnfnjaaGreatDoor
open Go.Proofs.Tryz
open Go.Proofs Go.Lib Go.Shelf Go.RowKit
set_option maxRecDepth 20000
theorem mkP_blocks (ps vs : List PVar) (bs : List (PHead × List PItem)) : blocksOf (mkP ps vs bs) = bs := by
 rcases snoc_cases bs with rfl | ⟨pre, y, rfl⟩
 ·rfl
 ·rw [mkP_last]; rfl
theorem toHead_name (f : PFunc) (b : PBlock) : (toHead f b).name = b.name := by unfold toHead; split; rfl; split <;> rfl
theorem parL_eq {ps : List Int} (h : ∀ i (h : i < ps.length), ps[i] = (i : Int)) {m : Nat} (hm : ps.length ≤ m) : parL ps.length m = ps := by
 unfold parL
 rw [Nat.min_eq_right hm]
 apply List.ext_getElem
 ·simp
 ·intro i h1 h2
  rw [List.getElem_map, List.getElem_range, h i h2]
theorem build_back {f : PFunc} (hS : ShapedP f) : buildP (progF f) = some f := by
 obtain ⟨hf, hu, hb, hne⟩ := shaped_ok hS
 obtain ⟨s1, s2, s3, s4, s5, s6⟩ := hS
 have hpl : f.params.length ≤ f.vars.length := by unfold bad1 at s1; simp at s1; omega
 have hvn : varNames (progF f) = f.vars.map PVar.name := by
  show (f.vars.take f.params.length ++ f.vars.drop f.params.length).map PVar.name = _
  rw [List.take_append_drop]
 have hbo : blocksOf (progF f) = f.blocks.map (toB f) := mkP_blocks _ _ _
 have hbn : blkNames (progF f) = f.blocks.map PBlock.name := by
  unfold blkNames; rw [hbo, List.map_map]; exact List.map_congr_left fun b _ => toHead_name f b
 have hv : vState (progF f) = (mapFrom (f.vars.map PVar.name) 0, false) := by unfold vState; rw [hvn, putAllQ_all hu]
 have hbs : bState (progF f) = (mapFrom (f.blocks.map PBlock.name) 0, false) := by unfold bState; rw [hbn, hv, putAllQ_all hb]
 have hback : ∀ b ∈ f.blocks, blockOf (vState (progF f)).1 (bState (progF f)).1 (toB f b) = b ∧ lostBlk (vState (progF f)).1 (bState (progF f)).1 (toB f b) = false := fun b hm => by
  rw [hv, hbs]; exact blk_back hf hu hb (s6 b hm)
 have hlost : lostP (progF f) = false := by
  unfold lostP
  rw [hbo, List.any_map]
  rw [List.any_eq_false.2 fun b hm => by simp [(hback b hm).2], hbs]; rfl
 unfold buildP
 rw [if_neg (by rw [hlost]; simp)]
 unfold funcP
 rw [hbo, List.map_map]
 have e1 : f.blocks.map (blockOf (vState (progF f)).1 (bState (progF f)).1 ∘ toB f) = f.blocks := by
  conv => rhs; rw [← List.map_id f.blocks]
  exact List.map_congr_left fun b hm => (hback b hm).1
 have e2 : (progF f).params ++ (progF f).vars = f.vars := List.take_append_drop _ _
 have e3 : (progF f).params.length = f.params.length := by show (f.vars.take f.params.length).length = _; rw [qp]; omega
 rw [e1, e2, e3, parL_eq s2 hpl]
theorem items_sum (f : PFunc) : ∀ l : List PBlock, itemsN (l.map (toB f)) = sumTo l
 | [] => rfl
 | b :: l => by
  have ih := items_sum f l
  unfold itemsN sumTo at ih ⊢
  rw [List.map_cons, List.map_cons, List.sum_cons, List.map_cons, List.sum_cons, ih]
  show (b.phis.map (toPhi f) ++ b.insts.map (toInst f)).length + _ = _
  rw [qj, qk, qk]
theorem fits_back {f : PFunc} (hS : ShapedP f) : fitsP (progF f) = true := by
 obtain ⟨s1, s2, s3, s4, s5, s6⟩ := hS
 have hbo : blocksOf (progF f) = f.blocks.map (toB f) := mkP_blocks _ _ _
 have e2 : (progF f).params.length + (progF f).vars.length = f.vars.length := by
  show (f.vars.take f.params.length).length + (f.vars.drop f.params.length).length = _
  rw [qp, List.length_drop]; omega
 have e3 : (progF f).params.length ≤ f.params.length := by show (f.vars.take f.params.length).length ≤ _; rw [qp]; omega
 unfold bad1 at s1
 simp at s1
 unfold fitsP
 rw [hbo, items_sum, qk]
 simp only [qs, qu]
 omega
theorem wf_words {f : PFunc} (hf : FOk f) (hn : NumsOk f) : ∀ l ∈ linesF f, l ≠ [] ∧ ∀ w ∈ l, okW w := by
 have hkw : ∀ l : List UInt8, asciiW l = true → okW (strL l) := fun l h => okW_ascii h
 intro l hl
 unfold linesF at hl
 rcases List.mem_cons.1 hl with rfl | hl
 ·refine ⟨by unfold headL; simp, fun w hw => ?_⟩
  unfold headL at hw
  rcases List.mem_cons.1 hw with rfl | hw
  ·exact hkw [102, 117, 110, 99] (by decide)
  ·obtain ⟨v, hv, rfl⟩ := List.mem_map.1 hw
   have := hf.vars v (List.mem_of_mem_take hv)
   exact pair_okW this.1 this.2
 ·rcases List.mem_append.1 hl with hl | hl
  ·obtain ⟨v, hv, rfl⟩ := List.mem_map.1 hl
   have := hf.vars v (List.mem_of_mem_drop hv)
   refine ⟨by unfold varL; simp, fun w hw => ?_⟩
   unfold varL at hw
   rcases List.mem_cons.1 hw with rfl | hw
   ·exact hkw [118, 97, 114] (by decide)
   ·rw [List.mem_singleton.1 hw]; exact pair_okW this.1 this.2
  ·obtain ⟨b, hb, hl⟩ := List.mem_flatMap.1 hl
   obtain ⟨hbn, h1, h2, h3⟩ := hf.blks b hb
   unfold blkL at hl
   rcases List.mem_cons.1 hl with rfl | hl
   ·refine ⟨by simp, fun w hw => ?_⟩
    rcases List.mem_cons.1 hw with rfl | hw
    ·exact hkw [98, 108, 111, 99, 107] (by decide)
    ·rw [List.mem_singleton.1 hw]; exact name_okW hbn
   ·rcases List.mem_append.1 hl with hl | hl
    ·obtain ⟨p, hp, rfl⟩ := List.mem_map.1 hl
     obtain ⟨g1, _, _, g4, g5⟩ := h1 p hp
     refine ⟨by unfold phiL; simp, fun w hw => ?_⟩
     unfold phiL at hw
     rcases List.mem_cons.1 hw with rfl | hw
     ·exact name_okW (vname_ok hf g1)
     ·rcases List.mem_cons.1 hw with rfl | hw
      ·exact hkw [61] (by decide)
      ·rcases List.mem_cons.1 hw with rfl | hw
       ·exact hkw [112, 104, 105] (by decide)
       ·rcases inter_mem hw with hw | hw
        ·obtain ⟨x, hx, rfl⟩ := List.mem_map.1 hw; exact name_okW (bname_ok hf (List.all_eq_true.1 g5 x hx))
        ·obtain ⟨x, hx, rfl⟩ := List.mem_map.1 hw; exact name_okW (vname_ok hf (List.all_eq_true.1 g4 x hx))
    ·rcases List.mem_append.1 hl with hl | hl
     ·obtain ⟨x, hx, rfl⟩ := List.mem_map.1 hl
      have hF := instP_F (h2 x hx)
      have hwo : wordsOf f x = words1 f x ++ [(kRow x.op).1] ++ x.args.map (vname f) ++ (if isNum x.op then [strL (itoa x.num)] else []) := by
       unfold wordsOf words2; rw [qi]; rfl
      refine ⟨by rw [hwo]; simp, fun w hw => ?_⟩
      rw [hwo] at hw
      rcases List.mem_append.1 hw with hw | hw
      ·rcases List.mem_append.1 hw with hw | hw
       ·rcases List.mem_append.1 hw with hw | hw
        ·unfold words1 at hw
         split at hw
         ·rename_i hd
          rcases List.mem_cons.1 hw with rfl | hw
          ·rcases hF.dst with ⟨_, d⟩ | ⟨_, _, d⟩
           ·omega
           ·exact name_okW (vname_ok hf d)
          ·rw [List.mem_singleton.1 hw]; exact hkw [61] (by decide)
         ·cases hw
        ·rw [List.mem_singleton.1 hw]
         have hk : ∀ j : Nat, j < 27 → asciiW (kRow (j : Int)).1.data.toList = true := by decide
         have := hk x.op.toNat (by have := hF.op; omega)
         rw [qt hF.op.1] at this
         rw [← strL_of (kRow x.op).1]
         exact hkw _ this
       ·obtain ⟨a, ha, rfl⟩ := List.mem_map.1 hw; exact name_okW (vname_ok hf (hF.args a ha))
      ·split at hw
       ·rw [List.mem_singleton.1 hw]
        refine hkw _ ?_
        have hdec : ∀ u : Nat, ∀ b ∈ decDigits u, 48 ≤ b.toNat ∧ b.toNat ≤ 57 := fun u => by
         have key : ∀ n u, u ≤ n → ∀ b ∈ decDigits u, 48 ≤ b.toNat ∧ b.toNat ≤ 57 := by
          intro n
          induction n with
          | zero => intro u hu b hb; rw [decDigits, dif_pos (by omega)] at hb; rw [List.mem_singleton.1 hb, UInt8.toNat_ofNat']; omega
          | succ n ih =>
           intro u hu b hb
           rw [decDigits] at hb
           by_cases h10 : u < 10
           ·rw [dif_pos h10] at hb; rw [List.mem_singleton.1 hb, UInt8.toNat_ofNat']; omega
           ·rw [dif_neg h10] at hb
            rcases List.mem_append.1 hb with hb | hb
            ·exact ih (u / 10) (by omega) b hb
            ·rw [List.mem_singleton.1 hb, UInt8.toNat_ofNat']; omega
         exact key u u (Nat.le_refl _)
        unfold asciiW itoa
        split
        ·simp only [List.isEmpty_cons, Bool.not_false, Bool.true_and, List.all_cons, qs, List.all_eq_true]
         exact ⟨by decide, fun b hb => by have := hdec _ b hb; simp; omega⟩
        ·obtain ⟨c, r, e, _⟩ := dec_ne x.num.toNat
         simp only [qs, List.all_eq_true]
         exact ⟨by rw [e]; rfl, fun b hb => by have := hdec _ b hb; simp; omega⟩
       ·cases hw
     ·rw [List.mem_singleton.1 hl]
      unfold termL
      by_cases k0 : b.term.kind = 0
      ·rw [if_pos k0]
       refine ⟨by simp, fun w hw => ?_⟩
       rcases List.mem_cons.1 hw with rfl | hw
       ·exact hkw [106, 117, 109, 112] (by decide)
       ·rw [List.mem_singleton.1 hw]; exact name_okW (bname_ok hf (termOK_0 h3 k0))
      ·rw [if_neg k0]
       by_cases k1 : b.term.kind = 1
       ·obtain ⟨t1, t2, t3⟩ := termOK_1 h3 k1
        rw [if_pos k1]
        refine ⟨by simp, fun w hw => ?_⟩
        rcases List.mem_cons.1 hw with rfl | hw
        ·exact hkw [105, 102] (by decide)
        ·rcases List.mem_cons.1 hw with rfl | hw
         ·exact name_okW (vname_ok hf t1)
         ·rcases List.mem_cons.1 hw with rfl | hw
          ·exact name_okW (bname_ok hf t2)
          ·rw [List.mem_singleton.1 hw]; exact name_okW (bname_ok hf t3)
       ·rw [if_neg k1]
        refine ⟨by simp, fun w hw => ?_⟩
        rcases List.mem_cons.1 hw with rfl | hw
        ·exact hkw [114, 101, 116] (by decide)
        ·rw [List.mem_singleton.1 hw]; exact name_okW (vname_ok hf (termOK_2 h3 k0 k1))
def textF (f : PFunc) : ByteArray := unB (linesF f)
theorem parse_text {f : PFunc} (hS : ShapedP f) (hn : NumsOk f) : parseC (textF f) = if 16384 < (textF f).size then (4, none) else (0, some f) := by
 obtain ⟨hf, hu, hb, hne⟩ := shaped_ok hS
 by_cases hsz : 16384 < (textF f).size
 ·have hr : rightE (textF f) = 4 := by unfold rightE; rw [if_pos hsz]
  rw [if_pos hsz]
  unfold parseC
  rw [if_neg (by rw [hr]; decide), hr]
 ·obtain ⟨h1, h2⟩ := un_lines (wf_words hf hn) (by show (textF f).size ≤ 16384; omega)
  rw [if_neg hsz]
  unfold parseC
  rw [if_pos (show rightE (textF f) = 0 from h1), readP_W, show (linesOf (textF f)).map (·.2) = linesF f from h2, read_lines hf hn hne]
  dsimp only
  rw [if_pos (fits_back hS), build_back hS]
end Go.Proofs.YtbkgklpihnfnjaaGreatDoor
namespace Go.Proofs.YtbkgklpihnfnjaaGreatDoor
open Go.Proofs.Tryz
open Go.Proofs Go.Lib Go.Shelf Go.RowKit
set_option maxRecDepth 20000
variable {E : World}
theorem lit_size (a : Array UInt8) : (⟨a⟩ : ByteArray).size = a.size := rfl
theorem unB_app : ∀ (ls : List (List ByteArray)) (l : List ByteArray), unB (ls ++ [l]) = unB ls ++ (lineS l ++ nl)
 | [], l => by show (lineS l ++ nl) ++ unB [] = unB [] ++ (lineS l ++ nl); show (lineS l ++ nl) ++ ByteArray.empty = ByteArray.empty ++ _; rw [ByteArray.append_empty, ByteArray.empty_append]
 | x :: ls, l => by rw [List.cons_append, unB, unB_app ls l, unB]; simp only [ByteArray.append_assoc]
theorem lineS_snoc (w : ByteArray) (ws : List ByteArray) (a : ByteArray) : lineS ((w :: ws) ++ [a]) = (lineS (w :: ws) ++ spc) ++ a := joinS_app w ws a
theorem lineS_one (w : ByteArray) : lineS [w] = w := joinS_one w
theorem lineS_two (a b : ByteArray) : lineS [a, b] = (a ++ spc) ++ b := by rw [show [a, b] = [a] ++ [b] from rfl, lineS_snoc, lineS_one]
theorem lineS_three (a b c : ByteArray) : lineS [a, b, c] = (((a ++ spc) ++ b) ++ spc) ++ c := by rw [show [a, b, c] = [a, b] ++ [c] from rfl, lineS_snoc, lineS_two]
theorem lineS_four (a b c d : ByteArray) : lineS [a, b, c, d] = (((((a ++ spc) ++ b) ++ spc) ++ c) ++ spc) ++ d := by rw [show [a, b, c, d] = [a, b, c] ++ [d] from rfl, lineS_snoc, lineS_three]
theorem ty_row {t : Int} (h : 0 ≤ t ∧ t ≤ 2) : ([[.str ⟨#[105, 110, 116]⟩], [.str ⟨#[98, 111, 111, 108]⟩], [.str ⟨#[97, 114, 114]⟩]] : List (List AV))[t.toNat]? = some [.str (tyWord t)] := by
 have : t = 0 ∨ t = 1 ∨ t = 2 := by omega
 rcases this with rfl | rfl | rfl <;> rfl
theorem ty_size {t : Int} (h : 0 ≤ t ∧ t ≤ 2) : (tyWord t).size ≤ 4 := by
 have : t = 0 ∨ t = 1 ∨ t = 2 := by omega
 rcases this with rfl | rfl | rfl <;> decide
structure TBlk (b : PBlock) : Prop where
 phis : b.phis.length ≤ 2100
 insts : b.insts.length ≤ 2100
 args : ∀ p ∈ b.phis, p.args.length ≤ 2100 ∧ p.from_.length ≤ 2100
structure TOk (f : PFunc) : Prop where
 vars : f.vars.length ≤ 1000
 blks : f.blocks.length ≤ 100
 vn : ∀ v ∈ f.vars, v.name.size ≤ 1000
 bn : ∀ b ∈ f.blocks, b.name.size ≤ 1000
 each : ∀ b ∈ f.blocks, TBlk b
theorem inst_line_eq {f : PFunc} {x : PInst} (h : InstP f x) : refLine f x = lineS (wordsOf f x) := by
 rw [← line_eq h]; unfold instLine; rw [if_pos ((instOK_iff f x).2 h)]; rfl
theorem inter_succ : ∀ {l m : List ByteArray} {k : Nat} {a b : ByteArray}, l[k]? = some a → m[k]? = some b → inter (l.take (k + 1)) (m.take (k + 1)) = inter (l.take k) (m.take k) ++ [a, b]
 | [], _, _, _, _, h, _ => by simp at h
 | _ :: _, [], _, _, _, _, h => by simp at h
 | x :: l, y :: m, 0, a, b, h1, h2 => by
  simp at h1 h2; subst h1 h2
  simp [inter]
 | x :: l, y :: m, k + 1, a, b, h1, h2 => by
  rw [List.take_succ_cons, List.take_succ_cons, List.take_succ_cons, List.take_succ_cons, inter, inter, inter_succ (by simpa using h1) (by simpa using h2)]; rfl
def phiLk (f : PFunc) (p : PPhi) (k : Nat) : List ByteArray := vname f p.dst :: eqS :: phiS :: inter ((p.from_.map (bname f)).take k) ((p.args.map (vname f)).take k)
def headLk (f : PFunc) (k : Nat) : List ByteArray := funcS :: (f.vars.take k).map pairW
theorem vname_sz {f : PFunc} (hT : TOk f) {v : Int} (h : hasV f v = true) : (vname f v).size ≤ 1000 := by
 obtain ⟨h1, _, _, h2⟩ := has_get h
 rw [h2]; exact hT.vn _ (qh h1)
theorem bname_sz {f : PFunc} (hT : TOk f) {v : Int} (h : hasB f v = true) : (bname f v).size ≤ 1000 := by
 obtain ⟨h1, _, _, h2⟩ := hasB_get h
 rw [h2]; exact hT.bn _ (qh h1)
theorem refLine_sz {f : PFunc} (hT : TOk f) {x : PInst} (hx : InstP f x) (hI : -9223372036854775808 ≤ x.num ∧ x.num ≤ 9223372036854775807) : x.args.length ≤ 3 ∧ (refLine f x).size ≤ 20000 := by
 have hF := instP_F hx
 have h3 := takesL_len x.op
 have hl := hF.len
 have hs := refArgs_size hT.vn x x.args.length (Nat.le_refl _)
 have hi := itoa_length_le x.num hI.1 hI.2
 refine ⟨by omega, ?_⟩
 unfold refLine
 split
 ·rw [app_size, app_size, strL_size]
  have : spc.size = 1 := rfl
  omega
 ·omega
theorem Left.none0 : ∀ O : OL, Left O []
 | [] => ⟨_, .refl _, rfl⟩
 | x :: O => let ⟨_, h1, h2⟩ := Left.none0 O; ⟨_, .drop h1, h2⟩
end Go.Proofs.YtbkgklpihnfnjaaGreatDoor

namespace Go.Proofs.YtbkgklpihnfnjaaGreatDoor
open Go.Proofs.Tryz
open Go Go.Shelf Go.RowKit Go.Proofs Go.Lib
variable {P : Program} {ρ : Ren}
set_option maxHeartbeats 1000000 in
set_option maxRecDepth 100000 in
theorem string_raw (L : Lays.n169 P ρ) (X : Builder.Extra P ρ) (b g cap : Nat) (p : Value) (cur : Array Value) (l : List UInt8) (w : World) (hbk : w.heap[b]? = some (.cells #[p, .slice (some ⟨g, 0, none⟩) l.length cap] (ρ.t 72) (0, 0)))
  (hg : w.heap[g]? = some (.cells cur (ρ.t 5) (0, 0))) (hnc : l.length ≤ cap) (hcs : cap ≤ cur.size) (hsm : l.length ≤ 9223372036854775807) (hcell : ∀ (j : Nat) (x : UInt8), l[j]? = some x → cur[j]? = some (Value.int .u8 x.toNat)) (h0 : l ≠ []) :
  Calls P (ρ.f 169) #[.pointer (some ⟨b, 0, none⟩)] w fun e w' => e = .returned (.string ⟨l.toArray⟩) ∧ w' = w.drew.freeze ⟨g, 0, none⟩ l.length := by
 have hl0 : l.length ≠ 0 := by simpa using h0
 have c1 : w.drew.cell? ⟨b, 1, none⟩ = some (.slice (some ⟨g, 0, none⟩) l.length cap) := by
  have : w.drew.heap[b]? = some (.cells #[p, .slice (some ⟨g, 0, none⟩) l.length cap] (ρ.t 72) (0, 0)) := hbk
  rw [Lib.cell_of_heap this]; rfl
 have hSD : (Builtin.unsafeSliceData_ #[(ρ.t 37)] (ρ.t 127) #[.slice (some ⟨g, 0, none⟩) l.length cap]).run P w.drew = .ok (.pointer (some ⟨g, 0, none⟩)) w.drew :=
  Lib.run_unsafeSliceData_row _ _ _ _ _ _ (by omega)
 have hg' : w.drew.heap[g]? = some (.cells cur (ρ.t 5) (0, 0)) := hg
 have hUS : (Builtin.unsafeString_ #[(ρ.t 127), (ρ.t 3)] (ρ.t 9) #[.pointer (some ⟨g, 0, none⟩), .int .i64 l.length]).run P w.drew = .ok (.string ⟨l.toArray⟩) (w.drew.freeze ⟨g, 0, none⟩ l.length) := by
  refine Lib.run_unsafeString_row w.drew (ρ.t 127) (ρ.t 3) (ρ.t 9) (ρ.t 5) L.t127 X.cellsByte g cur.size (by simp [World.shape?, hg']) l h0 (by omega) (by omega) ?_
  intro j x hx
  have ha : (⟨g, 0, none⟩ : Addr).add j = ⟨g, j, none⟩ := by unfold Addr.add; split <;> simp_all
  rw [ha, Lib.cell_of_heap hg']
  exact hcell j x hx
 have mixed := L.mixed
 have t72 := L.t72; have a72 := L.a72; have z72 := L.z72; have v72 := L.v72; have u72 := run_underlying L.t72
 have t70 := L.t70; have a70 := L.a70; have z70 := L.z70; have v70 := L.v70; have u70 := run_underlying L.t70
 have t37 := L.t37; have a37 := L.a37; have z37 := L.z37; have v37 := L.v37; have u37 := run_underlying L.t37
 have t127 := L.t127; have a127 := L.a127; have z127 := L.z127; have v127 := L.v127; have u127 := run_underlying L.t127
 have t3 := L.t3; have a3 := L.a3; have z3 := L.z3; have v3 := L.v3; have u3 := run_underlying L.t3
 have t9 := L.t9; have a9 := L.a9; have z9 := L.z9; have v9 := L.v9; have u9 := run_underlying L.t9
 have t5 := X.t5; have a5 := X.a5; have z5 := X.z5; have v5 := X.v5; have u5 := run_underlying X.t5
 go_enter L.f169, Body.n169_ntmps ρ
 go_wp2
 go_region_o
 all_goals (go_wp2; go_ret; exact ⟨rfl, rfl⟩)
end Go.Proofs.YtbkgklpihnfnjaaGreatDoor
namespace Go.Proofs.YtbkgklpihnfnjaaGreatDoor
open Go.Proofs.Tryz
open Go.Proofs Go.Lib Go.Shelf Go.RowKit
set_option maxRecDepth 20000
variable {E : World}
theorem check_new {i : Nat} {x : AV} : ACall prog E 82 [.po i 0] [(i, .cells 87 [.raw (.pointer none), x])] (fun z O' => z = .tup [] ∧ O' = [(i, .cells 87 [.po i 0, x])]) := by
 refine zk func82 Z (by decide) Z<|zSr<|zVzMp Z<|zVGvnilCheckO Z<|z8 (zc Y9 Z sizeOf84 (by decide) Z Z)<|z8 (zj (c := .raw _) isAgg84 Z ⟨_, .head⟩ Z)<|z8 (Gv.eqlNilR (by kernel_rfl) Z)<|z6<|yh Z Z<|zRg<|zVzMp Z<|zVzMp Z<|z8 (Gv.toUnsafe underlying84 underlying200 type87 (by decide) Z ⟨_, .head⟩ (by show 0 < 2; omega))<|z8 (Gv.noEscape func130 Z Z (by kernel_rfl) (by kernel_rfl) Z)<|z8 (Gv.fromUnsafe underlying200 underlying84 type87 Z ⟨_, .head⟩ (by kernel_rfl))<|zVGvnilCheckO Z<|z8 (zc Y9 Z sizeOf84 (by decide) Z Z)<|y5 (l := [_]) (new := [_, _]) sizeOf84 Z Z Z Z Z Z .head Z Z<|z6<|afin.t0 ?_
 exact ⟨rfl, rfl⟩
theorem check_used {i : Nat} {x : AV} : ACall prog E 82 [.po i 0] [(i, .cells 87 [.po i 0, x])] (fun z O' => z = .tup [] ∧ O' = [(i, .cells 87 [.po i 0, x])]) := by
 refine zk func82 Z (by decide) Z<|zSr<|zVzMp Z<|zVGvnilCheckO Z<|z8 (zc Y9 Z sizeOf84 (by decide) Z Z)<|z8 (zj (c := .po _ _) isAgg84 Z ⟨_, .head⟩ Z)<|z8 (Gv.eqlNilO (by kernel_rfl) Z)<|z6<|yc Z Z<|zSr<|zVzMp Z<|zVGvnilCheckO Z<|z8 (zc Y9 Z sizeOf84 (by decide) Z Z)<|z8 (zj (c := .po _ _) isAgg84 Z ⟨_, .head⟩ Z)<|zVzMp Z<|z8 (Gv.neqPO underlying84 type87 Z Z)<|z6<|yc Z Z<|zf<|afin.t0 ?_
 exact ⟨rfl, rfl⟩
def bldO (i j : Nat) (p0 : AV) (acc : ByteArray) : OL := [(i, .cells 87 [p0, .own j acc.size]), (j, .grow 1 5 (strAV acc))]
theorem bld_push {i j : Nat} {acc s : ByteArray} : [(i, AObj.cells 87 [.po i 0, .own j (acc.size + s.size)]), (j, .grow 1 5 (strAV acc ++ strAV s))] = bldO i j (.po i 0) (acc ++ s) := by
 unfold bldO; rw [strAV_app, ByteArray.size_append]
theorem write_new {i j : Nat} (acc s : ByteArray) (hb : acc.size + s.size ≤ 140737488355328) : ACall prog E 43 [.po i 0, .str s] (bldO i j (.raw (.pointer none)) acc)
  (fun z O' => ∃ j' : Nat, z = .tup [.int .i64 s.size, .raw .nilIface] ∧ Left O' (bldO i j' (.po i 0) (acc ++ s)) ∧ True) := by
 have hl := strAV_len acc
 refine zk func43 Z (by decide) Z<|zSr<|zVzAi Z<|zVzAr Z<|z6<|zSr<|zVzMp Z<|ye Z (zu (.l (.r (.rest _)))) (check_new) ?_
 rintro r7 O7 ⟨rfl, rfl⟩
 refine z6<|zSr<|zVzMp Z<|zVzMp Z<|zVGvnilCheckO Z<|z8 (zc Y9 Z Yy (by decide) Z Z)<|z8 (zj (c := .own _ _) isAgg85 Z ⟨_, .head⟩ Z)<|z8 (y9 (v := .str _) Z)<|AOps.appendT Yr Z3 type5 Z Z Z Z Z (fun _ => .t1) (by omega) (by omega)<|fun i14 => zVGvnilCheckO Z<|z8 (zc Y9 Z Yy (by decide) Z Z)<|y5 (l := [_]) (new := [_, _]) Yy Z Z Z Z Z Z .head Z Z<|z6<|zSr<|z8 (y9 (v := .str _) Z)<|z8 (Gv.lenT Z3 Z)<|zVzAi Z<|zVzAr Z<|z6<|ze<|yp (x := .int _ _) (y := .raw _) Z Z ?_
 exact ⟨i14, rfl, ⟨_, .refl _, bld_push⟩, trivial⟩
theorem write_used {i j : Nat} (acc s : ByteArray) (hb : acc.size + s.size ≤ 140737488355328) : ACall prog E 43 [.po i 0, .str s] (bldO i j (.po i 0) acc)
  (fun z O' => ∃ j' : Nat, z = .tup [.int .i64 s.size, .raw .nilIface] ∧ Left O' (bldO i j' (.po i 0) (acc ++ s)) ∧ True) := by
 have hl := strAV_len acc
 refine zk func43 Z (by decide) Z<|zSr<|zVzAi Z<|zVzAr Z<|z6<|zSr<|zVzMp Z<|ye Z (zu (.l (.r (.rest _)))) (check_used) ?_
 rintro r7 O7 ⟨rfl, rfl⟩
 refine z6<|zSr<|zVzMp Z<|zVzMp Z<|zVGvnilCheckO Z<|z8 (zc Y9 Z Yy (by decide) Z Z)<|z8 (zj (c := .own _ _) isAgg85 Z ⟨_, .head⟩ Z)<|z8 (y9 (v := .str _) Z)<|AOps.appendT Yr Z3 type5 Z Z Z Z Z (fun _ => .t1) (by omega) (by omega)<|fun i14 => zVGvnilCheckO Z<|z8 (zc Y9 Z Yy (by decide) Z Z)<|y5 (l := [_]) (new := [_, _]) Yy Z Z Z Z Z Z .head Z Z<|z6<|zSr<|z8 (y9 (v := .str _) Z)<|z8 (Gv.lenT Z3 Z)<|zVzAi Z<|zVzAr Z<|z6<|ze<|yp (x := .int _ _) (y := .raw _) Z Z ?_
 exact ⟨i14, rfl, ⟨_, .refl _, bld_push⟩, trivial⟩
theorem line_new {i j : Nat} (acc : ByteArray) (ws : List ByteArray) (hw : ws.length ≤ 100000000) (hz : (lineS ws).size ≤ 10000000000000) (hb : acc.size ≤ 10000000000000) : ACall prog E 42 ([.fro 1 (ws.map encS)] ++ [.po i 0]) (bldO i j (.raw (.pointer none)) acc)
  (fun z O' => ∃ j' : Nat, z = .tup [] ∧ Left O' (bldO i j' (.po i 0) (acc ++ (lineS ws ++ nl))) ∧ True) := by
 have hjs : (Lib.join (ws.map (·.data.toList)) [32]).length = (lineS ws).size := (strL_size _).symm
 refine zk func42 Z (by decide) Z<|zRg<|zVzMf Z<|zd (join_spec ws _ (by omega) (by show (Lib.join _ [32]).length ≤ _; omega)) Z<|z8 (Gv.addT Z Z (by show (lineS ws).size + 1 ≤ _; omega))<|ye Z (zu (.l (.l (.rest _)))) ((write_new acc (lineS ws ++ nl) (by rw [app_size]; show _ + (_ + 1) ≤ _; omega)).exact) ?_
 rintro r6 O6 ⟨j2, rfl, rfl, _⟩
 refine z6<|afin.t0 ?_
 exact ⟨j2, rfl, ⟨_, .refl _, rfl⟩, trivial⟩
theorem line_used {i j : Nat} (acc : ByteArray) (ws : List ByteArray) (hw : ws.length ≤ 100000000) (hz : (lineS ws).size ≤ 10000000000000) (hb : acc.size ≤ 10000000000000) : ACall prog E 42 ([.fro 1 (ws.map encS)] ++ [.po i 0]) (bldO i j (.po i 0) acc)
  (fun z O' => ∃ j' : Nat, z = .tup [] ∧ Left O' (bldO i j' (.po i 0) (acc ++ (lineS ws ++ nl))) ∧ True) := by
 have hjs : (Lib.join (ws.map (·.data.toList)) [32]).length = (lineS ws).size := (strL_size _).symm
 refine zk func42 Z (by decide) Z<|zRg<|zVzMf Z<|zd (join_spec ws _ (by omega) (by show (Lib.join _ [32]).length ≤ _; omega)) Z<|z8 (Gv.addT Z Z (by show (lineS ws).size + 1 ≤ _; omega))<|ye Z (zu (.l (.l (.rest _)))) ((write_used acc (lineS ws ++ nl) (by rw [app_size]; show _ + (_ + 1) ≤ _; omega)).exact) ?_
 rintro r6 O6 ⟨j2, rfl, rfl, _⟩
 refine z6<|afin.t0 ?_
 exact ⟨j2, rfl, ⟨_, .refl _, rfl⟩, trivial⟩
theorem bldLen_spec {i j : Nat} {p0 : AV} (acc : ByteArray) : ACall prog E 49 [.po i 0] (bldO i j p0 acc) (fun z O' => z = .int .i64 acc.size ∧ O' = bldO i j p0 acc) := by
 refine zk func49 Z (by decide) Z<|zSr<|zVzAi Z<|z6<|zSr<|zVzMp Z<|zVGvnilCheckO Z<|z8 (zc Y9 Z Yy (by decide) Z Z)<|z8 (zj (c := .own _ _) isAgg85 Z ⟨_, .head⟩ Z)<|z8 (q7 Yr Z)<|zVzAi Z<|z6<|ze<|zi (x := .int _ _) Z ?_
 exact ⟨rfl, rfl⟩
theorem bldString_spec {i j : Nat} {p0 : AV} (acc : ByteArray) (h0 : acc.size ≠ 0) (hb : acc.size ≤ 140737488355328) : ACall prog E 50 [.po i 0] (bldO i j p0 acc) (fun z O' => z = .str acc ∧ O' = []) := fun I F w vs h1 h2 => by
 obtain ⟨v, us, rfl, ⟨b, c, e1, rfl⟩, h3⟩ := h1
 have h3 : us = [] := h3
 subst h3
 obtain ⟨ht, L, hL, hS⟩ := h2
 obtain ⟨A, B0, rfl, hA, B, C, rfl, hB, hC⟩ := hL
 have hC : C = [] := hC
 subst hC
 obtain ⟨b', c', ws, e2, hws, hwc, rfl⟩ := hA
 simp only at e2
 rw [e1] at e2
 cases e2
 obtain ⟨v0, us, rfl, hv0, v1, us2, rfl, ⟨g, cg, e3, rfl⟩, hz⟩ := hws
 have hz : us2 = [] := hz
 subst hz
 obtain ⟨g', cg', n', bs, e4, hbs, hbc, h5, h6, h7⟩ := hB
 simp only at e4
 rw [e3] at e4
 simp only [Option.some.injEq, Prod.mk.injEq] at e4
 obtain ⟨rfl, rfl⟩ := e4
 have hv := strAV_un hbs
 subst hv
 have hlen := strCells_length acc
 have hl2 : acc.data.toList.length = acc.size := Array.length_toList
 rcases h7 with ⟨ea, hc0, _⟩ | ⟨g2, junk, ea, rfl, hj⟩
 ·omega
 ·cases g with
  | none => simp [adr] at ea
  | some g =>
   simp [adr] at ea
   subst ea
   have hS1 : SL I.k ((b, .cells #[v0, .slice (some ⟨g, 0, none⟩) acc.size cg] 87 (0, 0)) :: (g, .cells (strCells acc ++ junk).toArray 5 (0, 0)) :: F) E w := by simpa [adr] using hS
   have hbk := hS1.own _ (.head _)
   have hgk := hS1.own _ (.tail _ (.head _))
   simp only at hbk hgk
   refine Fn.ofCalls func50 Z (by decide) ?_
   have hcall := string_raw Tryz.lays169 Tryz.Builder_Extra_169 b g cg v0 (strCells acc ++ junk).toArray acc.data.toList w (by rw [hl2]; exact hbk) hgk (by rw [hl2]; omega) (by rw [List.size_toArray, hj]; omega) (by omega) (fun k x hx => by
    have hk : k < (strCells acc).length := by rw [hlen, ← hl2]; exact (List.getElem?_eq_some_iff.1 hx).1
    rw [List.getElem?_toArray, List.getElem?_append_left hk]
    unfold strCells
    rw [ql, hx]; rfl) (fun e => h0 (by rw [← hl2, e]; rfl))
   refine hcall.mono fun e w' ⟨he, hw⟩ => ⟨_, he, I, .str acc, [], .refl _, Z, ⟨ht, [], Z, ?_⟩, Z, Z⟩
   subst hw
   have hl0 : ¬ acc.data.toList.length = 0 := by rw [hl2]; exact h0
   refine hS1.drop.drew.scrap ?_ ?_ ?_ fun k hk => ?_
   ·unfold World.freeze; rw [if_neg hl0]
   ·unfold World.freeze; rw [if_neg hl0]
   ·unfold World.freeze; rw [if_neg hl0]
   ·unfold World.freeze; rw [if_neg hl0]
    simp only [Array.getElem?_modify]
    rw [if_neg (by omega)]
end Go.Proofs.YtbkgklpihnfnjaaGreatDoor
namespace Go.Proofs.YtbkgklpihnfnjaaGreatDoor
open Go.Proofs.Tryz
open Go.Proofs Go.Lib Go.Shelf Go.RowKit
theorem ps88_3 : PlacesS prog 88 9 3 1 [.str ⟨#[]⟩, .str ⟨#[]⟩, .str ⟨#[]⟩] := ⟨_, jh, jx, Y7, by decide, by decide, by kernel_rfl⟩
set_option maxRecDepth 20000
variable {E : World}
theorem variable_spec (v : PVar) (hv : v.name.size ≤ 1000) (ht : 0 ≤ v.ty ∧ v.ty ≤ 2) : AFun prog E 45 [.agg (encVar v)] (.str (pairW v)) := by
 have hts := ty_size ht
 refine zk func45 Z (by decide) Z<|zSr<|y6 (cs := _) Z Z Z<|z8 (y8 (v := .str _) Z)<|z6<|zb<|zw (fun j => false) (by kernel_rfl) Z (zu (.rest _))<|zTk 0 Z (zFF Zf Z jx Z Z)<|zTk 1 Z (ya (c := .str _) Z5 Z)<|zTk 2 Z (Gv.addT Z Z (by (try simp only [app_size]); (try simp only [lit_size, List.size_toArray, List.length_cons, List.length_nil]); omega))<|zTk 3 Z (zFF Zf Z Xh Z Z)<|zTk 4 Z (zLi isAgg36 Z)<|zOn 5 Z<|zd (tyWord_spec _) Z<|z6<|zTk 6 Z (Gv.addT Z Z (by (try simp only [app_size]); (try simp only [lit_size, List.size_toArray, List.length_cons, List.length_nil]); omega))<|zTk 7 Z (y8 (v := .str _) Z)<|zDn<|ze<|zi (x := .str _) Z ?_
 rfl
theorem phiLk_app {f : PFunc} {p : PPhi} {k : Nat} (h1 : k < p.from_.length) (h2 : k < p.args.length) : phiLk f p (k + 1) = phiLk f p k ++ [bname f p.from_[k], vname f p.args[k]] := by
 have e1 : (p.from_.map (bname f))[k]? = some (bname f p.from_[k]) := by rw [ql, qd h1]; rfl
 have e2 : (p.args.map (vname f))[k]? = some (vname f p.args[k]) := by rw [ql, qd h2]; rfl
 unfold phiLk
 rw [inter_succ e1 e2]; simp
theorem grow_push2 {α : Type} {enc : α → List AV} {xs ys : List α} {x y : α} (h : ys = xs ++ [x, y]) : (xs.map enc).flatten ++ [enc x, enc y].flatten = (ys.map enc).flatten := by subst h; simp
theorem inter_len : ∀ l m : List ByteArray, (inter l m).length ≤ l.length + m.length
 | [], _ => by simp [inter]
 | _ :: _, [] => by simp [inter]
 | a :: l, b :: m => by have := inter_len l m; simp [inter]; omega
theorem inter_in : ∀ {l m : List ByteArray} {x : ByteArray}, x ∈ inter l m → x ∈ l ∨ x ∈ m
 | [], _, _, h => by simp [inter] at h
 | _ :: _, [], _, h => by simp [inter] at h
 | a :: l, b :: m, x, h => by
  simp only [inter, List.mem_cons] at h
  rcases h with rfl | rfl | h
  ·simp
  ·simp
  ·rcases inter_in h with h | h <;> simp [h]
theorem phiLk_len {f : PFunc} {p : PPhi} {k : Nat} (h1 : k ≤ p.from_.length) (h2 : k ≤ p.args.length) : (phiLk f p k).length ≤ 3 + 2 * k := by
 have := inter_len ((p.from_.map (bname f)).take k) ((p.args.map (vname f)).take k)
 unfold phiLk
 simp only [List.length_cons]
 rw [qp, qp] at this
 omega
theorem lineS_size {ws : List ByteArray} {m : Nat} (h : ∀ x ∈ ws, x.size ≤ m) : (lineS ws).size ≤ ws.length * (m + 1) := by
 have := join_len ws m h
 have e : (Lib.join (ws.map (·.data.toList)) [32]).length = (lineS ws).size := (strL_size _).symm
 omega
theorem phiL_sz {f : PFunc} (hT : TOk f) {p : PPhi} (hp : PhiP f p) : ∀ x ∈ phiL f p, x.size ≤ 1000 := by
 obtain ⟨g1, g2, g3, g4, g5⟩ := hp
 have g4 := List.all_eq_true.1 g4
 have g5 := List.all_eq_true.1 g5
 intro x hx
 unfold phiL at hx
 simp only [List.mem_cons] at hx
 rcases hx with rfl | rfl | rfl | hx
 ·exact vname_sz hT g1
 ·decide
 ·decide
 ·rcases inter_in hx with hx | hx
  ·obtain ⟨v, hv, rfl⟩ := List.mem_map.1 hx; exact bname_sz hT (g5 v hv)
  ·obtain ⟨v, hv, rfl⟩ := List.mem_map.1 hx; exact vname_sz hT (g4 v hv)
theorem phiLk_full {f : PFunc} {p : PPhi} (h : p.args.length = p.from_.length) : phiLk f p p.args.length = phiL f p := by
 unfold phiLk phiL
 rw [List.take_of_length_le (by simp; omega), List.take_of_length_le (by simp)]
theorem phiL_len {f : PFunc} {p : PPhi} (h : p.args.length = p.from_.length) (hp : p.args.length ≤ 2100) : (phiL f p).length ≤ 5000 := by
 have := phiLk_len (f := f) (p := p) (k := p.args.length) (by omega) (by omega)
 rw [phiLk_full h] at this; omega
theorem joinedT_spec (f : PFunc) (p : PPhi) (hT : TOk f) (hp : PhiP f p) (hl : p.args.length ≤ 2100) : AFun prog E 46 [.agg (encF f), .agg (encPhi p)] (.str (lineS (phiL f p))) := by
 have hps := phiL_sz hT hp
 obtain ⟨g1, g2, g3, g4, g5⟩ := id hp
 have g4 := List.all_eq_true.1 g4
 have g5 := List.all_eq_true.1 g5
 obtain ⟨d1, d2, d3, d4⟩ := has_get g1
 have hjs : (Lib.join ((phiL f p).map (·.data.toList)) [32]).length = (lineS (phiL f p)).size := (strL_size _).symm
 have hls := lineS_size hps
 have hll := phiL_len (f := f) g2 hl
 have hmul : (phiL f p).length * (1000 + 1) ≤ 5000 * 1001 := Nat.mul_le_mul hll (Nat.le_refl _)
 refine zk func46 Z (by decide) Z<|zSr<|y6 (cs := _) Z Z Z<|y6 (cs := _) Z Z Z<|z8 (y8 (v := .str _) Z)<|z6<|zSr<|zVzFF jc Z Z9 Z Z<|zVzLf Zn Z<|zVzFF jm Z jd Z Z<|zVzLi jr Z<|z8 (zIM p.dst.toNat js Zd Z Z (by omega) d2)<|zVzFF Zf Z jx Z Z<|z8 (ya (c := .str _) Z5 Z)<|AOps.buildSliceO (cps := [(0, [_]), (1, [_]), (2, [_])]) (rs := [_, _, _]) ps88_3 Z Z Z Z Z<|fun i15 => zVzAo Z<|z6<|zb<|zSr<|zVzFF jm Z jn Z Z<|zVzLf jz Z<|zVGvlenM j9 Z<|zVzMi Z<|z6<|zg<|y3 (γ := Nat × Nat) [2, 3, 17, 18] (fun g => [(5, .own g.2 (phiLk f p g.1).length), (19, .int .i64 g.1)]) (fun g => [(g.2, .grow 1 9 ((phiLk f p g.1).map encS).flatten)]) (fun g => g.1 ≤ p.args.length) (fun g => p.args.length - g.1) (0, i15) zR2 ⟨_, (.refl _), by rw [show phiLk f p 0 = [f.vars[p.dst.toNat].name, eqS, phiS] by unfold phiLk; rw [d4]; rfl]; rfl⟩ (qg _) ?_
 rintro ⟨k, i⟩ hk
 try dsimp only at *
 refine zSr<|zVGvlss Z Z<|z6<|zb<|zr Z (fun ck=>?_) (fun ck=>?_)
 ·have hk2 : k < p.args.length := by simp at ck; omega
  have hk3 : k < p.from_.length := by omega
  obtain ⟨b1, b2, b3, b4⟩ := hasB_get (g5 _ (qh hk3))
  obtain ⟨v1, v2, v3, v4⟩ := has_get (g4 _ (qh hk2))
  have hkl := phiLk_len (f := f) (p := p) (k := k) (by omega) (by omega)
  refine zf<|zb<|zg<|zSr<|zVzMi Z<|z8 (zIM k j9 jd Z Z Z (qd hk2))<|zVzLi jr Z<|zVzAi Z<|zVzAi Z<|z6<|zw (fun j => false) (by kernel_rfl) Z (zu (.rest _))<|zTk 0 Z (zMo Z)<|zTk 1 Z (zFF jc Z Z2 Z Z)<|zTk 2 Z (zLf Ze Z)<|zTk 3 Z (zFF jm Z jn Z Z)<|zTk 4 Z (zLf jz Z)<|zTk 5 Z (zMi Z)<|zTk 6 Z (zIM k j9 jd Z Z Z (qd hk3))<|zTk 7 Z (zLi jr Z)<|zTk 8 Z (yi (j := (p.from_[k]).toNat) jo jt Z Z (by omega) b2)<|zTk 9 Z (zFF ja Z jx Z Z)<|zTk 10 Z (ya (c := .str _) Z5 Z)<|zTk 11 Z (zFF jc Z Z9 Z Z)<|zTk 12 Z (zLf Zn Z)<|zTk 13 Z (zMi Z)<|zTk 14 Z (yi (j := (p.args[k]).toNat) js Zd Z Z (by omega) v2)<|zTk 15 Z (zFF Zf Z jx Z Z)<|zTk 16 Z (ya (c := .str _) Z5 Z)<|zOn 17 Z<|zl (rows := [[_], [_]]) ps88_2 Z Z Z Z Z<|z6<|zOn 18 Z<|zy (k := 1) jh type9 Z Z Z Z Z (fun _ => .head) (by rw [grow_len (k := 1) (fun _ => rfl)]) (by decide) Z (by show (_ + 2) * 16 ≤ _; omega) (by show _ + 2 ≤ _; omega)<|fun i42 => z6<|zTk 19 Z (zAo Z)<|zDn<|zRg<|zVzAd Z Z<|zVzMi Z<|z6 ?_
  exact ⟨(k + 1, i42), zR4, ⟨congrArg (AV.own i42) (by dsimp only; rw [phiLk_app hk3 hk2]; simp), rfl, trivial⟩, ⟨_, (.refl _), by dsimp only; rw [← grow_push2 (enc := encS) (phiLk_app hk3 hk2), b4, v4]; rfl⟩, hk2, by dsimp only; omega⟩
 ·have hkn : k = p.args.length := by simp at ck; omega
  subst hkn
  rw [phiLk_full g2]
  refine zt (yw (t := 5) (rows := (phiL f p).map encS) Z .head (by intro r hr; obtain ⟨x, _, rfl⟩ := List.mem_map.1 hr; rfl) (by decide) (by simp))<|y2<|zSr<|zVzMf Z<|zd (join_spec (phiL f p) _ (by omega) (by show (Lib.join _ [32]).length ≤ _; omega)) Z<|z8 (y8 (v := .str _) Z)<|z6<|ze<|zi (x := .str _) Z ?_
  rfl
theorem term_eq {f : PFunc} {t : PTerm} (h : termOK f t = true) : termLine f t = lineS (termL f t) := by
 unfold termLine termL
 rw [if_pos h]
 by_cases k0 : t.kind = 0
 ·rw [if_pos k0, if_pos k0, lineS_two, show (⟨#[106, 117, 109, 112, 32]⟩ : ByteArray) = jumpS ++ spc by decide]
 ·rw [if_neg k0, if_neg k0]
  by_cases k1 : t.kind = 1
  ·rw [if_pos k1, if_pos k1, lineS_four, show (⟨#[105, 102, 32]⟩ : ByteArray) = ifS ++ spc by decide]
  ·rw [if_neg k1, if_neg k1, lineS_two, show (⟨#[114, 101, 116, 32]⟩ : ByteArray) = retS ++ spc by decide]
theorem termL_sz {f : PFunc} (hT : TOk f) {t : PTerm} (h : termOK f t = true) : (lineS (termL f t)).size ≤ 5000 := by
 have hb : ∀ x ∈ termL f t, x.size ≤ 1000 := by
  intro x hx
  unfold termL at hx
  by_cases k0 : t.kind = 0
  ·rw [if_pos k0] at hx
   simp only [List.mem_cons, List.not_mem_nil, or_false] at hx
   rcases hx with rfl | rfl
   ·decide
   ·exact bname_sz hT (termOK_0 h k0)
  ·rw [if_neg k0] at hx
   by_cases k1 : t.kind = 1
   ·rw [if_pos k1] at hx
    obtain ⟨t1, t2, t3⟩ := termOK_1 h k1
    simp only [List.mem_cons, List.not_mem_nil, or_false] at hx
    rcases hx with rfl | rfl | rfl | rfl
    ·decide
    ·exact vname_sz hT t1
    ·exact bname_sz hT t2
    ·exact bname_sz hT t3
   ·rw [if_neg k1] at hx
    simp only [List.mem_cons, List.not_mem_nil, or_false] at hx
    rcases hx with rfl | rfl
    ·decide
    ·exact vname_sz hT (termOK_2 h k0 k1)
 have hl : (termL f t).length ≤ 4 := by unfold termL; split <;> (try split) <;> simp
 have := lineS_size hb
 have h2 : (termL f t).length * (1000 + 1) ≤ 4 * 1001 := Nat.mul_le_mul hl (Nat.le_refl _)
 omega
theorem pairW_sz {v : PVar} (hv : v.name.size ≤ 1000) (ht : 0 ≤ v.ty ∧ v.ty ≤ 2) : (pairW v).size ≤ 1100 := by
 have := ty_size ht
 unfold pairW
 rw [app_size, app_size]
 have : colon.size = 1 := rfl
 omega
theorem headLk_app {f : PFunc} {k : Nat} (h : k < f.vars.length) : headLk f (k + 1) = headLk f k ++ [pairW f.vars[k]] := by
 unfold headLk; rw [qe h, qo]; rfl
theorem text_bad (f : PFunc) (hf : okFunc f) (hsm : small f) (h : shapedB f = false) (hL : Letters E) : AFun prog E 20 [.agg (encF f)] (.tup [.str ⟨#[]⟩, .int .i64 3]) := by
 have hn := hsm.names
 obtain ⟨s1, s2, s3, _, _⟩ := id hsm
 refine zk func20 Z (by decide) Z<|zSr<|y6 (cs := _) Z Z Z<|z8 (y8 (v := .str _) Z)<|zVzAi Z<|z6<|zb<|zSr<|zVGvloadWF ju jj Z Z<|zd (Shaped_spec _ (by assumption) (by omega) (by omega) (by omega) (by assumption) hL) Z<|zVGvnot Z<|z6<|yh Z (by simp [h])<|zSr<|z8 (y8 (v := .str _) Z)<|zVzAi Z<|z6<|ze<|yp (x := .str _) (y := .int _ _) Z Z ?_
 rfl
def capT (s : ByteArray) : ByteArray := if 16384 < s.size then ⟨#[]⟩ else s
def capE (s : ByteArray) : Int := if 16384 < s.size then 4 else 0
set_option maxHeartbeats 4000000 in
theorem text_good (f : PFunc) (hS : ShapedP f) (hT : TOk f) (hN : NumsOk f) (hsm : small f) (hP : Pows E) (hL : Letters E) :
  ACall prog E 20 [.agg (encF f)] [] (fun x O => ∃ _ : Unit, x = .tup [.str (capT (textF f)), .int .i64 (capE (textF f))] ∧ Left O [] ∧ True) := by
 have hfo := hsm.ok
 have hn := hsm.names
 obtain ⟨s1, s2, s3, _, _⟩ := id hsm
 obtain ⟨hf, hu, hb, hne⟩ := shaped_ok hS
 have hpl : f.params.length ≤ f.vars.length := by have s1 := hS.1; unfold bad1 at s1; simp at s1; omega
 have hvl := hT.vars
 have hbl := hT.blks
 have hsh : shapedB f = true := by rw [shapedB_eq]; exact qq hS
 have ssp : spc.size = 1 := rfl
 have snl : nl.size = 1 := rfl
 refine zk func20 Z (by decide) Z<|zSr<|y6 (cs := _) Z Z Z<|z8 (y8 (v := .str _) Z)<|zVzAi Z<|z6<|zb<|zSr<|zVGvloadWF ju jj Z Z<|zd (Shaped_spec _ (by assumption) (by omega) (by omega) (by omega) (by assumption) hL) Z<|zVGvnot Z<|z6<|yc Z (by simp [hsh])<|zf<|zSr<|zq (cs := [.raw (.pointer none), .raw (.slice none 0 0)]) zeroValue87 Z Z<|fun i4 => z6<|adoptC_wp (off := 1) (k := 1) (T := 5) (fun _ => .head) Z<|fun jb => zSr<|z8 (Gv.func Z Z)<|z8 (y8 (v := .fn _ _ _) Z)<|z6<|zSr<|AOps.buildSliceO (cps := [(0, [_])]) (rs := [_]) ps88_1 Z Z Z Z Z<|fun i20 => zVzAo Z<|z6<|zb<|zSr<|zVzFF jc Z jn Z Z<|zVzLf jz Z<|zVGvlenM j9 Z<|zVzMi Z<|z6<|zg<|y3 (γ := Nat × Nat) [1, 4, 5, 23] (fun g => [(6, .own g.2 (1 + g.1)), (24, .int .i64 g.1)]) (fun g => [(g.2, .grow 1 9 ((headLk f g.1).map encS).flatten), (jb, .grow 1 5 []), (i4, .cells 87 [.raw (.pointer none), .own jb 0])]) (fun g => g.1 ≤ f.params.length) (fun g => f.params.length - g.1) (0, i20) zR2 zLe (qg _) ?_
 rintro ⟨k, i⟩ hk
 try dsimp only at *
 refine zSr<|zVGvlss Z Z<|z6<|zb<|zr Z (fun ck=>?_) (fun ck=>?_)
 ·have hk2 : k < f.params.length := by simp at ck; omega
  have hk3 : k < f.vars.length := by omega
  have hv := hf.vars _ (qh hk3)
  have hvs := hT.vn _ (qh hk3)
  have hkl : (headLk f k).length = 1 + k := by unfold headLk; rw [List.length_cons, qk, qp]; omega
  refine zf<|zb<|zg<|zSr<|zVzMi Z<|zVzAi Z<|z6<|zRg<|zVzMo Z<|zVzFF jc Z Z9 Z Z<|zVzLf Zn Z<|zVzMi Z<|z8 (zIM k js Zd Z Z Z (qd hk3))<|zVGvloadWF Xg Zd Z Z<|zd (variable_spec _ hvs hv.2) Z<|zl (rows := [[_]]) ps88_1 Z Z Z Z Z<|zy (k := 1) jh type9 Z Z Z Z Z (fun _ => .head) (by rw [grow_len (k := 1) (fun _ => rfl), hkl]) (by decide) Z (by show (_ + 1) * 16 ≤ _; omega) (by show _ + 1 ≤ _; omega)<|fun i35 => zVzAo Z<|z6<|zRg<|zVzAd Z Z<|zVzMi Z<|z6 ?_
  exact ⟨(k + 1, i35), zR4, zR2, ⟨_, (.refl _), by dsimp only; rw [← grow_push (enc := encS) (headLk_app hk3)]; rfl⟩, hk2, by dsimp only; omega⟩
 ·have hkn : k = f.params.length := by simp at ck; omega
  subst hkn
  have hhead : headLk f f.params.length = headL f := rfl
  rw [hhead]
  have hhl : (headL f).length = 1 + f.params.length := by rw [← hhead]; unfold headLk; rw [List.length_cons, qk, qp]; omega
  have hhs := lineS_size (ws := headL f) (m := 1100) (fun x hx => by
   unfold headL at hx
   rcases List.mem_cons.1 hx with rfl | hx
   ·decide
   ·obtain ⟨v, hv, rfl⟩ := List.mem_map.1 hx
    have hv := List.mem_of_mem_take hv
    exact pairW_sz (hT.vn v hv) (hf.vars v hv).2)
  have hhm : (headL f).length * (1100 + 1) ≤ 1001 * 1101 := Nat.mul_le_mul (by omega) (Nat.le_refl _)
  refine zt (yw (t := 6) (rows := (headL f).map encS) Z .head (by intro r hr; obtain ⟨x, _, rfl⟩ := List.mem_map.1 hr; rfl) (by decide) (by rw [qk]; exact hhl))<|zt (zn (zp .t1))<|y2<|zSr<|z8 (y9 (v := .fn _ _ _) Z)<|zVzMf Z<|AOps.callVA Z Z (zu (.l (.l (.rest _)))) ((line_new ⟨#[]⟩ (headL f) (by omega) (by omega) (by decide)).exact) ?_
  rintro r39 O39 ⟨j0, rfl, rfl, _⟩
  obtain ⟨ds, hds⟩ : ∃ ds, f.vars.drop f.params.length = ds := ⟨_, rfl⟩
  have hdl : ds.length ≤ 1000 := by rw [← hds, List.length_drop]; omega
  obtain ⟨a0, ha0⟩ : ∃ a0, (⟨#[]⟩ : ByteArray) ++ (lineS (headL f) ++ nl) = a0 := ⟨_, rfl⟩
  rw [ha0]
  have ha0s : a0.size ≤ 1102103 ∧ 1 ≤ a0.size := by rw [← ha0, app_size, app_size]; have : (⟨#[]⟩ : ByteArray).size = 0 := rfl; omega
  have ha0u : a0 = unB [headL f] := by rw [← ha0]; show _ = (lineS (headL f) ++ nl) ++ unB []; show _ = (lineS (headL f) ++ nl) ++ ByteArray.empty; rw [ByteArray.append_empty]; exact ByteArray.empty_append
  refine z6<|zb<|zSr<|zVzFF jc Z Z9 Z Z<|zVzLf Zn Z<|zVzFF jc Z jn Z Z<|zVzLf jz Z<|zVGvlenM j9 Z<|z8 (Gv.cutLoM (j := f.params.length) js Zd Z Z Z hpl)<|zVGvlenM js Z<|zVzMi Z ?_
  rw [hds]
  refine z6<|zg<|y3 (γ := Nat × Nat × ByteArray) [1, 4, 5, 45, 46] (fun g => [(47, .int .i64 g.1)]) (fun g => [(i4, .cells 87 [.po i4 0, .own g.2.1 g.2.2.size]), (g.2.1, .grow 1 5 (strAV g.2.2))]) (fun g => g.1 ≤ ds.length ∧ g.2.2 = unB (headL f :: (ds.take g.1).map varL) ∧ g.2.2.size ≤ 1102103 + g.1 * 3000 ∧ 1 ≤ g.2.2.size) (fun g => ds.length - g.1) (0, j0, a0) zR1 zLe (⟨qg _, ha0u, by dsimp only; omega, by dsimp only; omega⟩) ?_
  rintro ⟨k, j, acc⟩ ⟨hk, hacc, hsz, hnz0⟩
  try dsimp only at *
  refine zSr<|zVGvlss Z Z<|z6<|zb<|zr Z (fun ck=>?_) (fun ck=>?_)
  ·have hk2 : k < ds.length := by simp at ck; omega
   have hvm : ds[k] ∈ f.vars := List.mem_of_mem_drop (by rw [hds]; exact qh hk2)
   have hv := hf.vars _ hvm
   have hvs := hT.vn _ hvm
   have hvl2 := lineS_size (ws := varL ds[k]) (m := 1100) (fun x hx => by
    unfold varL at hx
    simp only [List.mem_cons, List.not_mem_nil, or_false] at hx
    rcases hx with rfl | rfl
    ·decide
    ·exact pairW_sz hvs hv.2)
   have hvl3 : (varL ds[k]).length = 2 := rfl
   rw [hvl3] at hvl2
   refine zf<|zb<|zg<|zSr<|z8 (zIM k js Zd Z Z Z (qd hk2))<|zVGvloadWF Xg Zd Z Z<|zq (cs := [.str ⟨#[]⟩, .int .i64 0]) Yz Z Z<|fun i9 => zm Zd Z Z Z Z Z Z .head Z<|z6<|zRg<|z8 (y9 (v := .fn _ _ _) Z)<|z8 (yg Xg Zd Z ⟨_, .head⟩ Z)<|zd (variable_spec _ hvs hv.2) Z<|zl (rows := [[_], [_]]) ps88_2 Z Z Z Z Z<|AOps.callVA Z Z (zu (.r (.l (.l (.rest _))))) ((line_used acc (varL ds[k]) (by omega) (by omega) (by omega)).exact) ?_
   rintro r55 O55 ⟨j2, rfl, rfl, _⟩
   refine z6<|zRg<|zVzAd Z Z<|zVzMi Z<|z6 ?_
   exact ⟨(k + 1, j2, acc ++ (lineS (varL ds[k]) ++ nl)), zR5, zR1, ⟨_, (.keep (.keep (.drop (.refl _)))), rfl⟩, ⟨hk2, by dsimp only; rw [qe hk2, qo, List.map_cons, List.map_nil, ← List.cons_append, unB_app, ← hacc], by dsimp only; rw [app_size, app_size]; omega, by dsimp only; rw [app_size]; omega⟩, by dsimp only; omega⟩
  ·have hkn : k = ds.length := by simp at ck; omega
   subst hkn
   rw [qi] at hacc
   obtain ⟨P0, hP0⟩ : ∃ P0, headL f :: ds.map varL = P0 := ⟨_, rfl⟩
   have hlines : linesF f = P0 ++ f.blocks.flatMap (blkL f) := by rw [← hP0, ← hds]; rfl
   rw [hP0] at hacc
   refine y2<|zb<|zSr<|zVzFF jc Z Z2 Z Z<|zVzLf Ze Z<|zVGvlenM jo Z<|zVzMi Z<|z6<|zg<|y3 (γ := Nat × Nat × ByteArray) [1, 4, 5, 58, 59] (fun g => [(60, .int .i64 g.1)]) (fun g => [(i4, .cells 87 [.po i4 0, .own g.2.1 g.2.2.size]), (g.2.1, .grow 1 5 (strAV g.2.2))]) (fun g => g.1 ≤ f.blocks.length ∧ g.2.2 = unB (P0 ++ (f.blocks.take g.1).flatMap (blkL f)) ∧ g.2.2.size ≤ 5000000 + g.1 * 20000000000 ∧ 1 ≤ g.2.2.size) (fun g => f.blocks.length - g.1) (0, j, acc) zR1 zLe (⟨qg _, by dsimp only; rw [hacc]; simp, by dsimp only; omega, by dsimp only; omega⟩) ?_
   rintro ⟨k, j, acc3⟩ ⟨hk3, hacc3, hsz3, hnz⟩
   try dsimp only at *
   refine zSr<|zVGvlss Z Z<|z6<|zb<|zr Z (fun cb=>?_) (fun cb=>?_)
   ·have hk4 : k < f.blocks.length := by simp at cb; omega
    obtain ⟨b, hbk⟩ : ∃ b, f.blocks[k] = b := ⟨_, rfl⟩
    have hget : f.blocks[k]? = some b := by rw [qd hk4, hbk]
    have hbm : b ∈ f.blocks := hbk ▸ qh hk4
    obtain ⟨hbn, hb1, hb2, hb3⟩ := hf.blks b hbm
    have hbs := hT.bn b hbm
    have hTb := hT.each b hbm
    have hnb := hN b hbm
    have hp1 := hTb.phis
    have hp2 := hTb.insts
    have hbl2 := lineS_size (ws := [blockS, b.name]) (m := 1000) (fun x hx => by
     simp only [List.mem_cons, List.not_mem_nil, or_false] at hx
     rcases hx with rfl | rfl
     ·decide
     ·exact hbs)
    have hbl3 : ([blockS, b.name] : List ByteArray).length = 2 := rfl
    rw [hbl3] at hbl2
    obtain ⟨Q, hQ⟩ : ∃ Q, P0 ++ (f.blocks.take k).flatMap (blkL f) ++ [[blockS, b.name]] = Q := ⟨_, rfl⟩
    refine zf<|zb<|zg<|zSr<|z8 (zIM k jo jt Z Z Z hget)<|zVGvloadWF Zq jt Z Z<|zq (cs := [.str ⟨#[]⟩, .raw (.slice none 0 0), .raw (.slice none 0 0), .int .i64 0, .int .i64 0, .int .i64 0, .int .i64 0]) Zb Z Z<|fun i11 => zm jt Z Z Z Z Z Z .head Z<|z6<|zSr<|z8 (y9 (v := .fn _ _ _) Z)<|z8 (zc ja Z jx (by decide) Z Z)<|z8 (zj (c := .str _) Z5 Z ⟨_, .head⟩ Z)<|zl (rows := [[_], [_]]) ps88_2 Z Z Z Z Z<|AOps.callVA Z Z (zu (.r (.l (.l (.rest _))))) ((line_used acc3 [blockS, b.name] (by omega) (by omega) (by omega)).exact) ?_
    rintro r68 O68 ⟨j2, rfl, rfl, _⟩
    obtain ⟨a4, ha4⟩ : ∃ a4, acc3 ++ (lineS [blockS, b.name] ++ nl) = a4 := ⟨_, rfl⟩
    have ha4s : a4.size ≤ 5003000 + k * 20000000000 ∧ 1 ≤ a4.size := by rw [← ha4, app_size, app_size]; omega
    have ha4u : a4 = unB Q := by rw [← ha4, ← hQ, unB_app, ← hacc3]
    rw [ha4]
    refine z6<|zb<|zSr<|z8 (zc ja Z Za (by decide) Z Z)<|z8 (zj (c := .fro _ _) Zu Z ⟨_, .t2⟩ Z)<|zVGvlenM jw Z<|zVzMi Z<|z6<|zg<|y3 (γ := Nat × Nat × ByteArray) [1, 4, 5, 11, 58, 59, 60, 70, 71] (fun g => [(72, .int .i64 g.1)]) (fun g => [(i4, .cells 87 [.po i4 0, .own g.2.1 g.2.2.size]), (g.2.1, .grow 1 5 (strAV g.2.2)), (i11, .cells 49 (encBlk b))]) (fun g => g.1 ≤ b.phis.length ∧ g.2.2 = unB (Q ++ (b.phis.take g.1).map (phiL f)) ∧ g.2.2.size ≤ 5003000 + k * 20000000000 + g.1 * 5006000 ∧ 1 ≤ g.2.2.size) (fun g => b.phis.length - g.1) (0, j2, a4) zR1 zLe (⟨qg _, by dsimp only; rw [ha4u]; simp, by dsimp only; omega, by dsimp only; omega⟩) ?_
    rintro ⟨m, j, acc4⟩ ⟨hm, hacc4, hsz4, hnz4⟩
    try dsimp only at *
    refine zSr<|zVGvlss Z Z<|z6<|zb<|zr Z (fun cm=>?_) (fun cm=>?_)
    ·have hm2 : m < b.phis.length := by simp at cm; omega
     obtain ⟨p, hpm⟩ : ∃ p, b.phis[m] = p := ⟨_, rfl⟩
     have hgp : b.phis[m]? = some p := by rw [qd hm2, hpm]
     have hpmem : p ∈ b.phis := hpm ▸ qh hm2
     have hP2 := hb1 p hpmem
     have hpa := hTb.args p hpmem
     have hps := lineS_size (phiL_sz hT hP2)
     have hpl2 := phiL_len (f := f) hP2.2.1 hpa.1
     have hpm2 : (phiL f p).length * (1000 + 1) ≤ 5000 * 1001 := Nat.mul_le_mul hpl2 (Nat.le_refl _)
     refine zf<|zb<|zg<|zSr<|z8 (zIM m jw Z0 Z Z Z hgp)<|zVGvloadWF Zv Z0 Z Z<|zq (cs := [.int .i64 0, .raw (.slice none 0 0), .raw (.slice none 0 0)]) Zk Z Z<|fun i13 => zm Z0 Z Z Z Z Z Z .head Z<|z6<|zRg<|z8 (y9 (v := .fn _ _ _) Z)<|zVGvloadWF ju jj Z Z<|z8 (yg Zv Z0 Z ⟨_, .head⟩ Z)<|zd (joinedT_spec f p hT hP2 hpa.1) Z<|zl (rows := [[_]]) ps88_1 Z Z Z Z Z<|AOps.callVA Z Z (zu (.r (.l (.l (.r (.rest _)))))) ((line_used acc4 [lineS (phiL f p)] (by simp) (by rw [lineS_one]; omega) (by omega)).exact) ?_
     rintro r81 O81 ⟨j3, rfl, rfl, _⟩
     refine z6<|zRg<|zVzAd Z Z<|zVzMi Z<|z6 ?_
     exact ⟨(m + 1, j3, acc4 ++ (lineS [lineS (phiL f p)] ++ nl)), zR9, zR1, ⟨_, (.keep (.keep (.drop (.refl _)))), rfl⟩, ⟨hm2, by dsimp only; rw [qe hm2, hpm, qo, List.map_cons, List.map_nil, ← qf, unB_app, ← hacc4, lineS_one], by dsimp only; rw [app_size, app_size, lineS_one]; omega, by dsimp only; rw [app_size]; omega⟩, by dsimp only; omega⟩
    ·have hmn : m = b.phis.length := by simp at cm; omega
     subst hmn
     rw [qi] at hacc4
     obtain ⟨Q2, hQ2⟩ : ∃ Q2, Q ++ b.phis.map (phiL f) = Q2 := ⟨_, rfl⟩
     rw [hQ2] at hacc4
     refine y2<|zb<|zSr<|z8 (zc ja Z Zi (by decide) Z Z)<|z8 (zj (c := .fro _ _) Y1 Z ⟨_, .t2⟩ Z)<|zVGvlenM Z1 Z<|zVzMi Z<|z6<|zg<|y3 (γ := Nat × Nat × ByteArray) [1, 4, 5, 11, 58, 59, 60, 84, 85] (fun g => [(86, .int .i64 g.1)]) (fun g => [(i4, .cells 87 [.po i4 0, .own g.2.1 g.2.2.size]), (g.2.1, .grow 1 5 (strAV g.2.2)), (i11, .cells 49 (encBlk b))]) (fun g => g.1 ≤ b.insts.length ∧ g.2.2 = unB (Q2 ++ (b.insts.take g.1).map (wordsOf f)) ∧ g.2.2.size ≤ 15003000000 + k * 20000000000 + g.1 * 21000 ∧ 1 ≤ g.2.2.size) (fun g => b.insts.length - g.1) (0, j, acc4) zR1 zLe (⟨qg _, by dsimp only; rw [hacc4]; simp, by dsimp only; omega, by dsimp only; omega⟩) ?_
     rintro ⟨m, j, acc5⟩ ⟨hm, hacc5, hsz5, hnz5⟩
     try dsimp only at *
     refine zSr<|zVGvlss Z Z<|z6<|zb<|zr Z (fun ci=>?_) (fun ci=>?_)
     ·have hm2 : m < b.insts.length := by simp at ci; omega
      obtain ⟨x, hxm⟩ : ∃ x, b.insts[m] = x := ⟨_, rfl⟩
      have hgx : b.insts[m]? = some x := by rw [qd hm2, hxm]
      have hxmem : x ∈ b.insts := hxm ▸ qh hm2
      have hxP := hb2 x hxmem
      obtain ⟨hxl, hxs⟩ := refLine_sz hT hxP (hnb x hxmem)
      have hxe : instLine f x = lineS (wordsOf f x) := by rw [line_eq hxP, inst_line_eq hxP]
      have hxz : (instLine f x).size ≤ 20000 := by rw [line_eq hxP]; exact hxs
      refine zf<|zb<|zg<|zSr<|z8 (zIM m Z1 Z7 Z Z Z hgx)<|zVGvloadWF Y3 Z7 Z Z<|zq (cs := [.int .i64 0, .int .i64 0, .raw (.slice none 0 0), .int .i64 0]) Zt Z Z<|fun i15 => zm Z7 Z Z Z Z Z Z .head Z<|z6<|zRg<|z8 (y9 (v := .fn _ _ _) Z)<|zVGvloadWF ju jj Z Z<|z8 (yg Y3 Z7 Z ⟨_, .head⟩ Z)<|zd (Inst_spec f x (by omega) hT.vn (fun _ => hnb x hxmem) hP) Z<|zl (rows := [[_]]) ps88_1 Z Z Z Z Z<|AOps.callVA Z Z (zu (.r (.l (.l (.r (.rest _)))))) ((line_used acc5 [instLine f x] (by simp) (by rw [lineS_one]; omega) (by omega)).exact) ?_
      rintro r95 O95 ⟨j3, rfl, rfl, _⟩
      refine z6<|zRg<|zVzAd Z Z<|zVzMi Z<|z6 ?_
      exact ⟨(m + 1, j3, acc5 ++ (lineS [instLine f x] ++ nl)), zR9, zR1, ⟨_, (.keep (.keep (.drop (.refl _)))), rfl⟩, ⟨hm2, by dsimp only; rw [qe hm2, hxm, qo, List.map_cons, List.map_nil, ← qf, unB_app, ← hacc5, lineS_one, hxe], by dsimp only; rw [app_size, app_size, lineS_one]; omega, by dsimp only; rw [app_size]; omega⟩, by dsimp only; omega⟩
     ·have hmn : m = b.insts.length := by simp at ci; omega
      subst hmn
      rw [qi] at hacc5
      have htz := termL_sz hT hb3
      have hte := term_eq hb3
      have hnext : P0 ++ (f.blocks.take (k + 1)).flatMap (blkL f) = (Q2 ++ b.insts.map (wordsOf f)) ++ [termL f b.term] := by
       rw [qe hk4, hbk, List.flatMap_append, ← hQ2, ← hQ]; simp [blkL]
      refine y2<|zRg<|z8 (y9 (v := .fn _ _ _) Z)<|zVGvloadWF ju jj Z Z<|z8 (zc ja Z Z4 (by decide) Z Z)<|z8 (Gv.loadAC (l := [_, _, _, _]) Ym Z4 Z ⟨_, .t2⟩ Z Z)<|zd (Term_spec f b.term hsm) Z<|zl (rows := [[_]]) ps88_1 Z Z Z Z Z<|AOps.callVA Z Z (zu (.l (.l (.r (.rest _))))) ((line_used acc5 [termLine f b.term] (by simp) (by rw [lineS_one, hte]; omega) (by omega)).exact) ?_
      rintro r103 O103 ⟨j3, rfl, rfl, _⟩
      refine z6<|zRg<|zVzAd Z Z<|zVzMi Z<|z6 ?_
      exact ⟨(k + 1, j3, acc5 ++ (lineS [termLine f b.term] ++ nl)), zR5, zR1, ⟨_, (.keep (.keep (.drop (.refl _)))), rfl⟩, ⟨hk4, by dsimp only; rw [hnext, unB_app, ← hacc5, lineS_one, hte], by dsimp only; rw [app_size, app_size, lineS_one, hte]; omega, by dsimp only; rw [app_size]; omega⟩, by dsimp only; omega⟩
   ·have hkn : k = f.blocks.length := by simp at cb; omega
    subst hkn
    rw [qi] at hacc3
    have he : acc3 = textF f := by rw [hacc3, ← hlines]; rfl
    have hsz5 : acc3.size ≤ 5000000 + 100 * 20000000000 := Nat.le_trans hsz3 (Nat.add_le_add_left (Nat.mul_le_mul_right _ hbl) _)
    refine y2<|zb<|zSr<|ye Z (zu (.l (.l (.rest _)))) (bldLen_spec acc3) ?_
    rintro r105 O105 ⟨rfl, rfl⟩
    refine z8 (yr Z Z)<|z6<|zr Z (fun ct=>?_) (fun ct=>?_)
    ·refine zSr<|z8 (y8 (v := .str _) Z)<|zVzAi Z<|z6<|ze<|yp (x := .str _) (y := .int _ _) Z Z ?_
     exact ⟨(), by unfold capT capE; rw [← he, if_pos (by omega), if_pos (by omega)], Left.none0 _, trivial⟩
    ·refine zf<|zSr<|ye Z (zu (.l (.l (.rest _)))) (bldString_spec acc3 (by omega) (by omega)) ?_
     rintro r107 O107 ⟨rfl, rfl⟩
     refine z8 (y8 (v := .str _) Z)<|zVzAi Z<|z6<|ze<|yp (x := .str _) (y := .int _ _) Z Z ?_
     exact ⟨(), by unfold capT capE; rw [← he, if_neg (by omega), if_neg (by omega)], Left.none0 _, trivial⟩
end Go.Proofs.YtbkgklpihnfnjaaGreatDoor
namespace Go.Proofs.YtbkgklpihnfnjaaGreatDoor
open Go.Proofs.Tryz
open Go.Proofs
def Imp (x y : AV) : Prop := ∀ I v, RepV I x v → RepV I y v
def ImpL (xs ys : List AV) : Prop := ∀ I vs, RepL I xs vs → RepL I ys vs
theorem Imp.refl (x : AV) : Imp x x := fun _ _ h => h
theorem Imp.nil (k : Nat) : Imp (.raw (.slice none 0 0)) (.fro k []) := fun _ _ h => ⟨none, 0, 0, h, rfl, Nat.le_refl _, fun _ => rfl, trivial⟩
theorem ImpL.nil : ImpL [] [] := fun _ _ h => h
theorem ImpL.cons {x y : AV} {xs ys : List AV} (h : Imp x y) (hs : ImpL xs ys) : ImpL (x :: xs) (y :: ys) := fun I _ ⟨v, us, e, h1, h2⟩ => ⟨v, us, e, h I v h1, hs I us h2⟩
theorem Imp.agg {xs ys : List AV} (h : ImpL xs ys) : Imp (.agg xs) (.agg ys) := fun I _ ⟨vs, e, h1⟩ => ⟨vs, e, h I vs h1⟩
end Go.Proofs.YtbkgklpihnfnjaaGreatDoor
namespace Go.Proofs.YtbkgklpihnfnjaaGreatDoor
open Go.Proofs.Tryz
open Go.Proofs Go.Lib Go.Shelf Go.RowKit
theorem ps22_3 : PlacesS prog 22 38 3 2 [.str ⟨#[]⟩, .int .i64 0, .str ⟨#[]⟩, .int .i64 0, .str ⟨#[]⟩, .int .i64 0] := ⟨_, js, Zd, Yz, by decide, by decide, by kernel_rfl⟩
theorem pl46 : Places prog 46 #[(0, 1), (1, 1), (2, 2)] [.int .i64 0, .int .i64 0, .int .i64 0, .int .i64 0] := ⟨_, _, je, zeroValue46, fun w => by kernel_rfl, rfl⟩
variable {E : World}
set_option maxRecDepth 20000
theorem ptext_spec (f : PFunc) (hS : ShapedP f) (hT : TOk f) (hN : NumsOk f) (hsm : small f) (hP : Pows E) (hL : Letters E) : AFun prog E 20 [.agg (encF f)] (.tup [.str (capT (textF f)), .int .i64 (capE (textF f))]) :=
 (text_good f hS hT hN hsm hP hL).mono fun _ _ ⟨_, e, _, _⟩ => e
theorem can_tok {f : PFunc} (hf : small f) (hT : typedB f = true) (hJ : JoinP f) : TOk (canD f) := by
 have hc := can_small hT hJ hf
 have hS := (typedS (can_typed hT hJ).1).1
 unfold bad1 at hS
 simp only [Bool.or_eq_false_iff, decide_eq_false_iff_not] at hS
 exact ⟨hc.1, by omega, hc.2.2.2.1, fun b hb => (hc.2.2.2.2 b hb).1, fun b hb => by
  obtain ⟨g1, g2, g3, g4, g5⟩ := hc.2.2.2.2 b hb
  exact ⟨by omega, by omega, fun p hp => by have := g4 p hp; omega⟩⟩
theorem can_nums {f : PFunc} (hT : typedB f = true) (hN : NumsOk f) : NumsOk (canD f) := fun b hb x hx => by
 obtain ⟨c, hc, rfl⟩ := List.mem_map.1 hb
 obtain ⟨q, hq, rfl⟩ := List.mem_map.1 hc
 obtain ⟨y, hy, rfl⟩ := List.mem_map.1 hx
 have hm : q.1 ∈ ord f := by
  obtain ⟨k, hk⟩ := List.getElem?_of_mem hq
  rw [List.getElem?_zipIdx] at hk
  cases hg : (ord f)[k]? with
  | none => rw [hg] at hk; cases hk
  | some z => rw [hg] at hk; cases hk; exact qm hg
 have hr := order_rng (typedE hT).grph.toEOk hm
 exact hN _ (blkX_mem hr.1 hr.2) y hy
theorem ctext_good (f : PFunc) (hf : small f) (hN : NumsOk f) (hL : Letters E) (hPw : Pows E) (ht : typedB f = true) (hJ : JoinP f) : AFun prog E 7 [.agg (encF f)] (.tup [.str (capT (textF (canD f))), .int .i64 (capE (textF (canD f)))]) := by
 have hc := can_typed ht hJ
 refine zk func7 Z (by decide) Z<|zSr<|y6 (cs := _) Z Z Z<|z8 (y8 (v := .str _) Z)<|zVzAi Z<|z6<|zSr<|zVGvloadWF ju jj Z Z<|zd (canon_good f hf hL hPw ht hJ) Z<|z8 (zMu Z)<|z8 (yk (v := .agg _) Z Z)<|z8 (zXi Z Z)<|zq (cs := [.raw (.slice none 0 0), .raw (.slice none 0 0), .raw (.slice none 0 0)]) Zh Z Z<|fun i4 => zm jj Z Z Z Z Z Z .head Z<|y1 (yj (t := 4) Z .head)<|zVzAi Z<|z6<|zb<|zSr<|zVzMi Z<|zVGvneqI Z Z<|z6<|yc Z Z<|zf<|zSr<|zVGvloadWF ju jj Z Z<|zd (ptext_spec (canD f) (typedS hc.1) (can_tok hf ht hJ) (can_nums ht hN) (can_small ht hJ hf) hPw hL) Z<|z8 (yk (v := .str _) Z Z)<|z8 (zXi Z Z)<|z8 (y8 (v := .str _) Z)<|zVzAi Z<|z6<|ze<|yp (x := .str _) (y := .int _ _) Z Z ?_
 rfl
def exC : PFunc := ⟨[⟨⟨#[110]⟩, 0⟩, ⟨⟨#[107]⟩, 0⟩, ⟨⟨#[109]⟩, 0⟩], [0], [⟨⟨#[97]⟩, [], [⟨2, 2, [0, 0], 0⟩], ⟨2, 2, 0, 0⟩⟩]⟩
theorem exC_typed : typedB exC = true := by decide +kernel
theorem exC_join : JoinP exC := (joinedB_iff _).1 (by decide +kernel)
theorem exC_small : small exC := by unfold small exC; simp [smallBlk]; decide
theorem exC_text : textF (canD exC) = ⟨#[102, 117, 110, 99, 32, 118, 48, 58, 105, 110, 116, 10, 118, 97, 114, 32, 118, 49, 58, 105, 110, 116, 10, 98, 108, 111, 99, 107, 32, 98, 48, 10, 118, 49, 32, 61, 32, 97, 100, 100, 32, 118, 48, 32, 118, 48, 10, 114, 101, 116, 32, 118, 49, 10]⟩ := by decide +kernel
theorem lives18_spec (hL : Letters E) (hPw : Pows E) : AFun prog E 4 [] (.bool true) := by
 have ht := ctext_good (E := E) exC exC_small (fun b hb x hx => by
  cases hb with
  | head => cases hx with
   | head => exact ⟨by decide, by decide⟩
   | tail _ h => cases h
  | tail _ h => cases h) hL hPw exC_typed exC_join
 rw [exC_text] at ht
 have ht : AFun prog E 7 [.agg (encF exC)] (.tup [.str ⟨#[102, 117, 110, 99, 32, 118, 48, 58, 105, 110, 116, 10, 118, 97, 114, 32, 118, 49, 58, 105, 110, 116, 10, 98, 108, 111, 99, 107, 32, 98, 48, 10, 118, 49, 32, 61, 32, 97, 100, 100, 32, 118, 48, 32, 118, 48, 10, 114, 101, 116, 32, 118, 49, 10]⟩, .int .i64 0]) := ht
 refine zk func4 Z (by decide) Z<|zSr<|zVzAb Z<|z6<|zSr<|z8 (y4 (cps := [(0, [_])]) (rs := [_, .int .i64 0]) pl38 Z Z Z)<|z8 (y4 (cps := [(0, [_])]) (rs := [_, .int .i64 0]) pl38 Z Z Z)<|z8 (y4 (cps := [(0, [_])]) (rs := [_, .int .i64 0]) pl38 Z Z Z)<|zl (rows := [[_, _], [_, _], [_, _]]) ps22_3 Z Z Z Z Z<|zl (rows := [[_]]) ps23_1 Z Z Z Z Z<|zl (rows := [[_], [_]]) ps23_2 Z Z Z Z Z<|z8 (y4 (cps := [(0, [_]), (1, [_]), (2, [_])]) (rs := [_, _, _, .int .i64 0]) pl41 Z Z Z)<|zl (rows := [[_, _, _, _]]) ps42_1 Z Z Z Z Z<|z8 (y4 (cps := [(0, [_]), (1, [_])]) (rs := [_, _, .int .i64 0, .int .i64 0]) pl46 Z Z Z)<|z8 (y4 (cps := [(0, [_]), (2, [_]), (3, [_, _, _, _])]) (rs := [_, .raw (.slice none 0 0), _, _, _, _, _]) pl49 Z Z Z)<|y1 (GStep.slot (t := 13) Z (Imp.agg (.cons (.refl _) (.cons (.nil 3) (.cons (.refl _) (.cons (.refl _) (.cons (.refl _) (.cons (.refl _) (.cons (.refl _) .nil)))))))))<|zl (rows := [[_, _, _, _, _, _, _]]) ps24_1 Z Z Z Z Z<|z8 (y4 (cps := [(0, [_]), (1, [_]), (2, [_])]) (rs := [_, _, _]) pl26 Z Z Z)<|zq (cs := [.raw (.slice none 0 0), .raw (.slice none 0 0), .raw (.slice none 0 0)]) Zh Z Z<|fun i1 => zm jj Z Z Z Z Z Z .head Z<|y1 (yj (t := 1) Z .head)<|z6<|zSr<|zVGvloadWF ju jj Z Z<|zd (ht) Z<|z8 (zMu Z)<|z8 (yk (v := .str _) Z Z)<|z8 (zXi Z Z)<|z8 (y8 (v := .str _) Z)<|zVzAi Z<|z6<|zSr<|zVzMi Z<|zVGveqlI Z Z<|zVzMb Z<|za Z Z Z<|z8 (y9 (v := .str _) Z)<|za Z Z Z<|z8 (q8 Z Z)<|zVzPt Z Z Z ?_
 refine zVzAb Z<|z6<|ze<|zi (x := .bool _) Z ?_
 rfl
end Go.Proofs.YtbkgklpihnfnjaaGreatDoor
namespace Go.Proofs.YtbkgklpihnfnjaaGreatDoor
open Go.Proofs.Tryz
open Go.Proofs Go.Lib Go.Shelf Go.RowKit
variable {E : World}
set_option maxRecDepth 20000
theorem canonAgain_law (f : PFunc) (hw : wFunc f) (hN : NumsOk f) (hL : Letters E) (hPw : Pows E) (hV : Vars0 E) : AFun prog E 3 [.agg (encF f)] (.bool true) := by
 refine zk func3 Z (by decide) Z<|zSr<|y6 (cs := _) Z Z Z<|zVzAb Z<|z6<|zb<|zSr<|zd (lives18_spec hL hPw) Z<|zVGvnot Z<|zVzMb Z ?_
 by_cases c1 : lawJoin f = true
 ·obtain ⟨hf, tf, jf⟩ := lawJoin_small c1
  have hc := can_typed tf jf
  have hcs := can_small tf jf hf
  have hag := canon_good (E := E) (canD f) hcs hL hPw hc.1 hc.2
  rw [can_again tf jf] at hag
  have heq := equal_good (E := E) f (canD f) hf hcs hL hPw tf jf hc.1 hc.2
  rw [can_again tf jf] at heq
  refine za Z Z Z<|zVGvloadWF ju jj Z Z<|za Z Z Z<|zd (lawJoined_spec f hw hL) Z<|za Z Z Z<|zVGvnot Z<|zVzPf Z Z Z<|z6<|yc Z (by rw [c1]; rfl)<|zf<|zSr<|zVGvloadWF ju jj Z Z<|zd (canon_good f hf hL hPw tf jf) Z<|z8 (zMu Z)<|z8 (yk (v := .agg _) Z Z)<|z8 (zXi Z Z)<|zq (cs := [.raw (.slice none 0 0), .raw (.slice none 0 0), .raw (.slice none 0 0)]) Zh Z Z<|fun i3 => zm jj Z Z Z Z Z Z .head Z<|y1 (yj (t := 3) Z .head)<|zVzAi Z<|z6<|zSr<|zVGvloadWF ju jj Z Z<|zd (hag) Z<|z8 (zMu Z)<|z8 (yk (v := .agg _) Z Z)<|z8 (zXi Z Z)<|zq (cs := [.raw (.slice none 0 0), .raw (.slice none 0 0), .raw (.slice none 0 0)]) Zh Z Z<|fun i5 => zm jj Z Z Z Z Z Z .head Z<|y1 (yj (t := 5) Z .head)<|zVzAi Z<|z6<|zSr<|zVGvloadWF ju jj Z Z<|zd (ctext_good f hf hN hL hPw tf jf) Z<|z8 (zMu Z)<|z8 (yk (v := .str _) Z Z)<|z8 (zXi Z Z)<|z8 (y8 (v := .str _) Z) ?_
  refine zVzAi Z<|z6<|zb<|zSr<|zVzMi Z<|zVGvneqI Z Z<|zVzMb Z<|za Z Z Z<|zVzMi Z<|za Z Z Z<|zVGvneqI Z Z<|zVzPf Z Z Z<|zVzMb Z<|za Z Z Z<|zVGvloadWF ju jj Z Z<|za Z Z Z<|zVGvloadWF ju jj Z Z<|za Z Z Z<|zd (refSame_spec (canD f) (canD f) hcs.ok) Z<|za Z Z Z<|zVGvnot Z<|zVzPf Z Z Z<|zVzMb Z<|za Z Z (by simp)<|zVGvloadWF ju jj Z Z<|za Z Z (by simp)<|zVGvloadWF ju jj Z Z<|za Z Z (by simp)<|zd (heq) Z<|za Z Z (by simp)<|zVGvnot Z<|z8 (zPf Z (by simp) Z)<|z6<|yc Z (by simp) ?_
  by_cases hbig : 16384 < (textF (canD f)).size
  ·have e1 : capE (textF (canD f)) = 4 := by unfold capE; rw [if_pos hbig]
   refine zf<|zb<|zSr<|zVzMi Z<|zVGvneqI Z Z<|z6<|yh Z (by rw [e1]; rfl)<|zSr<|zVzMi Z<|zVGveqlI Z Z<|zVzAb Z<|z6<|ze<|zi (x := .bool _) Z ?_
   exact jb (by rw [e1]; rfl)
  ·have e1 : capE (textF (canD f)) = 0 := by unfold capE; rw [if_neg hbig]
   have e2 : capT (textF (canD f)) = textF (canD f) := by unfold capT; rw [if_neg hbig]
   have hz := zparse_spec (E := E) (textF (canD f)) (by omega) hL hPw hV
   rw [parse_text (typedS hc.1) (can_nums tf hN), if_neg hbig] at hz
   dsimp only [Option.getD] at hz
   rw [e1, e2]
   refine zf<|zb<|zSr<|zVzMi Z<|zVGvneqI Z Z<|z6<|yc Z Z<|zf<|zSr<|z8 (y9 (v := .str _) Z)<|zd (hz) Z<|z8 (zMu Z)<|z8 (yk (v := .agg _) Z Z)<|z8 (zXi Z Z)<|zq (cs := [.raw (.slice none 0 0), .raw (.slice none 0 0), .raw (.slice none 0 0)]) Zh Z Z<|fun i9 => zm jj Z Z Z Z Z Z .head Z<|y1 (yj (t := 9) Z .head)<|zVzAi Z<|z6<|zSr<|zVzMi Z<|zVGveqlI Z Z<|zVzMb Z<|za Z Z Z<|zVGvloadWF ju jj Z Z<|za Z Z Z<|zVGvloadWF ju jj Z Z<|za Z Z Z<|zd (refSame_spec (canD f) (canD f) hcs.ok) Z<|zVzPt Z Z Z<|zVzAb Z<|z6<|ze<|zi (x := .bool _) Z ?_
   exact jb (by simp)
 ·refine za Z Z Z<|zVGvloadWF ju jj Z Z<|za Z Z Z<|zd (lawJoined_spec f hw hL) Z<|za Z Z Z<|zVGvnot Z<|zVzPf Z Z Z<|z6<|yh Z (by rw [Bool.eq_false_iff.2 c1]; rfl)<|zSr<|zd (lives18_spec hL hPw) Z<|zVzAb Z<|z6<|ze<|zi (x := .bool _) Z ?_
  rfl
end Go.Proofs.YtbkgklpihnfnjaaGreatDoor
namespace Go.Proofs.YtbkgklpihnfnjaaGreatDoor
open Go.Proofs.Tryz
open Go.Proofs Go.Lib Go.Shelf Go.RowKit Go.WideShapes
set_option maxRecDepth 20000
variable {W : World}
theorem decI : Dec prog W 3 encI (fun x => (Lit.int .i64 x).wf = true) := Dec.int Zg
theorem decIs : Dec prog W 23 (fun l : List Int => [.fro 1 (l.map encI)]) wL := fun en held fuel cs x h => by
 obtain ⟨l, hl, r⟩ := Dec.slice (k := 1) j9 decI (by kernel_rfl) (by decide) en held fuel cs x h
 exact ⟨l, hl.2, r⟩
theorem decVar : Dec prog W 38 encVar (fun _ => True) := fun en held fuel cs x h => by
 obtain ⟨xs, n, _, _, hl, hxl, hf⟩ := DataW.trod_struct Zf h
 have hl : cs.length = 2 := hl.trans (by kernel_rfl)
 have hxl : xs.length = 2 := hxl
 obtain ⟨a, _, ra⟩ := Dec.at (o := 0) (k := 1) (hf 0 _ rfl) (Dec.str Z3) (by omega) rfl (by kernel_rfl)
 obtain ⟨b, _, rb⟩ := Dec.at (o := 1) (k := 1) (hf 1 _ rfl) (Dec.int underlying36) (by omega) rfl (by kernel_rfl)
 exact ⟨⟨a, b⟩, trivial, yx (o := 0) ra (yx rb (RepL.fin hl))⟩
theorem decPhi : Dec prog W 60 encPhi wPhi := fun en held fuel cs x h => by
 obtain ⟨xs, n, _, _, hl, hxl, hf⟩ := DataW.trod_struct jm h
 have hl : cs.length = 3 := hl.trans (by kernel_rfl)
 have hxl : xs.length = 3 := hxl
 obtain ⟨a, _, ra⟩ := Dec.at (o := 0) (k := 1) (hf 0 _ rfl) decI (by omega) rfl (by kernel_rfl)
 obtain ⟨b, hb, rb⟩ := Dec.at (o := 1) (k := 1) (hf 1 _ rfl) decIs (by omega) rfl (by kernel_rfl)
 obtain ⟨c, hc, rc⟩ := Dec.at (o := 2) (k := 1) (hf 2 _ rfl) decIs (by omega) rfl (by kernel_rfl)
 exact ⟨⟨a, b, c⟩, ⟨hb, hc⟩, yx (o := 0) ra (yx rb (yx rc (RepL.fin hl)))⟩
def wInst (x : PInst) : Prop := wL x.args ∧ (Lit.int .i64 x.num).wf = true
theorem decInst : Dec prog W 41 encInst wInst := fun en held fuel cs x h => by
 obtain ⟨xs, n, _, _, hl, hxl, hf⟩ := DataW.trod_struct jk h
 have hl : cs.length = 4 := hl.trans (by kernel_rfl)
 have hxl : xs.length = 4 := hxl
 obtain ⟨a, _, ra⟩ := Dec.at (o := 0) (k := 1) (hf 0 _ rfl) (Dec.int underlying39) (by omega) rfl (by kernel_rfl)
 obtain ⟨b, _, rb⟩ := Dec.at (o := 1) (k := 1) (hf 1 _ rfl) decI (by omega) rfl (by kernel_rfl)
 obtain ⟨c, hc, rc⟩ := Dec.at (o := 2) (k := 1) (hf 2 _ rfl) decIs (by omega) rfl (by kernel_rfl)
 obtain ⟨d, hd, rd⟩ := Dec.at (o := 3) (k := 1) (hf 3 _ rfl) (Dec.int underlying2) (by omega) rfl (by kernel_rfl)
 exact ⟨⟨a, b, c, d⟩, ⟨hc, hd⟩, yx (o := 0) ra (yx rb (yx rc (yx rd (RepL.fin hl))))⟩
theorem decTerm : Dec prog W 46 encTerm (fun _ => True) := fun en held fuel cs x h => by
 obtain ⟨xs, n, _, _, hl, hxl, hf⟩ := DataW.trod_struct je h
 have hl : cs.length = 4 := hl.trans (by kernel_rfl)
 have hxl : xs.length = 3 := hxl
 obtain ⟨a, _, ra⟩ := Dec.at (o := 0) (k := 1) (hf 0 _ rfl) (Dec.int underlying43) (by omega) rfl (by kernel_rfl)
 obtain ⟨b, _, rb⟩ := Dec.at (o := 1) (k := 1) (hf 1 _ rfl) decI (by omega) rfl (by kernel_rfl)
 obtain ⟨c, _, rc⟩ := Dec.at (o := 2) (k := 2) (hf 2 _ rfl) (Dec.pair (k := 1) jy decI (by kernel_rfl) (by kernel_rfl)) (by omega) rfl (by kernel_rfl)
 exact ⟨⟨a, b, c.1, c.2⟩, trivial, yx (o := 0) ra (yx rb (yx rc (RepL.fin hl)))⟩
def NumsI (f : PFunc) : Prop := ∀ b ∈ f.blocks, ∀ x ∈ b.insts, is64 x.num
def wBlkN (b : PBlock) : Prop := wBlk b ∧ ∀ x ∈ b.insts, -9223372036854775808 ≤ x.num ∧ x.num ≤ 9223372036854775807
theorem decBlkN : Dec prog W 49 encBlk wBlkN := fun en held fuel cs x h => by
 obtain ⟨xs, n, _, _, hl, hxl, hf⟩ := DataW.trod_struct ja h
 have hl : cs.length = 7 := hl.trans (by kernel_rfl)
 have hxl : xs.length = 4 := hxl
 obtain ⟨a, _, ra⟩ := Dec.at (o := 0) (k := 1) (hf 0 _ rfl) (Dec.str Z3) (by omega) rfl (by kernel_rfl)
 obtain ⟨b, hb, rb⟩ := Dec.at (o := 1) (k := 1) (hf 1 _ rfl) (Dec.slice (k := 3) jw decPhi (by kernel_rfl) (by decide)) (by omega) rfl (by kernel_rfl)
 obtain ⟨c, hc, rc⟩ := Dec.at (o := 2) (k := 1) (hf 2 _ rfl) (Dec.slice (k := 4) Z1 decInst (by kernel_rfl) (by decide)) (by omega) rfl (by kernel_rfl)
 obtain ⟨d, _, rd⟩ := Dec.at (o := 3) (k := 4) (hf 3 _ rfl) decTerm (by omega) rfl (by kernel_rfl)
 exact ⟨⟨a, b, c, d⟩, ⟨⟨hb.2, hc.2, hb.1, fun x hx => (hc.1 x hx).1⟩, fun x hx => by simpa [Lit.wf, IntKind.min, IntKind.max, IntKind.signed, IntKind.bits] using (hc.1 x hx).2⟩, yx (o := 0) ra (yx rb (yx rc (yx rd (RepL.fin hl))))⟩
theorem decFN : Dec prog W 26 encF (fun f => wFunc f ∧ NumsI f) := fun en held fuel cs x h => by
 obtain ⟨xs, n, _, _, hl, hxl, hf⟩ := DataW.trod_struct jc h
 have hl : cs.length = 3 := hl.trans (by kernel_rfl)
 have hxl : xs.length = 3 := hxl
 obtain ⟨a, ha, ra⟩ := Dec.at (o := 0) (k := 1) (hf 0 _ rfl) (Dec.slice (k := 2) js decVar (by kernel_rfl) (by decide)) (by omega) rfl (by kernel_rfl)
 obtain ⟨b, hb, rb⟩ := Dec.at (o := 1) (k := 1) (hf 1 _ rfl) decIs (by omega) rfl (by kernel_rfl)
 obtain ⟨c, hc, rc⟩ := Dec.at (o := 2) (k := 1) (hf 2 _ rfl) (Dec.slice (k := 7) jo decBlkN (by kernel_rfl) (by decide)) (by omega) rfl (by kernel_rfl)
 exact ⟨⟨a, b, c⟩, ⟨⟨ha.2, hb, hc.2, fun x hx => (hc.1 x hx).1⟩, fun x hx => (hc.1 x hx).2⟩, yx (o := 0) ra (yx rb (yx rc (RepL.fin hl)))⟩
theorem of_struct {H : Type} {enc : TypeId × Value → H} {held : Bool} {α : Type} {T : TypeId} {e : α → List AV} {ok : α → Prop} {fs : Array Field} {base : Nat} {v : Value} {d : DataW H} {p : List MemPlace} (hd : Dec prog W T e ok) (ht : prog.underlying T = some (.struct fs))
  (hv : Value.okWide prog W .any base T v) (h : DataW.Trod enc prog W 0 (fun _ => true) held T v d p) : ∃ a, ok a ∧ RepV (I0 W) (.agg (e a)) v := by
 obtain ⟨cs, rfl, _⟩ := okWide_struct ht hv
 obtain ⟨fuel, h⟩ := h
 obtain ⟨a, h1, h2⟩ := hd enc held fuel _ _ h
 exact ⟨a, h1, cs.toList, by simp, h2⟩
theorem xTab : RExtra prog Tryz.lays200_ren := ⟨by kernel_rfl, by kernel_rfl, by kernel_rfl, by kernel_rfl, by kernel_rfl, by kernel_rfl, by kernel_rfl, by kernel_rfl⟩
theorem letters_of (h : Lib.VarReads prog W "unicode.properties" (Lib.tabData .u8 Lib.propertiesTab)) (h2 : Lib.VarReads prog W "unicode.Letter" (Lib.rtabData letterT)) : Letters W :=
 ⟨tabIs_of_reads (g := 4) (by kernel_rfl) (by kernel_rfl) underlying206 Y6 (by kernel_rfl) (by kernel_rfl) h,
  rvar_of_reads { Tryz.lays200 with } xTab (name := "unicode.Letter") (g := 5) (by kernel_rfl) (by kernel_rfl) h2⟩
end Go.Proofs.YtbkgklpihnfnjaaGreatDoor
namespace Go.Proofs.YtbkgklpihnfnjaaGreatDoor
open Go.Proofs.Tryz
open Go.Proofs Go.Lib Go.Shelf Go.RowKit
variable {W : World}
theorem pows_of (h : Lib.VarReads prog W "internal/strconv.uint64pow10" (Lib.tabData .u64 Lib.pow10Tab)) : Pows W :=
 tabIs_of_reads (g := 2) (by kernel_rfl) (by kernel_rfl) underlying235 Yw (by kernel_rfl) (by kernel_rfl) h
end Go.Proofs.YtbkgklpihnfnjaaGreatDoor
