/- How great the text of what was read is. Plain law, no conditions. -/
import Derived.Test.YtdkhlgiohpdihaaGreatDoorYj
namespace Go.Proofs.YtdkhlgiohpdihaaGreatDoor
open Go.Proofs Go.Lib Go.Shelf Go.RowKit
set_option maxRecDepth 20000
def Unlike (ns : List ByteArray) : Prop := ∀ i (h : i < ns.length), ns[i] ∉ ns.take i
def mapFrom : List ByteArray → Nat → NMap
  | [], _ => []
  | n :: ns, k => (n, (k : Int)) :: mapFrom ns (k + 1)
theorem mapFrom_len : ∀ (ns : List ByteArray) (k : Nat), (mapFrom ns k).length = ns.length
  | [], _ => rfl
  | _ :: ns, k => by rw [mapFrom, List.length_cons, List.length_cons, mapFrom_len ns]
theorem mapFrom_app : ∀ (ns ms : List ByteArray) (k : Nat), mapFrom (ns ++ ms) k = mapFrom ns k ++ mapFrom ms (k + ns.length)
  | [], _, _ => rfl
  | n :: ns, ms, k => by rw [List.cons_append, mapFrom, mapFrom_app ns ms, mapFrom, List.cons_append, List.length_cons]; congr 3; omega
theorem mget_no {s : ByteArray} : ∀ {ns : List ByteArray} {k : Nat}, s ∉ ns → mget s (mapFrom ns k) = none
  | [], _, _ => rfl
  | n :: ns, k, h => by
    rw [mapFrom, mget, if_neg (fun e => h (by rw [e]; exact .head _))]
    exact mget_no fun hm => h (.tail _ hm)
theorem mset_new {s : ByteArray} {v : Int} : ∀ {es : NMap}, mget s es = none → mset s v es = es ++ [(s, v)]
  | [], _ => rfl
  | (k, u) :: es, h => by
    rw [mget] at h
    split at h
    · cases h
    · rename_i hk
      rw [mset, if_neg hk, mset_new h]; rfl
theorem Unlike.cons {n : ByteArray} {ns : List ByteArray} (h : Unlike (n :: ns)) : n ∉ ns ∧ Unlike ns := by
  constructor
  · intro hm
    obtain ⟨i, hi, e⟩ := List.getElem_of_mem hm
    have := h (i + 1) (by simp; omega)
    exact this (by rw [List.getElem_cons_succ, e, List.take_succ_cons]; exact .head _)
  · intro i hi hm
    have := h (i + 1) (by simp; omega)
    exact this (by rw [List.getElem_cons_succ, List.take_succ_cons]; exact .tail _ hm)
theorem mget_at {s : ByteArray} : ∀ {ns : List ByteArray} {k i : Nat}, Unlike ns → ns[i]? = some s → mget s (mapFrom ns k) = some (((k + i : Nat) : Int))
  | [], _, _, _, h => by simp at h
  | n :: ns, k, 0, _, h => by
    simp at h; subst h
    rw [mapFrom, mget, if_pos rfl]; rfl
  | n :: ns, k, i + 1, hu, h => by
    obtain ⟨h1, h2⟩ := hu.cons
    have h : ns[i]? = some s := by simpa using h
    have hne : ¬ s = n := fun e => h1 (by rw [← e]; exact List.mem_of_getElem? h)
    rw [mapFrom, mget, if_neg hne, mget_at h2 h]
    congr 2; omega
theorem putAll_un {l0 : Bool} {ns : List ByteArray} (h : Unlike ns) : ∀ k, k ≤ ns.length → putAll ([], l0) (ns.take k) = (mapFrom (ns.take k) 0, l0)
  | 0, _ => rfl
  | k + 1, hk => by
    have hk2 : k < ns.length := by omega
    have hno : mget ns[k] (mapFrom (ns.take k) 0) = none := mget_no (h k hk2)
    rw [putAll_step hk2, putAll_un h k (by omega)]
    unfold putS hasM
    dsimp only
    rw [hno, mset_new hno, List.take_succ_eq_append_getElem hk2, mapFrom_app, mapFrom_len, List.length_take, Nat.min_eq_left (by omega), Nat.zero_add]
    simp [mapFrom]
theorem putAll_all {l0 : Bool} {ns : List ByteArray} (h : Unlike ns) : putAll ([], l0) ns = (mapFrom ns 0, l0) := by
  have := putAll_un (l0 := l0) h ns.length (Nat.le_refl _)
  rwa [List.take_length] at this
theorem shaped_ok {f : PFunc} (h : ShapedP f) : FOk f ∧ Unlike (f.vars.map PVar.name) ∧ Unlike (f.blocks.map PBlock.name) ∧ f.blocks ≠ [] := by
  obtain ⟨h1, h2, h3, h4, h5, h6⟩ := h
  refine ⟨⟨fun v hv => ?_, fun b hb => ?_⟩, fun i hi hm => ?_, fun i hi hm => ?_, fun e => ?_⟩
  · obtain ⟨i, hi, rfl⟩ := List.getElem_of_mem hv
    obtain ⟨g1, g2, g3, _⟩ := h3 i hi
    exact ⟨by rw [← name_eq]; exact g1, g2, g3⟩
  · obtain ⟨i, hi, rfl⟩ := List.getElem_of_mem hb
    exact ⟨by rw [← name_eq]; exact (h4 i hi).1, h6 _ hb⟩
  · have hi2 : i < f.vars.length := by simpa using hi
    rw [List.getElem_map, ← List.map_take] at hm
    exact (h3 i hi2).2.2.2 _ hm rfl
  · have hi2 : i < f.blocks.length := by simpa using hi
    rw [List.getElem_map, ← List.map_take] at hm
    exact (h4 i hi2).2 _ hm rfl
  · unfold bad1 at h1; rw [e] at h1; simp at h1
theorem var_at {f : PFunc} (hu : Unlike (f.vars.map PVar.name)) {v : Int} (h : hasV f v = true) : mget (vname f v) (mapFrom (f.vars.map PVar.name) 0) = some v := by
  obtain ⟨h1, h2, h3, h4⟩ := has_get h
  have := mget_at (s := vname f v) (k := 0) (i := v.toNat) hu (by rw [List.getElem?_map, h2, h4]; rfl)
  rw [this]; congr 1; omega
theorem blk_at {f : PFunc} (hu : Unlike (f.blocks.map PBlock.name)) {v : Int} (h : hasB f v = true) : mget (bname f v) (mapFrom (f.blocks.map PBlock.name) 0) = some v := by
  obtain ⟨h1, h2, h3, h4⟩ := hasB_get h
  have := mget_at (s := bname f v) (k := 0) (i := v.toNat) hu (by rw [List.getElem?_map, h2, h4]; rfl)
  rw [this]; congr 1; omega
section
variable {f : PFunc} (hf : FOk f) (hu : Unlike (f.vars.map PVar.name)) (hb : Unlike (f.blocks.map PBlock.name))
theorem getV {v : Int} (hu : Unlike (f.vars.map PVar.name)) (h : hasV f v = true) : getI (mapFrom (f.vars.map PVar.name) 0) (vname f v) = v ∧ hasM (mapFrom (f.vars.map PVar.name) 0) (vname f v) = true := by
  unfold getI hasM; rw [var_at hu h]; exact ⟨rfl, rfl⟩
theorem getB {v : Int} (hb : Unlike (f.blocks.map PBlock.name)) (h : hasB f v = true) : getI (mapFrom (f.blocks.map PBlock.name) 0) (bname f v) = v ∧ hasM (mapFrom (f.blocks.map PBlock.name) 0) (bname f v) = true := by
  unfold getI hasM; rw [blk_at hb h]; exact ⟨rfl, rfl⟩
theorem map_back {g : Int → ByteArray} {k : ByteArray → Int} : ∀ {l : List Int}, (∀ a ∈ l, k (g a) = a) → (l.map g).map k = l
  | [], _ => rfl
  | a :: l, h => by rw [List.map_cons, List.map_cons, h a (.head _), map_back fun x hx => h x (.tail _ hx)]
theorem any_back {g : Int → ByteArray} {k : ByteArray → Bool} {l : List Int} (h : ∀ a ∈ l, k (g a) = true) : (l.map g).any (fun s => !k s) = false := by
  rw [List.any_map]
  exact List.any_eq_false.2 fun a ha => by simp [h a ha]
theorem phi_back (hf : FOk f) (hu : Unlike (f.vars.map PVar.name)) (hb : Unlike (f.blocks.map PBlock.name)) {p : PPhi} (hp : PhiP f p) :
    phiOf (mapFrom (f.vars.map PVar.name) 0) (mapFrom (f.blocks.map PBlock.name) 0) (toPhi f p) = some p ∧ lostI (mapFrom (f.vars.map PVar.name) 0) (mapFrom (f.blocks.map PBlock.name) 0) (toPhi f p) = false := by
  obtain ⟨h1, _, _, h4, h5⟩ := hp
  have h4 := List.all_eq_true.1 h4
  have h5 := List.all_eq_true.1 h5
  have hne := name_ne (vname_ok hf h1)
  constructor
  · unfold toPhi phiOf dstI
    dsimp only
    rw [if_neg hne, (getV hu h1).1, map_back fun a ha => (getV hu (h4 a ha)).1, map_back fun a ha => (getB hb (h5 a ha)).1]
  · unfold toPhi lostI dstL
    dsimp only
    rw [(getV hu h1).2, any_back fun a ha => (getV hu (h4 a ha)).2, any_back fun a ha => (getB hb (h5 a ha)).2]; simp
theorem inst_back (hf : FOk f) (hu : Unlike (f.vars.map PVar.name)) {bm : NMap} {x : PInst} (hx : InstF f x) :
    instOf (mapFrom (f.vars.map PVar.name) 0) (toInst f x) = some x ∧ lostI (mapFrom (f.vars.map PVar.name) 0) bm (toInst f x) = false := by
  have hd : dstI (mapFrom (f.vars.map PVar.name) 0) (if x.dst = -1 then ⟨#[]⟩ else vname f x.dst) = x.dst ∧ dstL (mapFrom (f.vars.map PVar.name) 0) (if x.dst = -1 then ⟨#[]⟩ else vname f x.dst) = false := by
    rcases hx.dst with ⟨_, d2⟩ | ⟨_, d2, d3⟩
    · rw [if_pos d2]; unfold dstI dstL; rw [if_pos rfl, d2]; exact ⟨rfl, rfl⟩
    · rw [if_neg d2]; unfold dstI dstL
      rw [if_neg (name_ne (vname_ok hf d3)), (getV hu d3).1, (getV hu d3).2]; exact ⟨rfl, by simp⟩
  constructor
  · unfold toInst instOf
    dsimp only
    rw [hd.1, map_back fun a ha => (getV hu (hx.args a ha)).1]
  · unfold toInst lostI
    dsimp only
    rw [hd.2, any_back fun a ha => (getV hu (hx.args a ha)).2]; rfl
theorem fm_some {α β γ : Type} {g : α → β} {k : β → Option γ} {j : α → γ} : ∀ {l : List α}, (∀ a ∈ l, k (g a) = some (j a)) → (l.map g).filterMap k = l.map j
  | [], _ => rfl
  | a :: l, h => by rw [List.map_cons, List.filterMap_cons, h a (.head _)]; dsimp only; rw [fm_some fun x hx => h x (.tail _ hx)]; rfl
theorem fm_none {α β γ : Type} {g : α → β} {k : β → Option γ} : ∀ {l : List α}, (∀ a ∈ l, k (g a) = none) → (l.map g).filterMap k = []
  | [], _ => rfl
  | a :: l, h => by rw [List.map_cons, List.filterMap_cons, h a (.head _)]; dsimp only; exact fm_none fun x hx => h x (.tail _ hx)
theorem blk_back (hf : FOk f) (hu : Unlike (f.vars.map PVar.name)) (hb : Unlike (f.blocks.map PBlock.name)) {b : PBlock} (hp : BlkP f b) :
    blockOf (mapFrom (f.vars.map PVar.name) 0) (mapFrom (f.blocks.map PBlock.name) 0) (toB f b) = b ∧ lostBlk (mapFrom (f.vars.map PVar.name) 0) (mapFrom (f.blocks.map PBlock.name) 0) (toB f b) = false := by
  obtain ⟨h1, h2, h3⟩ := hp
  have e1 : (toB f b).2.filterMap (phiOf (mapFrom (f.vars.map PVar.name) 0) (mapFrom (f.blocks.map PBlock.name) 0)) = b.phis := by
    show (b.phis.map (toPhi f) ++ b.insts.map (toInst f)).filterMap _ = _
    rw [List.filterMap_append, fm_some (j := id) fun p hp => (phi_back hf hu hb (h1 p hp)).1, fm_none fun x _ => rfl]; simp
  have e2 : (toB f b).2.filterMap (instOf (mapFrom (f.vars.map PVar.name) 0)) = b.insts := by
    show (b.phis.map (toPhi f) ++ b.insts.map (toInst f)).filterMap _ = _
    rw [List.filterMap_append, fm_none fun x _ => rfl, fm_some (j := id) fun x hx => (inst_back (bm := []) hf hu (instP_F (h2 x hx))).1]; simp
  have e3 : (toB f b).2.any (lostI (mapFrom (f.vars.map PVar.name) 0) (mapFrom (f.blocks.map PBlock.name) 0)) = false := by
    show (b.phis.map (toPhi f) ++ b.insts.map (toInst f)).any _ = _
    rw [List.any_append, List.any_map, List.any_map]
    rw [List.any_eq_false.2 fun p hp => by simp [(phi_back hf hu hb (h1 p hp)).2], List.any_eq_false.2 fun x hx => by simp [(inst_back hf hu (instP_F (h2 x hx))).2]]; rfl
  have e4 : (toHead f b).name = b.name := by unfold toHead; split; rfl; split <;> rfl
  have e5 : termOf (mapFrom (f.vars.map PVar.name) 0) (mapFrom (f.blocks.map PBlock.name) 0) (toHead f b) = b.term ∧ ((!decide ((toHead f b).v = ⟨#[]⟩) && !hasM (mapFrom (f.vars.map PVar.name) 0) (toHead f b).v) = false ∧ (toHead f b).tos.any (fun s => !hasM (mapFrom (f.blocks.map PBlock.name) 0) s) = false) := by
    obtain ⟨bn, bp, bi, ⟨tk, tv, t0, t1⟩⟩ := b
    unfold toHead
    by_cases k0 : tk = 0
    · have hb0 := termOK_0 h3 k0
      have h3' := h3
      unfold termOK at h3'
      rw [if_pos k0] at h3'
      simp only [Bool.and_eq_true, decide_eq_true_eq] at h3'
      rw [if_pos k0]
      refine ⟨?_, ?_, ?_⟩
      · unfold termOf
        rw [if_pos rfl]
        simp only [List.map_cons, List.map_nil]
        rw [(getB hb hb0).1]
        simp [k0, h3']
      · simp
      · simp [(getB hb hb0).2]
    · rw [if_neg k0]
      by_cases k1 : tk = 1
      · obtain ⟨g1, g2, g3⟩ := termOK_1 h3 k1
        have hne := name_ne (vname_ok hf g1)
        rw [if_pos k1]
        refine ⟨?_, ?_, ?_⟩
        · unfold termOf
          dsimp only
          rw [if_neg hne, (getV hu g1).1]
          simp only [List.map_cons, List.map_nil]
          rw [(getB hb g2).1, (getB hb g3).1]
          simp [k1]
        · dsimp only; rw [(getV hu g1).2]; simp
        · simp [(getB hb g2).2, (getB hb g3).2]
      · have g1 := termOK_2 h3 k0 k1
        have hne := name_ne (vname_ok hf g1)
        have h3' := h3
        unfold termOK at h3'
        rw [if_neg k0, if_neg k1] at h3'
        rw [if_neg k1]
        refine ⟨?_, ?_, ?_⟩
        · unfold termOf
          dsimp only
          rw [if_neg hne, (getV hu g1).1]
          split at h3'
          · rename_i k2
            simp only [Bool.and_eq_true, decide_eq_true_eq] at h3'
            have k2 : tk = 2 := k2
            simp [k2, h3']
          · cases h3'
        · dsimp only; rw [(getV hu g1).2]; simp
        · rfl
  constructor
  · unfold blockOf
    rw [e1, e2]
    show PBlock.mk (toHead f b).name b.phis b.insts (termOf _ _ (toHead f b)) = b
    rw [e4, e5.1]
  · unfold lostBlk
    rw [e3]
    show (false || (!decide ((toHead f b).v = ⟨#[]⟩) && !hasM _ (toHead f b).v) || (toHead f b).tos.any _) = false
    rw [e5.2.1, e5.2.2]; rfl
end
end Go.Proofs.YtdkhlgiohpdihaaGreatDoor
namespace Go.Proofs.YtdkhlgiohpdihaaGreatDoor
open Go.Proofs Go.Lib Go.Shelf Go.RowKit
set_option maxRecDepth 20000
theorem mkP_blocks (ps vs : List PVar) (bs : List (PHead × List PItem)) : blocksOf (mkP ps vs bs) = bs := by
  rcases snoc_cases bs with rfl | ⟨pre, y, rfl⟩
  · rfl
  · rw [mkP_last]; rfl
theorem toHead_name (f : PFunc) (b : PBlock) : (toHead f b).name = b.name := by unfold toHead; split; rfl; split <;> rfl
theorem parL_eq {ps : List Int} (h : ∀ i (h : i < ps.length), ps[i] = (i : Int)) {m : Nat} (hm : ps.length ≤ m) : parL ps.length m = ps := by
  unfold parL
  rw [Nat.min_eq_right hm]
  apply List.ext_getElem
  · simp
  · intro i h1 h2
    rw [List.getElem_map, List.getElem_range, h i h2]
theorem build_back {f : PFunc} (hS : ShapedP f) : buildP (progF f) = some f := by
  obtain ⟨hf, hu, hb, hne⟩ := shaped_ok hS
  obtain ⟨s1, s2, s3, s4, s5, s6⟩ := hS
  have hpl : f.params.length ≤ f.vars.length := by unfold bad1 at s1; simp at s1; omega
  have hvn : varNames (progF f) = f.vars.map PVar.name := by
    show (f.vars.take f.params.length ++ f.vars.drop f.params.length).map PVar.name = _
    rw [List.take_append_drop]
  have hbo : blocksOf (progF f) = f.blocks.map (toB f) := mkP_blocks _ _ _
  have hbn : blkNames (progF f) = f.blocks.map PBlock.name := by
    unfold blkNames; rw [hbo, List.map_map]; exact List.map_congr_left fun b _ => toHead_name f b
  have hv : vState (progF f) = (mapFrom (f.vars.map PVar.name) 0, false) := by unfold vState; rw [hvn, putAll_all hu]
  have hbs : bState (progF f) = (mapFrom (f.blocks.map PBlock.name) 0, false) := by unfold bState; rw [hbn, hv, putAll_all hb]
  have hback : ∀ b ∈ f.blocks, blockOf (vState (progF f)).1 (bState (progF f)).1 (toB f b) = b ∧ lostBlk (vState (progF f)).1 (bState (progF f)).1 (toB f b) = false := fun b hm => by
    rw [hv, hbs]; exact blk_back hf hu hb (s6 b hm)
  have hlost : lostP (progF f) = false := by
    unfold lostP
    rw [hbo, List.any_map]
    rw [List.any_eq_false.2 fun b hm => by simp [(hback b hm).2], hbs]; rfl
  unfold buildP
  rw [if_neg (by rw [hlost]; simp)]
  unfold funcP
  rw [hbo, List.map_map]
  have e1 : f.blocks.map (blockOf (vState (progF f)).1 (bState (progF f)).1 ∘ toB f) = f.blocks := by
    conv => rhs; rw [← List.map_id f.blocks]
    exact List.map_congr_left fun b hm => (hback b hm).1
  have e2 : (progF f).params ++ (progF f).vars = f.vars := List.take_append_drop _ _
  have e3 : (progF f).params.length = f.params.length := by show (f.vars.take f.params.length).length = _; rw [List.length_take]; omega
  rw [e1, e2, e3, parL_eq s2 hpl]
theorem items_sum (f : PFunc) : ∀ l : List PBlock, itemsN (l.map (toB f)) = sumTo l
  | [] => rfl
  | b :: l => by
    have ih := items_sum f l
    unfold itemsN sumTo at ih ⊢
    rw [List.map_cons, List.map_cons, List.sum_cons, List.map_cons, List.sum_cons, ih]
    show (b.phis.map (toPhi f) ++ b.insts.map (toInst f)).length + _ = _
    rw [List.length_append, List.length_map, List.length_map]
theorem fits_back {f : PFunc} (hS : ShapedP f) : fitsP (progF f) = true := by
  obtain ⟨s1, s2, s3, s4, s5, s6⟩ := hS
  have hbo : blocksOf (progF f) = f.blocks.map (toB f) := mkP_blocks _ _ _
  have e2 : (progF f).params.length + (progF f).vars.length = f.vars.length := by
    show (f.vars.take f.params.length).length + (f.vars.drop f.params.length).length = _
    rw [List.length_take, List.length_drop]; omega
  have e3 : (progF f).params.length ≤ f.params.length := by show (f.vars.take f.params.length).length ≤ _; rw [List.length_take]; omega
  unfold bad1 at s1
  simp at s1
  unfold fitsP
  rw [hbo, items_sum, List.length_map]
  simp only [Bool.and_eq_true, decide_eq_true_eq]
  omega
theorem wf_words {f : PFunc} (hf : FOk f) (hn : NumsOk f) : ∀ l ∈ linesF f, l ≠ [] ∧ ∀ w ∈ l, okW w := by
  have hkw : ∀ l : List UInt8, asciiW l = true → okW (strL l) := fun l h => okW_ascii h
  intro l hl
  unfold linesF at hl
  rcases List.mem_cons.1 hl with rfl | hl
  · refine ⟨by unfold headL; simp, fun w hw => ?_⟩
    unfold headL at hw
    rcases List.mem_cons.1 hw with rfl | hw
    · exact hkw [102, 117, 110, 99] (by decide)
    · obtain ⟨v, hv, rfl⟩ := List.mem_map.1 hw
      have := hf.vars v (List.mem_of_mem_take hv)
      exact pair_okW this.1 this.2
  · rcases List.mem_append.1 hl with hl | hl
    · obtain ⟨v, hv, rfl⟩ := List.mem_map.1 hl
      have := hf.vars v (List.mem_of_mem_drop hv)
      refine ⟨by unfold varL; simp, fun w hw => ?_⟩
      unfold varL at hw
      rcases List.mem_cons.1 hw with rfl | hw
      · exact hkw [118, 97, 114] (by decide)
      · rw [List.mem_singleton.1 hw]; exact pair_okW this.1 this.2
    · obtain ⟨b, hb, hl⟩ := List.mem_flatMap.1 hl
      obtain ⟨hbn, h1, h2, h3⟩ := hf.blks b hb
      unfold blkL at hl
      rcases List.mem_cons.1 hl with rfl | hl
      · refine ⟨by simp, fun w hw => ?_⟩
        rcases List.mem_cons.1 hw with rfl | hw
        · exact hkw [98, 108, 111, 99, 107] (by decide)
        · rw [List.mem_singleton.1 hw]; exact name_okW hbn
      · rcases List.mem_append.1 hl with hl | hl
        · obtain ⟨p, hp, rfl⟩ := List.mem_map.1 hl
          obtain ⟨g1, _, _, g4, g5⟩ := h1 p hp
          refine ⟨by unfold phiL; simp, fun w hw => ?_⟩
          unfold phiL at hw
          rcases List.mem_cons.1 hw with rfl | hw
          · exact name_okW (vname_ok hf g1)
          · rcases List.mem_cons.1 hw with rfl | hw
            · exact hkw [61] (by decide)
            · rcases List.mem_cons.1 hw with rfl | hw
              · exact hkw [112, 104, 105] (by decide)
              · rcases inter_mem hw with hw | hw
                · obtain ⟨x, hx, rfl⟩ := List.mem_map.1 hw; exact name_okW (bname_ok hf (List.all_eq_true.1 g5 x hx))
                · obtain ⟨x, hx, rfl⟩ := List.mem_map.1 hw; exact name_okW (vname_ok hf (List.all_eq_true.1 g4 x hx))
        · rcases List.mem_append.1 hl with hl | hl
          · obtain ⟨x, hx, rfl⟩ := List.mem_map.1 hl
            have hF := instP_F (h2 x hx)
            have hwo : wordsOf f x = words1 f x ++ [(kRow x.op).1] ++ x.args.map (vname f) ++ (if isNum x.op then [strL (itoa x.num)] else []) := by
              unfold wordsOf words2; rw [List.take_length]; rfl
            refine ⟨by rw [hwo]; simp, fun w hw => ?_⟩
            rw [hwo] at hw
            rcases List.mem_append.1 hw with hw | hw
            · rcases List.mem_append.1 hw with hw | hw
              · rcases List.mem_append.1 hw with hw | hw
                · unfold words1 at hw
                  split at hw
                  · rename_i hd
                    rcases List.mem_cons.1 hw with rfl | hw
                    · rcases hF.dst with ⟨_, d⟩ | ⟨_, _, d⟩
                      · omega
                      · exact name_okW (vname_ok hf d)
                    · rw [List.mem_singleton.1 hw]; exact hkw [61] (by decide)
                  · cases hw
                · rw [List.mem_singleton.1 hw]
                  have hk : ∀ j : Nat, j < 27 → asciiW (kRow (j : Int)).1.data.toList = true := by decide
                  have := hk x.op.toNat (by have := hF.op; omega)
                  rw [Int.toNat_of_nonneg hF.op.1] at this
                  rw [← strL_of (kRow x.op).1]
                  exact hkw _ this
              · obtain ⟨a, ha, rfl⟩ := List.mem_map.1 hw; exact name_okW (vname_ok hf (hF.args a ha))
            · split at hw
              · rw [List.mem_singleton.1 hw]
                refine hkw _ ?_
                have hdec : ∀ u : Nat, ∀ b ∈ decDigits u, 48 ≤ b.toNat ∧ b.toNat ≤ 57 := fun u => by
                  have key : ∀ n u, u ≤ n → ∀ b ∈ decDigits u, 48 ≤ b.toNat ∧ b.toNat ≤ 57 := by
                    intro n
                    induction n with
                    | zero => intro u hu b hb; rw [decDigits, dif_pos (by omega)] at hb; rw [List.mem_singleton.1 hb, UInt8.toNat_ofNat']; omega
                    | succ n ih =>
                      intro u hu b hb
                      rw [decDigits] at hb
                      by_cases h10 : u < 10
                      · rw [dif_pos h10] at hb; rw [List.mem_singleton.1 hb, UInt8.toNat_ofNat']; omega
                      · rw [dif_neg h10] at hb
                        rcases List.mem_append.1 hb with hb | hb
                        · exact ih (u / 10) (by omega) b hb
                        · rw [List.mem_singleton.1 hb, UInt8.toNat_ofNat']; omega
                  exact key u u (Nat.le_refl _)
                unfold asciiW itoa
                split
                · simp only [List.isEmpty_cons, Bool.not_false, Bool.true_and, List.all_cons, Bool.and_eq_true, List.all_eq_true]
                  exact ⟨by decide, fun b hb => by have := hdec _ b hb; simp; omega⟩
                · obtain ⟨c, r, e, _⟩ := dec_ne x.num.toNat
                  simp only [Bool.and_eq_true, List.all_eq_true]
                  exact ⟨by rw [e]; rfl, fun b hb => by have := hdec _ b hb; simp; omega⟩
              · cases hw
          · rw [List.mem_singleton.1 hl]
            unfold termL
            by_cases k0 : b.term.kind = 0
            · rw [if_pos k0]
              refine ⟨by simp, fun w hw => ?_⟩
              rcases List.mem_cons.1 hw with rfl | hw
              · exact hkw [106, 117, 109, 112] (by decide)
              · rw [List.mem_singleton.1 hw]; exact name_okW (bname_ok hf (termOK_0 h3 k0))
            · rw [if_neg k0]
              by_cases k1 : b.term.kind = 1
              · obtain ⟨t1, t2, t3⟩ := termOK_1 h3 k1
                rw [if_pos k1]
                refine ⟨by simp, fun w hw => ?_⟩
                rcases List.mem_cons.1 hw with rfl | hw
                · exact hkw [105, 102] (by decide)
                · rcases List.mem_cons.1 hw with rfl | hw
                  · exact name_okW (vname_ok hf t1)
                  · rcases List.mem_cons.1 hw with rfl | hw
                    · exact name_okW (bname_ok hf t2)
                    · rw [List.mem_singleton.1 hw]; exact name_okW (bname_ok hf t3)
              · rw [if_neg k1]
                refine ⟨by simp, fun w hw => ?_⟩
                rcases List.mem_cons.1 hw with rfl | hw
                · exact hkw [114, 101, 116] (by decide)
                · rw [List.mem_singleton.1 hw]; exact name_okW (vname_ok hf (termOK_2 h3 k0 k1))
def textF (f : PFunc) : ByteArray := unB (linesF f)
theorem parse_text {f : PFunc} (hS : ShapedP f) (hn : NumsOk f) : parseC (textF f) = if 16384 < (textF f).size then (4, none) else (0, some f) := by
  obtain ⟨hf, hu, hb, hne⟩ := shaped_ok hS
  by_cases hsz : 16384 < (textF f).size
  · have hr : rightE (textF f) = 4 := by unfold rightE; rw [if_pos hsz]
    rw [if_pos hsz]
    unfold parseC
    rw [if_neg (by rw [hr]; decide), hr]
  · obtain ⟨h1, h2⟩ := un_lines (wf_words hf hn) (by show (textF f).size ≤ 16384; omega)
    rw [if_neg hsz]
    unfold parseC
    rw [if_pos (show rightE (textF f) = 0 from h1), readP_W, show (linesOf (textF f)).map (·.2) = linesF f from h2, read_lines hf hn hne]
    dsimp only
    rw [if_pos (fits_back hS), build_back hS]
end Go.Proofs.YtdkhlgiohpdihaaGreatDoor
namespace Go.Proofs.YtdkhlgiohpdihaaGreatDoor
open Go.Proofs Go.Lib Go.Shelf Go.RowKit
set_option maxRecDepth 20000
def sz (l : List ByteArray) : Nat := (l.map (·.size)).sum
theorem sz_nil : sz [] = 0 := rfl
theorem sz_cons (a : ByteArray) (l : List ByteArray) : sz (a :: l) = a.size + sz l := by unfold sz; rw [List.map_cons, List.sum_cons]
theorem sz_app (a b : List ByteArray) : sz (a ++ b) = sz a + sz b := by unfold sz; rw [List.map_append, List.sum_append]
theorem sz_take_drop (l : List ByteArray) (k : Nat) : sz (l.take k) + sz (l.drop k) = sz l := by rw [← sz_app, List.take_append_drop]
def ItemP : PItem → Prop
  | .phi d f a => scanName d = true ∧ f.length = a.length ∧ 1 ≤ a.length
  | .inst op d a n => (0 ≤ op ∧ op ≤ 26) ∧ a.length = (takesL op).length ∧ makesB op = !decide (d = ⟨#[]⟩) ∧ (isNum op = false → n = 0) ∧ (-9223372036854775808 ≤ n ∧ n ≤ 9223372036854775807)
def wtI : PItem → Nat
  | .phi d f a => d.size + (1 + (3 + (sz f + sz a)))
  | .inst op d a n => (if d = ⟨#[]⟩ then 0 else d.size + 1) + ((kRow op).1.size + (sz a + if isNum op = true then (itoa n).length else 0))
theorem op_found {w : ByteArray} (h : isOpW w = true) : (0 ≤ opOf w ∧ opOf w ≤ 26) ∧ (kRow (opOf w)).1 = w := by
  unfold isOpW at h
  obtain ⟨r, hr, e⟩ := List.any_eq_true.1 h
  have e : r.1 = w := of_decide_eq_true e
  obtain ⟨j, hj, rfl⟩ := List.getElem_of_mem hr
  have hj2 : j < 27 := hj
  have hk : kRow (j : Int) = kindT[j] := by unfold kRow; rw [if_pos (by omega), Int.toNat_natCast, List.getElem?_eq_getElem hj]; rfl
  obtain ⟨_, h2, _⟩ := op_words j hj2
  have hw : (kRow (j : Int)).1 = w := by rw [hk]; exact e
  rw [hw] at h2
  rw [h2]
  exact ⟨⟨by omega, by omega⟩, hw⟩
theorem num_word {s : ByteArray} (h : numOk s = true) : (itoa (numV s)).length = s.size ∧ -9223372036854775808 ≤ numV s ∧ numV s ≤ 9223372036854775807 := by
  unfold numV
  rw [if_pos h]
  unfold numOk at h
  cases hp : pint s with
  | none => rw [hp] at h; cases h
  | some v =>
    rw [hp] at h
    have h := of_decide_eq_true h
    refine ⟨?_, pint_range hp⟩
    show (itoa v).length = s.size
    rw [← h]; rfl
theorem ev_od : ∀ w : List ByteArray, w.length % 2 = 0 → (evens w).length = (odds w).length ∧ 2 * (odds w).length = w.length ∧ sz (evens w) + sz (odds w) = sz w
  | [], _ => ⟨rfl, rfl, rfl⟩
  | [a], h => by simp at h
  | a :: b :: l, h => by
    obtain ⟨h1, h2, h3⟩ := ev_od l (by simp at h; omega)
    refine ⟨by simp [evens, odds, h1], by simp [odds]; omega, ?_⟩
    rw [evens, odds, sz_cons, sz_cons, sz_cons, sz_cons]; omega
theorem atW_nth {w : List ByteArray} {k : Nat} (h : k < w.length) : atW w k = w[k] := by unfold atW; rw [List.getElem?_eq_getElem h]; rfl
theorem sz_at {w : List ByteArray} {k : Nat} (h : k < w.length) : sz (w.drop k) = (atW w k).size + sz (w.drop (k + 1)) := by
  rw [List.drop_eq_getElem_cons h, sz_cons, atW_nth h]
theorem sz_at0 {w : List ByteArray} (h : 0 < w.length) : sz w = (atW w 0).size + sz (w.drop 1) := by rw [← sz_at h, List.drop_zero]
theorem sz_at1 {w : List ByteArray} (h : 1 < w.length) : sz (w.drop 1) = (atW w 1).size + sz (w.drop 2) := sz_at h
theorem sz_at2 {w : List ByteArray} (h : 2 < w.length) : sz (w.drop 2) = (atW w 2).size + sz (w.drop 3) := sz_at h
theorem op_item {d : ByteArray} {w : List ByteArray} {x : PItem} (h : opItem d w = some x) : ItemP x ∧ wtI x ≤ (if d = ⟨#[]⟩ then 0 else d.size + 1) + sz w := by
  cases w with
  | nil => cases h
  | cons a r =>
    have h : opCons d a r = some x := h
    unfold opCons at h
    split at h
    · rename_i hc
      obtain ⟨h1, h2⟩ := hc
      obtain ⟨hop, hrow⟩ := op_found h1
      split at h
      · rename_i hn
        split at h
        · rename_i hr
          obtain ⟨r1, r2, r3⟩ := hr
          obtain ⟨n1, n2⟩ := num_word r2
          cases h
          refine ⟨⟨hop, by rw [List.length_take]; omega, h2, fun h => (by rw [hn] at h; cases h), n2⟩, ?_⟩
          show _ + ((kRow (opOf a)).1.size + (sz (r.take _) + if isNum (opOf a) = true then _ else 0)) ≤ _
          rw [if_pos hn, hrow, n1, sz_cons]
          have e1 := sz_take_drop r (takesL (opOf a)).length
          have e2 := sz_at (w := r) (k := (takesL (opOf a)).length) (by omega)
          omega
        · cases h
      · rename_i hn
        split at h
        · rename_i hr
          cases h
          refine ⟨⟨hop, hr.1, h2, fun _ => rfl, by omega, by omega⟩, ?_⟩
          show _ + ((kRow (opOf a)).1.size + (sz r + if isNum (opOf a) = true then _ else 0)) ≤ _
          rw [if_neg hn, hrow, sz_cons]; omega
        · cases h
    · cases h
theorem instr_item {w : List ByteArray} {x : PItem} (h : instrItem w = some x) : ItemP x ∧ wtI x ≤ sz w := by
  unfold instrItem at h
  split at h
  · obtain ⟨h1, h2⟩ := op_item h
    rw [if_pos rfl] at h2
    exact ⟨h1, by omega⟩
  · rename_i hc
    have hc : 2 ≤ w.length ∧ atW w 1 = eqS := by simpa using hc
    split at h
    · cases h
    · rename_i hd
      have hd : scanName (atW w 0) = true ∧ 3 ≤ w.length := by simpa using hd
      have z0 := sz_at0 (w := w) (by omega)
      have z1 := sz_at1 (w := w) (by omega)
      have z2 := sz_at2 (w := w) (by omega)
      have ze : (atW w 1).size = 1 := by rw [hc.2]; rfl
      split at h
      · rename_i hp
        have zp : (atW w 2).size = 3 := by rw [hp]; rfl
        unfold phiItem at h
        split at h
        · rename_i hk
          cases h
          have hk : 2 ≤ (w.drop 3).length ∧ (w.drop 3).length % 2 = 0 := by
            unfold phiOk at hk
            simp only [Bool.and_eq_true, decide_eq_true_eq] at hk
            obtain ⟨k1, k2, _⟩ := hk
            have : ((w.drop 3).length : Int).tmod 2 = (((w.drop 3).length % 2 : Nat) : Int) := by rw [Int.tmod_eq_emod_of_nonneg (by omega)]; rfl
            omega
          obtain ⟨e1, e2, e3⟩ := ev_od (w.drop 3) hk.2
          refine ⟨⟨hd.1, e1, by omega⟩, ?_⟩
          show (atW w 0).size + (1 + (3 + (sz (evens (w.drop 3)) + sz (odds (w.drop 3))))) ≤ _
          omega
        · cases h
      · obtain ⟨h1, h2⟩ := op_item h
        rw [if_neg (name_ne hd.1)] at h2
        exact ⟨h1, by omega⟩
def HeadP (h : PHead) : Prop := (h.ended = false ∧ h.v = ⟨#[]⟩ ∧ h.tos = []) ∨ (h.ended = true ∧ ((h.kind = 0 ∧ h.v = ⟨#[]⟩ ∧ h.tos.length = 1) ∨ (h.kind = 1 ∧ h.v ≠ ⟨#[]⟩ ∧ h.tos.length = 2) ∨ (h.kind = 2 ∧ h.v ≠ ⟨#[]⟩ ∧ h.tos = [])))
def kindN (k : Int) : Nat := if k = 0 then 4 else if k = 1 then 2 else 3
def wtH (h : PHead) : Nat := if h.ended = true then kindN h.kind + (h.v.size + sz h.tos) else 0
theorem end_item {h h' : PHead} {w : List ByteArray} (hh : HeadP h) (he : h.ended = false) (hr : endB h w = some h') : HeadP h' ∧ h'.ended = true ∧ h'.name = h.name ∧ wtH h' ≤ sz w := by
  have hv : h.v = ⟨#[]⟩ ∧ h.tos = [] := by
    rcases hh with ⟨_, h2⟩ | ⟨h1, _⟩
    · exact h2
    · rw [he] at h1; cases h1
  unfold endB at hr
  split at hr
  · cases hr
  · rename_i hc
    have hc : 2 ≤ w.length ∧ namesOk (w.drop 1) = true := by simpa using hc
    have z0 := sz_at0 (w := w) (by omega)
    have z1 := sz_at1 (w := w) (by omega)
    have hn1 : scanName (atW w 1) = true := by
      have := hc.2
      unfold namesOk at this
      rw [List.drop_eq_getElem_cons (by omega : 1 < w.length), List.all_cons] at this
      rw [atW_nth (by omega)]
      exact (Bool.and_eq_true _ _ ▸ this).1
    split at hr
    · rename_i hk
      cases hr
      have hs : (atW w 0).size = 4 := by rw [hk.1]; rfl
      refine ⟨.inr ⟨rfl, .inl ⟨rfl, hv.1, by show (w.drop 1).length = 1; rw [List.length_drop]; omega⟩⟩, rfl, rfl, ?_⟩
      show 4 + (h.v.size + sz (w.drop 1)) ≤ sz w
      have : h.v.size = 0 := by rw [hv.1]; rfl
      omega
    · split at hr
      · rename_i hk
        cases hr
        have hs : (atW w 0).size = 2 := by rw [hk.1]; rfl
        refine ⟨.inr ⟨rfl, .inr (.inl ⟨rfl, name_ne hn1, by show (w.drop 2).length = 2; rw [List.length_drop]; omega⟩)⟩, rfl, rfl, ?_⟩
        show 2 + ((atW w 1).size + sz (w.drop 2)) ≤ sz w
        omega
      · split at hr
        · rename_i hk
          cases hr
          have hs : (atW w 0).size = 3 := by rw [hk.1]; rfl
          refine ⟨.inr ⟨rfl, .inr (.inr ⟨rfl, name_ne hn1, hv.2⟩)⟩, rfl, rfl, ?_⟩
          show 3 + ((atW w 1).size + sz h.tos) ≤ sz w
          rw [hv.2, sz_nil]
          omega
        · cases hr
structure BP (b : PHead × List PItem) : Prop where
  name : scanName b.1.name = true
  head : HeadP b.1
  items : ∀ x ∈ b.2, ItemP x
def wtB (b : PHead × List PItem) : Nat := 5 + (b.1.name.size + ((b.2.map wtI).sum + wtH b.1))
theorem lineB_ok {b r : PHead × List PItem} {w : List ByteArray} (hb : BP b) (h : lineB b.1 b.2 w = some r) : BP r ∧ wtB r ≤ wtB b + sz w := by
  unfold lineB at h
  split at h
  · cases h
  · rename_i he
    have he : b.1.ended = false := by simpa using he
    have hw0 : wtH b.1 = 0 := by unfold wtH; rw [he]; rfl
    split at h
    · rename_i h' hh
      cases h
      obtain ⟨e1, e2, e3, e4⟩ := end_item hb.head he hh
      refine ⟨⟨by show scanName h'.name = true; rw [e3]; exact hb.name, e1, hb.items⟩, ?_⟩
      show 5 + (h'.name.size + ((b.2.map wtI).sum + wtH h')) ≤ wtB b + sz w
      unfold wtB
      rw [e3]; omega
    · split at h
      · cases h
      · rename_i x hx
        split at h
        · cases h
        · cases h
          obtain ⟨e1, e2⟩ := instr_item hx
          refine ⟨⟨hb.name, hb.head, fun y hy => ?_⟩, ?_⟩
          · rcases List.mem_append.1 hy with hy | hy
            · exact hb.items y hy
            · rw [List.mem_singleton.1 hy]; exact e1
          · show 5 + (b.1.name.size + (((b.2 ++ [x]).map wtI).sum + wtH b.1)) ≤ wtB b + sz w
            unfold wtB
            rw [List.map_append, List.sum_append, List.map_cons, List.map_nil, List.sum_cons, List.sum_nil]; omega
def VOk (v : PVar) : Prop := scanName v.name = true ∧ 0 ≤ v.ty ∧ v.ty ≤ 2
theorem pair_sz {w : ByteArray} (h : varOk w = true) : VOk (varOf w) ∧ (pairW (varOf w)).size = w.size := by
  unfold varOk at h
  obtain ⟨h1, h2⟩ : pairOk w = true ∧ isTy (pairB w) = true := by simpa using h
  have h3 := h1
  unfold pairOk at h3
  obtain ⟨h3, h4⟩ : cutT w colon = true ∧ scanName (cutA w colon) = true := by simpa using h3
  have hA : pairA w = cutA w colon := by unfold pairA; rw [if_pos h1]
  have hB : pairB w = cutB2 w colon := by unfold pairB; rw [if_pos h1]
  rw [hB] at h2
  have hty : tyWord (tyOf (cutB2 w colon)) = cutB2 w colon ∧ 0 ≤ tyOf (cutB2 w colon) ∧ tyOf (cutB2 w colon) ≤ 2 := by
    unfold isTy at h2
    simp only [Bool.or_eq_true, decide_eq_true_eq] at h2
    rcases h2 with h2 | h2 | h2 <;> rw [h2] <;> exact ⟨by decide, by decide, by decide⟩
  have hm : (58 : UInt8) ∈ w.data.toList := by
    apply Classical.byContradiction
    intro hm
    have hi : indexB w colon = -1 := by show index w.data.toList [58] = -1; rw [index_one, idxB_none hm]
    have h5 : cutT w colon = false := (cutB_miss _ _ hi).2.2
    rw [h5] at h3; cases h3
  obtain ⟨l, r, hw, hl⟩ := List.eq_append_cons_of_mem hm
  have hs : w = strL (l ++ 58 :: r) := by rw [← hw, strL_of]
  obtain ⟨c1, c2, _⟩ := cut_colon (r := r) hl
  rw [← hs] at c1 c2
  refine ⟨⟨by show scanName (pairA w) = true; rw [hA]; exact h4, by show 0 ≤ tyOf (pairB w); rw [hB]; exact hty.2.1, by show tyOf (pairB w) ≤ 2; rw [hB]; exact hty.2.2⟩, ?_⟩
  show ((pairA w ++ colon) ++ tyWord (tyOf (pairB w))).size = w.size
  rw [hA, hB, hty.1, c1, c2, ByteArray.size_append, ByteArray.size_append, hs, strL_size, strL_size, strL_size, List.length_append, List.length_cons]
  show l.length + 1 + r.length = _
  omega
def wtV (l : List PVar) : Nat := (l.map fun v => (pairW v).size).sum
theorem wtV_app (a b : List PVar) : wtV (a ++ b) = wtV a + wtV b := by unfold wtV; rw [List.map_append, List.sum_append]
theorem vars_sz {l : List ByteArray} (h : varsOk l = true) : (∀ v ∈ varsOf l, VOk v) ∧ wtV (varsOf l) = sz l := by
  unfold varsOf
  rw [if_pos h]
  unfold varsOk at h
  have h := List.all_eq_true.1 h
  constructor
  · intro v hv
    obtain ⟨w, hw, rfl⟩ := List.mem_map.1 hv
    exact (pair_sz (h w hw)).1
  · unfold wtV sz
    rw [List.map_map]
    congr 1
    exact List.map_congr_left fun w hw => (pair_sz (h w hw)).2
structure SP (S : PProg) : Prop where
  params : ∀ v ∈ S.params, VOk v
  vars : ∀ v ∈ S.vars, VOk v
  done : ∀ b ∈ S.done, BP b ∧ b.1.ended = true
  cur : ∀ b, S.cur = some b → BP b
def wtBs (l : List (PHead × List PItem)) : Nat := (l.map wtB).sum
theorem wtBs_app (a b : List (PHead × List PItem)) : wtBs (a ++ b) = wtBs a + wtBs b := by unfold wtBs; rw [List.map_append, List.sum_append]
def wtS (S : PProg) : Nat := wtV S.params + (wtV S.vars + wtBs (blocksOf S))
theorem line_ok {S S' : PProg} {w : List ByteArray} (hS : SP S) (hi : S.cur = none → S.done = []) (h : lineP S w = some S') : SP S' ∧ (S'.cur = none → S'.done = []) ∧ wtS S' ≤ wtS S + sz w ∧ S'.params = S.params := by
  have hnew : isBlockLine w = true → scanName (atW w 1) = true ∧ 5 + (atW w 1).size ≤ sz w := fun hb => by
    obtain ⟨b1, b2, b3⟩ := of_decide_eq_true hb
    have z0 := sz_at0 (w := w) (by omega)
    have z1 := sz_at1 (w := w) (by omega)
    have : (atW w 0).size = 5 := by rw [b1]; rfl
    exact ⟨b3, by omega⟩
  have hnB : scanName (atW w 1) = true → BP (newHead (atW w 1), []) := fun hn => ⟨hn, .inl ⟨rfl, rfl, rfl⟩, fun x hx => by cases hx⟩
  have hwB : wtB (newHead (atW w 1), []) = 5 + (atW w 1).size := rfl
  unfold lineP at h
  split at h
  · rename_i hc
    have hd := hi hc
    unfold lineP0 at h
    split at h
    · rename_i hb
      cases h
      obtain ⟨b1, b2⟩ := hnew hb
      refine ⟨⟨hS.params, hS.vars, hS.done, fun b e => by cases e; exact hnB b1⟩, (fun e => by cases e), ?_, rfl⟩
      unfold wtS blocksOf
      rw [hd, hc]
      show wtV S.params + (wtV S.vars + (wtB (newHead (atW w 1), []) + 0)) ≤ wtV S.params + (wtV S.vars + _) + _
      rw [hwB]; omega
    · split at h
      · rename_i hv
        cases h
        obtain ⟨v1, v2⟩ := hv
        have v3 := of_decide_eq_true v1
        have z0 := sz_at0 (w := w) (by omega)
        obtain ⟨u1, u2⟩ := vars_sz v2
        refine ⟨⟨hS.params, fun v hv => ?_, hS.done, hS.cur⟩, hi, ?_, rfl⟩
        · rcases List.mem_append.1 hv with hv | hv
          · exact hS.vars v hv
          · exact u1 v hv
        · show wtV S.params + (wtV (S.vars ++ varsOf (w.drop 1)) + wtBs (blocksOf S)) ≤ _
          unfold wtS
          rw [wtV_app, u2]; omega
      · cases h
  · rename_i b hc
    have hbp := hS.cur b hc
    unfold lineP1 at h
    split at h
    · rename_i hb
      obtain ⟨b1, b2⟩ := hnew hb
      split at h
      · rename_i he
        cases h
        refine ⟨⟨hS.params, hS.vars, fun x hx => ?_, fun b e => by cases e; exact hnB b1⟩, (fun e => by cases e), ?_, rfl⟩
        · rcases List.mem_append.1 hx with hx | hx
          · exact hS.done x hx
          · rw [List.mem_singleton.1 hx]; exact ⟨hbp, he⟩
        · unfold wtS blocksOf
          rw [hc]
          show wtV S.params + (wtV S.vars + wtBs ((S.done ++ [b]) ++ [(newHead (atW w 1), [])])) ≤ wtV S.params + (wtV S.vars + wtBs (S.done ++ [b])) + _
          rw [wtBs_app _ [(newHead (atW w 1), [])]]
          show wtV S.params + (wtV S.vars + (wtBs (S.done ++ [b]) + (wtB (newHead (atW w 1), []) + 0))) ≤ _
          rw [hwB]; omega
      · cases h
    · cases hl : lineB b.1 b.2 w with
      | none => rw [hl] at h; cases h
      | some r =>
        rw [hl] at h
        cases h
        obtain ⟨r1, r2⟩ := lineB_ok hbp hl
        refine ⟨⟨hS.params, hS.vars, hS.done, fun x e => by cases e; exact r1⟩, (fun e => by cases e), ?_, rfl⟩
        unfold wtS blocksOf
        rw [hc]
        show wtV S.params + (wtV S.vars + wtBs (S.done ++ [r])) ≤ wtV S.params + (wtV S.vars + wtBs (S.done ++ [b])) + _
        rw [wtBs_app, wtBs_app]
        show wtV S.params + (wtV S.vars + (wtBs S.done + (wtB r + 0))) ≤ wtV S.params + (wtV S.vars + (wtBs S.done + (wtB b + 0))) + _
        omega
theorem lines_ok : ∀ {ls : List PLine} {S S' : PProg}, SP S → (S.cur = none → S.done = []) → runLines S ls = some S' → SP S' ∧ wtS S' ≤ wtS S + (ls.map fun l => sz l.2).sum ∧ S'.params = S.params
  | [], S, S', h1, h2, h => by cases h; exact ⟨h1, Nat.le_add_right _ _, rfl⟩
  | l :: ls, S, S', h1, h2, h => by
    unfold runLines at h
    cases hl : lineP S l.2 with
    | none => rw [hl] at h; cases h
    | some T =>
      rw [hl] at h
      obtain ⟨t1, t2, t3, t4⟩ := line_ok h1 h2 hl
      obtain ⟨u1, u2, u3⟩ := lines_ok t1 t2 h
      refine ⟨u1, ?_, u3.trans t4⟩
      rw [List.map_cons, List.sum_cons]; omega
theorem read_ok {ls : List PLine} {S : PProg} (h : readP ls = some S) : SP S ∧ 4 + wtS S ≤ (ls.map fun l => sz l.2).sum ∧ blocksOf S ≠ [] ∧ ∀ b ∈ blocksOf S, BP b ∧ b.1.ended = true := by
  cases ls with
  | nil => cases h
  | cons l0 rest =>
    have h : (if atW l0.2 0 = funcS then (tgt l0 rest).bind endP else none) = some S := h
    split at h
    · rename_i hf
      cases ht : tgt l0 rest with
      | none => rw [ht] at h; cases h
      | some T =>
        rw [ht] at h
        unfold tgt at ht
        split at ht
        · rename_i hv
          obtain ⟨u1, u2⟩ := vars_sz hv
          have hst : SP (start l0.2) := ⟨u1, (fun v hv => by cases hv), (fun b hb => by cases hb), (fun b e => by cases e)⟩
          obtain ⟨t1, t2, t3⟩ := lines_ok hst (fun _ => rfl) ht
          have h : endP T = some S := h
          unfold endP at h
          cases hc : T.cur with
          | none => rw [hc] at h; cases h
          | some b =>
            rw [hc] at h
            have h : (if b.1.ended = true then some T else none) = some S := h
            split at h
            · rename_i he
              cases h
              have hl : 0 < l0.2.length := by
                cases hz : l0.2 with
                | nil => rw [hz] at hf; cases hf
                | cons a b => simp
              have z0 := sz_at0 hl
              have hfs : (atW l0.2 0).size = 4 := by rw [hf]; rfl
              have hws : wtS (start l0.2) = wtV (varsOf (l0.2.drop 1)) := by unfold wtS start blocksOf; rfl
              refine ⟨t1, ?_, ?_, fun x hx => ?_⟩
              · rw [List.map_cons, List.sum_cons]; omega
              · unfold blocksOf; rw [hc]; simp
              · unfold blocksOf at hx
                rw [hc] at hx
                rcases List.mem_append.1 hx with hx | hx
                · exact t1.done x hx
                · have : x = b := by simpa using hx
                  rw [this]; exact ⟨t1.cur b hc, he⟩
            · cases h
        · cases ht
    · cases h
end Go.Proofs.YtdkhlgiohpdihaaGreatDoor
namespace Go.Proofs.YtdkhlgiohpdihaaGreatDoor
open Go.Proofs Go.Lib Go.Shelf Go.RowKit
set_option maxRecDepth 20000
theorem mem_idx {l : List ByteArray} {s : ByteArray} (h : s ∈ l) : ∃ i, ∃ hi : i < l.length, l[i] = s := by
  obtain ⟨i, hi, e⟩ := List.getElem_of_mem h
  exact ⟨i, hi, e⟩
theorem has_in {ns : List ByteArray} (hu : Unlike ns) {s : ByteArray} (h : hasM (mapFrom ns 0) s = true) : ∃ i, ∃ hi : i < ns.length, ns[i] = s ∧ getI (mapFrom ns 0) s = (i : Int) := by
  have hm : s ∈ ns := by
    apply Classical.byContradiction
    intro hm
    unfold hasM at h
    rw [mget_no hm] at h; cases h
  obtain ⟨i, hi, e⟩ := mem_idx hm
  have hg := mget_at (k := 0) (i := i) hu (s := s) (by rw [List.getElem?_eq_getElem hi, e])
  refine ⟨i, hi, e, ?_⟩
  unfold getI; rw [hg]
  show ((0 + i : Nat) : Int) = _
  omega
theorem Unlike.take {ns : List ByteArray} {k : Nat} (h : ∀ i (hi : i < ns.length), i < k → ns[i] ∉ ns.take i) : Unlike (ns.take k) := fun i hi hm => by
  rw [List.length_take] at hi
  rw [List.getElem_take, List.take_take, Nat.min_eq_left (by omega)] at hm
  exact h i (by omega) (by omega) hm
theorem put_take {l0 : Bool} {ns : List ByteArray} : ∀ k, k ≤ ns.length → (putAll ([], l0) (ns.take k)).2 = false → l0 = false ∧ ∀ i (hi : i < ns.length), i < k → ns[i] ∉ ns.take i
  | 0, _, h => ⟨h, fun i _ hk => absurd hk (by omega)⟩
  | k + 1, hk, h => by
    rw [putAll_step (by omega)] at h
    have h : ((putAll ([], l0) (ns.take k)).2 || hasM (putAll ([], l0) (ns.take k)).1 ns[k]) = false := h
    obtain ⟨h1, h2⟩ := Bool.or_eq_false_iff.1 h
    obtain ⟨i1, i2⟩ := put_take k (by omega) h1
    refine ⟨i1, fun i hi hik => ?_⟩
    by_cases e : i = k
    · subst e
      intro hm
      have hu := Unlike.take i2
      rw [putAll_all hu] at h2
      obtain ⟨j, hj, ej⟩ := mem_idx hm
      have hg := mget_at (k := 0) (i := j) hu (s := ns[i]) (by rw [List.getElem?_eq_getElem hj, ej])
      have h2 : hasM (mapFrom (ns.take i) 0) ns[i] = false := h2
      unfold hasM at h2
      rw [hg] at h2; cases h2
    · exact i2 i hi (by omega)
theorem put_unlike {l0 : Bool} {ns : List ByteArray} (h : (putAll ([], l0) ns).2 = false) : l0 = false ∧ Unlike ns := by
  obtain ⟨h1, h2⟩ := put_take (l0 := l0) (ns := ns) ns.length (Nat.le_refl _) (by rw [List.take_length]; exact h)
  exact ⟨h1, fun i hi => h2 i hi hi⟩
structure Maps (S : PProg) : Prop where
  vu : Unlike (varNames S)
  bu : Unlike (blkNames S)
  v : (vState S).1 = mapFrom (varNames S) 0
  b : (bState S).1 = mapFrom (blkNames S) 0
  lost : ∀ x ∈ blocksOf S, lostBlk (mapFrom (varNames S) 0) (mapFrom (blkNames S) 0) x = false
theorem maps_of {S : PProg} (h : lostP S = false) : Maps S := by
  unfold lostP at h
  obtain ⟨h1, h2⟩ := Bool.or_eq_false_iff.1 h
  unfold bState at h1
  obtain ⟨h3, h4⟩ := put_unlike h1
  have h5 := h3
  unfold vState at h5
  obtain ⟨_, h6⟩ := put_unlike h5
  have hv : (vState S).1 = mapFrom (varNames S) 0 := by unfold vState; rw [putAll_all h6]
  have hb : (bState S).1 = mapFrom (blkNames S) 0 := by unfold bState; rw [putAll_all h4]
  refine ⟨h6, h4, hv, hb, fun x hx => ?_⟩
  rw [hv, hb] at h2
  have := List.any_eq_false.1 h2 x hx
  simpa using this
section
variable {S : PProg}
theorem var_names (S : PProg) : (funcP S).vars.map PVar.name = varNames S := rfl
theorem blk_names (S : PProg) : (funcP S).blocks.map PBlock.name = blkNames S := by
  show ((blocksOf S).map _).map PBlock.name = (blocksOf S).map _
  rw [List.map_map]; rfl
theorem vname_back (hm : Maps S) {s : ByteArray} (h : hasM (mapFrom (varNames S) 0) s = true) : hasV (funcP S) (getI (mapFrom (varNames S) 0) s) = true ∧ vname (funcP S) (getI (mapFrom (varNames S) 0) s) = s := by
  obtain ⟨i, hi, e, hg⟩ := has_in hm.vu h
  have hl : i < (funcP S).vars.length := by rw [← var_names, List.length_map] at hi; exact hi
  rw [hg]
  constructor
  · unfold hasV; simp; omega
  · unfold vname
    rw [Int.toNat_natCast, List.getElem?_eq_getElem hl]
    show (funcP S).vars[i].name = s
    rw [← e]
    have : (varNames S)[i] = ((funcP S).vars.map PVar.name)[i]'(by rw [List.length_map]; exact hl) := rfl
    rw [this, List.getElem_map]
theorem bname_back (hm : Maps S) {s : ByteArray} (h : hasM (mapFrom (blkNames S) 0) s = true) : hasB (funcP S) (getI (mapFrom (blkNames S) 0) s) = true ∧ bname (funcP S) (getI (mapFrom (blkNames S) 0) s) = s := by
  obtain ⟨i, hi, e, hg⟩ := has_in hm.bu h
  have hl : i < (funcP S).blocks.length := by rw [← blk_names, List.length_map] at hi; exact hi
  rw [hg]
  constructor
  · unfold hasB; simp; omega
  · unfold bname
    rw [Int.toNat_natCast, List.getElem?_eq_getElem hl]
    show (funcP S).blocks[i].name = s
    rw [← e]
    have h2 : ((funcP S).blocks.map PBlock.name)[i]? = (blkNames S)[i]? := by rw [blk_names]
    rw [List.getElem?_map, List.getElem?_eq_getElem hl, List.getElem?_eq_getElem hi] at h2
    exact Option.some.inj h2
theorem names_any {m : NMap} {l : List ByteArray} (h : (l.any fun s => !hasM m s) = false) : ∀ s ∈ l, hasM m s = true := fun s hs => by
  have := List.any_eq_false.1 h s hs
  simpa using this
theorem dst_has {m : NMap} {d : ByteArray} (hd : d ≠ ⟨#[]⟩) (h : dstL m d = false) : hasM m d = true ∧ dstI m d = getI m d := by
  unfold dstL at h
  unfold dstI
  rw [if_neg hd]
  rw [decide_eq_false hd] at h
  exact ⟨by simpa using h, rfl⟩
theorem phi_shaped (hm : Maps S) {d : ByteArray} {f a : List ByteArray} (hi : ItemP (.phi d f a)) (hl : lostI (mapFrom (varNames S) 0) (mapFrom (blkNames S) 0) (.phi d f a) = false) :
    PhiP (funcP S) ⟨dstI (mapFrom (varNames S) 0) d, a.map (getI (mapFrom (varNames S) 0)), f.map (getI (mapFrom (blkNames S) 0))⟩ := by
  obtain ⟨i1, i2, i3⟩ := hi
  have hl : ((dstL (mapFrom (varNames S) 0) d || a.any fun s => !hasM (mapFrom (varNames S) 0) s) || f.any fun s => !hasM (mapFrom (blkNames S) 0) s) = false := hl
  obtain ⟨h1, h3⟩ := Bool.or_eq_false_iff.1 hl
  obtain ⟨h1, h2⟩ := Bool.or_eq_false_iff.1 h1
  obtain ⟨d1, d2⟩ := dst_has (name_ne i1) h1
  refine ⟨by show hasV _ (dstI _ d) = true; rw [d2]; exact (vname_back hm d1).1, by simp [i2], by simp; omega, ?_, ?_⟩
  · rw [List.all_map]; exact List.all_eq_true.2 fun s hs => (vname_back hm (names_any h2 s hs)).1
  · rw [List.all_map]; exact List.all_eq_true.2 fun s hs => (bname_back hm (names_any h3 s hs)).1
theorem inst_shaped (hm : Maps S) {op : Int} {d : ByteArray} {a : List ByteArray} {n : Int} (hi : ItemP (.inst op d a n)) (hl : lostI (mapFrom (varNames S) 0) (mapFrom (blkNames S) 0) (.inst op d a n) = false) :
    InstP (funcP S) ⟨op, dstI (mapFrom (varNames S) 0) d, a.map (getI (mapFrom (varNames S) 0)), n⟩ := by
  obtain ⟨i1, i2, i3, i4, i5⟩ := hi
  have hl : (dstL (mapFrom (varNames S) 0) d || a.any fun s => !hasM (mapFrom (varNames S) 0) s) = false := hl
  obtain ⟨h1, h2⟩ := Bool.or_eq_false_iff.1 hl
  refine ⟨i1.1, i1.2, ?_, by rw [List.all_map]; exact List.all_eq_true.2 fun s hs => (vname_back hm (names_any h2 s hs)).1⟩
  unfold bad2
  have hw := wordB_num (x := ⟨op, dstI (mapFrom (varNames S) 0) d, a.map (getI (mapFrom (varNames S) 0)), n⟩) i1
  rw [makesB_eq] at i3
  rw [takes_len] at i2
  rw [hw]
  have hlen : decide (((a.map (getI (mapFrom (varNames S) 0))).length : Int) = ((kRow op).2.1.size : Int)) = true := decide_eq_true (by rw [List.length_map, i2])
  have hnum : (!decide (n = 0) && !isNum op) = false := by
    cases hn : isNum op with
    | true => simp
    | false => rw [i4 hn]; rfl
  show (!decide (((a.map (getI (mapFrom (varNames S) 0))).length : Int) = ((kRow op).2.1.size : Int)) || (_ || (_ || (!decide (n = 0) && !isNum op)))) = false
  rw [hlen, hnum]
  by_cases hd : d = ⟨#[]⟩
  · have hmk : decide ((kRow op).2.2 = ⟨#[]⟩) = true := by rw [decide_eq_true hd] at i3; simpa using i3
    have hdi : dstI (mapFrom (varNames S) 0) d = -1 := by unfold dstI; rw [if_pos hd]
    show (false || (!(decide ((kRow op).2.2 = ⟨#[]⟩) == decide (dstI (mapFrom (varNames S) 0) d = -1)) || ((!decide (dstI (mapFrom (varNames S) 0) d = -1) && !hasV (funcP S) (dstI (mapFrom (varNames S) 0) d)) || false))) = false
    rw [hmk, hdi]; simp
  · obtain ⟨d1, d2⟩ := dst_has hd h1
    obtain ⟨v1, _⟩ := vname_back hm d1
    have hmk : decide ((kRow op).2.2 = ⟨#[]⟩) = false := by rw [decide_eq_false hd] at i3; simpa using i3
    have hne : decide (getI (mapFrom (varNames S) 0) d = -1) = false := decide_eq_false fun e => by
      rw [e] at v1; unfold hasV at v1; simp at v1
    show (false || (!(decide ((kRow op).2.2 = ⟨#[]⟩) == decide (dstI (mapFrom (varNames S) 0) d = -1)) || ((!decide (dstI (mapFrom (varNames S) 0) d = -1) && !hasV (funcP S) (dstI (mapFrom (varNames S) 0) d)) || false))) = false
    rw [hmk, d2, hne, v1]; rfl
theorem two_list {l : List ByteArray} (h : l.length = 2) : ∃ a b, l = [a, b] := by
  match l, h with
  | [a, b], _ => exact ⟨a, b, rfl⟩
theorem one_list {l : List ByteArray} (h : l.length = 1) : ∃ a, l = [a] := by
  match l, h with
  | [a], _ => exact ⟨a, rfl⟩
theorem term_shaped (hm : Maps S) {h : PHead} (hh : HeadP h) (he : h.ended = true) (h1 : (!decide (h.v = ⟨#[]⟩) && !hasM (mapFrom (varNames S) 0) h.v) = false) (h2 : (h.tos.any fun s => !hasM (mapFrom (blkNames S) 0) s) = false) :
    termOK (funcP S) (termOf (mapFrom (varNames S) 0) (mapFrom (blkNames S) 0) h) = true := by
  have hb := names_any h2
  have hv : h.v ≠ ⟨#[]⟩ → hasM (mapFrom (varNames S) 0) h.v = true := fun hne => by rw [decide_eq_false hne] at h1; simpa using h1
  rcases hh with ⟨e, _⟩ | ⟨_, ⟨k, e1, e2⟩ | ⟨k, e1, e2⟩ | ⟨k, e1, e2⟩⟩
  · rw [e] at he; cases he
  · obtain ⟨a, ea⟩ := one_list e2
    have ha := (bname_back hm (hb a (by rw [ea]; exact .head _))).1
    unfold termOK termOf
    rw [k, e1, ea]
    show (hasB (funcP S) (getI (mapFrom (blkNames S) 0) a) && _ && _) = true
    rw [ha]; rfl
  · obtain ⟨a, b, ea⟩ := two_list e2
    have ha := (bname_back hm (hb a (by rw [ea]; exact .head _))).1
    have hb := (bname_back hm (hb b (by rw [ea]; exact .tail _ (.head _)))).1
    have hv := (vname_back hm (hv e1)).1
    unfold termOK termOf
    rw [k, ea, if_neg e1]
    show (hasV (funcP S) (getI (mapFrom (varNames S) 0) h.v) && hasB (funcP S) (getI (mapFrom (blkNames S) 0) a) && hasB (funcP S) (getI (mapFrom (blkNames S) 0) b)) = true
    rw [ha, hb, hv]; rfl
  · have hv := (vname_back hm (hv e1)).1
    unfold termOK termOf
    rw [k, e2, if_neg e1]
    show (hasV (funcP S) (getI (mapFrom (varNames S) 0) h.v) && _) = true
    rw [hv]; rfl
theorem fm_lens {vm bm : NMap} : ∀ l : List PItem, (l.filterMap (phiOf vm bm)).length + (l.filterMap (instOf vm)).length = l.length
  | [] => rfl
  | .phi d f a :: l => by
    have := fm_lens (vm := vm) (bm := bm) l
    rw [List.filterMap_cons_some (f := phiOf vm bm) (a := .phi d f a) rfl, List.filterMap_cons_none (f := instOf vm) (a := .phi d f a) rfl, List.length_cons, List.length_cons]; omega
  | .inst op d a n :: l => by
    have := fm_lens (vm := vm) (bm := bm) l
    rw [List.filterMap_cons_none (f := phiOf vm bm) (a := .inst op d a n) rfl, List.filterMap_cons_some (f := instOf vm) (a := .inst op d a n) rfl, List.length_cons, List.length_cons]; omega
theorem sum_lens {vm bm : NMap} : ∀ l : List (PHead × List PItem), sumTo (l.map (blockOf vm bm)) = itemsN l
  | [] => rfl
  | b :: l => by
    have h1 := sum_lens (vm := vm) (bm := bm) l
    have h2 := fm_lens (vm := vm) (bm := bm) b.2
    unfold sumTo itemsN at h1 ⊢
    rw [List.map_cons, List.map_cons, List.sum_cons, List.map_cons, List.sum_cons, h1, ← h2]; rfl
theorem parL_get {n k i : Nat} (h : i < (parL n k).length) : (parL n k)[i] = (i : Int) := by
  simp only [parL, List.getElem_map, List.getElem_range]
theorem unlike_take {α : Type} {g : α → ByteArray} {l : List α} (hu : Unlike (l.map g)) {i : Nat} (hi : i < l.length) : ∀ s ∈ (l.take i).map g, s ≠ g l[i] := fun s hs e => by
  have := hu i (by rw [List.length_map]; exact hi)
  rw [List.getElem_map, ← List.map_take, ← e] at this
  exact this hs
theorem read_shaped (hS : SP S) (hb : blocksOf S ≠ []) (he : ∀ b ∈ blocksOf S, BP b ∧ b.1.ended = true) (hf : fitsP S = true) (hl : lostP S = false) : ShapedP (funcP S) ∧ NumsOk (funcP S) := by
  have hm := maps_of hl
  have hfn : funcP S = ⟨S.params ++ S.vars, parL S.params.length (S.params ++ S.vars).length, (blocksOf S).map (blockOf (mapFrom (varNames S) 0) (mapFrom (blkNames S) 0))⟩ := by
    unfold funcP; rw [hm.v, hm.b]
  have hblk : ∀ i (hi : i < (funcP S).blocks.length), ∃ b, b ∈ blocksOf S ∧ (funcP S).blocks[i] = blockOf (mapFrom (varNames S) 0) (mapFrom (blkNames S) 0) b := fun i hi => by
    have hi2 : i < (blocksOf S).length := by rw [hfn] at hi; simpa using hi
    refine ⟨(blocksOf S)[i], List.getElem_mem hi2, ?_⟩
    have h2 : (funcP S).blocks[i]? = ((blocksOf S).map (blockOf (mapFrom (varNames S) 0) (mapFrom (blkNames S) 0)))[i]? := by rw [hfn]
    rw [List.getElem?_eq_getElem hi, List.getElem?_map, List.getElem?_eq_getElem hi2] at h2
    exact Option.some.inj h2
  have hmem : ∀ x ∈ (funcP S).blocks, ∃ b, b ∈ blocksOf S ∧ x = blockOf (mapFrom (varNames S) 0) (mapFrom (blkNames S) 0) b := fun x hx => by
    obtain ⟨i, hi, rfl⟩ := List.getElem_of_mem hx
    exact hblk i hi
  unfold fitsP at hf
  simp only [Bool.and_eq_true, decide_eq_true_eq] at hf
  obtain ⟨f1, f2, f3, f4⟩ := hf
  have hbl : (funcP S).blocks.length = (blocksOf S).length := by rw [hfn]; simp
  have hvl : (funcP S).vars.length = S.params.length + S.vars.length := by rw [hfn]; simp
  have hpl : (funcP S).params.length = S.params.length := by rw [hfn]; show (parL _ _).length = _; rw [parL_len]; simp
  have hb1 : 1 ≤ (blocksOf S).length := by cases h : blocksOf S with | nil => exact absurd h hb | cons a b => simp
  have hitem : ∀ b ∈ blocksOf S, ∀ x ∈ b.2, lostI (mapFrom (varNames S) 0) (mapFrom (blkNames S) 0) x = false := fun b hb x hx => by
    have h := hm.lost b hb
    unfold lostBlk at h
    have h := (Bool.or_eq_false_iff.1 (Bool.or_eq_false_iff.1 h).1).1
    simpa using List.any_eq_false.1 h x hx
  refine ⟨⟨?_, fun i hi => ?_, fun i hi => ?_, fun i hi => ?_, ?_, fun x hx => ?_⟩, fun x hx y hy => ?_⟩
  · unfold bad1
    rw [hvl, hpl, hbl]
    simp; omega
  · have : (funcP S).params[i]? = some (i : Int) := by
      have hi2 : i < (parL S.params.length (S.params ++ S.vars).length).length := by rw [hfn] at hi; exact hi
      have h2 : (funcP S).params[i]? = (parL S.params.length (S.params ++ S.vars).length)[i]? := by rw [hfn]
      rw [h2, List.getElem?_eq_getElem hi2, parL_get]
    rw [List.getElem?_eq_getElem hi] at this
    exact Option.some.inj this
  · have hv : VOk (funcP S).vars[i] := by
      have : (funcP S).vars[i] ∈ S.params ++ S.vars := List.getElem_mem hi
      rcases List.mem_append.1 this with h | h
      · exact hS.params _ h
      · exact hS.vars _ h
    exact ⟨by rw [name_eq]; exact hv.1, hv.2.1, hv.2.2, unlike_take (g := PVar.name) (by rw [var_names]; exact hm.vu) hi⟩
  · obtain ⟨b, hb, e⟩ := hblk i hi
    refine ⟨?_, unlike_take (g := PBlock.name) (by rw [blk_names]; exact hm.bu) hi⟩
    rw [e, name_eq]
    exact (he b hb).1.name
  · have : sumTo (funcP S).blocks = itemsN (blocksOf S) := by rw [hfn]; exact sum_lens _
    omega
  · obtain ⟨b, hb, rfl⟩ := hmem x hx
    obtain ⟨hbp, hen⟩ := he b hb
    have hlb := hm.lost b hb
    unfold lostBlk at hlb
    obtain ⟨l1, l2⟩ := Bool.or_eq_false_iff.1 hlb
    obtain ⟨l1, l3⟩ := Bool.or_eq_false_iff.1 l1
    refine ⟨fun p hp => ?_, fun y hy => ?_, term_shaped hm hbp.head hen l3 l2⟩
    · obtain ⟨it, h1, h2⟩ := List.mem_filterMap.1 hp
      cases it with
      | phi d f a => cases h2; exact phi_shaped hm (hbp.items _ h1) (hitem b hb _ h1)
      | inst op d a n => cases h2
    · obtain ⟨it, h1, h2⟩ := List.mem_filterMap.1 hy
      cases it with
      | inst op d a n => cases h2; exact inst_shaped hm (hbp.items _ h1) (hitem b hb _ h1)
      | phi d f a => cases h2
  · obtain ⟨b, hb, rfl⟩ := hmem x hx
    obtain ⟨it, h1, h2⟩ := List.mem_filterMap.1 hy
    cases it with
    | inst op d a n => cases h2; exact ((he b hb).1.items _ h1).2.2.2.2
    | phi d f a => cases h2
end
end Go.Proofs.YtdkhlgiohpdihaaGreatDoor
namespace Go.Proofs.YtdkhlgiohpdihaaGreatDoor
open Go.Proofs Go.Lib Go.Shelf Go.RowKit
set_option maxRecDepth 20000
theorem jt_len : ∀ r : List ByteArray, (Lib.joinTail [32] (r.map (·.data.toList))).length = r.length + sz r
  | [] => rfl
  | x :: r => by
    rw [List.map_cons, joinTail_cons, List.length_append, List.length_append, jt_len r, sz_cons]
    show 1 + x.data.toList.length + _ = (r.length + 1) + _
    have : x.data.toList.length = x.size := Array.length_toList
    omega
theorem line_len {l : List ByteArray} (h : l ≠ []) : (lineS l).size + 1 = l.length + sz l := by
  cases l with
  | nil => exact absurd rfl h
  | cons a r =>
    unfold lineS joinS
    show (Lib.join ((a :: r).map (·.data.toList)) [32]).toArray.size + 1 = _
    rw [List.map_cons, Lib.join_cons, List.size_toArray, List.length_append, jt_len, sz_cons, List.length_cons]
    have : a.data.toList.length = a.size := Array.length_toList
    omega
theorem size_pos {w : ByteArray} (h : w ≠ ⟨#[]⟩) : 1 ≤ w.size := by
  apply Classical.byContradiction
  intro hn
  apply h
  have h0 : w.data.size = 0 := by have : w.size = 0 := by omega
                                  exact this
  have : w.data = #[] := Array.eq_empty_of_size_eq_zero h0
  cases w with
  | mk d => rw [show d = #[] from this]
theorem len_sz : ∀ {l : List ByteArray}, (∀ w ∈ l, w ≠ ⟨#[]⟩) → l.length ≤ sz l
  | [], _ => Nat.zero_le _
  | a :: l, h => by
    have h1 := size_pos (h a (.head _))
    have h2 := len_sz (l := l) fun w hw => h w (.tail _ hw)
    rw [List.length_cons, sz_cons]; omega
theorem un_len : ∀ {ls : List (List ByteArray)}, (∀ l ∈ ls, l ≠ [] ∧ ∀ w ∈ l, w ≠ ⟨#[]⟩) → (unB ls).size ≤ 2 * (ls.map sz).sum
  | [], _ => Nat.zero_le _
  | l :: ls, h => by
    obtain ⟨h1, h2⟩ := h l (.head _)
    have h3 := line_len h1
    have h4 := len_sz h2
    have h5 := un_len (ls := ls) fun x hx => h x (.tail _ hx)
    rw [unB, ByteArray.size_append, ByteArray.size_append, List.map_cons, List.sum_cons]
    have : nl.size = 1 := rfl
    omega
theorem inter_sz : ∀ {l m : List ByteArray}, l.length = m.length → sz (inter l m) = sz l + sz m
  | [], [], _ => rfl
  | [], _ :: _, h => by cases h
  | _ :: _, [], h => by cases h
  | a :: l, b :: m, h => by
    have := inter_sz (l := l) (m := m) (by simpa using h)
    rw [inter, sz_cons, sz_cons, sz_cons, sz_cons, this]; omega
theorem map_id {g : ByteArray → Int} {k : Int → ByteArray} {l : List ByteArray} (h : ∀ s ∈ l, k (g s) = s) : (l.map g).map k = l := by
  rw [List.map_map]
  exact (List.map_congr_left (g := id) fun s hs => h s hs).trans (List.map_id l)
section
variable {S : PProg}
theorem phi_wt (hm : Maps S) {d : ByteArray} {f a : List ByteArray} (hi : ItemP (.phi d f a)) (hl : lostI (mapFrom (varNames S) 0) (mapFrom (blkNames S) 0) (.phi d f a) = false) :
    sz (phiL (funcP S) ⟨dstI (mapFrom (varNames S) 0) d, a.map (getI (mapFrom (varNames S) 0)), f.map (getI (mapFrom (blkNames S) 0))⟩) = wtI (.phi d f a) := by
  obtain ⟨i1, i2, i3⟩ := hi
  have hl : ((dstL (mapFrom (varNames S) 0) d || a.any fun s => !hasM (mapFrom (varNames S) 0) s) || f.any fun s => !hasM (mapFrom (blkNames S) 0) s) = false := hl
  obtain ⟨h1, h3⟩ := Bool.or_eq_false_iff.1 hl
  obtain ⟨h1, h2⟩ := Bool.or_eq_false_iff.1 h1
  obtain ⟨d1, d2⟩ := dst_has (name_ne i1) h1
  unfold phiL
  show sz (vname (funcP S) (dstI (mapFrom (varNames S) 0) d) :: eqS :: phiS :: inter ((f.map (getI (mapFrom (blkNames S) 0))).map (bname (funcP S))) ((a.map (getI (mapFrom (varNames S) 0))).map (vname (funcP S)))) = d.size + (1 + (3 + (sz f + sz a)))
  rw [d2, (vname_back hm d1).2, map_id (fun s hs => (bname_back hm (names_any h3 s hs)).2), map_id (fun s hs => (vname_back hm (names_any h2 s hs)).2), sz_cons, sz_cons, sz_cons, inter_sz i2]
  rfl
theorem inst_wt (hm : Maps S) {op : Int} {d : ByteArray} {a : List ByteArray} {n : Int} (hl : lostI (mapFrom (varNames S) 0) (mapFrom (blkNames S) 0) (.inst op d a n) = false) :
    sz (wordsOf (funcP S) ⟨op, dstI (mapFrom (varNames S) 0) d, a.map (getI (mapFrom (varNames S) 0)), n⟩) = wtI (.inst op d a n) := by
  have hl : (dstL (mapFrom (varNames S) 0) d || a.any fun s => !hasM (mapFrom (varNames S) 0) s) = false := hl
  obtain ⟨h1, h2⟩ := Bool.or_eq_false_iff.1 hl
  have hw1 : sz (words1 (funcP S) ⟨op, dstI (mapFrom (varNames S) 0) d, a.map (getI (mapFrom (varNames S) 0)), n⟩) = if d = ⟨#[]⟩ then 0 else d.size + 1 := by
    unfold words1
    by_cases hd : d = ⟨#[]⟩
    · rw [if_pos hd]
      have : dstI (mapFrom (varNames S) 0) d = -1 := by unfold dstI; rw [if_pos hd]
      rw [if_neg (by show ¬ (0 : Int) ≤ dstI _ d; rw [this]; omega)]; rfl
    · obtain ⟨d1, d2⟩ := dst_has hd h1
      obtain ⟨v1, v2⟩ := vname_back hm d1
      have h0 : 0 ≤ getI (mapFrom (varNames S) 0) d := by unfold hasV at v1; simp at v1; exact v1.1
      rw [if_neg hd, if_pos (by show (0 : Int) ≤ dstI _ d; rw [d2]; exact h0)]
      show sz [vname (funcP S) (dstI (mapFrom (varNames S) 0) d), ⟨#[61]⟩] = _
      rw [d2, v2, sz_cons, sz_cons, sz_nil]; rfl
  unfold wordsOf words2
  rw [List.take_length, sz_app, sz_app, sz_app, hw1]
  show _ + sz [(kRow op).1] + sz ((a.map (getI (mapFrom (varNames S) 0))).map (vname (funcP S))) + sz (if isNum op = true then [⟨(Lib.itoa n).toArray⟩] else []) = _ + ((kRow op).1.size + (sz a + if isNum op = true then (itoa n).length else 0))
  rw [map_id (fun s hs => (vname_back hm (names_any h2 s hs)).2), sz_cons, sz_nil]
  by_cases hn : isNum op = true
  · rw [if_pos hn, if_pos hn, sz_cons, sz_nil]
    have : (⟨(Lib.itoa n).toArray⟩ : ByteArray).size = (itoa n).length := by show (Lib.itoa n).toArray.size = _; rw [List.size_toArray]
    omega
  · rw [if_neg hn, if_neg hn, sz_nil]; omega
theorem term_wt (hm : Maps S) {h : PHead} (hh : HeadP h) (he : h.ended = true) (h1 : (!decide (h.v = ⟨#[]⟩) && !hasM (mapFrom (varNames S) 0) h.v) = false) (h2 : (h.tos.any fun s => !hasM (mapFrom (blkNames S) 0) s) = false) :
    sz (termL (funcP S) (termOf (mapFrom (varNames S) 0) (mapFrom (blkNames S) 0) h)) = wtH h := by
  have hb := names_any h2
  have hv : h.v ≠ ⟨#[]⟩ → hasM (mapFrom (varNames S) 0) h.v = true := fun hne => by rw [decide_eq_false hne] at h1; simpa using h1
  unfold wtH
  rw [if_pos he]
  rcases hh with ⟨e, _⟩ | ⟨_, ⟨k, e1, e2⟩ | ⟨k, e1, e2⟩ | ⟨k, e1, e2⟩⟩
  · rw [e] at he; cases he
  · obtain ⟨a, ea⟩ := one_list e2
    have ha := (bname_back hm (hb a (by rw [ea]; exact .head _))).2
    unfold termL termOf
    rw [k, e1, ea]
    show sz [jumpS, bname (funcP S) (getI (mapFrom (blkNames S) 0) a)] = 4 + (0 + sz [a])
    rw [ha, sz_cons]
    show 4 + _ = _
    omega
  · obtain ⟨a, b, ea⟩ := two_list e2
    have ha := (bname_back hm (hb a (by rw [ea]; exact .head _))).2
    have hb := (bname_back hm (hb b (by rw [ea]; exact .tail _ (.head _)))).2
    have hv := (vname_back hm (hv e1)).2
    unfold termL termOf
    rw [k, ea, if_neg e1]
    show sz [ifS, vname (funcP S) (getI (mapFrom (varNames S) 0) h.v), bname (funcP S) (getI (mapFrom (blkNames S) 0) a), bname (funcP S) (getI (mapFrom (blkNames S) 0) b)] = 2 + (h.v.size + sz [a, b])
    rw [ha, hb, hv, sz_cons, sz_cons]
    rfl
  · have hv := (vname_back hm (hv e1)).2
    unfold termL termOf
    rw [k, e2, if_neg e1]
    show sz [retS, vname (funcP S) (getI (mapFrom (varNames S) 0) h.v)] = 3 + (h.v.size + 0)
    rw [hv, sz_cons, sz_cons, sz_nil]
    rfl
theorem items_wt (hm : Maps S) : ∀ {l : List PItem}, (∀ x ∈ l, ItemP x) → (∀ x ∈ l, lostI (mapFrom (varNames S) 0) (mapFrom (blkNames S) 0) x = false) →
    (((l.filterMap (phiOf (mapFrom (varNames S) 0) (mapFrom (blkNames S) 0))).map (phiL (funcP S))).map sz).sum + (((l.filterMap (instOf (mapFrom (varNames S) 0))).map (wordsOf (funcP S))).map sz).sum = (l.map wtI).sum
  | [], _, _ => rfl
  | .phi d f a :: l, h1, h2 => by
    have ih := items_wt hm (l := l) (fun x hx => h1 x (.tail _ hx)) (fun x hx => h2 x (.tail _ hx))
    have hp := phi_wt hm (h1 _ (.head _)) (h2 _ (.head _))
    rw [List.filterMap_cons_some (f := phiOf (mapFrom (varNames S) 0) (mapFrom (blkNames S) 0)) (a := .phi d f a) rfl, List.filterMap_cons_none (f := instOf (mapFrom (varNames S) 0)) (a := .phi d f a) rfl, List.map_cons, List.map_cons, List.sum_cons, List.map_cons, List.sum_cons, hp]
    omega
  | .inst op d a n :: l, h1, h2 => by
    have ih := items_wt hm (l := l) (fun x hx => h1 x (.tail _ hx)) (fun x hx => h2 x (.tail _ hx))
    have hp := inst_wt hm (h2 _ (.head _))
    rw [List.filterMap_cons_none (f := phiOf (mapFrom (varNames S) 0) (mapFrom (blkNames S) 0)) (a := .inst op d a n) rfl, List.filterMap_cons_some (f := instOf (mapFrom (varNames S) 0)) (a := .inst op d a n) rfl, List.map_cons, List.map_cons, List.sum_cons, List.map_cons, List.sum_cons, hp]
    omega
theorem blk_wt (hm : Maps S) {b : PHead × List PItem} (hb : b ∈ blocksOf S) (hbp : BP b) (he : b.1.ended = true) :
    ((blkL (funcP S) (blockOf (mapFrom (varNames S) 0) (mapFrom (blkNames S) 0) b)).map sz).sum = wtB b := by
  have hlb := hm.lost b hb
  unfold lostBlk at hlb
  obtain ⟨l1, l2⟩ := Bool.or_eq_false_iff.1 hlb
  obtain ⟨l1, l3⟩ := Bool.or_eq_false_iff.1 l1
  have h1 := items_wt hm hbp.items (fun x hx => by simpa using List.any_eq_false.1 l1 x hx)
  have h2 := term_wt hm hbp.head he l3 l2
  unfold blkL wtB
  rw [List.map_cons, List.sum_cons, List.map_append, List.sum_append, List.map_append, List.sum_append]
  show sz [blockS, b.1.name] + ((((b.2.filterMap (phiOf (mapFrom (varNames S) 0) (mapFrom (blkNames S) 0))).map (phiL (funcP S))).map sz).sum + ((((b.2.filterMap (instOf (mapFrom (varNames S) 0))).map (wordsOf (funcP S))).map sz).sum + (sz (termL (funcP S) (termOf (mapFrom (varNames S) 0) (mapFrom (blkNames S) 0) b.1)) + 0))) = _
  rw [h2, sz_cons, sz_cons, sz_nil]
  have : blockS.size = 5 := rfl
  omega
theorem blks_wt (hm : Maps S) : ∀ {l : List (PHead × List PItem)}, (∀ b ∈ l, b ∈ blocksOf S) → (∀ b ∈ l, BP b ∧ b.1.ended = true) →
    (((l.map (blockOf (mapFrom (varNames S) 0) (mapFrom (blkNames S) 0))).flatMap (blkL (funcP S))).map sz).sum = wtBs l
  | [], _, _ => rfl
  | b :: l, h1, h2 => by
    have ih := blks_wt hm (l := l) (fun x hx => h1 x (.tail _ hx)) (fun x hx => h2 x (.tail _ hx))
    have hb := blk_wt hm (h1 b (.head _)) (h2 b (.head _)).1 (h2 b (.head _)).2
    rw [List.map_cons, List.flatMap_cons, List.map_append, List.sum_append, ih, hb]
    unfold wtBs
    rw [List.map_cons, List.sum_cons]
theorem pairs_wt (l : List PVar) : sz (l.map pairW) = wtV l := by
  unfold sz wtV; rw [List.map_map]; rfl
theorem varsL_wt : ∀ l : List PVar, ((l.map varL).map sz).sum = 3 * l.length + wtV l
  | [] => rfl
  | v :: l => by
    have ih := varsL_wt l
    rw [List.map_cons, List.map_cons, List.sum_cons, ih]
    show sz [varS, pairW v] + _ = 3 * (l.length + 1) + ((pairW v).size + wtV l)
    rw [sz_cons, sz_cons, sz_nil]
    have : varS.size = 3 := rfl
    omega
theorem text_wt (hS : SP S) (hb : blocksOf S ≠ []) (he : ∀ b ∈ blocksOf S, BP b ∧ b.1.ended = true) (hf : fitsP S = true) (hl : lostP S = false) : (textF (funcP S)).size ≤ 2 * (4 + wtS S + 1536) := by
  have hm := maps_of hl
  obtain ⟨hsh, hn⟩ := read_shaped hS hb he hf hl
  obtain ⟨hfo, _⟩ := shaped_ok hsh
  have hw := wf_words hfo hn
  have h1 := un_len (ls := linesF (funcP S)) fun l hl => ⟨(hw l hl).1, fun w hw' => ((hw l hl).2 w hw').ne⟩
  have hfn : funcP S = ⟨S.params ++ S.vars, parL S.params.length (S.params ++ S.vars).length, (blocksOf S).map (blockOf (mapFrom (varNames S) 0) (mapFrom (blkNames S) 0))⟩ := by
    unfold funcP; rw [hm.v, hm.b]
  have hpl : (funcP S).params.length = S.params.length := by rw [hfn]; show (parL _ _).length = _; rw [parL_len]; simp
  have hv : (funcP S).vars = S.params ++ S.vars := rfl
  have hbk : (funcP S).blocks = (blocksOf S).map (blockOf (mapFrom (varNames S) 0) (mapFrom (blkNames S) 0)) := by rw [hfn]
  have hnv : S.vars.length ≤ 512 := by
    unfold fitsP at hf
    simp only [Bool.and_eq_true, decide_eq_true_eq] at hf
    omega
  have h2 : ((linesF (funcP S)).map sz).sum = 4 + wtV S.params + (3 * S.vars.length + wtV S.vars + wtBs (blocksOf S)) := by
    unfold linesF headL
    rw [hpl, hv, List.take_left, List.drop_left, List.map_cons, List.sum_cons, List.map_append, List.sum_append, sz_cons, pairs_wt, varsL_wt, hbk, blks_wt hm (fun b hb => hb) he]
    rfl
  unfold textF
  unfold wtS
  omega
end
end Go.Proofs.YtdkhlgiohpdihaaGreatDoor
