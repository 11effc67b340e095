/- A step of the document's machine, how it begins, and runs. Of programs as they are run. -/
import Derived.Test.YtiojekbkamegdaaGreatDoorZc
import Derived.Test.YtiojekbkamegdaaGreatDoorZq
set_option linter.unusedVariables false
set_option linter.unusedSimpArgs false
set_option linter.unusedSectionVars false
namespace Go.Proofs.YtiojekbkamegdaaGreatDoor
open Go.Proofs.Tryz
section
variable {E : World} {P : Program} {ops : Array Oper} {K : AEnv → OL → Prop} {env : AEnv} {O O' : OL} {rest : List Oper}
variable {d ty : Nat} {pos : String} {af : Array Edge} {x y z : Operand} {t u e : TypeId}
theorem AOps.appendO {ti : TypeInfo} {zv : Value} {k n m i j : Nat} {T2 : TypeId} {cs ds : List AV} {f : Nat → OL} (ht : P.underlying t = some (.slice e)) (hi : P.info? e = some ti) (hz : ti.zero = some zv) (hk : ti.size = k) (hzc : zv.cells.size = k)
  (hx : aev env x = .own i n) (hy : aev env y = .own j m) (hO : ∀ i', Swp O i (.grow k e cs) i' (.grow k e (cs ++ ds)) (f i')) (hj : Has O j (.grow k T2 ds)) (hn : cs.length = n * k) (hm : ds.length = m * k) (hne : ds ≠ []) (hk0 : 0 < k) (hc1 : ds.all qp = true) (hb : (n + m) * ti.bytes ≤ 140737488355328) (hb2 : n + m ≤ 140737488355328)
  (kk : ∀ i', AOps P E ops K rest (aupd env d (.own i' (n + m))) (f i')) :
  AOps P E ops K (Oper.mk (some d) (.call { callee := .builtin .append, args := #[x, y], argTypes := #[t, t] }) ty pos af none :: rest) env O := fun I F ρ w h1 h2 => by
 obtain ⟨htop, L, hL, hS⟩ := id h2
 have h3 := h1.ev x
 rw [hx] at h3
 obtain ⟨b, cap, e1, ex⟩ := h3
 have h4 := h1.ev y
 rw [hy] at h4
 obtain ⟨b4, c4, e4, ey⟩ := h4
 obtain ⟨b2, c2, us2, junk, e5, hus2, hmem⟩ := hj.grow hL hne
 rw [e4] at e5
 simp only [Option.some.injEq, Prod.mk.injEq] at e5
 obtain ⟨rfl, rfl⟩ := e5
 obtain ⟨j', hj'⟩ := h2.name
 obtain ⟨A, B, hp, ⟨b', cap', n', us, e2, hus, huc, hown⟩, hback⟩ := (hO j').rep hL
 simp only at e2
 rw [e1] at e2
 simp only [Option.some.injEq, Prod.mk.injEq] at e2
 obtain ⟨rfl, rfl⟩ := e2
 have hnn : n' = n := by
  have h5 := hown.1
  have h6 := hus.length
  have : n' * k = n * k := by omega
  exact Nat.eq_of_mul_eq_mul_right hk0 this
 subst hnn
 have hS2 : SL I.k (A ++ (B ++ F)) E w := hS.perm (by rw [← qs]; exact (hp.append_right F).symm)
 have hmem2 : (b2, Obj.cells (us2 ++ junk).toArray T2 (0, 0)) ∈ A ++ (B ++ F) := by rw [← qs]; exact List.mem_append_left _ (hp.mem_iff.1 hmem)
 have hsrc : Src I.k (A ++ (B ++ F)) k (some ⟨b2, 0, none⟩) m us2 := ⟨by rw [hus2.length, hm], hus2.cell1 hc1, .inr ⟨_, rfl, fun q u hq => ⟨b2, 0, rfl, .inr ⟨_, _, _, hmem2, by
  rw [Nat.zero_add, List.getElem?_toArray, List.getElem?_append_left (List.getElem?_eq_some_iff.1 hq).1]; exact hq⟩⟩⟩⟩
 refine Ops.append ht hi hz hk hzc ex ey hS2 hown hsrc hb hb2 fun a' c' A' w' h5 h6 h7 => ?_
 have hb' : ∃ b'', a' = adr b'' := by
  rcases h5.2.2 with ⟨e, _⟩ | ⟨b'', junk, e, _⟩
  ·exact ⟨none, e⟩
  ·exact ⟨some b'', e⟩
 obtain ⟨b'', rfl⟩ := hb'
 obtain ⟨J, ek, hle, e3, htop'⟩ := hj' (b'', c')
 obtain ⟨L', h8, h9⟩ := hback hle (A' := A') ⟨b'', c', _, us ++ us2, e3, qd hle _ _ (hus.append hus2), (by
  intro u hu
  rcases List.mem_append.1 hu with hu | hu
  ·exact huc u hu
  ·exact hus2.cell1 hc1 u hu), h5⟩
 exact yz (fun _ _ => postK.up hle) _ _ _ (kk j' J F _ _ ((h1.mono hle).upd d ⟨b'', c', e3, rfl⟩) ⟨htop', L', h8, by rw [ek]; exact h6.perm (by rw [← qs]; exact h9.append_right F)⟩)
end
end Go.Proofs.YtiojekbkamegdaaGreatDoor
namespace Go.Proofs.YtiojekbkamegdaaGreatDoor
open Go.Proofs.Tryz
section
variable {E : World} {P : Program} {ops : Array Oper} {K : AEnv → OL → Prop} {env : AEnv} {O O' : OL} {rest : List Oper}
variable {d ty : Nat} {pos : String} {af : Array Edge} {x y z : Operand} {t u e : TypeId}
theorem AOps.appendOZ {ti : TypeInfo} {zv : Value} {k n m i j : Nat} {T2 : TypeId} {cs ds : List AV} {f : Nat → OL} (ht : P.underlying t = some (.slice e)) (hi : P.info? e = some ti) (hz : ti.zero = some zv) (hk : ti.size = k) (hzc : zv.cells.size = k)
  (hx : aev env x = .own i n) (hy : aev env y = .own j m) (hO : ∀ i', Swp O i (.grow k e cs) i' (.grow k e (cs ++ ds)) (f i')) (hj : Has O j (.grow k T2 ds)) (hn : cs.length = n * k) (hm : ds.length = m * k) (hk0 : 0 < k) (hc1 : ds.all qp = true) (hb : (n + m) * ti.bytes ≤ 140737488355328) (hb2 : n + m ≤ 140737488355328)
  (kk : ∀ i', AOps P E ops K rest (aupd env d (.own i' (n + m))) (f i')) :
  AOps P E ops K (Oper.mk (some d) (.call { callee := .builtin .append, args := #[x, y], argTypes := #[t, t] }) ty pos af none :: rest) env O := by
 by_cases hne : ds = []
 ·subst hne
  have hm0 : m = 0 := by
   have : m * k = 0 := hm.symm
   rcases Nat.mul_eq_zero.1 this with h | h
   ·exact h
   ·omega
  subst hm0
  intro I F ρ w h1 h2
  obtain ⟨htop, L, hL, hS⟩ := id h2
  have h3 := h1.ev x
  rw [hx] at h3
  obtain ⟨b, cap, e1, ex⟩ := h3
  have h4 := h1.ev y
  rw [hy] at h4
  obtain ⟨b4, c4, e4, ey⟩ := h4
  obtain ⟨j', hj'⟩ := h2.name
  obtain ⟨A, B, hp, ⟨b', cap', n', us, e2, hus, huc, hown⟩, hback⟩ := (hO j').rep hL
  simp only at e2
  rw [e1] at e2
  simp only [Option.some.injEq, Prod.mk.injEq] at e2
  obtain ⟨rfl, rfl⟩ := e2
  have hnn : n' = n := by
   have h5 := hown.1
   have h6 := hus.length
   have : n' * k = n * k := by omega
   exact Nat.eq_of_mul_eq_mul_right hk0 this
  subst hnn
  have hS2 : SL I.k (A ++ (B ++ F)) E w := hS.perm (by rw [← qs]; exact (hp.append_right F).symm)
  have hsrc : Src I.k (A ++ (B ++ F)) k (adr b4) 0 [] := ⟨by simp, by simp, by cases b4 with | none => exact .inl ⟨rfl, rfl⟩ | some b4 => exact .inr ⟨_, rfl, by simp⟩⟩
  refine Ops.append ht hi hz hk hzc ex ey hS2 hown hsrc hb hb2 fun a' c' A' w' h5 h6 h7 => ?_
  have hb' : ∃ b'', a' = adr b'' := by
   rcases h5.2.2 with ⟨e, _⟩ | ⟨b'', junk, e, _⟩
   ·exact ⟨none, e⟩
   ·exact ⟨some b'', e⟩
  obtain ⟨b'', rfl⟩ := hb'
  obtain ⟨J, ek, hle, e3, htop'⟩ := hj' (b'', c')
  obtain ⟨L', h8, h9⟩ := hback hle (A' := A') ⟨b'', c', _, us ++ [], e3, qd hle _ _ (hus.append rfl), (by rw [List.append_nil]; exact huc), h5⟩
  exact yz (fun _ _ => postK.up hle) _ _ _ (kk j' J F _ _ ((h1.mono hle).upd d ⟨b'', c', e3, rfl⟩) ⟨htop', L', h8, by rw [ek]; exact h6.perm (by rw [← qs]; exact h9.append_right F)⟩)
 ·exact AOps.appendO ht hi hz hk hzc hx hy hO hj hn hm hne hk0 hc1 hb hb2 kk
end
end Go.Proofs.YtiojekbkamegdaaGreatDoor
namespace Go.Proofs.YtiojekbkamegdaaGreatDoor
open Go.Proofs.Tryz
open Go.Proofs Go.Lib Go.Shelf Go.RowKit
variable {E : World}
set_option maxRecDepth 20000
def phiFi (fr ar : List Int) (b : Int) : Int := ((fr.zip ar).find? fun q => decide (q.1 = b)).elim (-1) (·.2)
theorem phiFi_at {fr ar : List Int} {b : Int} {j : Nat} (h : j < fr.length) (h2 : j < ar.length) : phiFi (fr.drop j) (ar.drop j) b = if fr[j] = b then ar[j] else phiFi (fr.drop (j + 1)) (ar.drop (j + 1)) b := by
 rw [List.drop_eq_getElem_cons h, List.drop_eq_getElem_cons h2]
 unfold phiFi
 rw [List.zip_cons_cons, List.find?_cons]
 by_cases e : fr[j] = b
 ·rw [if_pos e]; simp [e]
 ·rw [if_neg e]; simp [e]
def gotL (l : List PPhi) (b : Int) (k : Nat) : List Int := (l.take k).map fun p => phiAt p b
theorem got_push {l : List PPhi} {b : Int} {k : Nat} (h : k < l.length) : gotL l b k ++ [phiAt l[k] b] = gotL l b (k + 1) := by
 unfold gotL; rw [qr h, List.map_append]; rfl
theorem got_get {l : List PPhi} {b : Int} {k : Nat} (h : k < l.length) : (gotL l b l.length)[k]? = some (phiAt l[k] b) := by
 unfold gotL; rw [qv, List.getElem?_map, qq h]; rfl
theorem got_len {l : List PPhi} {b : Int} {k : Nat} (h : k ≤ l.length) : (gotL l b k).length = k := by
 unfold gotL; rw [qx, qz]; omega
def toG (l : List PPhi) (s : GS) (k : Nat) : GS := (l.take k).foldl (assign s) s
theorem to_push {l : List PPhi} {s : GS} {k : Nat} (h : k < l.length) : toG l s (k + 1) = assign s (toG l s k) l[k] := by
 unfold toG; rw [qr h, List.foldl_append]; rfl
theorem to_arrays (l : List PPhi) (s : GS) (k : Nat) : (toG l s k).arrays = s.arrays := by
 unfold toG
 suffices h : ∀ (l : List PPhi) (t : GS), (l.foldl (assign s) t).arrays = t.arrays from h _ s
 intro l
 induction l with
 | nil => intro t; rfl
 | cons p l ih => intro t; exact ih _
set_option maxHeartbeats 16000000 in
theorem wenter_spec (f : PFunc) (iw ja jb jc jo jt : Nat) (ids : List Nat) (s : GS) (to : Int) (hids : ids.length = s.arrays.length) (hg : GInv f s) (hR : RunP f) (hv : f.vars.length ≤ 1000) (hs : small f) (h0 : 0 ≤ to) (h1 : to < f.blocks.length) : ACall prog E 106 [.po iw 0, .int .i64 to] (wO f iw ja jb jc jo jt ids s) (fun y O => ids.length = (enterG f s to).arrays.length ∧ y = .tup [] ∧ O = wO f iw ja jb jc jo jt ids (enterG f s to)) := by
 have hB := blk_get h0 h1
 have hBm := qy hB
 have hph := hR.phis _ hBm
 have hsm := (hs.2.2.2.2 _ hBm).2.1
 have hsp := (hs.2.2.2.2 _ hBm).2.2.2.1
 obtain ⟨B, hBe⟩ : ∃ B, blkG f to = B := ⟨_, rfl⟩
 have hgo : enterG f s to = if B.phis.all (fun p => decide (0 ≤ phiAt p s.blk)) = true then goG (toG B.phis s B.phis.length) to else stopG (goG s to) 2 := by unfold enterG toG; rw [hBe, qv]
 rw [hBe] at hB hph hsm hsp
 have hl1 := hg.li
 have hl2 := hg.lb
 have hl3 := hg.la
 refine zo func106 rfl (by decide) rfl<|zSr<|z2 (zAr rfl)<|z6<|adopt_wp (t := 4) (k := 1) (T := 3) rfl<|fun i4 => yc (za (zb .t1))<|zd<|zSr<|z2 (zMp rfl)<|z2 (zn rfl)<|z2 (ze underlying100 rfl sizeOf26 (by decide) rfl rfl)<|z2 (ze underlying26 rfl sizeOf24 (by decide) rfl rfl)<|z2 (zl (c := .fro _ _) isAgg24 rfl ⟨_, .head⟩ rfl)<|z2 (zMi rfl)<|z2 (zIM to.toNat underlying24 sizeOf58 rfl rfl (by omega) hB)<|z2 (zFF underlying58 rfl sizeOf51 rfl rfl)<|z2 (zLf isAgg51 rfl)<|z2 (y2 underlying51 rfl)<|z2 (zMi rfl)<|z6<|zi<|y5 (γ := Nat × Nat) [0, 1, 22, 23] (fun g => [(24, .int .i64 g.1), (4, .own g.2 g.1)]) (fun g => (iw, .cells 100 (wCe f ja jb jc jo jt s)) :: (g.2, .grow 1 3 (cI (gotL B.phis s.blk g.1))) :: wR ja jb jc jo jt ids s) (fun g => g.1 ≤ B.phis.length ∧ ∀ p ∈ B.phis.take g.1, 0 ≤ phiAt p s.blk) (fun g => B.phis.length - g.1) (0, i4) zR2 zLe (⟨qt _, fun p hp => by simp at hp⟩) ?_
 rintro ⟨k, i4⟩ ⟨hk, hok⟩
 try dsimp only at *
 refine zSr<|z2 (yb rfl rfl)<|z6<|zd<|zr rfl (fun ck=>?_) (fun ck=>?_)
 ·have hk2 : k < B.phis.length := by simp at ck; omega
  obtain ⟨p, hp⟩ : ∃ p, B.phis[k] = p := ⟨_, rfl⟩
  have hpg : B.phis[k]? = some p := by rw [qq hk2, hp]
  have hpm := qy hpg
  obtain ⟨_, hal, _, _, _⟩ := hph p hpm
  have hfl := (hsp p hpm).2
  refine zh<|zd<|zi<|zSr<|z2 (zIM k underlying51 sizeOf81 rfl rfl rfl hpg)<|z2 (zp isAgg81 sizeOf81 rfl rfl)<|zy (cs := [.int .i64 0, .raw (.slice none 0 0), .raw (.slice none 0 0)]) zeroValue81 rfl rfl<|fun i6 => zq sizeOf81 rfl rfl rfl rfl rfl rfl .head rfl<|zc (yk (t := 6) rfl .head)<|z6<|zSr<|z2 (zAi rfl)<|z6<|zd<|zSr<|z2 (zFF underlying81 rfl sizeOf23 rfl rfl)<|z2 (zLf isAgg23 rfl)<|z2 (y2 underlying23 rfl)<|z2 (Gv.sub rfl rfl (by unfold I64; omega))<|z2 (zAi rfl)<|z6<|zi<|y5 (γ := Nat) [0, 1, 4, 6, 22, 23, 24] (fun m => [(8, .int .i64 ((m : Int) - 1)), (7, .int .i64 (phiFi (p.from_.drop m) (p.args.drop m) s.blk))]) (fun m => (iw, .cells 100 (wCe f ja jb jc jo jt s)) :: (i4, .grow 1 3 (cI (gotL B.phis s.blk k))) :: wR ja jb jc jo jt ids s) (fun m => m ≤ p.from_.length) (fun m => m) p.from_.length ⟨congrArg (AV.int .i64) (by simp), congrArg (AV.int .i64) (by rw [List.drop_length]; rfl), trivial⟩ zLe (Nat.le_refl _) ?_
  rintro m hm
  refine zd<|zSr<|z2 (zMi rfl)<|z2 (q6 rfl rfl)<|z6<|zr rfl (fun c8=>?_) (fun c8=>?_)
  ·have hm1 : m - 1 < p.from_.length := by omega
   have hm2 : m - 1 < p.args.length := by omega
   have hst := phiFi_at (b := s.blk) hm1 hm2
   rw [show m - 1 + 1 = m by omega] at hst
   refine zh<|zd<|zi<|zd<|zu (fun j => false) (by kernel_rfl) rfl (zm (.r (.rest _)))<|zTk 0 rfl (zFF underlying81 rfl sizeOf23 rfl rfl)<|zTk 1 rfl (zLf isAgg23 rfl)<|zTk 2 rfl (zMi rfl)<|zTk 3 rfl (zIM (m - 1) underlying23 sizeOf3 rfl rfl (by omega) (qq hm1))<|zTk 4 rfl (zLi isAgg3 rfl)<|zTk 5 rfl (zMp rfl)<|zTk 6 rfl (zn rfl)<|zTk 7 rfl (ze underlying100 rfl sizeOf3 (by decide) rfl rfl)<|zTk 8 rfl (zl (c := .int _ _) isAgg3 rfl ⟨_, .head⟩ rfl)<|zTk 9 rfl (y7 rfl rfl)<|zDn<|zr rfl (fun ce=>?_) (fun ce=>?_)
   ·have ce : p.from_[m - 1] = s.blk := by simpa using ce
    rw [if_pos ce] at hst
    refine zRg<|z2 (zFF underlying81 rfl sizeOf23 rfl rfl)<|z2 (zLf isAgg23 rfl)<|z2 (zMi rfl)<|z2 (zIM (m - 1) underlying23 sizeOf3 rfl rfl (by omega) (qq hm2))<|z2 (zLi isAgg3 rfl)<|z2 (zAi rfl)<|z6<|zRg<|z2 (zMi rfl)<|z2 (Gv.sub rfl rfl (by unfold I64; omega))<|z2 (zAi rfl)<|z6 ?_
    exact ⟨m - 1, zR7, ⟨congrArg (AV.int .i64) (by omega), congrArg (AV.int .i64) hst.symm, trivial⟩, zLe, by omega, by omega⟩
   ·have ce : ¬ p.from_[m - 1] = s.blk := by simpa using ce
    rw [if_neg ce] at hst
    refine zh<|zRg<|z2 (zMi rfl)<|z2 (Gv.sub rfl rfl (by unfold I64; omega))<|z2 (zAi rfl)<|z6 ?_
    exact ⟨m - 1, zR7, ⟨congrArg (AV.int .i64) (by omega), congrArg (AV.int .i64) hst.symm, trivial⟩, zLe, by omega, by omega⟩
  ·obtain rfl : m = 0 := by omega
   have hat : phiFi (p.from_.drop 0) (p.args.drop 0) s.blk = phiAt p s.blk := rfl
   rw [hat]
   refine y4<|zd<|zSr<|z2 (zMi rfl)<|z2 (yb rfl rfl)<|z6<|zr rfl (fun cn=>?_) (fun cn=>?_)
   ·have cn : phiAt p s.blk < 0 := by simpa using cn
    have hE : enterG f s to = stopG (goG s to) 2 := by
     rw [hgo, if_neg]
     intro h
     have := of_decide_eq_true (List.all_eq_true.1 h p hpm)
     omega
    refine yc (GStep.drop .t1)<|zSr<|z2 (zMp rfl)<|z2 (zMp rfl)<|z2 (zMi rfl)<|z2 (zn rfl)<|z2 (ze underlying100 rfl sizeOf3 (by decide) rfl rfl)<|yn (l := [_]) (new := [_, _, _, _, _, _, _, _, _, _, _, _, _, _, _, _, _, _, _, _, _, _, _]) sizeOf3 rfl rfl rfl rfl rfl rfl .head rfl rfl<|z2 (zn rfl)<|z2 (ze underlying100 rfl sizeOf3 (by decide) rfl rfl)<|yn (l := [_]) (new := [_, _, _, _, _, _, _, _, _, _, _, _, _, _, _, _, _, _, _, _, _, _, _]) sizeOf3 rfl rfl rfl rfl rfl rfl .head rfl rfl<|z6<|zSr<|z2 (zMp rfl)<|y1 rfl (zm (.l (.l (.l (.l (.l (.l (.l (.rest _))))))))) (wend_spec f iw ja jb jc jo jt ids (goG s to) 2) ?_
    rintro r61 O61 ⟨rfl, rfl⟩
    refine z6<|zg<|yv ?_
    exact ⟨by rw [hE]; exact hids, rfl, by rw [hE]; rfl⟩
   ·have cn : 0 ≤ phiAt p s.blk := by simpa using cn
    refine zh<|zRg<|z2 (zMo rfl)<|z2 (zMi rfl)<|zw (rows := [[_]]) ps23_1 rfl rfl rfl rfl rfl<|yg (k := 1) underlying23 type3 rfl rfl rfl rfl rfl (fun _ => .t1) (by rw [cI_len, got_len hk]; omega) (by decide) rfl (by show (_ + 1) * 8 ≤ _; omega) (by show _ + 1 ≤ _; omega)<|fun i65 => z2 (zAo rfl)<|z6<|zRg<|z2 (zAd rfl rfl)<|z2 (zMi rfl)<|z6 ?_
    exact ⟨(k + 1, i65), zR4, zR2, ⟨_, (.refl _), by rw [← got_push hk2, hp, ← cI_app]; rfl⟩, ⟨hk2, fun q hq => by rw [qr hk2] at hq; rcases List.mem_append.1 hq with hq | hq; exact hok q hq; rw [List.mem_singleton.1 hq, hp]; exact cn⟩, by dsimp only; omega⟩
 ·obtain rfl : k = B.phis.length := by simp at ck; omega
  rw [qv] at hok
  have hE : enterG f s to = goG (toG B.phis s B.phis.length) to := by
   rw [hgo, if_pos (List.all_eq_true.2 fun p hp => w3 (hok p hp))]
  have hT : ∀ k, GInv f (toG B.phis s k) := fun k => hg.assigns _ s hg rfl fun p hp => ⟨hph p (List.mem_of_mem_take hp), hok p (List.mem_of_mem_take hp)⟩
  refine y4<|zd<|yp (γ := Nat × Nat × Nat) [0, 1, 4] (fun g => [(9, .own g.1 f.vars.length), (10, .own g.2.1 f.vars.length), (11, .own g.2.2 f.vars.length)]) (fun g => (iw, .cells 100 (wCe f ja jb jc jo jt s)) :: (g.1, .grow 1 2 (cI s.ints)) :: (g.2.1, .grow 1 4 (cB s.bools)) :: (g.2.2, .grow 1 3 (cI s.arrs)) :: (i4, .grow 1 3 (cI (gotL B.phis s.blk B.phis.length))) :: wR ja jb jc jo jt ids s) (fun g => True) ?_ (fun _ _ h => h) ?_
  ·refine zu (fun j => false) (by kernel_rfl) rfl (zm (.r (.rest _)))<|zTk 1 rfl (zMp rfl)<|zTk 2 rfl (zn rfl)<|zTk 3 rfl (ze underlying100 rfl sizeOf42 (by decide) rfl rfl)<|zTk 4 rfl (zl (c := .own _ _) isAgg42 rfl ⟨_, .head⟩ rfl)<|zTk 7 rfl (zMp rfl)<|zTk 8 rfl (zn rfl)<|zTk 9 rfl (ze underlying100 rfl sizeOf98 (by decide) rfl rfl)<|zTk 10 rfl (zl (c := .own _ _) isAgg98 rfl ⟨_, .head⟩ rfl)<|zTk 13 rfl (zMp rfl)<|zTk 14 rfl (zn rfl)<|zTk 15 rfl (ze underlying100 rfl sizeOf23 (by decide) rfl rfl)<|zTk 16 rfl (zl (c := .own _ _) isAgg23 rfl ⟨_, .head⟩ rfl)<|ql (i := 0) (j := 6) (m := 12) rfl rfl rfl (by kernel_rfl) ?_ ?_ ?_
   ·refine ye (k := 1) underlying42 type2<|fun i67 => z6<|ql (i := 5) (j := 6) (m := 12) rfl rfl rfl (by kernel_rfl) ?_ ?_ ?_
    ·refine AOps.appendOZ (k := 1) underlying42 type2 rfl rfl rfl rfl rfl (fun _ => .head) ⟨_, .t2⟩ rfl (by rw [cI_len, hl1]; omega) (by decide) (cI_cell _) (by show (_ + _) * 8 ≤ _; omega) (by omega)<|fun i72 => z6<|yh (i := 6) (j := 12) rfl rfl (by kernel_rfl) ?_ ?_
     ·refine ye (k := 1) underlying98 type4<|fun i73 => z6<|yh (i := 11) (j := 12) rfl rfl (by kernel_rfl) ?_ ?_
      ·refine AOps.appendOZ (k := 1) underlying98 type4 rfl rfl rfl rfl rfl (fun _ => .head) ⟨_, .t4⟩ rfl (by rw [cB_len, hl2]; omega) (by decide) (cB_cell _) (by show (_ + _) * 1 ≤ _; omega) (by omega)<|fun i78 => z6<|zOn 12 rfl<|ye (k := 1) underlying23 type3<|fun i79 => z6<|zOn 17 rfl<|AOps.appendOZ (k := 1) underlying23 type3 rfl rfl rfl rfl rfl (fun _ => .head) ⟨_, .t6⟩ rfl (by rw [cI_len, hl3]; omega) (by decide) (cI_cell _) (by show (_ + _) * 8 ≤ _; omega) (by omega)<|fun i84 => zc (za (zb .head))<|zc (za (zb .t1))<|zc (za (zb .t2))<|z6<|zTk 18 rfl (zAo rfl)<|zTk 19 rfl (zAo rfl)<|zTk 20 rfl (zAo rfl)<|zDn ?_
       exact ⟨(i72, i78, i84), zR3, ⟨congrArg (AV.own i72) (Nat.zero_add _), congrArg (AV.own i78) (Nat.zero_add _), congrArg (AV.own i84) (Nat.zero_add _), trivial⟩, zLe, trivial⟩
      ·refine ye (k := 1) underlying23 type3<|fun i79 => z6<|zOn 11 rfl<|AOps.appendOZ (k := 1) underlying98 type4 rfl rfl rfl rfl rfl (fun _ => .t1) ⟨_, .t5⟩ rfl (by rw [cB_len, hl2]; omega) (by decide) (cB_cell _) (by show (_ + _) * 1 ≤ _; omega) (by omega)<|fun i78 => z6<|zOn 17 rfl<|AOps.appendOZ (k := 1) underlying23 type3 rfl rfl rfl rfl rfl (fun _ => .head) ⟨_, .t6⟩ rfl (by rw [cI_len, hl3]; omega) (by decide) (cI_cell _) (by show (_ + _) * 8 ≤ _; omega) (by omega)<|fun i84 => zc (za (zb .head))<|zc (za (zb .t1))<|zc (za (zb .t2))<|z6<|zTk 18 rfl (zAo rfl)<|zTk 19 rfl (zAo rfl)<|zTk 20 rfl (zAo rfl)<|zDn ?_
       exact ⟨(i72, i78, i84), zR3, ⟨congrArg (AV.own i72) (Nat.zero_add _), congrArg (AV.own i78) (Nat.zero_add _), congrArg (AV.own i84) (Nat.zero_add _), trivial⟩, zLe, trivial⟩
     ·refine ye (k := 1) underlying23 type3<|fun i79 => z6<|zOn 6 rfl<|ye (k := 1) underlying98 type4<|fun i73 => z6<|zOn 11 rfl<|AOps.appendOZ (k := 1) underlying98 type4 rfl rfl rfl rfl rfl (fun _ => .head) ⟨_, .t5⟩ rfl (by rw [cB_len, hl2]; omega) (by decide) (cB_cell _) (by show (_ + _) * 1 ≤ _; omega) (by omega)<|fun i78 => z6<|zOn 17 rfl<|AOps.appendOZ (k := 1) underlying23 type3 rfl rfl rfl rfl rfl (fun _ => .t1) ⟨_, .t6⟩ rfl (by rw [cI_len, hl3]; omega) (by decide) (cI_cell _) (by show (_ + _) * 8 ≤ _; omega) (by omega)<|fun i84 => zc (za (zb .t1))<|zc (za (zb .t1))<|zc (za (zb .t2))<|z6<|zTk 18 rfl (zAo rfl)<|zTk 19 rfl (zAo rfl)<|zTk 20 rfl (zAo rfl)<|zDn ?_
      exact ⟨(i72, i78, i84), zR3, ⟨congrArg (AV.own i72) (Nat.zero_add _), congrArg (AV.own i78) (Nat.zero_add _), congrArg (AV.own i84) (Nat.zero_add _), trivial⟩, zLe, trivial⟩
    ·refine ye (k := 1) underlying98 type4<|fun i73 => z6<|yh (i := 5) (j := 12) rfl rfl (by kernel_rfl) ?_ ?_
     ·refine AOps.appendOZ (k := 1) underlying42 type2 rfl rfl rfl rfl rfl (fun _ => .t1) ⟨_, .t3⟩ rfl (by rw [cI_len, hl1]; omega) (by decide) (cI_cell _) (by show (_ + _) * 8 ≤ _; omega) (by omega)<|fun i72 => z6<|yh (i := 11) (j := 12) rfl rfl (by kernel_rfl) ?_ ?_
      ·refine AOps.appendOZ (k := 1) underlying98 type4 rfl rfl rfl rfl rfl (fun _ => .head) ⟨_, .t4⟩ rfl (by rw [cB_len, hl2]; omega) (by decide) (cB_cell _) (by show (_ + _) * 1 ≤ _; omega) (by omega)<|fun i78 => z6<|zOn 12 rfl<|ye (k := 1) underlying23 type3<|fun i79 => z6<|zOn 17 rfl<|AOps.appendOZ (k := 1) underlying23 type3 rfl rfl rfl rfl rfl (fun _ => .head) ⟨_, .t6⟩ rfl (by rw [cI_len, hl3]; omega) (by decide) (cI_cell _) (by show (_ + _) * 8 ≤ _; omega) (by omega)<|fun i84 => zc (za (zb .head))<|zc (za (zb .t1))<|zc (za (zb .t2))<|z6<|zTk 18 rfl (zAo rfl)<|zTk 19 rfl (zAo rfl)<|zTk 20 rfl (zAo rfl)<|zDn ?_
       exact ⟨(i72, i78, i84), zR3, ⟨congrArg (AV.own i72) (Nat.zero_add _), congrArg (AV.own i78) (Nat.zero_add _), congrArg (AV.own i84) (Nat.zero_add _), trivial⟩, zLe, trivial⟩
      ·refine ye (k := 1) underlying23 type3<|fun i79 => z6<|zOn 11 rfl<|AOps.appendOZ (k := 1) underlying98 type4 rfl rfl rfl rfl rfl (fun _ => .t1) ⟨_, .t5⟩ rfl (by rw [cB_len, hl2]; omega) (by decide) (cB_cell _) (by show (_ + _) * 1 ≤ _; omega) (by omega)<|fun i78 => z6<|zOn 17 rfl<|AOps.appendOZ (k := 1) underlying23 type3 rfl rfl rfl rfl rfl (fun _ => .head) ⟨_, .t6⟩ rfl (by rw [cI_len, hl3]; omega) (by decide) (cI_cell _) (by show (_ + _) * 8 ≤ _; omega) (by omega)<|fun i84 => zc (za (zb .head))<|zc (za (zb .t1))<|zc (za (zb .t2))<|z6<|zTk 18 rfl (zAo rfl)<|zTk 19 rfl (zAo rfl)<|zTk 20 rfl (zAo rfl)<|zDn ?_
       exact ⟨(i72, i78, i84), zR3, ⟨congrArg (AV.own i72) (Nat.zero_add _), congrArg (AV.own i78) (Nat.zero_add _), congrArg (AV.own i84) (Nat.zero_add _), trivial⟩, zLe, trivial⟩
     ·refine ye (k := 1) underlying23 type3<|fun i79 => z6<|zOn 5 rfl<|AOps.appendOZ (k := 1) underlying42 type2 rfl rfl rfl rfl rfl (fun _ => .t2) ⟨_, .t4⟩ rfl (by rw [cI_len, hl1]; omega) (by decide) (cI_cell _) (by show (_ + _) * 8 ≤ _; omega) (by omega)<|fun i72 => z6<|zOn 11 rfl<|AOps.appendOZ (k := 1) underlying98 type4 rfl rfl rfl rfl rfl (fun _ => .t1) ⟨_, .t5⟩ rfl (by rw [cB_len, hl2]; omega) (by decide) (cB_cell _) (by show (_ + _) * 1 ≤ _; omega) (by omega)<|fun i78 => z6<|zOn 17 rfl<|AOps.appendOZ (k := 1) underlying23 type3 rfl rfl rfl rfl rfl (fun _ => .head) ⟨_, .t6⟩ rfl (by rw [cI_len, hl3]; omega) (by decide) (cI_cell _) (by show (_ + _) * 8 ≤ _; omega) (by omega)<|fun i84 => zc (za (zb .head))<|zc (za (zb .t1))<|zc (za (zb .t2))<|z6<|zTk 18 rfl (zAo rfl)<|zTk 19 rfl (zAo rfl)<|zTk 20 rfl (zAo rfl)<|zDn ?_
      exact ⟨(i72, i78, i84), zR3, ⟨congrArg (AV.own i72) (Nat.zero_add _), congrArg (AV.own i78) (Nat.zero_add _), congrArg (AV.own i84) (Nat.zero_add _), trivial⟩, zLe, trivial⟩
    ·refine ye (k := 1) underlying23 type3<|fun i79 => z6<|yh (i := 5) (j := 6) rfl rfl (by kernel_rfl) ?_ ?_
     ·refine AOps.appendOZ (k := 1) underlying42 type2 rfl rfl rfl rfl rfl (fun _ => .t1) ⟨_, .t3⟩ rfl (by rw [cI_len, hl1]; omega) (by decide) (cI_cell _) (by show (_ + _) * 8 ≤ _; omega) (by omega)<|fun i72 => z6<|zOn 6 rfl<|ye (k := 1) underlying98 type4<|fun i73 => z6<|zOn 11 rfl<|AOps.appendOZ (k := 1) underlying98 type4 rfl rfl rfl rfl rfl (fun _ => .head) ⟨_, .t5⟩ rfl (by rw [cB_len, hl2]; omega) (by decide) (cB_cell _) (by show (_ + _) * 1 ≤ _; omega) (by omega)<|fun i78 => z6<|zOn 17 rfl<|AOps.appendOZ (k := 1) underlying23 type3 rfl rfl rfl rfl rfl (fun _ => .t1) ⟨_, .t6⟩ rfl (by rw [cI_len, hl3]; omega) (by decide) (cI_cell _) (by show (_ + _) * 8 ≤ _; omega) (by omega)<|fun i84 => zc (za (zb .t1))<|zc (za (zb .t1))<|zc (za (zb .t2))<|z6<|zTk 18 rfl (zAo rfl)<|zTk 19 rfl (zAo rfl)<|zTk 20 rfl (zAo rfl)<|zDn ?_
      exact ⟨(i72, i78, i84), zR3, ⟨congrArg (AV.own i72) (Nat.zero_add _), congrArg (AV.own i78) (Nat.zero_add _), congrArg (AV.own i84) (Nat.zero_add _), trivial⟩, zLe, trivial⟩
     ·refine ye (k := 1) underlying98 type4<|fun i73 => z6<|zOn 5 rfl<|AOps.appendOZ (k := 1) underlying42 type2 rfl rfl rfl rfl rfl (fun _ => .t2) ⟨_, .t4⟩ rfl (by rw [cI_len, hl1]; omega) (by decide) (cI_cell _) (by show (_ + _) * 8 ≤ _; omega) (by omega)<|fun i72 => z6<|zOn 11 rfl<|AOps.appendOZ (k := 1) underlying98 type4 rfl rfl rfl rfl rfl (fun _ => .head) ⟨_, .t5⟩ rfl (by rw [cB_len, hl2]; omega) (by decide) (cB_cell _) (by show (_ + _) * 1 ≤ _; omega) (by omega)<|fun i78 => z6<|zOn 17 rfl<|AOps.appendOZ (k := 1) underlying23 type3 rfl rfl rfl rfl rfl (fun _ => .t1) ⟨_, .t6⟩ rfl (by rw [cI_len, hl3]; omega) (by decide) (cI_cell _) (by show (_ + _) * 8 ≤ _; omega) (by omega)<|fun i84 => zc (za (zb .t1))<|zc (za (zb .t1))<|zc (za (zb .t2))<|z6<|zTk 18 rfl (zAo rfl)<|zTk 19 rfl (zAo rfl)<|zTk 20 rfl (zAo rfl)<|zDn ?_
      exact ⟨(i72, i78, i84), zR3, ⟨congrArg (AV.own i72) (Nat.zero_add _), congrArg (AV.own i78) (Nat.zero_add _), congrArg (AV.own i84) (Nat.zero_add _), trivial⟩, zLe, trivial⟩
   ·refine ye (k := 1) underlying98 type4<|fun i73 => z6<|yh (i := 0) (j := 12) rfl rfl (by kernel_rfl) ?_ ?_
    ·refine ye (k := 1) underlying42 type2<|fun i67 => z6<|yh (i := 5) (j := 12) rfl rfl (by kernel_rfl) ?_ ?_
     ·refine AOps.appendOZ (k := 1) underlying42 type2 rfl rfl rfl rfl rfl (fun _ => .head) ⟨_, .t3⟩ rfl (by rw [cI_len, hl1]; omega) (by decide) (cI_cell _) (by show (_ + _) * 8 ≤ _; omega) (by omega)<|fun i72 => z6<|yh (i := 11) (j := 12) rfl rfl (by kernel_rfl) ?_ ?_
      ·refine AOps.appendOZ (k := 1) underlying98 type4 rfl rfl rfl rfl rfl (fun _ => .t1) ⟨_, .t4⟩ rfl (by rw [cB_len, hl2]; omega) (by decide) (cB_cell _) (by show (_ + _) * 1 ≤ _; omega) (by omega)<|fun i78 => z6<|zOn 12 rfl<|ye (k := 1) underlying23 type3<|fun i79 => z6<|zOn 17 rfl<|AOps.appendOZ (k := 1) underlying23 type3 rfl rfl rfl rfl rfl (fun _ => .head) ⟨_, .t6⟩ rfl (by rw [cI_len, hl3]; omega) (by decide) (cI_cell _) (by show (_ + _) * 8 ≤ _; omega) (by omega)<|fun i84 => zc (za (zb .head))<|zc (za (zb .t2))<|zc (za (zb .t2))<|z6<|zTk 18 rfl (zAo rfl)<|zTk 19 rfl (zAo rfl)<|zTk 20 rfl (zAo rfl)<|zDn ?_
       exact ⟨(i72, i78, i84), zR3, ⟨congrArg (AV.own i72) (Nat.zero_add _), congrArg (AV.own i78) (Nat.zero_add _), congrArg (AV.own i84) (Nat.zero_add _), trivial⟩, zLe, trivial⟩
      ·refine ye (k := 1) underlying23 type3<|fun i79 => z6<|zOn 11 rfl<|AOps.appendOZ (k := 1) underlying98 type4 rfl rfl rfl rfl rfl (fun _ => .t2) ⟨_, .t5⟩ rfl (by rw [cB_len, hl2]; omega) (by decide) (cB_cell _) (by show (_ + _) * 1 ≤ _; omega) (by omega)<|fun i78 => z6<|zOn 17 rfl<|AOps.appendOZ (k := 1) underlying23 type3 rfl rfl rfl rfl rfl (fun _ => .head) ⟨_, .t6⟩ rfl (by rw [cI_len, hl3]; omega) (by decide) (cI_cell _) (by show (_ + _) * 8 ≤ _; omega) (by omega)<|fun i84 => zc (za (zb .head))<|zc (za (zb .t2))<|zc (za (zb .t2))<|z6<|zTk 18 rfl (zAo rfl)<|zTk 19 rfl (zAo rfl)<|zTk 20 rfl (zAo rfl)<|zDn ?_
       exact ⟨(i72, i78, i84), zR3, ⟨congrArg (AV.own i72) (Nat.zero_add _), congrArg (AV.own i78) (Nat.zero_add _), congrArg (AV.own i84) (Nat.zero_add _), trivial⟩, zLe, trivial⟩
     ·refine ye (k := 1) underlying23 type3<|fun i79 => z6<|zOn 5 rfl<|AOps.appendOZ (k := 1) underlying42 type2 rfl rfl rfl rfl rfl (fun _ => .t1) ⟨_, .t4⟩ rfl (by rw [cI_len, hl1]; omega) (by decide) (cI_cell _) (by show (_ + _) * 8 ≤ _; omega) (by omega)<|fun i72 => z6<|zOn 11 rfl<|AOps.appendOZ (k := 1) underlying98 type4 rfl rfl rfl rfl rfl (fun _ => .t2) ⟨_, .t5⟩ rfl (by rw [cB_len, hl2]; omega) (by decide) (cB_cell _) (by show (_ + _) * 1 ≤ _; omega) (by omega)<|fun i78 => z6<|zOn 17 rfl<|AOps.appendOZ (k := 1) underlying23 type3 rfl rfl rfl rfl rfl (fun _ => .head) ⟨_, .t6⟩ rfl (by rw [cI_len, hl3]; omega) (by decide) (cI_cell _) (by show (_ + _) * 8 ≤ _; omega) (by omega)<|fun i84 => zc (za (zb .head))<|zc (za (zb .t2))<|zc (za (zb .t2))<|z6<|zTk 18 rfl (zAo rfl)<|zTk 19 rfl (zAo rfl)<|zTk 20 rfl (zAo rfl)<|zDn ?_
      exact ⟨(i72, i78, i84), zR3, ⟨congrArg (AV.own i72) (Nat.zero_add _), congrArg (AV.own i78) (Nat.zero_add _), congrArg (AV.own i84) (Nat.zero_add _), trivial⟩, zLe, trivial⟩
    ·refine ye (k := 1) underlying23 type3<|fun i79 => z6<|zOn 0 rfl<|ye (k := 1) underlying42 type2<|fun i67 => z6<|zOn 5 rfl<|AOps.appendOZ (k := 1) underlying42 type2 rfl rfl rfl rfl rfl (fun _ => .head) ⟨_, .t4⟩ rfl (by rw [cI_len, hl1]; omega) (by decide) (cI_cell _) (by show (_ + _) * 8 ≤ _; omega) (by omega)<|fun i72 => z6<|zOn 11 rfl<|AOps.appendOZ (k := 1) underlying98 type4 rfl rfl rfl rfl rfl (fun _ => .t2) ⟨_, .t5⟩ rfl (by rw [cB_len, hl2]; omega) (by decide) (cB_cell _) (by show (_ + _) * 1 ≤ _; omega) (by omega)<|fun i78 => z6<|zOn 17 rfl<|AOps.appendOZ (k := 1) underlying23 type3 rfl rfl rfl rfl rfl (fun _ => .t1) ⟨_, .t6⟩ rfl (by rw [cI_len, hl3]; omega) (by decide) (cI_cell _) (by show (_ + _) * 8 ≤ _; omega) (by omega)<|fun i84 => zc (za (zb .t1))<|zc (za (zb .t2))<|zc (za (zb .t2))<|z6<|zTk 18 rfl (zAo rfl)<|zTk 19 rfl (zAo rfl)<|zTk 20 rfl (zAo rfl)<|zDn ?_
     exact ⟨(i72, i78, i84), zR3, ⟨congrArg (AV.own i72) (Nat.zero_add _), congrArg (AV.own i78) (Nat.zero_add _), congrArg (AV.own i84) (Nat.zero_add _), trivial⟩, zLe, trivial⟩
   ·refine ye (k := 1) underlying23 type3<|fun i79 => z6<|yh (i := 0) (j := 6) rfl rfl (by kernel_rfl) ?_ ?_
    ·refine ye (k := 1) underlying42 type2<|fun i67 => z6<|yh (i := 5) (j := 6) rfl rfl (by kernel_rfl) ?_ ?_
     ·refine AOps.appendOZ (k := 1) underlying42 type2 rfl rfl rfl rfl rfl (fun _ => .head) ⟨_, .t3⟩ rfl (by rw [cI_len, hl1]; omega) (by decide) (cI_cell _) (by show (_ + _) * 8 ≤ _; omega) (by omega)<|fun i72 => z6<|zOn 6 rfl<|ye (k := 1) underlying98 type4<|fun i73 => z6<|zOn 11 rfl<|AOps.appendOZ (k := 1) underlying98 type4 rfl rfl rfl rfl rfl (fun _ => .head) ⟨_, .t5⟩ rfl (by rw [cB_len, hl2]; omega) (by decide) (cB_cell _) (by show (_ + _) * 1 ≤ _; omega) (by omega)<|fun i78 => z6<|zOn 17 rfl<|AOps.appendOZ (k := 1) underlying23 type3 rfl rfl rfl rfl rfl (fun _ => .t2) ⟨_, .t6⟩ rfl (by rw [cI_len, hl3]; omega) (by decide) (cI_cell _) (by show (_ + _) * 8 ≤ _; omega) (by omega)<|fun i84 => zc (za (zb .t2))<|zc (za (zb .t1))<|zc (za (zb .t2))<|z6<|zTk 18 rfl (zAo rfl)<|zTk 19 rfl (zAo rfl)<|zTk 20 rfl (zAo rfl)<|zDn ?_
      exact ⟨(i72, i78, i84), zR3, ⟨congrArg (AV.own i72) (Nat.zero_add _), congrArg (AV.own i78) (Nat.zero_add _), congrArg (AV.own i84) (Nat.zero_add _), trivial⟩, zLe, trivial⟩
     ·refine ye (k := 1) underlying98 type4<|fun i73 => z6<|zOn 5 rfl<|AOps.appendOZ (k := 1) underlying42 type2 rfl rfl rfl rfl rfl (fun _ => .t1) ⟨_, .t4⟩ rfl (by rw [cI_len, hl1]; omega) (by decide) (cI_cell _) (by show (_ + _) * 8 ≤ _; omega) (by omega)<|fun i72 => z6<|zOn 11 rfl<|AOps.appendOZ (k := 1) underlying98 type4 rfl rfl rfl rfl rfl (fun _ => .head) ⟨_, .t5⟩ rfl (by rw [cB_len, hl2]; omega) (by decide) (cB_cell _) (by show (_ + _) * 1 ≤ _; omega) (by omega)<|fun i78 => z6<|zOn 17 rfl<|AOps.appendOZ (k := 1) underlying23 type3 rfl rfl rfl rfl rfl (fun _ => .t2) ⟨_, .t6⟩ rfl (by rw [cI_len, hl3]; omega) (by decide) (cI_cell _) (by show (_ + _) * 8 ≤ _; omega) (by omega)<|fun i84 => zc (za (zb .t2))<|zc (za (zb .t1))<|zc (za (zb .t2))<|z6<|zTk 18 rfl (zAo rfl)<|zTk 19 rfl (zAo rfl)<|zTk 20 rfl (zAo rfl)<|zDn ?_
      exact ⟨(i72, i78, i84), zR3, ⟨congrArg (AV.own i72) (Nat.zero_add _), congrArg (AV.own i78) (Nat.zero_add _), congrArg (AV.own i84) (Nat.zero_add _), trivial⟩, zLe, trivial⟩
    ·refine ye (k := 1) underlying98 type4<|fun i73 => z6<|zOn 0 rfl<|ye (k := 1) underlying42 type2<|fun i67 => z6<|zOn 5 rfl<|AOps.appendOZ (k := 1) underlying42 type2 rfl rfl rfl rfl rfl (fun _ => .head) ⟨_, .t4⟩ rfl (by rw [cI_len, hl1]; omega) (by decide) (cI_cell _) (by show (_ + _) * 8 ≤ _; omega) (by omega)<|fun i72 => z6<|zOn 11 rfl<|AOps.appendOZ (k := 1) underlying98 type4 rfl rfl rfl rfl rfl (fun _ => .t1) ⟨_, .t5⟩ rfl (by rw [cB_len, hl2]; omega) (by decide) (cB_cell _) (by show (_ + _) * 1 ≤ _; omega) (by omega)<|fun i78 => z6<|zOn 17 rfl<|AOps.appendOZ (k := 1) underlying23 type3 rfl rfl rfl rfl rfl (fun _ => .t2) ⟨_, .t6⟩ rfl (by rw [cI_len, hl3]; omega) (by decide) (cI_cell _) (by show (_ + _) * 8 ≤ _; omega) (by omega)<|fun i84 => z6<|zTk 18 rfl (zAo rfl)<|zTk 19 rfl (zAo rfl)<|zTk 20 rfl (zAo rfl)<|zDn ?_
     exact ⟨(i72, i78, i84), zR3, ⟨congrArg (AV.own i72) (Nat.zero_add _), congrArg (AV.own i78) (Nat.zero_add _), congrArg (AV.own i84) (Nat.zero_add _), trivial⟩, zLe, trivial⟩
  ·rintro ⟨i72, i78, i84⟩ _
   refine zd<|zSr<|z2 (zMp rfl)<|z2 (zn rfl)<|z2 (ze underlying100 rfl sizeOf26 (by decide) rfl rfl)<|z2 (ze underlying26 rfl sizeOf24 (by decide) rfl rfl)<|z2 (zl (c := .fro _ _) isAgg24 rfl ⟨_, .head⟩ rfl)<|z2 (zMi rfl)<|z2 (zIM to.toNat underlying24 sizeOf58 rfl rfl (by omega) hB)<|z2 (zFF underlying58 rfl sizeOf51 rfl rfl)<|z2 (zLf isAgg51 rfl)<|z2 (y2 underlying51 rfl)<|z2 (zMi rfl)<|z6<|zi<|y5 (γ := Nat) [0, 1, 4, 9, 10, 11, 93, 94] (fun k => [(95, .int .i64 k)]) (fun k => (iw, .cells 100 (wCe f ja jb jc jo jt (toG B.phis s k))) :: (i72, .grow 1 2 (cI s.ints)) :: (i78, .grow 1 4 (cB s.bools)) :: (i84, .grow 1 3 (cI s.arrs)) :: (i4, .grow 1 3 (cI (gotL B.phis s.blk B.phis.length))) :: wR ja jb jc jo jt ids (toG B.phis s k)) (fun k => k ≤ B.phis.length) (fun k => B.phis.length - k) 0 zR1 zLe (qt _) ?_
   rintro k hk
   refine zSr<|z2 (yb rfl rfl)<|z6<|zd<|zr rfl (fun ck=>?_) (fun ck=>?_)
   ·have hk2 : k < B.phis.length := by simp at ck; omega
    obtain ⟨p, hp⟩ : ∃ p, B.phis[k] = p := ⟨_, rfl⟩
    have hpg : B.phis[k]? = some p := by rw [qq hk2, hp]
    have hpm := qy hpg
    have hp0 := hok p hpm
    obtain ⟨hd, _, _, ha, _⟩ := hph p hpm
    obtain ⟨d1, d0⟩ := has_lt hd
    obtain ⟨v1, v0⟩ := has_lt (List.all_eq_true.1 ha _ (phiAt_mem hp0))
    have hgg : (gotL B.phis s.blk B.phis.length)[k]? = some (phiAt p s.blk) := by rw [got_get hk2, hp]
    have t1 := (hT k).li
    have t2 := (hT k).lb
    have t3 := (hT k).la
    refine zh<|zd<|zi<|zSr<|z2 (zMi rfl)<|z2 (zIM k underlying51 sizeOf81 rfl rfl rfl hpg)<|z2 (zp isAgg81 sizeOf81 rfl rfl)<|zy (cs := [.int .i64 0, .raw (.slice none 0 0), .raw (.slice none 0 0)]) zeroValue81 rfl rfl<|fun i13 => z2 (zAi rfl)<|zq sizeOf81 rfl rfl rfl rfl rfl rfl .head rfl<|zc (yk (t := 13) rfl .head)<|z6<|AWP.regionDrawR (by kernel_rfl) rfl (zm (.r (.r (.r (.r (.r (.l (.l (.l (.l (.l (.l (.rest _)))))))))))))<|y6 (i := 0) rfl (by kernel_rfl) (by kernel_rfl) (by kernel_rfl) (zMp rfl)<|y6 (i := 1) rfl (by kernel_rfl) (by kernel_rfl) (by kernel_rfl) (zn rfl)<|y6 (i := 2) rfl (by kernel_rfl) (by kernel_rfl) (by kernel_rfl) (ze underlying100 rfl sizeOf42 (by decide) rfl rfl)<|y6 (i := 3) rfl (by kernel_rfl) (by kernel_rfl) (by kernel_rfl) (zl (c := .own _ _) isAgg42 rfl ⟨_, .head⟩ rfl)<|y6 (i := 4) rfl (by kernel_rfl) (by kernel_rfl) (by kernel_rfl) (zFF underlying81 rfl sizeOf3 rfl rfl)<|y6 (i := 5) rfl (by kernel_rfl) (by kernel_rfl) (by kernel_rfl) (zLi isAgg3 rfl)<|y6 (i := 6) rfl (by kernel_rfl) (by kernel_rfl) (by kernel_rfl) (zMp rfl)<|y6 (i := 7) rfl (by kernel_rfl) (by kernel_rfl) (by kernel_rfl) (zn rfl)<|y6 (i := 8) rfl (by kernel_rfl) (by kernel_rfl) (by kernel_rfl) (ze underlying100 rfl sizeOf98 (by decide) rfl rfl)<|y6 (i := 9) rfl (by kernel_rfl) (by kernel_rfl) (by kernel_rfl) (zl (c := .own _ _) isAgg98 rfl ⟨_, .head⟩ rfl)<|y6 (i := 10) rfl (by kernel_rfl) (by kernel_rfl) (by kernel_rfl) (zFF underlying81 rfl sizeOf3 rfl rfl)<|y6 (i := 11) rfl (by kernel_rfl) (by kernel_rfl) (by kernel_rfl) (zLi isAgg3 rfl)<|y6 (i := 12) rfl (by kernel_rfl) (by kernel_rfl) (by kernel_rfl) (zMp rfl)<|y6 (i := 13) rfl (by kernel_rfl) (by kernel_rfl) (by kernel_rfl) (zn rfl)<|y6 (i := 14) rfl (by kernel_rfl) (by kernel_rfl) (by kernel_rfl) (ze underlying100 rfl sizeOf23 (by decide) rfl rfl)<|y6 (i := 15) rfl (by kernel_rfl) (by kernel_rfl) (by kernel_rfl) (zl (c := .own _ _) isAgg23 rfl ⟨_, .head⟩ rfl)<|y6 (i := 16) rfl (by kernel_rfl) (by kernel_rfl) (by kernel_rfl) (zFF underlying81 rfl sizeOf3 rfl rfl)<|y6 (i := 17) rfl (by kernel_rfl) (by kernel_rfl) (by kernel_rfl) (zLi isAgg3 rfl)<|y6 (i := 18) rfl (by kernel_rfl) (by kernel_rfl) (by kernel_rfl) (zMo rfl)<|y6 (i := 19) rfl (by kernel_rfl) (by kernel_rfl) (by kernel_rfl) (zMo rfl)<|y6 (i := 20) rfl (by kernel_rfl) (by kernel_rfl) (by kernel_rfl) (zMi rfl)<|y6 (i := 21) rfl (by kernel_rfl) (by kernel_rfl) (by kernel_rfl) (yf (j := k) underlying23 sizeOf3 rfl rfl rfl ⟨_, .t4⟩ ((cI_len _).trans (got_len (Nat.le_refl _))) hk2)<|y6 (i := 22) rfl (by kernel_rfl) (by kernel_rfl) (by kernel_rfl) (yt (j := k) isAgg3 rfl ⟨_, .t4⟩ hgg)<|y6 (i := 23) rfl (by kernel_rfl) (by kernel_rfl) (by kernel_rfl) (yf (j := (phiAt p s.blk).toNat) underlying42 sizeOf2 rfl rfl (w5 v0).symm ⟨_, .t1⟩ ((cI_len _).trans hl1) (by omega))<|y6 (i := 24) rfl (by kernel_rfl) (by kernel_rfl) (by kernel_rfl) (yt (j := (phiAt p s.blk).toNat) isAgg2 rfl ⟨_, .t1⟩ (vi_get (by omega) v0))<|y6 (i := 25) rfl (by kernel_rfl) (by kernel_rfl) (by kernel_rfl) (zMo rfl)<|y6 (i := 26) rfl (by kernel_rfl) (by kernel_rfl) (by kernel_rfl) (zMo rfl) ?_
    refine y6 (i := 27) rfl (by kernel_rfl) (by kernel_rfl) (by kernel_rfl) (zMi rfl)<|y6 (i := 28) rfl (by kernel_rfl) (by kernel_rfl) (by kernel_rfl) (yf (j := k) underlying23 sizeOf3 rfl rfl rfl ⟨_, .t4⟩ ((cI_len _).trans (got_len (Nat.le_refl _))) hk2)<|y6 (i := 29) rfl (by kernel_rfl) (by kernel_rfl) (by kernel_rfl) (yt (j := k) isAgg3 rfl ⟨_, .t4⟩ hgg)<|y6 (i := 30) rfl (by kernel_rfl) (by kernel_rfl) (by kernel_rfl) (yf (j := (phiAt p s.blk).toNat) underlying98 sizeOf4 rfl rfl (w5 v0).symm ⟨_, .t2⟩ ((cB_len _).trans hl2) (by omega))<|y6 (i := 31) rfl (by kernel_rfl) (by kernel_rfl) (by kernel_rfl) (Gv.loadB (j := (phiAt p s.blk).toNat) isAgg4 rfl ⟨_, .t2⟩ (gb_get (by omega) v0))<|y6 (i := 32) rfl (by kernel_rfl) (by kernel_rfl) (by kernel_rfl) (zMo rfl)<|y6 (i := 33) rfl (by kernel_rfl) (by kernel_rfl) (by kernel_rfl) (zMo rfl)<|y6 (i := 34) rfl (by kernel_rfl) (by kernel_rfl) (by kernel_rfl) (zMi rfl)<|y6 (i := 35) rfl (by kernel_rfl) (by kernel_rfl) (by kernel_rfl) (yf (j := k) underlying23 sizeOf3 rfl rfl rfl ⟨_, .t4⟩ ((cI_len _).trans (got_len (Nat.le_refl _))) hk2)<|y6 (i := 36) rfl (by kernel_rfl) (by kernel_rfl) (by kernel_rfl) (yt (j := k) isAgg3 rfl ⟨_, .t4⟩ hgg)<|y6 (i := 37) rfl (by kernel_rfl) (by kernel_rfl) (by kernel_rfl) (yf (j := (phiAt p s.blk).toNat) underlying23 sizeOf3 rfl rfl (w5 v0).symm ⟨_, .t3⟩ ((cI_len _).trans hl3) (by omega))<|y6 (i := 38) rfl (by kernel_rfl) (by kernel_rfl) (by kernel_rfl) (yt (j := (phiAt p s.blk).toNat) isAgg3 rfl ⟨_, .t3⟩ (vi_get (by omega) v0))<|qm (i := 39) rfl (by kernel_rfl)<|z2 (yf (j := p.dst.toNat) underlying42 sizeOf2 rfl rfl (w5 d0).symm ⟨_, .head⟩ ((cI_len _).trans t1) (by omega))<|z6<|qm (i := 40) rfl (by kernel_rfl)<|yu (j := p.dst.toNat) sizeOf2 rfl rfl .head (by first | omega | (simp; omega))<|z6<|qm (i := 41) rfl (by kernel_rfl)<|z2 (yf (j := p.dst.toNat) underlying98 sizeOf4 rfl rfl (w5 d0).symm ⟨_, .t1⟩ ((cB_len _).trans t2) (by omega))<|z6<|qm (i := 42) rfl (by kernel_rfl)<|qc (j := p.dst.toNat) sizeOf4 rfl rfl .t1 (by first | omega | (simp; omega))<|z6<|qm (i := 43) rfl (by kernel_rfl)<|z2 (yf (j := p.dst.toNat) underlying23 sizeOf3 rfl rfl (w5 d0).symm ⟨_, .t2⟩ ((cI_len _).trans t3) (by omega))<|z6<|qm (i := 44) rfl (by kernel_rfl)<|yu (j := p.dst.toNat) sizeOf3 rfl rfl .t2 (by first | omega | (simp; omega))<|z6<|AAnyR.done (by kernel_rfl)<|zRg<|z2 (zAd rfl rfl)<|z2 (zMi rfl)<|z6 ?_
    exact ⟨k + 1, zR8, zR1, ⟨_, (.refl _), by rw [to_push hk2, hp]; rfl⟩, hk2, by omega⟩
   ·obtain rfl : k = B.phis.length := by simp at ck; omega
    refine yc (GStep.drop .t1)<|yc (GStep.drop .t1)<|yc (GStep.drop .t1)<|yc (GStep.drop .t1)<|y4<|zRg<|z2 (zMp rfl)<|z2 (zMp rfl)<|z2 (zMi rfl)<|z2 (zn rfl)<|z2 (ze underlying100 rfl sizeOf3 (by decide) rfl rfl)<|yn (l := [_]) (new := [_, _, _, _, _, _, _, _, _, _, _, _, _, _, _, _, _, _, _, _, _, _, _]) sizeOf3 rfl rfl rfl rfl rfl rfl .head rfl rfl<|z2 (zn rfl)<|z2 (ze underlying100 rfl sizeOf3 (by decide) rfl rfl)<|yn (l := [_]) (new := [_, _, _, _, _, _, _, _, _, _, _, _, _, _, _, _, _, _, _, _, _, _, _]) sizeOf3 rfl rfl rfl rfl rfl rfl .head rfl rfl<|z6<|yv ?_
    exact ⟨by rw [hE]; show _ = (toG B.phis s B.phis.length).arrays.length; rw [to_arrays]; exact hids, rfl, by rw [hE]; rfl⟩
end Go.Proofs.YtiojekbkamegdaaGreatDoor
namespace Go.Proofs.YtiojekbkamegdaaGreatDoor
open Go.Proofs.Tryz
open Go.Proofs Go.Lib Go.Shelf Go.RowKit
variable {E : World}
set_option maxRecDepth 20000
theorem step_inst {f : PFunc} {s : GS} {x : PInst} (h : (blkG f s.blk).insts[s.pc]? = some x) : stepG f s = instG { s with pc := s.pc + 1, st := s.st + 1 } x := by unfold stepG; rw [h]
theorem step_end {f : PFunc} {s : GS} (h : (blkG f s.blk).insts[s.pc]? = none) : stepG f s = if (blkG f s.blk).term.kind = 2 then stopG { s with st := s.st + 1, val := vi s.ints (blkG f s.blk).term.var } 0 else enterG f { s with st := s.st + 1 } (nextG f s) := by unfold stepG; rw [h]
theorem term_v {f : PFunc} {t : PTerm} (h : termOK f t = true) (hk : ¬ t.kind = 0) : t.var < f.vars.length ∧ 0 ≤ t.var := has_lt (term_var h hk)
set_option maxHeartbeats 8000000 in
theorem wstep_spec (f : PFunc) (iw ja jb jc jo jt : Nat) (ids : List Nat) (s : GS) (hids : ids.length = s.arrays.length) (hg : GInv f s) (hR : RunP f) (hv : f.vars.length ≤ 1000) (hs : small f) (hst : s.st ≤ 1000000000) (hck : ∀ i, s.ck i ≤ 1000000000) : ACall prog E 52 [.po iw 0] (wO f iw ja jb jc jo jt ids s) (fun y O => ∃ jo' jt' ids', ids'.length = (stepG f s).arrays.length ∧ y = .tup [] ∧ O = wO f iw ja jb jc jo' jt' ids' (stepG f s)) := by
 have hB := blk_get hg.b0 hg.b1
 have hBm := qy hB
 have hsm := (hs.2.2.2.2 _ hBm).2.2.1
 have hpc := hg.pc
 have hin := hR.insts _ hBm
 have htm := hR.term _ hBm
 have hi := @step_inst f s
 have he := @step_end f s
 obtain ⟨B, hBe⟩ : ∃ B, blkG f s.blk = B := ⟨_, rfl⟩
 have hnx : nextG f s = if B.term.kind = 0 ∨ gb s.bools B.term.var = true then B.term.to0 else B.term.to1 := by rw [← hBe]; rfl
 have hnt := next_to hR hg
 rw [hBe] at hB hsm hpc hin htm hi he hnt
 have hl1 := hg.li
 have hl2 := hg.lb
 have hgu : GInv f { s with st := s.st + 1 } := hg.up _ s.val
 refine zo func52 rfl (by decide) rfl<|zSr<|z2 (zMp rfl)<|z2 (zn rfl)<|z2 (ze underlying100 rfl sizeOf45 (by decide) rfl rfl)<|z2 (ze underlying45 rfl sizeOf3 (by decide) rfl rfl)<|z2 (zl (c := .int _ _) isAgg3 rfl ⟨_, .head⟩ rfl)<|z2 (zAd rfl rfl)<|z2 (zn rfl)<|z2 (ze underlying100 rfl sizeOf45 (by decide) rfl rfl)<|z2 (ze underlying45 rfl sizeOf3 (by decide) rfl rfl)<|yn (l := [_]) (new := [_, _, _, _, _, _, _, _, _, _, _, _, _, _, _, _, _, _, _, _, _, _, _]) sizeOf3 rfl rfl rfl rfl rfl rfl .head rfl rfl<|z6<|zd<|zu (fun j => Nat.beq j 12) (by kernel_rfl) rfl (zm (.r (.rest _)))<|zTk 0 rfl (zMp rfl)<|zTk 1 rfl (zn rfl)<|zTk 2 rfl (ze underlying100 rfl sizeOf26 (by decide) rfl rfl)<|zTk 3 rfl (ze underlying26 rfl sizeOf24 (by decide) rfl rfl)<|zTk 4 rfl (zl (c := .fro _ _) isAgg24 rfl ⟨_, .head⟩ rfl)<|zTk 5 rfl (zMp rfl)<|zTk 6 rfl (zn rfl)<|zTk 7 rfl (ze underlying100 rfl sizeOf3 (by decide) rfl rfl)<|zTk 8 rfl (zl (c := .int _ _) isAgg3 rfl ⟨_, .head⟩ rfl)<|zTk 9 rfl (zIM s.blk.toNat underlying24 sizeOf58 rfl rfl (w5 hg.b0).symm hB)<|zTk 10 rfl (zp isAgg58 sizeOf58 rfl rfl)<|zOn 11 rfl<|zy (cs := [.str ⟨#[]⟩, .raw (.slice none 0 0), .raw (.slice none 0 0), .int .i64 0, .int .i64 0, .int .i64 0, .int .i64 0]) zeroValue58 rfl rfl<|fun i2 => z6<|y8<|ya (i := 12) rfl (by kernel_rfl) (by kernel_rfl)<|zq sizeOf58 rfl rfl rfl rfl rfl rfl .t1 rfl<|z6<|yd (by kernel_rfl)<|yc (yk (t := 2) rfl .t1)<|zd<|zd<|zu (fun j => false) (by kernel_rfl) rfl (zm (.r (.rest _)))<|zTk 0 rfl (zMp rfl)<|zTk 1 rfl (zn rfl) ?_
 refine zTk 2 rfl (ze underlying100 rfl sizeOf3 (by decide) rfl rfl)<|zTk 3 rfl (zl (c := .int _ _) isAgg3 rfl ⟨_, .head⟩ rfl)<|zTk 4 rfl (zFF underlying58 rfl sizeOf52 rfl rfl)<|zTk 5 rfl (zLf isAgg52 rfl)<|zTk 6 rfl (y2 underlying52 rfl)<|zTk 7 rfl (yb rfl rfl)<|zDn<|zr rfl (fun cp=>?_) (fun cp=>?_)
 ·have hp : s.pc < B.insts.length := by simp at cp; omega
  obtain ⟨x, hx⟩ : ∃ x, B.insts[s.pc] = x := ⟨_, rfl⟩
  have hxg : B.insts[s.pc]? = some x := by rw [qq hp, hx]
  obtain ⟨hix, h64⟩ := hin x (qy hxg)
  have hS := hi hxg
  have hg2 : GInv f { s with pc := s.pc + 1, st := s.st + 1 } := ⟨hg.li, hg.lb, hg.la, hg.i64, hg.arr, hg.ls, hg.lr, hg.r64, hg.lt, hg.b0, hg.b1, by show s.pc + 1 ≤ (blkG f s.blk).insts.length; rw [hBe]; exact hp⟩
  refine zSr<|z2 (zMp rfl)<|z2 (zn rfl)<|z2 (ze underlying100 rfl sizeOf3 (by decide) rfl rfl)<|z2 (zl (c := .int _ _) isAgg3 rfl ⟨_, .head⟩ rfl)<|z2 (zAd rfl rfl)<|z2 (zn rfl)<|z2 (ze underlying100 rfl sizeOf3 (by decide) rfl rfl)<|yn (l := [_]) (new := [_, _, _, _, _, _, _, _, _, _, _, _, _, _, _, _, _, _, _, _, _, _, _]) sizeOf3 rfl rfl rfl rfl rfl rfl .head rfl rfl<|z6<|zd<|zu (fun j => false) (by kernel_rfl) rfl (zm (.rest _))<|zTk 0 rfl (zMp rfl)<|zTk 1 rfl (zFF underlying58 rfl sizeOf52 rfl rfl)<|zTk 2 rfl (zLf isAgg52 rfl)<|zTk 3 rfl (zMp rfl)<|zTk 4 rfl (zn rfl)<|zTk 5 rfl (ze underlying100 rfl sizeOf3 (by decide) rfl rfl)<|zOn 6 rfl<|z2 (zl (c := .int _ _) isAgg3 rfl ⟨_, .head⟩ rfl)<|z6<|zTk 7 rfl (Gv.sub rfl rfl (by unfold I64; omega))<|zTk 8 rfl (zIM s.pc underlying52 sizeOf61 rfl rfl (by omega) hxg)<|zTk 9 rfl (zp isAgg61 sizeOf61 rfl rfl)<|zOn 10 rfl<|y1 rfl (zm (.l (.l (.l (.l (.l (.l (.l (.rest _))))))))) (winst_spec f iw ja jb jc jo jt ids { s with pc := s.pc + 1, st := s.st + 1 } x hids hg2 hix hv hck) ?_
  rintro r49 O49 ⟨jo', jt', ids', hl', rfl, rfl⟩
  refine z6<|zDn<|zg<|yv ?_
  exact ⟨jo', jt', ids', by rw [hS]; exact hl', rfl, by rw [hS]; rfl⟩
 ·have hp : B.insts[s.pc]? = none := by rw [List.getElem?_eq_none]; simp at cp; omega
  have hS := he hp
  refine zh<|zSr<|z2 (zFF underlying58 rfl sizeOf56 rfl rfl)<|z2 (zp isAgg56 sizeOf56 rfl rfl)<|zy (cs := [.int .i64 0, .int .i64 0, .int .i64 0, .int .i64 0]) zeroValue56 rfl rfl<|fun i3 => zq sizeOf56 rfl rfl rfl rfl rfl rfl .head rfl<|zc (yk (t := 3) rfl .head)<|z6<|zi<|zSr<|z2 (zFF underlying56 rfl sizeOf53 rfl rfl)<|z2 (zLi isAgg53 rfl)<|z2 (y7 rfl rfl)<|z2 (zAb rfl)<|z6<|zr rfl (fun ck=>?_) (fun ck=>?_)
  ·have ck : B.term.kind = 2 := by simpa using ck
   rw [if_pos ck] at hS
   obtain ⟨v1, v0⟩ := term_v htm (by omega)
   refine zd<|zu (fun j => Nat.beq j 12) (by kernel_rfl) rfl (zm (.r (.r (.r (.rest _)))))<|zTk 0 rfl (zMp rfl)<|zTk 1 rfl (zMp rfl)<|zTk 2 rfl (zn rfl)<|zTk 3 rfl (ze underlying100 rfl sizeOf42 (by decide) rfl rfl)<|zTk 4 rfl (zl (c := .own _ _) isAgg42 rfl ⟨_, .head⟩ rfl)<|zTk 5 rfl (zFF underlying56 rfl sizeOf3 rfl rfl)<|zTk 6 rfl (zLi isAgg3 rfl)<|zTk 7 rfl (yf (j := B.term.var.toNat) underlying42 sizeOf2 rfl rfl (w5 v0).symm ⟨_, .t1⟩ ((cI_len _).trans hl1) (by omega))<|zTk 8 rfl (yt (j := B.term.var.toNat) isAgg2 rfl ⟨_, .t1⟩ (vi_get (by omega) v0))<|yr (i := 9) rfl (by kernel_rfl) (by kernel_rfl) (by kernel_rfl) (by kernel_rfl) (zn rfl)<|yr (i := 10) rfl (by kernel_rfl) (by kernel_rfl) (by kernel_rfl) (by kernel_rfl) (ze underlying100 rfl sizeOf45 (by decide) rfl rfl)<|zTk 11 rfl (ze underlying45 rfl sizeOf2 (by decide) rfl rfl)<|y8<|ya (i := 12) rfl (by kernel_rfl) (by kernel_rfl)<|yn (l := [_]) (new := [_, _, _, _, _, _, _, _, _, _, _, _, _, _, _, _, _, _, _, _, _, _, _]) sizeOf2 rfl rfl rfl rfl rfl rfl .head rfl rfl<|z6<|yd (by kernel_rfl)<|zRg<|z2 (zMp rfl)<|y1 rfl (zm (.l (.l (.l (.l (.l (.l (.l (.rest _))))))))) (wend_spec f iw ja jb jc jo jt ids { s with st := s.st + 1, val := vi s.ints B.term.var } 0) ?_
   rintro r74 O74 ⟨rfl, rfl⟩
   refine z6<|yv ?_
   exact ⟨jo, jt, ids, by rw [hS]; exact hids, rfl, by rw [hS]; rfl⟩
  ·have ck : ¬ B.term.kind = 2 := by simpa using ck
   rw [if_neg ck] at hS
   obtain ⟨g0, g1⟩ := hnt ck
   refine zd<|zu (fun j => false) (by kernel_rfl) rfl (zm (.r (.r (.r (.rest _)))))<|zTk 0 rfl (zFF underlying56 rfl sizeOf53 rfl rfl)<|zTk 1 rfl (zLi isAgg53 rfl)<|zTk 2 rfl (y7 rfl rfl)<|zTk 3 rfl (zMb rfl)<|qh (s := 79) rfl (fun c0=>?_) (fun c0=>?_)
   ·have d0 : B.term.kind = 0 := by simpa using c0
    rw [if_pos (.inl d0)] at hnx
    rw [hnx] at hS g0 g1
    refine zTf 4 rfl rfl rfl c0<|zTf 5 rfl rfl rfl c0<|zTf 6 rfl rfl rfl c0<|zTf 7 rfl rfl rfl c0<|zTf 8 rfl rfl rfl c0<|zTf 9 rfl rfl rfl c0<|zTf 10 rfl rfl rfl c0<|zTf 11 rfl rfl rfl c0<|zTk 12 rfl (zPt rfl c0 rfl)<|zTk 13 rfl (zAb rfl)<|zDn<|yo rfl rfl<|zRg<|z2 (zMp rfl)<|z2 (zFF underlying56 rfl sizeOf54 rfl rfl)<|z2 (q3 (j := 0) underlying54 sizeOf3 rfl rfl rfl (by decide) rfl)<|z2 (zLi isAgg3 rfl)<|y1 rfl (zm (.l (.l (.l (.l (.l (.l (.l (.rest _))))))))) (wenter_spec f iw ja jb jc jo jt ids { s with st := s.st + 1 } B.term.to0 hids hgu hR hv hs g0 g1) ?_
    rintro r93 O93 ⟨hl', rfl, rfl⟩
    refine z6<|yv ?_
    exact ⟨jo, jt, ids, by rw [hS]; exact hl', rfl, by rw [hS]; rfl⟩
   ·have d0 : ¬ B.term.kind = 0 := by simpa using c0
    obtain ⟨v1, v0⟩ := term_v htm d0
    refine zTt 4 rfl rfl rfl c0 (zMp rfl)<|zTt 5 rfl rfl rfl c0 (zn rfl)<|zTt 6 rfl rfl rfl c0 (ze underlying100 rfl sizeOf98 (by decide) rfl rfl)<|zTt 7 rfl rfl rfl c0 (zl (c := .own _ _) isAgg98 rfl ⟨_, .head⟩ rfl)<|zTt 8 rfl rfl rfl c0 (zFF underlying56 rfl sizeOf3 rfl rfl)<|zTt 9 rfl rfl rfl c0 (zLi isAgg3 rfl)<|zTt 10 rfl rfl rfl c0 (yf (j := B.term.var.toNat) underlying98 sizeOf4 rfl rfl (w5 v0).symm ⟨_, .t2⟩ ((cB_len _).trans hl2) (by omega))<|zTt 11 rfl rfl rfl c0 (Gv.loadB (j := B.term.var.toNat) isAgg4 rfl ⟨_, .t2⟩ (gb_get (by omega) v0))<|zTk 12 rfl (zPf rfl c0 rfl)<|zTk 13 rfl (zAb rfl)<|zDn<|zz rfl (fun cw=>?_) (fun cw=>?_)
    ·have cw : gb s.bools B.term.var = true := cw
     rw [if_pos (.inr cw)] at hnx
     rw [hnx] at hS g0 g1
     refine zRg<|z2 (zMp rfl)<|z2 (zFF underlying56 rfl sizeOf54 rfl rfl)<|z2 (q3 (j := 0) underlying54 sizeOf3 rfl rfl rfl (by decide) rfl)<|z2 (zLi isAgg3 rfl)<|y1 rfl (zm (.l (.l (.l (.l (.l (.l (.l (.rest _))))))))) (wenter_spec f iw ja jb jc jo jt ids { s with st := s.st + 1 } B.term.to0 hids hgu hR hv hs g0 g1) ?_
     rintro r93 O93 ⟨hl', rfl, rfl⟩
     refine z6<|yv ?_
     exact ⟨jo, jt, ids, by rw [hS]; exact hl', rfl, by rw [hS]; rfl⟩
    ·have cw : gb s.bools B.term.var = false := cw
     rw [if_neg (by rintro (h | h); exact d0 h; rw [cw] at h; cases h)] at hnx
     rw [hnx] at hS g0 g1
     refine zRg<|z2 (zMp rfl)<|z2 (zFF underlying56 rfl sizeOf54 rfl rfl)<|z2 (q3 (j := 1) underlying54 sizeOf3 rfl rfl rfl (by decide) rfl)<|z2 (zLi isAgg3 rfl)<|y1 rfl (zm (.l (.l (.l (.l (.l (.l (.l (.rest _))))))))) (wenter_spec f iw ja jb jc jo jt ids { s with st := s.st + 1 } B.term.to1 hids hgu hR hv hs g0 g1) ?_
     rintro r56 O56 ⟨hl', rfl, rfl⟩
     refine z6<|yv ?_
     exact ⟨jo, jt, ids, by rw [hS]; exact hl', rfl, by rw [hS]; rfl⟩
end Go.Proofs.YtiojekbkamegdaaGreatDoor
