/- The printer's lines of instructions and ends. No conditions but bounds. -/
import Derived.Test.YtiojekbkamegdaaGreatDoorZc
import Derived.Sort.Grow
import Derived.Test.YtiojekbkamegdaaGreatDoorZd
import Derived.Laws.CopyRow
import Derived.Shelf.Small.Bits
import Derived.Shelf.Strconv.Itoa0
import Derived.Shelf.Sort.Plain
import Derived.Shelf.Unicode.Props
import Derived.Shelf.LaysM
import Derived.Shelf.Unicode.PropsLaid
import Derived.Shelf.Bits.Mul64
import Derived.Shelf.Unicode.Is16White
import Derived.Shelf.Unicode.IsSpaceAny
import Derived.Shelf.Unicode.Is16WhiteD
import Derived.Shelf.Unicode.Is16Any
import Derived.Shelf.Unicode.Is32Any
import Derived.Shelf.Unicode.ExclAny
import Derived.Shelf.Unicode.PredsAny
import Derived.Shelf.Unicode.PredsPay
import Derived.Shelf.Slices.Reverse
import Derived.Ground.Names2Prog
import Derived.Shelf.Slices.Clone
import Derived.Shelf.Slices.SearchI
import Derived.Shelf.Slices.Cells
import Derived.Shelf.Slices.In.SortNone
import Derived.Ground.SlgnProg
import Derived.Shelf.SlicesE.Clone
import Derived.Test.YtiojekbkamegdaaGreatDoorChecked
import Derived.Lib.ItoaLen
import Derived.Lib.Join
set_option linter.unusedVariables false
set_option linter.unusedSimpArgs false
set_option linter.unusedSectionVars false
namespace Go.Proofs.YtiojekbkamegdaaGreatDoor
open Go.Proofs.Tryz
open Go.Sort (Holds putRow putCells onCells)
theorem putCells_eq {zs ys : List Int} {junk : List Value} (hl : ys.length = zs.length) : putCells (Value.int .i64) 0 ys.toArray (zs.map (Value.int .i64) ++ junk).toArray = (ys.map (Value.int .i64) ++ junk).toArray := by
 unfold putCells
 apply Array.ext_getElem?
 intro k
 simp only [Array.getElem?_mapIdx, List.getElem?_toArray, qt, true_and, Nat.zero_add, Nat.sub_zero, List.size_toArray]
 by_cases hk : k < ys.length
 ·rw [List.getElem?_append_left (by rw [qx]; omega), List.getElem?_append_left (by rw [qx]; omega), List.getElem?_map, List.getElem?_map, qq hk, qq (by omega : k < zs.length)]
  simp [hk]
 ·rw [List.getElem?_append_right (by rw [qx]; omega), List.getElem?_append_right (by rw [qx]; omega), qx, qx, hl]
  rw [hl] at hk
  simp only [hk, if_false]
  cases junk[k - zs.length]? <;> rfl
theorem SL.turned {I : Ghost} {O : List (Nat × Obj)} {E w : World} {b n : Nat} {zs ys : List Int} {junk : List Value} {T : TypeId} {os : Array Obj} (hl : ys.length = zs.length) (h : SL I ((b, .cells (zs.map (Value.int .i64) ++ junk).toArray T (0, 0)) :: O) E w) :
  SL I ((b, .cells (ys.map (Value.int .i64) ++ junk).toArray T (0, 0)) :: O) E (Go.Sort.grow (putRow (Value.int .i64) (Go.Sort.ahead w n) b 0 ys.toArray) os) := by
 have hb := h.own _ (.head _)
 simp only at hb
 have hlt := lt_of_some hb
 have h1 : SL I ((b, .cells (ys.map (Value.int .i64) ++ junk).toArray T (0, 0)) :: O) E (putRow (Value.int .i64) (Go.Sort.ahead w n) b 0 ys.toArray) := by
  refine h.turn rfl rfl rfl ?_ fun k hk => ?_
  ·show (w.heap.modify b (onCells (putCells (Value.int .i64) 0 ys.toArray)))[b]? = _
   rw [Array.getElem?_modify, if_pos rfl, hb]
   simp only [Option.map_some, onCells, putCells_eq hl]
  ·show (w.heap.modify b (onCells (putCells (Value.int .i64) 0 ys.toArray)))[k]? = _
   rw [Array.getElem?_modify, if_neg (fun e => hk e.symm)]
 exact h1.more rfl rfl rfl fun k hk => Go.Sort.heap_grow_old _ _ hk
theorem ACall.turned {E : World} {P : Program} {f : FuncId} {fn : Func} {c : Code} {g : List Int → List Int} {B : Nat} (hf : P.funcs[f]? = some fn) (hb : fn.body = some c) (hn : fn.name ≠ "runtime.NumGoroutine") (hg : ∀ l, (g l).length = l.length)
  (hC : ∀ (blk cap : Nat) (zs : List Int) (w : World), Holds (Value.int .i64) w blk 0 zs.toArray → blk < w.heap.size → zs.length < B →
   Calls P f #[.slice (some ⟨blk, 0, none⟩) zs.length cap] w fun e w' => e = .returned (.tuple #[]) ∧ ∃ n os, w' = Go.Sort.grow (putRow (Value.int .i64) (Go.Sort.ahead w n) blk 0 (g zs).toArray) os)
  (hN : ∀ (cap : Nat) (w : World), Calls P f #[.slice none 0 cap] w fun e w' => e = .returned (.tuple #[]) ∧ w' = w)
  {l : List Int} {i n : Nat} {T : TypeId} (hl : l.length = n) (hB : n < B) : ACall P E f [.own i n] [(i, .grow 1 T (cI l))] fun r O => r = .tup [] ∧ O = [(i, .grow 1 T (cI (g l)))] := fun I F w vs h1 h2 => by
 obtain ⟨v, us, rfl, ⟨b, c, e1, rfl⟩, h3⟩ := h1
 have h3 : us = [] := h3
 subst h3
 obtain ⟨ht, L, ⟨A, B', e2, ⟨b', c', n', ws, e3, h4, h5, h6⟩, h7⟩, hS⟩ := h2
 have h7 : B' = [] := h7
 subst h7
 rw [List.append_nil] at e2
 subst e2
 simp only at e3
 rw [e1] at e3
 simp only [Option.some.injEq, Prod.mk.injEq] at e3
 obtain ⟨rfl, rfl⟩ := e3
 have h4 := cI_un h4
 subst h4
 refine Fn.ofCalls hf hb hn ?_
 obtain ⟨g1, g2, g3⟩ := h6
 rw [qx, Nat.mul_one] at g1
 have hnn : n' = n := by omega
 subst hnn
 rcases g3 with ⟨ea, rfl, rfl⟩ | ⟨b2, junk, ea, rfl, hj⟩
 ·have h0 : n' = 0 := by omega
  subst h0
  have hl0 : l = [] := List.eq_nil_of_length_eq_zero hl
  subst hl0
  have hg0 : g [] = [] := List.eq_nil_of_length_eq_zero (hg [])
  rw [ea]
  refine (hN 0 w).mono fun e w' ⟨he, hw⟩ => ⟨_, he, I, .tup [], _, .refl _, ⟨[], rfl, rfl⟩, ?_, rfl, rfl⟩
  subst hw
  rw [hg0]
  exact ⟨ht, [], ⟨[], [], rfl, ⟨b, 0, 0, [], e1, rfl, by simp, by rw [ea]; exact OwnS.nil 1 T⟩, rfl⟩, hS⟩
 ·rw [ea]
  have hS2 : SL I.k ((b2, .cells (l.map (Value.int .i64) ++ junk).toArray T (0, 0)) :: F) E w := hS
  have hH : Holds (Value.int .i64) w b2 0 l.toArray := fun j hjl => by
   have hj2 : j < l.length := by simpa using hjl
   have hbk := hS2.own _ (.head _)
   simp only at hbk
   refine ⟨?_, ?_⟩
   ·rw [hS2.cell_own, Nat.zero_add, List.getElem?_toArray, List.getElem?_append_left (by rw [qx]; exact hj2), List.getElem?_map, qq hj2]
    simp [hj2]
   ·simp [World.frozen?, hbk]
  have := hC b2 c l w hH (lt_of_some (hS2.own _ (.head _))) (by omega)
  rw [hl] at this
  refine this.mono fun e w' ⟨he, k, os, hw⟩ => ⟨_, he, I, .tup [], _, .refl _, ⟨[], rfl, rfl⟩, ?_, rfl, rfl⟩
  subst hw
  refine ⟨ht, [(b2, .cells ((g l).map (Value.int .i64) ++ junk).toArray T (0, 0))], ⟨_, [], by simp, ⟨b, c, n', (g l).map (Value.int .i64), e1, cI_rep_of I (g l), fun u hu => by obtain ⟨x, _, rfl⟩ := List.mem_map.1 hu; rfl, by rw [qx, hg, hl, Nat.mul_one], g2, .inr ⟨b2, junk, ea, rfl, by rw [qw, qx, hg] ; rw [qw, qx] at hj; exact hj⟩⟩, rfl⟩, ?_⟩
  exact SL.turned (hg l) hS2
end Go.Proofs.YtiojekbkamegdaaGreatDoor
namespace Go.Proofs.YtiojekbkamegdaaGreatDoor
open Go.Proofs.Tryz
variable {α : Type}
theorem NestR.inv {c : Enc α} {e : TypeId} {r : List α} {rs : List (List α)} {hs : List Value} {L : List (Nat × Obj)} (h : NestR c e (r :: rs) hs L) :
  ∃ a n cap hs' A B, hs = .slice a n cap :: hs' ∧ L = A ++ B ∧ OwnS c.k e a n cap (c.vs r) A ∧ NestR c e rs hs' B := by
 cases h with
 | cons h1 h2 => exact ⟨_, _, _, _, _, _, rfl, rfl, h1, h2⟩
def nestT (c : Enc α) (T e : TypeId) (b : Nat) (rows : List (List α)) (k : Nat) : AObj := .heap fun L => ∃ (hs : List Value) (B : List (Nat × Obj)), L = (b, .cells hs.toArray T (0, 0)) :: B ∧ hs.length = rows.length ∧ NestR c e (rows.drop k) (hs.drop k) B
section
variable {E : World} {P : Program} {ops : Array Oper} {K : AEnv → OL → Prop} {env : AEnv} {O O' O'' : OL} {rest : List Oper} {n : Nat}
variable {d ty : Nat} {pos : String} {af : Array Edge} {x y z : Operand} {t u e T : TypeId}
theorem GStep.nestTail {c : Enc α} {b m : Nat} {rows : List (List α)} (hO : Put O m (nestO c T e b rows) (nestT c T e b rows 0) O') : GStep E env O env O' := fun I F ρ w h1 h2 => by
 obtain ⟨htop, L, hL, hS⟩ := h2
 obtain ⟨A, B, hp, ⟨hs, B0, rfl, hN⟩, hback⟩ := hO.rep hL
 obtain ⟨L', h5, h6⟩ := hback (qe I) (A' := (b, .cells hs.toArray T (0, 0)) :: B0) ⟨hs, B0, rfl, hN.len, hN⟩
 exact ⟨I, .refl _, h1, htop, L', h5, hS.perm ((h6.trans hp.symm).append_right F)⟩
theorem AOps.nestShift {c : Enc α} {b k m : Nat} {rows : List (List α)} {r : List α} (ha : ∀ w, (isAgg t).run P w = .ok false w) (hx : aev env x = nptr b k) (hr : rows[k]? = some r)
  (hO : Put O m (nestT c T e b rows k) (nestT c T e b rows (k + 1)) O') (kk : ∀ i, AOps P E ops K rest (aupd env d (.own i r.length)) ((i, .grow c.k e (c.av r)) :: O')) :
  AOps P E ops K (Oper.mk (some d) (.load t x) ty pos af none :: rest) env O := fun I F ρ w h1 h2 => by
 obtain ⟨i, hi⟩ := h2.name
 obtain ⟨htop, L, hL, hS⟩ := h2
 have hx := evRaw h1 hx
 obtain ⟨A, B, hp, ⟨hs, B0, rfl, hl, hN⟩, hback⟩ := hO.rep hL
 obtain ⟨hlt, hrk⟩ := List.getElem?_eq_some_iff.1 hr
 rw [List.drop_eq_getElem_cons hlt, hrk] at hN
 obtain ⟨a, n, cap, hs', A1, B1, g0, rfl, g2, g3⟩ := hN.inv
 have hlt2 : k < hs.length := by omega
 have g0' := g0
 rw [List.drop_eq_getElem_cons hlt2] at g0'
 simp only [List.cons.injEq] at g0'
 obtain ⟨g1, rfl⟩ := g0'
 have g1 : hs[k]? = some (.slice a n cap) := by rw [qq hlt2, g1]
 obtain ⟨b1, rfl⟩ := g2.adr
 have hn : n = r.length := by have := g2.1; rw [c.vs_len] at this; exact (Nat.eq_of_mul_eq_mul_right c.pos this).symm
 subst hn
 obtain ⟨J, e1, hle, e2, htop'⟩ := hi (b1, cap)
 have hS2 : SL I.k ((b, .cells hs.toArray T (0, 0)) :: (A1 ++ B1 ++ (B ++ F))) E w := hS.perm (by
  have := hp.append_right F
  simpa using this.symm)
 obtain ⟨L', h5, h6⟩ := hback hle (A' := (b, .cells hs.toArray T (0, 0)) :: B1) ⟨hs, B1, rfl, hl, g3⟩
 refine Ops.load1 (I := I.k) (O := (b, .cells hs.toArray T (0, 0)) :: (A1 ++ B1 ++ (B ++ F))) ha hS2 hx (.inr ⟨_, _, _, .head _, by rw [List.getElem?_toArray]; exact g1⟩) ?_
 refine yz (fun _ _ => postK.up hle) _ _ _ (kk i J F _ _ ((h1.mono hle).upd d ⟨b1, cap, e2, rfl⟩) ⟨htop', A1 ++ L', ⟨A1, L', rfl, ⟨b1, cap, _, c.vs r, e2, by rw [c.av_eq]; exact lit_reps J _, c.vs_one r, g2⟩, h5⟩, ?_⟩)
 rw [e1]
 refine hS2.perm ?_
 have h7 : (A1 ++ L' ++ F).Perm (A1 ++ ((b, Obj.cells hs.toArray T (0, 0)) :: (B1 ++ B)) ++ F) := (h6.append_left A1).append_right F
 refine h7.trans ?_
 simp only [qs, List.cons_append]
 exact List.perm_middle
end
end Go.Proofs.YtiojekbkamegdaaGreatDoor
namespace Go.Proofs.YtiojekbkamegdaaGreatDoor
open Go.Proofs.Tryz
open Go.Proofs
theorem pl259 : Places prog 259 #[(0, 1), (1, 1)] [.int .i64 0, .int .i64 0] := ⟨_, _, underlying259, zeroValue259, fun w => by kernel_rfl, rfl⟩
theorem ps260_1 : PlacesS prog 260 259 1 2 [.int .i64 0, .int .i64 0] := ⟨_, underlying260, sizeOf259, zeroValue259, by decide, by decide, by kernel_rfl⟩
variable {E : World}
set_option maxRecDepth 20000
def stC (r : List (Int × Nat)) : List AV := (r.reverse.map fun q => [AV.int .i64 q.1, AV.int .i64 (q.2 : Int)]).flatten
theorem stC_cons (b : Int) (k : Nat) (r : List (Int × Nat)) : stC ((b, k) :: r) = stC r ++ [AV.int .i64 b, AV.int .i64 (k : Int)] := by unfold stC; simp
theorem stC_len (r : List (Int × Nat)) : (stC r).length = r.length * 2 := by
 induction r with
 | nil => rfl
 | cons q r ih => obtain ⟨b, k⟩ := q; rw [stC_cons, qw, ih]; simp only [List.length_cons, List.length_nil]; omega
theorem dfs_lens {f : PFunc} {n k : Nat} (hE : EOk (EndsOf f) n) : (dfsN (EndsOf f) n k).2.1.length + (dfsN (EndsOf f) n k).2.2.length ≤ n := by
 have h := dfsN_inv hE k
 have h2 := nodup_len _ (intsTo n) h.nodup fun x hx => mem_intsTo.2 (h.rng x hx)
 rw [intsTo_len, qw, qx] at h2
 exact h2
theorem order_spec (f : PFunc) (hE : EndsOk f) (hn : f.blocks.length ≤ 100000) (hrev : ∀ (l : List Int) (i : Nat) (T : TypeId), l.length ≤ 200000 → ACall prog E 188 [.own i l.length] [(i, .grow 1 T (cI l))] fun r O => r = .tup [] ∧ O = [(i, .grow 1 T (cI l.reverse))]) :
  AFun prog E 150 [.agg (encF f)] (.fro 1 ((orderT (EndsOf f) f.blocks.length).map encI)) := by
 have hG := hE.grph
 have hpos := hG.npos
 refine zo func150 rfl (by decide) rfl<|zSr<|y9 (cs := _) rfl rfl rfl<|z2 (zAr rfl)<|z6<|zSr<|z2 (zFF underlying26 rfl sizeOf24 rfl rfl)<|z2 (zLf isAgg24 rfl)<|z2 (y2 underlying24 rfl)<|AOps.makeB (m := f.blocks.length) underlying98 type4 rfl rfl rfl rfl rfl (by simp) (by simp) (by show (1 : Int) * _ ≤ _; omega) (by omega)<|fun i12 => z2 (zAo rfl)<|z6<|zSr<|z2 (zMo rfl)<|z2 (yf (j := 0) underlying98 sizeOf4 rfl rfl rfl ⟨_, .head⟩ (by first | rfl | (simp [cI_len, cB_len]; done) | (simp [cI_len, cB_len]; omega)) hG.npos)<|qc (j := 0) sizeOf4 rfl rfl .head (by first | omega | (simp; omega))<|z6<|zSr<|z2 (zAr rfl)<|z6<|zSr<|z2 (zx (cps := [(0, [_]), (1, [_])]) (rs := [_, _]) pl259 rfl rfl rfl)<|AOps.buildSliceO (cps := [(0, [_, _])]) (rs := [_, _]) ps260_1 rfl rfl rfl rfl rfl<|fun i16 => z2 (zAo rfl)<|z6<|adopt_wp (t := 4) (k := 1) (T := 3) rfl<|fun i4 => yc (za (zb .t1))<|zd<|zi<|y5 (γ := Nat × Nat × Nat) [1, 3] (fun g => [(4, .own g.2.1 (dfsN (EndsOf f) f.blocks.length g.1).2.1.length), (5, .own g.2.2 (dfsN (EndsOf f) f.blocks.length g.1).2.2.length)]) (fun g => [(g.2.2, .grow 2 259 (stC (dfsN (EndsOf f) f.blocks.length g.1).2.2)), (g.2.1, .grow 1 3 (cI (dfsN (EndsOf f) f.blocks.length g.1).2.1)), (i12, .grow 1 4 (cB (dfsN (EndsOf f) f.blocks.length g.1).1))]) (fun g => g.1 ≤ 4 * f.blocks.length ∧ (dfsN (EndsOf f) f.blocks.length g.1).1.length = f.blocks.length) (fun g => dleft (dfsN (EndsOf f) f.blocks.length g.1)) (0, i4, i16) zR2 zLe (⟨qt _, by simp [dfsN, dfs0]⟩) ?_
 rintro ⟨k, io, il⟩ ⟨hk, hsl⟩
 try dsimp only at *
 have hI := dfsN_inv hG.toEOk k
 have hlen := dfs_lens (k := k) hG.toEOk
 have hlt := dfs_left hG.toEOk k
 have hstep : dfsN (EndsOf f) f.blocks.length (k + 1) = dstep (EndsOf f) (dfsN (EndsOf f) f.blocks.length k) := rfl
 rcases hx : dfsN (EndsOf f) f.blocks.length k with ⟨seen, out, st⟩
 rw [hx] at hI hlen hlt hstep hsl
 dsimp only at hlen hlt hsl
 cases st with
 | nil =>
 ·refine zd<|zSr<|z2 (zMo rfl)<|z2 (Gv.lenO underlying260 rfl)<|z2 (q4 rfl rfl)<|z6<|ym rfl (by simp) ?_
  have hfin := dfs_still (E := EndsOf f) (n := f.blocks.length) (k := k) (by rw [hx]) hk
  refine y4<|zSr<|z2 (zMo rfl)<|y1 rfl (zm (.r (.l (.r (.rest _))))) (hrev out io 3 (by omega)) ?_
  rintro r82 O82 ⟨rfl, rfl⟩
  refine z6<|yc (GStep.knowI (t := 4) rfl .head (by simp))<|zSr<|z2 (zMf rfl)<|z2 (zAf rfl)<|z6<|zg<|zk (x := .fro _ _) rfl ?_
  unfold orderT; rw [hfin, hx]; rfl
  | cons q r =>
 ·obtain ⟨b, j⟩ := q
  have hbr := hI.rng b (by simp)
  have hbl : b.toNat < f.blocks.length := by omega
  have hEb : EndsOf f b = endsL f.blocks[b.toNat].term := EndsOf_get hbr.1 hbl
  have hjl := (hI.part (b, j) (by simp)).1
  dsimp only at hjl
  have hmn : dleft (dfsN (EndsOf f) f.blocks.length (k + 1)) < dleft (dfsN (EndsOf f) f.blocks.length k) := by rw [hstep, hx]; exact DInv.less hG.toEOk hI (by simp)
  have hk2 : k + 1 ≤ 4 * f.blocks.length := by simp at hlt; omega
  have hsn : (dfsN (EndsOf f) f.blocks.length (k + 1)).1.length = f.blocks.length := (dfsN_inv hG.toEOk (k + 1)).len
  rw [dstep_cons] at hstep
  rw [hx] at hmn
  rw [stC_cons]
  simp only [List.length_cons] at hlen ⊢
  refine zd<|zSr<|z2 (zMo rfl)<|z2 (Gv.lenO underlying260 rfl)<|z2 (q4 rfl rfl)<|z6<|yo rfl (by simp)<|zh<|zi<|zSr<|z2 (zMo rfl)<|z2 (zMo rfl)<|z2 (Gv.lenO underlying260 rfl)<|z2 (Gv.sub rfl rfl (by unfold I64; show _ ∧ ((r.length + 1 : Nat) : Int) - 1 ≤ _; omega))<|z2 (Gv.idxOL (j := r.length) underlying260 sizeOf259 rfl rfl (by show ((r.length + 1 : Nat) : Int) - 1 = _; omega) ⟨_, .head⟩ (by simp) (by show r.length < r.length + 1; omega) (show r.length * 2 = (stC r).length by rw [stC_len]))<|z2 (zAp rfl)<|z6<|zd<|zu (fun j => false) (by kernel_rfl) rfl (zm (.r (.rest _)))<|zTk 0 rfl (zFF underlying26 rfl sizeOf24 rfl rfl)<|zTk 1 rfl (zLf isAgg24 rfl)<|zTk 2 rfl (zMp rfl)<|zTk 3 rfl (zn rfl)<|zTk 4 rfl (ze underlying259 rfl sizeOf3 (by decide) rfl rfl)<|zTk 5 rfl (Gv.loadL (c := .int _ _) (j := 0) isAgg3 rfl rfl ⟨_, .head⟩ rfl)<|zTk 6 rfl (zIM b.toNat underlying24 sizeOf58 rfl rfl (by omega) (qq hbl))<|zTk 7 rfl (zFF underlying58 rfl sizeOf56 rfl rfl)<|zTk 8 rfl (zp isAgg56 sizeOf56 rfl rfl)<|zOn 9 rfl<|zf (ends_spec _) rfl<|z6<|zTk 10 rfl (zAf rfl)<|zDn<|zd<|zSr<|z2 (zMp rfl)<|z2 (zn rfl)<|z2 (ze underlying259 rfl sizeOf3 (by decide) rfl rfl)<|z2 (Gv.loadL (c := .int _ _) (j := 1) isAgg3 rfl rfl ⟨_, .head⟩ rfl)<|z2 (zMf rfl)<|z2 (y2 underlying23 rfl) ?_
  refine z2 (y7 rfl rfl)<|z6<|zz rfl (fun ce=>?_) (fun ce=>?_)
  ·have hje : j = (EndsOf f b).length := by rw [hEb]; have h0 : (j : Int) = ((endsL f.blocks[b.toNat].term).length : Int) := (by simpa using ce); omega
   rw [if_pos hje] at hstep
   refine zSr<|z2 (zMo rfl)<|z2 (zMp rfl)<|z2 (zn rfl)<|z2 (ze underlying259 rfl sizeOf3 (by decide) rfl rfl)<|z2 (Gv.loadL (c := .int _ _) (j := 0) isAgg3 rfl rfl ⟨_, .head⟩ rfl)<|zw (rows := [[_]]) ps23_1 rfl rfl rfl rfl rfl<|yg (k := 1) underlying23 type3 rfl rfl rfl rfl rfl (fun _ => .t1) (by rw [cI_len]; omega) (by decide) rfl (by show (out.length + 1) * 8 ≤ _; omega) (by show out.length + 1 ≤ _; omega)<|fun i48 => z2 (zAo rfl)<|z6<|zSr<|z2 (zMo rfl)<|z2 (zMo rfl)<|z2 (Gv.lenO underlying260 rfl)<|z2 (Gv.sub rfl rfl (by unfold I64; show _ ∧ ((r.length + 1 : Nat) : Int) - 1 ≤ _; omega))<|AOps.cutLast (j := r.length) underlying260 sizeOf259 rfl rfl (by show ((r.length + 1 : Nat) : Int) - 1 = _; omega) .head (by decide) (by rw [stC_len])<|z2 (zAo rfl)<|z6<|y4 ?_
   exact ⟨(k + 1, i48, il), zR2, ⟨(by rw [hstep, qw]; rfl), (by rw [hstep]; rfl), trivial⟩, ⟨_, (.refl _), by rw [hstep]; dsimp only; rw [← cI_app]; rfl⟩, ⟨hk2, hsn⟩, by exact hmn⟩
  ·have hje : ¬ j = (EndsOf f b).length := by rw [hEb]; have h0 : ¬ (j : Int) = ((endsL f.blocks[b.toNat].term).length : Int) := (by simpa using ce); omega
   have hj2 : j < (endsL f.blocks[b.toNat].term).length := by rw [← hEb]; omega
   rw [if_neg hje] at hstep
   obtain ⟨c, hc⟩ : ∃ c, ge (EndsOf f b) j = c := ⟨_, rfl⟩
   have hcj : (endsL f.blocks[b.toNat].term)[j]? = some c := by rw [← hEb]; unfold ge at hc; rw [← hc, hEb, qq hj2]; rfl
   have hcr := hG.rng b hbr.1 hbr.2 c (by rw [hEb]; exact qy hcj)
   rw [hc] at hstep
   have hgs : seen[c.toNat]? = some (gb seen c) := by unfold gb; rw [qq (by omega)]; rfl
   have hl2 := hG.len b
   rw [hEb] at hl2
   refine zh<|zSr<|z2 (zMf rfl)<|z2 (zMp rfl)<|z2 (zn rfl)<|z2 (ze underlying259 rfl sizeOf3 (by decide) rfl rfl)<|z2 (Gv.loadL (c := .int _ _) (j := 1) isAgg3 rfl rfl ⟨_, .head⟩ rfl)<|z2 (zIM j underlying23 sizeOf3 rfl rfl rfl hcj)<|z2 (zLi isAgg3 rfl)<|z2 (zAi rfl)<|z6<|zSr<|z2 (zMp rfl)<|z2 (zn rfl)<|z2 (ze underlying259 rfl sizeOf3 (by decide) rfl rfl)<|z2 (Gv.loadL (c := .int _ _) (j := 1) isAgg3 rfl rfl ⟨_, .head⟩ rfl)<|z2 (zAd rfl rfl)<|z2 (zn rfl)<|z2 (ze underlying259 rfl sizeOf3 (by decide) rfl rfl)<|AOps.storeL (j := 1) (l := [_]) (new := [_, _]) sizeOf3 rfl rfl rfl rfl rfl rfl rfl .head rfl rfl rfl<|z6<|zSr<|z2 (zMo rfl)<|z2 (zMi rfl)<|z2 (yf (j := c.toNat) underlying98 sizeOf4 rfl rfl (by omega) ⟨_, .t2⟩ (by first | rfl | (simp [cI_len, cB_len]; done) | (simp [cI_len, cB_len]; omega)) (by omega))<|z2 (Gv.loadB (j := c.toNat) isAgg4 rfl ⟨_, .t2⟩ hgs)<|z2 (yl rfl)<|z6<|zz rfl (fun cs=>?_) (fun cs=>?_)
   ·rw [if_neg (by simpa using cs)] at hstep
    refine zSr<|z2 (zMo rfl)<|z2 (zMi rfl)<|z2 (yf (j := c.toNat) underlying98 sizeOf4 rfl rfl (by omega) ⟨_, .t2⟩ (by first | rfl | (simp [cI_len, cB_len]; done) | (simp [cI_len, cB_len]; omega)) (by omega))<|qc (j := c.toNat) sizeOf4 rfl rfl .t2 (by first | omega | (simp; omega))<|z6<|zRg<|z2 (zMo rfl)<|z2 (zMi rfl)<|z2 (zx (cps := [(0, [_]), (1, [_])]) (rs := [_, _]) pl259 rfl rfl rfl)<|zw (rows := [[_, _]]) ps260_1 rfl rfl rfl rfl rfl<|yg (k := 2) underlying260 type259 rfl rfl rfl rfl rfl (fun _ => .head) (by rw [qw, stC_len]; show r.length * 2 + 2 = (r.length + 1) * 2; omega) (by decide) rfl (by show (r.length + 1 + 1) * 16 ≤ _; omega) (by show r.length + 1 + 1 ≤ _; omega)<|fun i80 => z2 (zAo rfl)<|z6 ?_
    exact ⟨(k + 1, io, i80), zR2, ⟨(by rw [hstep]; rfl), (by rw [hstep]; rfl), trivial⟩, ⟨_, (.refl _), by rw [hstep, stC_cons, stC_cons]; rfl⟩, ⟨hk2, hsn⟩, by exact hmn⟩
   ·rw [if_pos (by simpa using cs)] at hstep
    refine zh ?_
    exact ⟨(k + 1, io, il), zR2, ⟨(by rw [hstep]; rfl), (by rw [hstep]; rfl), trivial⟩, ⟨_, (.refl _), by rw [hstep, stC_cons]; rfl⟩, ⟨hk2, hsn⟩, by exact hmn⟩
end Go.Proofs.YtiojekbkamegdaaGreatDoor
namespace Go.Proofs.YtiojekbkamegdaaGreatDoor
open Go.Proofs.Tryz
section
variable {E : World} {P : Program} {n : Nat} {l : List Oper} {W : Nat → Bool} {Q : AEnv → OL → Prop} {fuel : Nat} {listed : Array Bool} {env : AEnv} {O Os Om : OL}
theorem AAny.many {is : List Nat} (hr : Region.ready .any l.toArray listed = is) (h0 : is ≠ [])
  (h : ∀ k ∈ is, ∃ o, l[k]? = some o ∧ AOps P E l.toArray (fun env' Om' => AAny P E l W Q fuel (listed.setIfInBounds k true) env' Os Om') [o] env Om) : AAny P E l W Q (fuel + 1) listed env Os Om := fun I F ρ w Ls h1 hLs h2 => by
 refine ⟨fun h0' => absurd (hr.symm.trans h0') h0, fun k hk o2 ho2 => ?_⟩
 rw [hr] at hk
 rw [List.getElem?_toArray] at ho2
 obtain ⟨o, e, h⟩ := h k hk
 rw [e] at ho2
 cases ho2
 exact yz (fun ρ' w' ⟨J, env', Om', a, b, c, d⟩ => by
   have hst : stays I.k Ls E w' := by
    obtain ⟨J', L', h3, h4, h5⟩ := c.here
    exact ⟨J', L', a.k.trans h3, h4, h5⟩
   refine ⟨⟨hst.less, .inr hst⟩, AnyV.mono ?_ ?_ (fun _ _ => postK.up a) _ _ _ _ (d J F ρ' w' Ls b (hLs.mono a) c)⟩
   ·rintro w ⟨J', L', h3, h4⟩; exact ⟨J', L', a.k.trans h3, h4⟩
   ·rintro w ⟨J', L', h3, h4⟩; exact ⟨J', L', a.k.trans h3, h4⟩) _ _ _ (h I (Ls ++ F) ρ w h1 h2)
theorem AAny.four {i j m q : Nat} {o1 o2 o3 o4 : Oper} (hi : l[i]? = some o1) (hj : l[j]? = some o2) (hm : l[m]? = some o3) (hq : l[q]? = some o4) (hr : Region.ready .any l.toArray listed = [i, j, m, q])
  (h1 : AOps P E l.toArray (fun env' Om' => AAny P E l W Q fuel (listed.setIfInBounds i true) env' Os Om') [o1] env Om)
  (h2 : AOps P E l.toArray (fun env' Om' => AAny P E l W Q fuel (listed.setIfInBounds j true) env' Os Om') [o2] env Om)
  (h3 : AOps P E l.toArray (fun env' Om' => AAny P E l W Q fuel (listed.setIfInBounds m true) env' Os Om') [o3] env Om)
  (h4 : AOps P E l.toArray (fun env' Om' => AAny P E l W Q fuel (listed.setIfInBounds q true) env' Os Om') [o4] env Om) : AAny P E l W Q (fuel + 1) listed env Os Om :=
 AAny.many hr (by simp) fun k hk => by
  simp only [List.mem_cons, List.not_mem_nil, or_false] at hk
  rcases hk with rfl | rfl | rfl | rfl
  ·exact ⟨_, hi, h1⟩
  ·exact ⟨_, hj, h2⟩
  ·exact ⟨_, hm, h3⟩
  ·exact ⟨_, hq, h4⟩
end
end Go.Proofs.YtiojekbkamegdaaGreatDoor
namespace Go.Proofs.YtiojekbkamegdaaGreatDoor
open Go.Proofs.Tryz
def sortI (l : List Int) : List Int := l.mergeSort fun x y => decide (x ≤ y)
theorem sortI_perm (l : List Int) : (sortI l).Perm l := List.mergeSort_perm l _
end Go.Proofs.YtiojekbkamegdaaGreatDoor
namespace Go.Proofs.YtiojekbkamegdaaGreatDoor
open Go.Proofs.Tryz
def rowO (b : Nat) (T : TypeId) (vs : List Value) : AObj := .heap fun L => L = [(b, .cells vs.toArray T (0, 0))]
def rsl (b off n c : Nat) : AV := .raw (.slice (some ⟨b, off, none⟩) n c)
section
variable {E : World} {P : Program} {ops : Array Oper} {K : AEnv → OL → Prop} {env : AEnv} {O O' O'' : OL} {rest : List Oper}
variable {d ty : Nat} {pos : String} {af : Array Edge} {x y z : Operand} {t u e T : TypeId}
theorem AOps.makeRow {i : TypeInfo} {zv z1 : Value} {m : Nat} {k1 k2 : IntKind} {l l' : Int} (ht : P.underlying t = some (.slice e)) (hi : P.info? e = some i) (hz : i.zero = some zv) (hzc : zv.cells = #[z1]) (hk : i.size = 1) (hx : aev env x = .int k1 l) (hy : aev env y = .int k2 l')
  (hl : l = (m : Int)) (hl' : l' = (m : Int)) (hb : (i.bytes : Int) * (m : Int) ≤ 281474976710656) (hm : m ≤ 281474976710656) (kk : ∀ b, AOps P E ops K rest (aupd env d (rsl b 0 m m)) ((0, rowO b e (List.replicate m z1)) :: O)) :
  AOps P E ops K (Oper.mk (some d) (.makeSlice t x y) ty pos af none :: rest) env O := fun I F ρ w h1 h2 => by
 obtain ⟨htop, L, hL, hS⟩ := h2
 refine Ops.make1 ht hi hz hzc hk (evI h1 hx) (evI h1 hy) hl hl' hb hm hS fun b w' hS' => ?_
 exact kk b I F _ _ (h1.upd d rfl) ⟨htop, _, ⟨[(b, .cells (List.replicate m z1).toArray e (0, 0))], L, rfl, rfl, hL⟩, by simpa using hS'⟩
theorem Gv.rowLo {b n c j : Nat} {a : Int} (ht : P.underlying t = some (.slice e)) (hs : ∀ w, (sizeOf e).run P w = .ok 1 w) (hx : aev env x = rsl b 0 n c) (hy : aev env y = .int .i64 a) (hi : a = (j : Int)) (hj : j ≤ n) (hc : j < c) (hnc : n ≤ c) :
  Gv P env O (Oper.mk (some d) (.slice t x (some y) none none) ty pos af none) (rsl b j (n - j) (c - j)) := qn fun I ρ h => by
 have h1 := evRaw h hx
 have h2 := evI h hy
 subst hi
 refine ⟨_, rfl, fun w=>?_⟩
 have hcj : ¬ c = j := by omega
 simp [execOp, Instr.sliceAt, Instr.slice, Instr.sliceBounds, Instr.sliceBound, asIntOf, Sem.run_bind, run_underlying ht, hs, h1, h2, hcj, hj, addr_add]
theorem Gv.rowHi {b n c j : Nat} {a : Int} (ht : P.underlying t = some (.slice e)) (hs : ∀ w, (sizeOf e).run P w = .ok 1 w) (hx : aev env x = rsl b 0 n c) (hy : aev env y = .int .i64 a) (hi : a = (j : Int)) (hc : j ≤ c) :
  Gv P env O (Oper.mk (some d) (.slice t x none (some y) none) ty pos af none) (rsl b 0 j c) := qn fun I ρ h => by
 have h1 := evRaw h hx
 have h2 := evI h hy
 subst hi
 refine ⟨_, rfl, fun w=>?_⟩
 simp [execOp, Instr.sliceAt, Instr.slice, Instr.sliceBounds, Instr.sliceBound, asIntOf, Sem.run_bind, run_underlying ht, hs, h1, h2, hc, addr_add]
theorem Gv.lenRow {b off m c : Nat} (ht : P.underlying t = some (.slice T)) (hx : aev env x = rsl b off m c) : Gv P env O (Oper.mk (some d) (.call { callee := .builtin .len, args := #[x], argTypes := #[t] }) ty pos af none) (.int .i64 m) := qn fun I ρ h => by
 have h1 := evRaw h hx
 exact ⟨_, rfl, fun w => by simp [execOp, resolve, h1, invoke, builtin, Builtin.len_, run_underlying ht, goInt]⟩
theorem AOps.copyRow {b off dl dc sl q : Nat} {vs cs : List Value} {ty2 : TypeId} (ht : P.underlying t = some (.slice e)) (hs : (P.info? e).map (·.size) = some 1) (hx : aev env x = rsl b off dl dc)
  (hq : cs.length = q) (hmin : q = Nat.min sl dl) (hO : Put O 0 (rowO b T vs) (rowO b T (vs.take off ++ cs ++ vs.drop (off + q))) O') (hfit : off + q ≤ vs.length) (h1c : ∀ v ∈ cs, v.oneCell' = true)
  (hy : ∀ I F ρ w, RepE I env ρ → SLA I O F E w → ∃ a sc, ev ρ y = .slice (some a) sl sc ∧ ∀ j v, cs[j]? = some v → w.cell? (a.add j) = some v)
  (kk : AOps P E ops K rest (aupd env d (.int .i64 q)) O') :
  AOps P E ops K (Oper.mk (some d) (.call { callee := .builtin .copy, args := #[x, y], argTypes := #[t, ty2] }) ty pos af none :: rest) env O := fun I F ρ w h1 h2 => by
 obtain ⟨a, sc, ey, hsrc⟩ := hy I F ρ w h1 h2
 obtain ⟨htop, L, hL, hS⟩ := h2
 have ex := evRaw h1 hx
 obtain ⟨A, B, hp, hA, hback⟩ := hO.rep hL
 have hA : A = [(b, .cells vs.toArray T (0, 0))] := hA
 subst hA
 have hS2 : SL I.k ((b, .cells vs.toArray T (0, 0)) :: (B ++ F)) E w := hS.perm ((hp.append_right F).symm)
 have hrun := run_copy_row (P := P) w t ty2 ty e b off dl dc a sl sc vs.toArray T cs ht hs (hS2.own _ (.head _)) (by rw [hq, hmin]) hsrc (by simpa [hq] using hfit) h1c
 rw [hq] at hrun
 obtain ⟨L', h5, h6⟩ := hback (qe I) (A' := [(b, .cells (vs.take off ++ cs ++ vs.drop (off + q)).toArray T (0, 0))]) rfl
 refine Ops.step rfl ?_
 unfold OpW
 have hex : (execOp (Go.Proofs.YtiojekbkamegdaaGreatDoor.ev ρ) (Oper.mk (some d) (.call { callee := .builtin .copy, args := #[x, y], argTypes := #[t, ty2] }) ty pos af none)).run P w = .ok (.value (goInt q)) (w.setRow b (vs.take off ++ cs ++ vs.drop (off + q)).toArray) := by
  simp only [execOp, resolve]
  simp at hrun
  simp [invoke, builtin, ex, ey, hrun]
 rw [hex]
 refine kk I F _ _ (h1.upd d rfl) ⟨htop, L', h5, ?_⟩
 exact (hS2.turn1).perm (h6.append_right F)
theorem AWP.rowOwn {t b m : Nat} {vs : List Value} {O1 : OL} {c : Code} {Q : Exit → AEnv → OL → Prop} {n : Nat} (hv : env t = rsl b 0 m m) (hO : Pick O 0 (rowO b T vs) O1) (hm : vs.length = m) (hc : ∀ u ∈ vs, u.oneCell' = true)
  (h : ∀ i, AWP P E n c Q (aupd env t (.own i m)) ((i, .grow 1 T (vs.map lit)) :: O1)) : AWP P E n c Q env O := fun I F ρ w h1 h2 => by
 obtain ⟨i, hi⟩ := h2.name
 obtain ⟨J, e1, hle, e2, htop⟩ := hi (some b, m)
 obtain ⟨_, L, hL, hS⟩ := h2
 obtain ⟨A, B, hp, hA, hB⟩ := hO.rep hL
 have hA : A = [(b, .cells vs.toArray T (0, 0))] := hA
 subst hA
 refine (h i J F ρ w (fun q=>?_) ⟨htop, _, ⟨[(b, .cells vs.toArray T (0, 0))], B, rfl, ⟨some b, m, m, vs, e2, lit_reps J vs, hc, OwnS.made (by rw [hm, Nat.mul_one])⟩, hB.mono hle⟩, by rw [e1]; exact hS.perm (hp.symm.append_right F)⟩).mono fun _ _ _ => postE.up hle
 unfold aupd
 cases hb : Nat.beq q t with
 | false => exact qg hle _ _ (h1 q)
 | true =>
  have : q = t := Nat.eq_of_beq_eq_true hb
  subst this
  have h4 := h1 q
  rw [hv] at h4
  exact ⟨some b, m, e2, h4⟩
end
end Go.Proofs.YtiojekbkamegdaaGreatDoor
namespace Go.Proofs
open Go.Shelf
def Tryz.lays189_ren : Go.Shelf.Ren := ⟨fun | 189 => 155 | 125 => 192 | 257 => 191 | 128 => 236 | 129 => 237 | 294 => 227 | 295 => 228 | 296 => 229 | 297 => 230 | 298 => 231 | 299 => 232 | 216 => 233 | 300 => 234 | 301 => 235 | 328 => 264 | 329 => 265 | 330 => 266 | 331 => 267 | 332 => 268 | 215 => 269 | 343 => 282 | n => n, fun | 28 => 23 | 3 => 3 | 46 => 223 | 0 => 0 | 51 => 262 | 53 => 265 | 4 => 4 | 183 => 293 | 182 => 292 | 131 => 165 | 5 => 5 | 9 => 9 | 218 => 321 | 222 => 325 | 228 => 346 | 229 => 93 | n => n, fun | n => n⟩
theorem Tryz.lays189 : Go.Proofs.Lays.n189 prog Tryz.lays189_ren := {
 mixed := by kernel_rfl
 f125 := func192.trans (congrArg some (by kernel_rfl))
 f128 := func236.trans (congrArg some (by kernel_rfl))
 f129 := func237.trans (congrArg some (by kernel_rfl))
 f189 := func155.trans (congrArg some (by kernel_rfl))
 f215 := func269.trans (congrArg some (by kernel_rfl))
 f216 := func233.trans (congrArg some (by kernel_rfl))
 f257 := func191.trans (congrArg some (by kernel_rfl))
 f294 := func227.trans (congrArg some (by kernel_rfl))
 f295 := func228.trans (congrArg some (by kernel_rfl))
 f296 := func229.trans (congrArg some (by kernel_rfl))
 f297 := func230.trans (congrArg some (by kernel_rfl))
 f298 := func231.trans (congrArg some (by kernel_rfl))
 f299 := func232.trans (congrArg some (by kernel_rfl))
 f300 := func234.trans (congrArg some (by kernel_rfl))
 f301 := func235.trans (congrArg some (by kernel_rfl))
 f328 := func264.trans (congrArg some (by kernel_rfl))
 f329 := func265.trans (congrArg some (by kernel_rfl))
 f330 := func266.trans (congrArg some (by kernel_rfl))
 f331 := func267.trans (congrArg some (by kernel_rfl))
 f332 := func268.trans (congrArg some (by kernel_rfl))
 f343 := func282.trans (congrArg some (by kernel_rfl))
 t0 := underlying0
 a0 := isAgg0
 z0 := sizeOf0
 v0 := zeroValue0
 t3 := underlying3
 a3 := isAgg3
 z3 := sizeOf3
 v3 := zeroValue3
 t4 := underlying4
 a4 := isAgg4
 z4 := sizeOf4
 v4 := zeroValue4
 t5 := underlying5
 a5 := isAgg5
 z5 := sizeOf5
 v5 := zeroValue5
 t9 := underlying9
 a9 := isAgg9
 z9 := sizeOf9
 v9 := zeroValue9
 t28 := underlying23
 a28 := isAgg23
 z28 := sizeOf23
 v28 := zeroValue23
 t46 := underlying223
 a46 := isAgg223
 z46 := sizeOf223
 v46 := zeroValue223
 t51 := underlying262
 a51 := isAgg262
 z51 := sizeOf262
 v51 := zeroValue262
 t53 := underlying265
 a53 := isAgg265
 z53 := sizeOf265
 v53 := zeroValue265
 t131 := underlying165
 a131 := isAgg165
 z131 := sizeOf165
 v131 := zeroValue165
 t182 := underlying292
 a182 := isAgg292
 z182 := sizeOf292
 v182 := zeroValue292
 t183 := underlying293
 a183 := isAgg293
 z183 := sizeOf293
 v183 := zeroValue293
 t218 := underlying321
 a218 := isAgg321
 z218 := sizeOf321
 v218 := zeroValue321
 t222 := underlying325
 a222 := isAgg325
 z222 := sizeOf325
 v222 := zeroValue325
 t228 := underlying346
 a228 := isAgg346
 z228 := sizeOf346
 v228 := zeroValue346
 t229 := underlying93
 a229 := isAgg93
 z229 := sizeOf93
 v229 := zeroValue93 }
open Go.Sort Go.RowKit in
theorem Tryz.slices_Sort_int (blk off cap : Nat) (zs : List Int) (w : World) (hH : Holds (Value.int .i64) w blk off zs.toArray) (hblk : blk < w.heap.size) (hsz : zs.length < 4611686018427387904) :
  Calls prog 155 #[.slice (some ⟨blk, off, none⟩) zs.length cap] w fun e w' =>
   e = .returned (.tuple #[]) ∧ ∃ n os, w' = grow (putRow (Value.int .i64) (Sort.ahead w n) blk off (zs.mergeSort fun x y => decide (x ≤ y)).toArray) os := Any.slices_Sort_int Tryz.lays189 blk off cap zs w hH hblk hsz
def Tryz.lays200_ren : Go.Shelf.Ren := ⟨fun | 200 => 193 | 261 => 238 | 311 => 270 | 312 => 271 | n => n, fun | 21 => 21 | 4 => 4 | 51 => 262 | 5 => 5 | 119 => 300 | 0 => 0 | 141 => 302 | 196 => 330 | 193 => 327 | 3 => 3 | 198 => 332 | 49 => 68 | 194 => 328 | 201 => 335 | 226 => 348 | 46 => 223 | 227 => 349 | n => n, fun | 7 => 0 | 8 => 1 | n => n⟩
theorem Tryz.lays200 : Go.Proofs.Lays.n200 prog Tryz.lays200_ren := {
 mixed := by kernel_rfl
 f200 := func193.trans (congrArg some (by kernel_rfl))
 f261 := func238.trans (congrArg some (by kernel_rfl))
 f311 := func270.trans (congrArg some (by kernel_rfl))
 f312 := func271.trans (congrArg some (by kernel_rfl))
 t0 := underlying0
 a0 := isAgg0
 z0 := sizeOf0
 v0 := zeroValue0
 t3 := underlying3
 a3 := isAgg3
 z3 := sizeOf3
 v3 := zeroValue3
 t4 := underlying4
 a4 := isAgg4
 z4 := sizeOf4
 v4 := zeroValue4
 t5 := underlying5
 a5 := isAgg5
 z5 := sizeOf5
 v5 := zeroValue5
 t21 := underlying21
 a21 := isAgg21
 z21 := sizeOf21
 v21 := zeroValue21
 t46 := underlying223
 a46 := isAgg223
 z46 := sizeOf223
 v46 := zeroValue223
 t49 := underlying68
 a49 := isAgg68
 z49 := sizeOf68
 v49 := zeroValue68
 t51 := underlying262
 a51 := isAgg262
 z51 := sizeOf262
 v51 := zeroValue262
 t119 := underlying300
 a119 := isAgg300
 z119 := sizeOf300
 t141 := underlying302
 a141 := isAgg302
 z141 := sizeOf302
 v141 := zeroValue302
 t193 := underlying327
 a193 := isAgg327
 z193 := sizeOf327
 v193 := zeroValue327
 t194 := underlying328
 a194 := isAgg328
 z194 := sizeOf328
 v194 := zeroValue328
 t196 := underlying330
 a196 := isAgg330
 z196 := sizeOf330
 v196 := zeroValue330
 t198 := underlying332
 a198 := isAgg332
 z198 := sizeOf332
 v198 := zeroValue332
 t201 := underlying335
 a201 := isAgg335
 z201 := sizeOf335
 v201 := zeroValue335
 t226 := underlying348
 a226 := isAgg348
 z226 := sizeOf348
 v226 := zeroValue348
 t227 := underlying349
 a227 := isAgg349
 z227 := sizeOf349
 v227 := zeroValue349
 g7 := by kernel_rfl
 g8 := by kernel_rfl }
def Tryz.lays212_ren : Go.Shelf.Ren := ⟨fun | 212 => 153 | 263 => 189 | 264 => 190 | n => n, fun | 46 => 223 | 51 => 262 | 146 => 263 | 53 => 265 | 148 => 266 | n => n, fun | n => n⟩
theorem Tryz.lays212 : Go.Proofs.Lays.n212 prog Tryz.lays212_ren := {
 mixed := by kernel_rfl
 f212 := func153.trans (congrArg some (by kernel_rfl))
 f263 := func189.trans (congrArg some (by kernel_rfl))
 f264 := func190.trans (congrArg some (by kernel_rfl))
 t46 := underlying223
 a46 := isAgg223
 z46 := sizeOf223
 v46 := zeroValue223
 t51 := underlying262
 a51 := isAgg262
 z51 := sizeOf262
 v51 := zeroValue262
 t53 := underlying265
 a53 := isAgg265
 z53 := sizeOf265
 v53 := zeroValue265
 t146 := underlying263
 a146 := isAgg263
 z146 := sizeOf263
 v146 := zeroValue263
 t148 := underlying266
 a148 := isAgg266
 z148 := sizeOf266
 v148 := zeroValue266 }
open Go.RowKit Go.Lib in
theorem Tryz.bits_Mul (x y : Nat) (hx : x < 18446744073709551616) (hy : y < 18446744073709551616) (w : World) :
  Calls prog 153 #[.int .u64 x, .int .u64 y] w fun e w' => e = .returned (.tuple #[.int .u64 ((x * y / 18446744073709551616 : Nat) : Int), .int .u64 ((x * y % 18446744073709551616 : Nat) : Int)]) ∧ w' = w := Any.bits_Mul Tryz.lays212 x y hx hy w
open Go.RowKit Go.Lib in
theorem Tryz.unicode_IsLetter_all (r : Int) (w : World) (hlo : -2147483648 ≤ r) (hhi : r ≤ 2147483647) (htab : Lib.TabIs prog w "unicode.properties" .u8 Lib.propertiesTab) (hV : RVar 1 letterT w) :
  Calls prog 193 #[.int .i32 r] w fun e w' => e = .returned (.bool (isLetterU r)) ∧ Below w.heap.size w w' := Any.unicode_IsLetter_all Tryz.lays200 (by kernel_rfl) r w hlo hhi htab hV
def Tryz.lays112_ren : Go.Shelf.Ren := ⟨fun | 112 => 188 | n => n, fun | 28 => 23 | 3 => 3 | 4 => 4 | 0 => 0 | n => n, fun | n => n⟩
theorem Tryz.lays112 : Go.Proofs.Lays.n112 prog Tryz.lays112_ren := {
 mixed := by kernel_rfl
 f112 := func188.trans (congrArg some (by kernel_rfl))
 t0 := underlying0
 a0 := isAgg0
 z0 := sizeOf0
 v0 := zeroValue0
 t3 := underlying3
 a3 := isAgg3
 z3 := sizeOf3
 v3 := zeroValue3
 t4 := underlying4
 a4 := isAgg4
 z4 := sizeOf4
 v4 := zeroValue4
 t28 := underlying23
 a28 := isAgg23
 z28 := sizeOf23
 v28 := zeroValue23 }
open Go.RowKit Go.Lib Go.Sort in
theorem Tryz.slices_Reverse_int (blk off cap : Nat) (zs : List Int) (w : World) (hH : Holds (Value.int .i64) w blk off zs.toArray) (hsz : zs.length ≤ 9223372036854775807) :
  Calls prog 188 #[.slice (some ⟨blk, off, none⟩) zs.length cap] w fun e w' => e = .returned (.tuple #[]) ∧ ∃ n, w' = putRow (Value.int .i64) (Sort.ahead w n) blk off zs.reverse.toArray := Any.slices_Reverse_int Tryz.lays112 blk off cap zs w hH hsz
open Go.RowKit Go.Lib Go.Sort in
theorem Tryz.slices_Reverse_int_empty (a : Option Addr) (cap : Nat) (w : World) :
  Calls prog 188 #[.slice a 0 cap] w fun e w' => e = .returned (.tuple #[]) ∧ w' = w := Any.slices_Reverse_int_empty Tryz.lays112 a cap w
open Go.RowKit Go.Sort in
theorem Tryz.slices_Sort_int_none (p : Option Addr) (cap : Nat) (w : World) :
  Calls prog 155 #[.slice p 0 cap] w fun e w' => e = .returned (.tuple #[]) ∧ w' = w := Any.slices_Sort_int_none Tryz.lays189 p cap w
end Go.Proofs
namespace Go.Proofs.YtiojekbkamegdaaGreatDoor
open Go.Proofs.Tryz
open Go.Proofs
variable {E : World}
set_option maxRecDepth 20000
theorem reverse_own (l : List Int) (i : Nat) (T : TypeId) (hl : l.length ≤ 200000) : ACall prog E 188 [.own i l.length] [(i, .grow 1 T (cI l))] fun r O => r = .tup [] ∧ O = [(i, .grow 1 T (cI l.reverse))] :=
 ACall.turned (g := List.reverse) (B := 200001) func188 rfl (by decide) (fun l => List.length_reverse) (fun blk cap zs w hH _ hz => (Tryz.slices_Reverse_int blk 0 cap zs w hH (by omega)).mono fun e w' ⟨h1, n, h2⟩ => ⟨h1, n, #[], by rw [h2, Go.Sort.grow_empty]⟩)
  (fun cap w => Tryz.slices_Reverse_int_empty none cap w) rfl (by omega)
theorem sort_own (l : List Int) (i : Nat) (T : TypeId) (hl : l.length ≤ 200000) : ACall prog E 155 [.own i l.length] [(i, .grow 1 T (cI l))] fun r O => r = .tup [] ∧ O = [(i, .grow 1 T (cI (sortI l)))] :=
 ACall.turned (g := sortI) (B := 200001) func155 rfl (by decide) (fun l => (sortI_perm l).length_eq) (fun blk cap zs w hH hb hz => Tryz.slices_Sort_int blk 0 cap zs w hH hb (by omega))
  (fun cap w => Tryz.slices_Sort_int_none none cap w) rfl (by omega)
theorem AFun.ofSame {E : World} {P : Program} {f : FuncId} {fn : Func} {c : Code} {ars : List AV} {vs : List Value} {r : Value} {x : AV} (hf : P.funcs[f]? = some fn) (hb : fn.body = some c) (hn : fn.name ≠ "runtime.NumGoroutine") (has : ars = vs.map lit)
  (h : ∀ w, Calls P f vs.toArray w fun e w' => e = .returned r ∧ w' = w) (hr : ∀ I, RepV I x r) : AFun P E f ars x := fun I F w us h1 h2 => by
 subst has
 rw [lit_uns h1]
 refine Fn.ofCalls hf hb hn ?_
 exact (h w).mono fun e w' ⟨he, hw⟩ => ⟨_, he, I, x, [], .refl _, hr I, by rw [hw]; exact h2, rfl⟩
theorem mulw_spec (x y : Nat) (hx : x < 18446744073709551616) (hy : y < 18446744073709551616) : AFun prog E 153 [.int .u64 (x : Int), .int .u64 (y : Int)] (.tup [.int .u64 ((x * y / 18446744073709551616 : Nat) : Int), .int .u64 ((x * y % 18446744073709551616 : Nat) : Int)]) :=
 AFun.ofSame (vs := [.int .u64 x, .int .u64 y]) func153 rfl (by decide) rfl (fun w => Tryz.bits_Mul x y hx hy w) (fun I => ⟨_, rfl, _, _, rfl, rfl, _, _, rfl, rfl, rfl⟩)
def vsR (v : Int) (n k : Nat) : List Value := List.replicate k (.int .i64 v) ++ List.replicate (n - k) (.int .i64 0)
theorem vsR_len {v : Int} {n k : Nat} (h : k ≤ n) : (vsR v n k).length = n := by unfold vsR; simp; omega
theorem vsR_take {v : Int} {n k q : Nat} (h : q ≤ k) : (vsR v n k).take q = List.replicate q (.int .i64 v) := by unfold vsR; rw [List.take_append_of_le_length (by simp; exact h), List.take_replicate, Nat.min_eq_left h]
theorem vsR_copy {v : Int} {n k q : Nat} (h : k + q ≤ n) : (vsR v n k).take k ++ List.replicate q (.int .i64 v) ++ (vsR v n k).drop (k + q) = vsR v n (k + q) := by
 rw [vsR_take (Nat.le_refl _)]
 unfold vsR
 rw [List.drop_append, List.drop_eq_nil_of_le (by simp), List.length_replicate, List.drop_replicate, List.replicate_append_replicate, List.nil_append]
 congr 2
 omega
theorem vsR_one {v : Int} {n k : Nat} : ∀ u ∈ vsR v n k, u.oneCell' = true := fun u hu => by
 unfold vsR at hu
 rcases List.mem_append.1 hu with h | h
 ·rw [List.eq_of_mem_replicate h]; rfl
 ·rw [List.eq_of_mem_replicate h]; rfl
theorem vsR_full (v : Int) (n : Nat) : (vsR v n n).map lit = cI (List.replicate n v) := by unfold vsR cI; simp [lit]
theorem fro_one {I : G} {k : IntKind} {v : Int} {x : Value} (h : RepV I (.fro 1 [[.int k v]]) x) : ∃ b off c, x = .slice (some ⟨b, off, none⟩) 1 c ∧ KAt I.k b off (.int k v) := by
 obtain ⟨a, n, c, e, hn, _, _, ⟨b, off, vs, ea, hl, hr, hk⟩, _⟩ := h
 obtain ⟨u, us, rfl, hu, _⟩ := hr
 have hu : u = .int k v := hu
 subst ea hu
 simp only [List.length_cons, List.length_nil] at hn
 subst hn
 exact ⟨b, off, c, e, by have := hk 0 _ rfl; simpa using this⟩
theorem srcFro {env : AEnv} {O : OL} {y : Operand} {k : IntKind} {v : Int} (hy : aev env y = .fro 1 [[.int k v]]) : ∀ I F ρ w, RepE I env ρ → SLA I O F E w → ∃ a sc, ev ρ y = .slice (some a) 1 sc ∧ ∀ j u, ([Value.int k v] : List Value)[j]? = some u → w.cell? (a.add j) = some u := fun I F ρ w h1 h2 => by
 have h := h1.ev y
 rw [hy] at h
 obtain ⟨b, off, c, e, hk⟩ := fro_one h
 obtain ⟨_, L, _, hS⟩ := h2
 refine ⟨⟨b, off, none⟩, c, e, fun j u hj => ?_⟩
 cases j with
 | zero => simp at hj; subst hj; rw [addr_add]; exact hS.at_ (hk.at_ _)
 | succ j => simp at hj
theorem srcRow {env : AEnv} {O O' : OL} {y : Operand} {b n c : Nat} {T : TypeId} {vs cs : List Value} (hy : aev env y = rsl b 0 n c) (hO : Pick O 0 (rowO b T vs) O') (hc : ∀ (j : Nat) u, cs[j]? = some u → vs[j]? = some u) : ∀ I F ρ w, RepE I env ρ → SLA I O F E w → ∃ a sc, ev ρ y = .slice (some a) n sc ∧ ∀ j u, cs[j]? = some u → w.cell? (a.add j) = some u := fun I F ρ w h1 h2 => by
 have h := evRaw h1 hy
 obtain ⟨_, L, hL, hS⟩ := h2
 obtain ⟨A, B, hp, hA, hB⟩ := hO.rep hL
 have hA : A = [(b, .cells vs.toArray T (0, 0))] := hA
 subst hA
 have hS2 : SL I.k ((b, .cells vs.toArray T (0, 0)) :: (B ++ F)) E w := hS.perm ((hp.append_right F).symm)
 refine ⟨⟨b, 0, none⟩, c, h, fun j u hj => ?_⟩
 rw [addr_add, hS2.cell_own, List.getElem?_toArray, Nat.zero_add]
 exact hc j u hj
theorem repeat_own (v : Int) (n : Nat) (hn : n ≤ 100000) (h0 : 0 < n) : ACall prog E 90 [.fro 1 ([v].map encI), .int .i64 n] [] (fun x O' => ∃ i : Nat, x = .own i n ∧ O' = [(i, .grow 1 3 (cI (List.replicate n v)))]) := by
 have hw : IntKind.wrap .u64 (n : Int) = n := by unfold IntKind.wrap; simp [IntKind.bits, IntKind.signed]; omega
 have hm : (1 * n / 18446744073709551616 : Nat) = 0 := by omega
 have hm2 : (1 * n % 18446744073709551616 : Nat) = n := by omega
 refine zo func90 rfl (by decide) rfl ?_
 have hmul : AFun prog E 153 [.int .u64 1, .int .u64 (IntKind.wrap .u64 (n : Int))] (.tup [.int .u64 0, .int .u64 (n : Int)]) := by
  have := mulw_spec (E := E) 1 n (by omega) (by omega)
  rw [hm, hm2] at this
  rw [hw]; exact this
 refine zSr<|z2 (zAr rfl)<|z6<|zd<|zSr<|z2 (zMi rfl)<|z2 (yb rfl rfl)<|z6<|ym rfl (by simp)<|zh<|zSr<|z2 (zMf rfl)<|z2 (y2 underlying23 rfl)<|z2 (qo underlying3 underlying223 rfl)<|z2 (zMi rfl)<|z2 (qo underlying3 underlying223 rfl)<|zf (hmul) rfl<|z2 (zMu rfl)<|z2 (zXi rfl rfl)<|z2 (zXi rfl rfl)<|z2 (zAi rfl)<|z2 (zAi rfl)<|z6<|zd<|zSr<|z2 (zMi rfl)<|z2 (q4 rfl rfl)<|z2 (zMb rfl)<|z8 rfl rfl (by decide)<|z2 (zMi rfl)<|z8 rfl rfl (by decide)<|z2 (q4 rfl rfl)<|z2 (zPf rfl (by decide) rfl)<|z6<|ym rfl (by simp; omega)<|zh<|zSr<|z2 (zMi rfl)<|z2 (qo underlying223 underlying3 rfl)<|AOps.makeRow (m := n) underlying23 type3 rfl rfl rfl rfl rfl (by show IntKind.wrap .i64 (n : Int) = n; unfold IntKind.wrap; simp [IntKind.bits, IntKind.signed]; omega) (by show IntKind.wrap .i64 (n : Int) = n; unfold IntKind.wrap; simp [IntKind.bits, IntKind.signed]; omega) (by show (8 : Int) * _ ≤ _; omega) (by omega)<|fun b => z2 (zAr rfl) ?_
 refine z6<|zSr<|z2 (yq (v := .raw _) rfl)<|z2 (zMf rfl)<|AOps.copyRow (cs := [.int .i64 v]) (q := 1) underlying23 rfl rfl rfl (Nat.min_eq_left h0).symm .head (by rw [List.length_replicate]; omega) (by simp [Value.oneCell']) (srcFro rfl) ?_
 have hstart : (List.replicate n (Value.int .i64 0)).take 0 ++ [Value.int .i64 v] ++ (List.replicate n (Value.int .i64 0)).drop (0 + 1) = vsR v n 1 := by unfold vsR; simp [List.drop_replicate]
 rw [hstart]
 refine z2 (zAi rfl)<|z6<|zd<|zi<|y5 (γ := Nat) [7] (fun k => [(8, .int .i64 k)]) (fun k => [(0, rowO b 3 (vsR v n k))]) (fun k => 1 ≤ k ∧ k ≤ n) (fun k => n - k) 1 zR1 zLe (⟨Nat.le_refl _, h0⟩) ?_
 rintro k ⟨hk1, hk⟩
 refine zd<|zSr<|z2 (zMi rfl)<|z2 (yq (v := .raw _) rfl)<|z2 (Gv.lenRow underlying23 rfl)<|z2 (yb rfl rfl)<|z6<|zr rfl (fun ck=>?_) (fun ck=>?_)
 ·have hk2 : k < n := by simp at ck; omega
  obtain ⟨q, hq⟩ : ∃ q, q = min k (n - k) := ⟨_, rfl⟩
  have hq1 : 0 < q ∧ q ≤ k ∧ k + q ≤ n := by omega
  refine zh<|zi<|zu (fun j => false) (by kernel_rfl) rfl (zm (.rest _))<|zTk 0 rfl (zMi rfl)<|zTk 1 rfl (yq (v := .raw _) rfl)<|zTk 2 rfl (zMi rfl)<|zTk 3 rfl (Gv.rowLo (j := k) underlying23 sizeOf3 rfl rfl rfl (by omega) (by omega) (by omega))<|zTk 4 rfl (yq (v := .raw _) rfl)<|zTk 5 rfl (zMi rfl)<|zTk 6 rfl (Gv.rowHi (j := k) underlying23 sizeOf3 rfl rfl rfl (by omega))<|zOn 7 rfl<|AOps.copyRow (cs := List.replicate q (.int .i64 v)) (q := q) underlying23 rfl rfl (List.length_replicate ..) hq .head (by rw [vsR_len hk]; omega) (fun u hu => by rw [List.eq_of_mem_replicate hu]; rfl) (srcRow (vs := vsR v n k) rfl .head (fun j u hj => by rw [← vsR_take (v := v) (n := n) hq1.2.1, List.getElem?_take] at hj; split at hj; exact hj; cases hj)) ?_
  rw [vsR_copy hq1.2.2]
  refine z6<|zTk 8 rfl (zAd rfl rfl)<|zTk 9 rfl (zAi rfl)<|zDn ?_
  exact ⟨k + q, zR1, zR1, zLe, ⟨by omega, hq1.2.2⟩, by omega⟩
 ·have hkn : k = n := by simp at ck; omega
  subst hkn
  refine y4<|zSr<|z2 (yq (v := .raw _) rfl)<|z2 (zAr rfl)<|z6<|AWP.rowOwn (t := 4) rfl .head (vsR_len (Nat.le_refl _)) vsR_one (fun i=>?_)
  rw [vsR_full]
  refine zg<|zk (x := .own _ _) rfl ?_
  exact ⟨i, rfl, rfl⟩
end Go.Proofs.YtiojekbkamegdaaGreatDoor
namespace Go.Proofs.YtiojekbkamegdaaGreatDoor
open Go.Proofs.Tryz
open Go.Proofs
theorem pl54 : PlacesA prog 54 1 [.int .i64 0, .int .i64 0] := ⟨_, _, _, underlying54, zeroValue54, sizeOf3, rfl⟩
set_option maxRecDepth 20000
variable {E : World}
def inst1 (f : PFunc) (x : PInst) : Bool := decide ((kRow x.op).1 = ⟨#[]⟩) || !decide (x.args.length = (takesL x.op).length) || !x.args.all (hasV f)
def inst2 (f : PFunc) (x : PInst) : Bool := (makesB x.op && !hasV f x.dst) || (!makesB x.op && !decide (x.dst = -1))
def instOK (f : PFunc) (x : PInst) : Bool := !inst1 f x && !inst2 f x && (decide (x.num = 0) || isNum x.op)
def termOK (f : PFunc) (t : PTerm) : Bool := if t.kind = 0 then hasB f t.to0 && decide (t.to1 = 0) && decide (t.var = 0) else if t.kind = 1 then hasV f t.var && hasB f t.to0 && hasB f t.to1 else
 if t.kind = 2 then hasV f t.var && decide (t.to0 = 0 ∧ t.to1 = 0) else false
theorem eq_arr10 (a b c d : Int) (w : World) : (Op.equalIn 10000 54 (.agg [.int .i64 a, .int .i64 b].toArray) (.agg [.int .i64 c, .int .i64 d].toArray)).run prog w = .ok (decide (a = c ∧ b = d)) w := eq_arr a b c d w 9998
theorem inst_spec (f : PFunc) (x : PInst) (hx : okL x.args) : AFun prog E 219 [.agg (encF f), .agg (encInst x)] (.bool (instOK f x)) := by
 have hl := hx.lt
 refine zo func219 rfl (by decide) rfl<|zSr<|y9 (cs := _) rfl rfl rfl<|y9 (cs := _) rfl rfl rfl<|z2 (zAb rfl)<|z6<|zSr<|z2 (zFF underlying61 rfl sizeOf59 rfl rfl)<|z2 (zLi isAgg59 rfl)<|zf (makes_spec _) rfl<|z2 (zMu rfl)<|z2 (zXi rfl rfl)<|z2 (zXb rfl rfl)<|z2 (zAi rfl)<|z2 (zAb rfl)<|z6<|zd<|zi<|zd<|zu (fun j => false) (by kernel_rfl) rfl (zm (.rest _))<|zTk 0 rfl (zFF underlying61 rfl sizeOf59 rfl rfl)<|zTk 1 rfl (zLi isAgg59 rfl)<|zOn 2 rfl<|zf (word_spec _) rfl<|z6<|zTk 3 rfl (yy rfl rfl)<|zTk 4 rfl (zMb rfl)<|qh (s := 18) rfl (fun c1=>?_) (fun c1=>?_)
 ·refine zTf 5 rfl rfl rfl c1<|zTf 6 rfl rfl rfl c1<|zTf 7 rfl rfl rfl c1<|zTf 8 rfl rfl rfl c1<|zTf 9 rfl rfl rfl c1<|zTf 10 rfl rfl rfl c1<|zTf 11 rfl rfl rfl c1<|zTf 12 rfl rfl rfl c1<|zTk 13 rfl (zPt rfl c1 rfl)<|zTk 14 rfl (zMb rfl)<|zTf 15 rfl rfl rfl rfl<|zTf 16 rfl rfl rfl rfl<|zTf 17 rfl rfl rfl rfl<|zTf 18 rfl rfl rfl rfl<|zTf 19 rfl rfl rfl rfl<|zTk 20 rfl (zPt rfl rfl rfl)<|zTk 21 rfl (zAb rfl)<|zDn<|yo rfl rfl<|zSr<|z2 (zAb rfl)<|z6<|zg<|zk (x := .bool _) rfl ?_
  exact jb (by simp_all [instOK, inst1, inst2, Int.ofNat_inj] <;> grind)
 ·refine zTt 5 rfl rfl rfl c1 (zFF underlying61 rfl sizeOf23 rfl rfl)<|zTt 6 rfl rfl rfl c1 (zLf isAgg23 rfl)<|zTt 7 rfl rfl rfl c1 (y2 underlying23 rfl)<|zTt 8 rfl rfl rfl c1 (zFF underlying61 rfl sizeOf59 rfl rfl)<|zTt 9 rfl rfl rfl c1 (zLi isAgg59 rfl)<|zOn 10 rfl<|z8 rfl rfl c1<|zf (takes_spec _) rfl<|z6<|zTt 11 rfl rfl rfl c1 (y2 underlying286 rfl)<|zTt 12 rfl rfl rfl c1 (yj rfl rfl)<|zTk 13 rfl (zPf rfl c1 rfl)<|zTk 14 rfl (zMb rfl)<|qh (s := 28) rfl (fun c2=>?_) (fun c2=>?_)
  ·refine zTf 15 rfl rfl rfl c2<|zTf 16 rfl rfl rfl c2<|zTf 17 rfl rfl rfl c2<|zTf 18 rfl rfl rfl c2<|zTf 19 rfl rfl rfl c2<|zTk 20 rfl (zPt rfl c2 rfl)<|zTk 21 rfl (zAb rfl)<|zDn<|yo rfl rfl<|zSr<|z2 (zAb rfl)<|z6<|zg<|zk (x := .bool _) rfl ?_
   exact jb (by simp_all [instOK, inst1, inst2, Int.ofNat_inj] <;> grind)
  ·refine zTt 15 rfl rfl rfl c2 (zp isAgg26 sizeOf26 rfl rfl)<|zTt 16 rfl rfl rfl c2 (zFF underlying61 rfl sizeOf23 rfl rfl)<|zTt 17 rfl rfl rfl c2 (zLf isAgg23 rfl)<|zOn 18 rfl<|z8 rfl rfl c2<|zf (vars_spec _ _ (by omega)) rfl<|z6<|zTt 19 rfl rfl rfl c2 (yl rfl)<|zTk 20 rfl (zPf rfl c2 rfl)<|zTk 21 rfl (zAb rfl)<|zDn<|zz rfl (fun c3=>?_) (fun c3=>?_)
   ·refine zSr<|z2 (zAb rfl)<|z6<|zg<|zk (x := .bool _) rfl ?_
    exact jb (by simp_all [instOK, inst1, inst2, Int.ofNat_inj] <;> grind)
   ·refine zSr<|z2 (zMb rfl)<|z2 (zMb rfl)<|zt (s := 37) rfl (fun c4=>?_) (fun c4=>?_)
    ·refine z8 rfl rfl c4<|z2 (zp isAgg26 sizeOf26 rfl rfl)<|z8 rfl rfl c4<|z2 (zFF underlying61 rfl sizeOf3 rfl rfl)<|z8 rfl rfl c4<|z2 (zLi isAgg3 rfl)<|z8 rfl rfl c4<|zf (has_spec _ _) rfl<|z8 rfl rfl c4<|z2 (yl rfl)<|z2 (zPt rfl c4 rfl)<|z2 (zMb rfl)<|zt (s := 44) rfl (fun c5=>?_) (fun c5=>?_)
     ·refine z7 rfl rfl c5<|z7 rfl rfl c5<|z7 rfl rfl c5<|zj rfl rfl<|zj rfl rfl<|zj rfl rfl<|z7 rfl rfl c5<|z2 (zPt rfl c5 rfl)<|z2 (zAb rfl)<|z6<|yo rfl rfl<|zSr<|z2 (zAb rfl)<|z6<|zg<|zk (x := .bool _) rfl ?_
      exact jb (by simp_all [instOK, inst1, inst2, Int.ofNat_inj] <;> grind)
     ·refine z8 rfl rfl c5<|z2 (zMb rfl)<|z8 rfl rfl c5<|z2 (yl rfl)<|z8 rfl rfl c5<|z2 (zMb rfl)<|zt (s := 47) rfl (fun c6=>?_) (fun c6=>?_)
      ·refine z8 rfl rfl c6<|z2 (zFF underlying61 rfl sizeOf3 rfl rfl)<|z8 rfl rfl c6<|z2 (zLi isAgg3 rfl)<|z8 rfl rfl c6<|z2 (yj rfl rfl)<|z8 rfl rfl c5<|z2 (zPt rfl c6 rfl)<|z2 (zPf rfl c5 rfl)<|z2 (zAb rfl)<|z6<|zz rfl (fun c7=>?_) (fun c7=>?_)
       ·refine zSr<|z2 (zAb rfl)<|z6<|zg<|zk (x := .bool _) rfl ?_
        exact jb (by simp_all [instOK, inst1, inst2, Int.ofNat_inj] <;> grind)
       ·refine zh<|zSr<|z2 (zFF underlying61 rfl sizeOf2 rfl rfl)<|z2 (zLi isAgg2 rfl)<|z2 (y7 rfl rfl)<|z2 (zMb rfl)<|zt (s := 56) rfl (fun c8=>?_) (fun c8=>?_)
        ·refine z7 rfl rfl c8<|z7 rfl rfl c8<|z7 rfl rfl c8<|z2 (zPt rfl c8 rfl)<|z2 (zAb rfl)<|z6<|zg<|zk (x := .bool _) rfl ?_
         exact jb (by simp_all [instOK, inst1, inst2, Int.ofNat_inj] <;> grind)
        ·refine z8 rfl rfl c8<|z2 (zFF underlying61 rfl sizeOf59 rfl rfl)<|z8 rfl rfl c8<|z2 (zLi isAgg59 rfl)<|z8 rfl rfl c8<|zf (numbered_spec _) rfl<|z2 (zPf rfl c8 rfl)<|z2 (zAb rfl)<|z6<|zg<|zk (x := .bool _) rfl ?_
         exact jb (by simp_all [instOK, inst1, inst2, Int.ofNat_inj] <;> grind)
      ·refine z7 rfl rfl c6<|z7 rfl rfl c6<|z7 rfl rfl c6<|z8 rfl rfl c5<|z2 (zPf rfl c6 rfl)<|z2 (zPf rfl c5 rfl)<|z2 (zAb rfl)<|z6<|ym rfl rfl<|zh<|zSr<|z2 (zFF underlying61 rfl sizeOf2 rfl rfl)<|z2 (zLi isAgg2 rfl)<|z2 (y7 rfl rfl)<|z2 (zMb rfl)<|zt (s := 56) rfl (fun c9=>?_) (fun c9=>?_)
       ·refine z7 rfl rfl c9<|z7 rfl rfl c9<|z7 rfl rfl c9<|z2 (zPt rfl c9 rfl)<|z2 (zAb rfl)<|z6<|zg<|zk (x := .bool _) rfl ?_
        exact jb (by simp_all [instOK, inst1, inst2, Int.ofNat_inj] <;> grind)
       ·refine z8 rfl rfl c9<|z2 (zFF underlying61 rfl sizeOf59 rfl rfl)<|z8 rfl rfl c9<|z2 (zLi isAgg59 rfl)<|z8 rfl rfl c9<|zf (numbered_spec _) rfl<|z2 (zPf rfl c9 rfl)<|z2 (zAb rfl)<|z6<|zg<|zk (x := .bool _) rfl ?_
        exact jb (by simp_all [instOK, inst1, inst2, Int.ofNat_inj] <;> grind)
    ·refine z7 rfl rfl c4<|z7 rfl rfl c4<|z7 rfl rfl c4<|z7 rfl rfl c4<|z7 rfl rfl c4<|z2 (zPf rfl c4 rfl)<|z2 (zMb rfl)<|z8 rfl rfl rfl<|z2 (zMb rfl)<|z8 rfl rfl rfl<|z2 (yl rfl)<|z8 rfl rfl rfl<|z2 (zMb rfl)<|zt (s := 47) rfl (fun c10=>?_) (fun c10=>?_)
     ·refine z8 rfl rfl c10<|z2 (zFF underlying61 rfl sizeOf3 rfl rfl)<|z8 rfl rfl c10<|z2 (zLi isAgg3 rfl)<|z8 rfl rfl c10<|z2 (yj rfl rfl)<|z8 rfl rfl rfl<|z2 (zPt rfl c10 rfl)<|z2 (zPf rfl rfl rfl)<|z2 (zAb rfl)<|z6<|zz rfl (fun c11=>?_) (fun c11=>?_)
      ·refine zSr<|z2 (zAb rfl)<|z6<|zg<|zk (x := .bool _) rfl ?_
       exact jb (by simp_all [instOK, inst1, inst2, Int.ofNat_inj] <;> grind)
      ·refine zh<|zSr<|z2 (zFF underlying61 rfl sizeOf2 rfl rfl)<|z2 (zLi isAgg2 rfl)<|z2 (y7 rfl rfl)<|z2 (zMb rfl)<|zt (s := 56) rfl (fun c12=>?_) (fun c12=>?_)
       ·refine z7 rfl rfl c12<|z7 rfl rfl c12<|z7 rfl rfl c12<|z2 (zPt rfl c12 rfl)<|z2 (zAb rfl)<|z6<|zg<|zk (x := .bool _) rfl ?_
        exact jb (by simp_all [instOK, inst1, inst2, Int.ofNat_inj] <;> grind)
       ·refine z8 rfl rfl c12<|z2 (zFF underlying61 rfl sizeOf59 rfl rfl)<|z8 rfl rfl c12<|z2 (zLi isAgg59 rfl)<|z8 rfl rfl c12<|zf (numbered_spec _) rfl<|z2 (zPf rfl c12 rfl)<|z2 (zAb rfl)<|z6<|zg<|zk (x := .bool _) rfl ?_
        exact jb (by simp_all [instOK, inst1, inst2, Int.ofNat_inj] <;> grind)
     ·refine z7 rfl rfl c10<|z7 rfl rfl c10<|z7 rfl rfl c10<|z8 rfl rfl rfl<|z2 (zPf rfl c10 rfl)<|z2 (zPf rfl rfl rfl)<|z2 (zAb rfl)<|z6<|ym rfl rfl<|zh<|zSr<|z2 (zFF underlying61 rfl sizeOf2 rfl rfl)<|z2 (zLi isAgg2 rfl)<|z2 (y7 rfl rfl)<|z2 (zMb rfl)<|zt (s := 56) rfl (fun c13=>?_) (fun c13=>?_)
      ·refine z7 rfl rfl c13<|z7 rfl rfl c13<|z7 rfl rfl c13<|z2 (zPt rfl c13 rfl)<|z2 (zAb rfl)<|z6<|zg<|zk (x := .bool _) rfl ?_
       exact jb (by simp_all [instOK, inst1, inst2, Int.ofNat_inj] <;> grind)
      ·refine z8 rfl rfl c13<|z2 (zFF underlying61 rfl sizeOf59 rfl rfl)<|z8 rfl rfl c13<|z2 (zLi isAgg59 rfl)<|z8 rfl rfl c13<|zf (numbered_spec _) rfl<|z2 (zPf rfl c13 rfl)<|z2 (zAb rfl)<|z6<|zg<|zk (x := .bool _) rfl ?_
       exact jb (by simp_all [instOK, inst1, inst2, Int.ofNat_inj] <;> grind)
theorem term_spec (f : PFunc) (t : PTerm) : AFun prog E 220 [.agg (encF f), .agg (encTerm t)] (.bool (termOK f t)) := by
 refine zo func220 rfl (by decide) rfl<|zSr<|y9 (cs := _) rfl rfl rfl<|y9 (cs := _) rfl rfl rfl<|z2 (zAb rfl)<|z6<|zd<|zSr<|z2 (zFF underlying56 rfl sizeOf53 rfl rfl)<|z2 (zLi isAgg53 rfl)<|z6<|zi<|zSr<|z2 (y7 rfl rfl)<|z2 (zAb rfl)<|z6<|zz rfl (fun c14=>?_) (fun c14=>?_)
 ·refine zSr<|z2 (zp isAgg26 sizeOf26 rfl rfl)<|z2 (zFF underlying56 rfl sizeOf54 rfl rfl)<|z2 (q3 (j := 0) underlying54 sizeOf3 rfl rfl rfl (by decide) rfl)<|z2 (zLi isAgg3 rfl)<|zf (at_spec _ _) rfl<|z2 (zMb rfl)<|zt (s := 14) rfl (fun c15=>?_) (fun c15=>?_)
  ·refine z8 rfl rfl c15<|z2 (zFF underlying56 rfl sizeOf54 rfl rfl)<|z8 rfl rfl c15<|z2 (q3 (j := 1) underlying54 sizeOf3 rfl rfl rfl (by decide) rfl)<|z8 rfl rfl c15<|z2 (zLi isAgg3 rfl)<|z8 rfl rfl c15<|z2 (y7 rfl rfl)<|z2 (zPt rfl c15 rfl)<|z2 (zMb rfl)<|zt (s := 20) rfl (fun c16=>?_) (fun c16=>?_)
   ·refine z8 rfl rfl c16<|z2 (zFF underlying56 rfl sizeOf3 rfl rfl)<|z8 rfl rfl c16<|z2 (zLi isAgg3 rfl)<|z8 rfl rfl c16<|z2 (y7 rfl rfl)<|z2 (zPt rfl c16 rfl)<|z2 (zAb rfl)<|z6<|zg<|zk (x := .bool _) rfl ?_
    exact jb (by simp_all [termOK] <;> grind)
   ·refine z7 rfl rfl c16<|z7 rfl rfl c16<|z7 rfl rfl c16<|z2 (zPf rfl c16 rfl)<|z2 (zAb rfl)<|z6<|zg<|zk (x := .bool _) rfl ?_
    exact jb (by simp_all [termOK] <;> grind)
  ·refine z7 rfl rfl c15<|z7 rfl rfl c15<|z7 rfl rfl c15<|z7 rfl rfl c15<|z2 (zPf rfl c15 rfl)<|z2 (zMb rfl)<|z7 rfl rfl rfl<|z7 rfl rfl rfl<|z7 rfl rfl rfl<|z2 (zPf rfl rfl rfl)<|z2 (zAb rfl)<|z6<|zg<|zk (x := .bool _) rfl ?_
   exact jb (by simp_all [termOK] <;> grind)
 ·refine zSr<|z2 (y7 rfl rfl)<|z2 (zAb rfl)<|z6<|zz rfl (fun c17=>?_) (fun c17=>?_)
  ·refine zSr<|z2 (zp isAgg26 sizeOf26 rfl rfl)<|z2 (zFF underlying56 rfl sizeOf3 rfl rfl)<|z2 (zLi isAgg3 rfl)<|zf (has_spec _ _) rfl<|z2 (zMb rfl)<|zt (s := 31) rfl (fun c18=>?_) (fun c18=>?_)
   ·refine z8 rfl rfl c18<|z2 (zp isAgg26 sizeOf26 rfl rfl)<|z8 rfl rfl c18<|z2 (zFF underlying56 rfl sizeOf54 rfl rfl)<|z8 rfl rfl c18<|z2 (q3 (j := 0) underlying54 sizeOf3 rfl rfl rfl (by decide) rfl)<|z8 rfl rfl c18<|z2 (zLi isAgg3 rfl)<|z8 rfl rfl c18<|zf (at_spec _ _) rfl<|z2 (zPt rfl c18 rfl)<|z2 (zMb rfl)<|zt (s := 38) rfl (fun c19=>?_) (fun c19=>?_)
    ·refine z8 rfl rfl c19<|z2 (zp isAgg26 sizeOf26 rfl rfl)<|z8 rfl rfl c19<|z2 (zFF underlying56 rfl sizeOf54 rfl rfl)<|z8 rfl rfl c19<|z2 (q3 (j := 1) underlying54 sizeOf3 rfl rfl rfl (by decide) rfl)<|z8 rfl rfl c19<|z2 (zLi isAgg3 rfl)<|z8 rfl rfl c19<|zf (at_spec _ _) rfl<|z2 (zPt rfl c19 rfl)<|z2 (zAb rfl)<|z6<|zg<|zk (x := .bool _) rfl ?_
     exact jb (by simp_all [termOK] <;> grind)
    ·refine z7 rfl rfl c19<|z7 rfl rfl c19<|z7 rfl rfl c19<|z7 rfl rfl c19<|z7 rfl rfl c19<|z2 (zPf rfl c19 rfl)<|z2 (zAb rfl)<|z6<|zg<|zk (x := .bool _) rfl ?_
     exact jb (by simp_all [termOK] <;> grind)
   ·refine z7 rfl rfl c18<|z7 rfl rfl c18<|z7 rfl rfl c18<|z7 rfl rfl c18<|z7 rfl rfl c18<|z2 (zPf rfl c18 rfl)<|z2 (zMb rfl)<|z7 rfl rfl rfl<|z7 rfl rfl rfl<|z7 rfl rfl rfl<|z7 rfl rfl rfl<|z7 rfl rfl rfl<|z2 (zPf rfl rfl rfl)<|z2 (zAb rfl)<|z6<|zg<|zk (x := .bool _) rfl ?_
    exact jb (by simp_all [termOK] <;> grind)
  ·refine zSr<|z2 (y7 rfl rfl)<|z2 (zAb rfl)<|z6<|zz rfl (fun c20=>?_) (fun c20=>?_)
   ·refine zSr<|z2 (zp isAgg26 sizeOf26 rfl rfl)<|z2 (zFF underlying56 rfl sizeOf3 rfl rfl)<|z2 (zLi isAgg3 rfl)<|zf (has_spec _ _) rfl<|z2 (zMb rfl)<|zt (s := 51) rfl (fun c21=>?_) (fun c21=>?_)
    ·refine z8 rfl rfl c21<|z2 (zFF underlying56 rfl sizeOf54 rfl rfl)<|z8 rfl rfl c21<|z2 (zp isAgg54 sizeOf54 rfl rfl)<|z8 rfl rfl c21<|z2 (Gv.buildA (cps := []) (rs := [.int .i64 0, .int .i64 0]) pl54 rfl rfl rfl)<|z8 rfl rfl c21<|z2 (Gv.eqlP (xs := [.int _ _, .int _ _]) (ys := [.int _ _, .int _ _]) (by kernel_rfl) rfl rfl (fun w => eq_arr10 _ _ _ _ w))<|z2 (zPt rfl c21 rfl)<|z2 (zAb rfl)<|z6<|zg<|zk (x := .bool _) rfl ?_
     exact jb (by simp_all [termOK] <;> grind)
    ·refine z7 rfl rfl c21<|z7 rfl rfl c21<|z7 rfl rfl c21<|z7 rfl rfl c21<|z2 (zPf rfl c21 rfl)<|z2 (zAb rfl)<|z6<|zg<|zk (x := .bool _) rfl ?_
     exact jb (by simp_all [termOK] <;> grind)
   ·refine zh<|zSr<|z2 (zAb rfl)<|z6<|zg<|zk (x := .bool _) rfl ?_
    exact jb (by simp_all [termOK] <;> grind)
def encS (s : ByteArray) : List AV := [.str s]
end Go.Proofs.YtiojekbkamegdaaGreatDoor
