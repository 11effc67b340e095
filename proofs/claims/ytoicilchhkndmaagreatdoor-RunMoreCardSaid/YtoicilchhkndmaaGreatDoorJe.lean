/- The document's typed; the laws' typed, single and plain. Of programs that are little. -/
import Derived.Test.YtoicilchhkndmaaGreatDoorJc
import Derived.Test.YtoicilchhkndmaaGreatDoorJd
import Derived.Laws.CopyRow
import Derived.LaidEqlPtr
set_option linter.unusedVariables false
set_option linter.unusedSimpArgs false
set_option linter.unusedSectionVars false
namespace Go.Proofs.YtoicilchhkndmaaGreatDoor
open Go.Proofs.Tryz
open Go.Proofs
variable {E : World}
set_option maxRecDepth 20000
theorem indexFuncJ_spec {p : Int → Bool} {fn : FuncId} {c : List AV} (xs : List Int) (hl : xs.length ≤ 281474976710656) (hp : ∀ x ∈ xs, AFun prog E fn ([.int .i64 x] ++ c) (.bool (p x))) :
  AFun prog E 109 [.fro 1 (xs.map encI), .fn fn [] c] (.int .i64 (firstI p xs 0)) := by
 refine zn func109 Z (by decide) Z<|zSr<|zVzAi Z<|z6<|zc<|zSr<|zVzMf Z<|zVGvlenM ja Z<|zVzMi Z<|z6<|zi<|yg (γ := Nat) [0, 1, 7] (fun k => [(8, .int .i64 k)]) (fun k => []) (fun k => k ≤ xs.length ∧ (xs.take k).all (fun x => !p x)) (fun k => xs.length - k) 0 zR1 zLe (⟨q5 _, Z⟩) ?_
 rintro k ⟨hk, hall⟩
 refine zSr<|zVGvlss Z Z<|z6<|zc<|y9 Z (fun ck=>?_) (fun ck=>?_)
 ·have hk2 : k < xs.length := by omega
  refine zj<|zc<|zi<|zSr<|zVzMi Z<|zVzAi Z<|z6<|zSr<|z7 (yy (v := .fn _ _ _) Z)<|zVzMf Z<|zVzMi Z<|z7 (Gv.idxM ja j6 Z Z Z (q3 (by omega)))<|zVzLi je Z<|AOps.callVP Z (hp _ (q6 hk2)) Z<|z6<|yb Z (fun cp=>?_) (fun cp=>?_)
  ·refine zSr<|zVzMi Z<|zVzAi Z<|z6<|ze<|zk (x := .int _ _) Z ?_
   rw [firstI_drop p xs k hk hall, List.drop_eq_getElem_cons hk2, firstI, if_pos cp]
  ·refine zj<|zRg<|zVzAd Z Z<|zVzMi Z<|z6 ?_
   exact ⟨k + 1, zR3, zR1, zLe, ⟨hk2, by rw [q4 hk2, List.all_append, hall]; simp [cp]⟩, by omega⟩
 ·have hkn : k = xs.length := by omega
  refine yf<|zSr<|zVzAi Z<|z6<|ze<|zk (x := .int _ _) Z ?_
  rw [firstI_drop p xs k hk hall, hkn, List.drop_length, firstI]
theorem containsFuncJ_spec {p : Int → Bool} {fn : FuncId} {c : List AV} (xs : List Int) (hl : xs.length ≤ 281474976710656) (hp : ∀ x ∈ xs, AFun prog E fn ([.int .i64 x] ++ c) (.bool (p x))) :
  AFun prog E 70 [.fro 1 (xs.map encI), .fn fn [] c] (.bool (xs.any p)) := by
 refine zn func70 Z (by decide) Z<|zSr<|zVzAb Z<|z6<|zSr<|zVzMf Z<|z7 (yy (v := .fn _ _ _) Z)<|zd (indexFuncJ_spec xs hl hp) Z<|z7 (Gv.geq Z Z)<|zVzAb Z<|z6<|ze<|zk (x := .bool _) Z ?_
 rw [firstI_ge]
def kindV (f : PFunc) (v : Int) : Int := ((f.vars[v.toNat]?).map (·.ty)).getD 0
theorem hasV_get {f : PFunc} {v : Int} (h : hasV f v = true) : ∃ x, f.vars[v.toNat]? = some x ∧ v = (v.toNat : Int) ∧ kindV f v = x.ty := by
 unfold hasV at h
 simp only [q9, decide_eq_true_eq] at h
 have hl : v.toNat < f.vars.length := by omega
 refine ⟨f.vars[v.toNat], q3 hl, by omega, ?_⟩
 unfold kindV; rw [q3 hl]; rfl
theorem kind_spec (f : PFunc) (v : Int) (hv : hasV f v = true) : AFun prog E 72 [.agg (encF f), .int .i64 v] (.int .i64 (kindV f v)) := by
 obtain ⟨x, hx, hv2, hk⟩ := hasV_get hv
 rw [hk]
 refine zn func72 Z (by decide) Z<|zSr<|zz (cs := _) Z Z Z<|zVzAi Z<|z6<|zSr<|zVzFF jd Z Y5 Z Z<|zVzLf isAgg22 Z<|zVzMi Z<|z7 (zIM v.toNat jz Zs Z Z hv2 hx)<|zVzFF Zh Z sizeOf52 Z Z<|zVzLi isAgg52 Z<|zVzAi Z<|z6<|ze<|zk (x := .int _ _) Z ?_
 rfl
theorem any_spec (op : Int) : AFun prog E 73 [.int .i64 op] (.bool (decide (op = 1))) := by
 refine zn func73 Z (by decide) Z<|zSr<|zVzAb Z<|z6<|zSr<|zVzMi Z<|zVGveqlI Z Z<|zVzAb Z<|z6<|ze<|zk (x := .bool _) Z ?_
 simp_all
theorem headD_at : ∀ {l : List Int} (h : 0 < l.length), l.headD 0 = l[0]
 | [], h => absurd h (Nat.lt_irrefl 0)
 | _ :: _, _ => rfl
def instT (f : PFunc) (x : PInst) : Bool := if x.op = 1 then decide (kindV f x.dst = kindV f (x.args.headD 0)) else decide (x.args.map (kindV f) = takesL x.op) && (!makesB x.op || decide (kindV f x.dst = makesT x.op))
theorem map_take_succ {f : PFunc} {xs ts : List Int} {k : Nat} (h1 : k < xs.length) (h2 : k < ts.length) (h : (xs.take k).map (kindV f) = ts.take k) (hk : kindV f xs[k] = ts[k]) : (xs.take (k + 1)).map (kindV f) = ts.take (k + 1) := by
 rw [q4 h1, q4 h2, List.map_append, h, List.map_cons, List.map_nil, hk]
theorem map_ne {f : PFunc} {xs ts : List Int} {k : Nat} (h1 : k < xs.length) (h2 : k < ts.length) (hk : ¬ kindV f xs[k] = ts[k]) : ¬ xs.map (kindV f) = ts := by
 intro e
 apply hk
 subst e
 rw [List.getElem_map]
theorem yinst_spec (f : PFunc) (x : PInst) (ha : x.args.all (hasV f) = true) (hl : x.args.length = (takesL x.op).length) (hd : makesB x.op = true → hasV f x.dst = true) :
  AFun prog E 36 [.agg (encF f), .agg (encInst x)] (.bool (instT f x)) := by
 have hlen : (takesL x.op).length ≤ 3 := by
  rcases kRow_mem x.op with h | h
  ·unfold takesL; rw [h]; decide
  ·have : ∀ r ∈ kindT, r.2.1.data.toList.length ≤ 3 := by decide
   have := this _ h
   unfold takesL; simpa using this
 refine zn func36 Z (by decide) Z<|zSr<|zz (cs := _) Z Z Z<|zz (cs := _) Z Z Z<|zVzAb Z<|z6<|zc<|zSr<|zVzFF j2 Z jg Z Z<|zVzLi jl Z<|zd (any_spec _) Z<|z6<|y9 Z (fun c1=>?_) (fun c1=>?_)
 ·have e1 : x.op = 1 := by simpa using c1
  have hlz : 0 < x.args.length := by rw [hl, e1]; decide
  have hv0 : hasV f x.args[0] = true := List.all_eq_true.1 ha _ (q6 hlz)
  have hvd : hasV f x.dst = true := hd (by rw [e1]; decide)
  refine zc<|zw (fun j => false) (by kernel_rfl) Z (zr (.rest _))<|zTk 0 Z (yk jp jf Z Z)<|zTk 1 Z (zFF j2 Z j6 Z Z)<|zTk 2 Z (zLi je Z)<|zTk 4 Z (yk jp jf Z Z)<|zTk 5 Z (zFF j2 Z ju Z Z)<|zTk 6 Z (zLf Z1 Z)<|zTk 7 Z (zIM 0 ja j6 Z Z Z (q3 hlz))<|zTk 8 Z (zLi je Z)<|zOn 3 Z<|zd (kind_spec _ _ (by assumption)) Z<|z6<|zOn 9 Z<|zd (kind_spec _ _ (by assumption)) Z<|z6<|zTk 10 Z (Gv.eqlI Z Z)<|zTk 11 Z (zAb Z)<|zDn<|ze<|zk (x := .bool _) Z ?_
  exact jb (by unfold instT; rw [if_pos e1, headD_at hlz])
 ·have e1 : ¬ x.op = 1 := by simpa using c1
  refine zj<|zc<|zSr<|zVzFF j2 Z jg Z Z<|zVzLi jl Z<|zd (takes_spec _) Z<|zVGvlenM Z4 Z<|zVzMi Z<|z6<|zi<|yg (γ := Nat) [2, 3, 25, 26] (fun k => [(27, .int .i64 k)]) (fun k => []) (fun k => k ≤ (takesL x.op).length ∧ (x.args.take k).map (kindV f) = (takesL x.op).take k) (fun k => (takesL x.op).length - k) 0 zR1 zLe (⟨q5 _, Z⟩) ?_
  rintro k ⟨hk, hall⟩
  refine zSr<|zVGvlss Z Z<|z6<|zc<|y9 Z (fun ck=>?_) (fun ck=>?_)
  ·have hk2 : k < (takesL x.op).length := by simp at ck; omega
   have hk3 : k < x.args.length := by omega
   have hvk : hasV f x.args[k] = true := List.all_eq_true.1 ha _ (q6 hk3)
   refine zj<|zc<|zi<|zSr<|zVzMi Z<|z7 (zIM k Z4 sizeOf52 Z Z Z (q3 hk2))<|zVzLi isAgg52 Z<|zVzAi Z<|zVzAi Z<|z6<|zc<|zw (fun j => false) (by kernel_rfl) Z (zr (.rest _))<|zTk 0 Z (yk jp jf Z Z)<|zTk 1 Z (zFF j2 Z ju Z Z)<|zTk 2 Z (zLf Z1 Z)<|zTk 3 Z (zMi Z)<|zTk 4 Z (zIM k ja j6 Z Z Z (q3 hk3))<|zTk 5 Z (zLi je Z)<|zTk 7 Z (zMi Z)<|zOn 6 Z<|zd (kind_spec _ _ (by assumption)) Z<|z6<|zTk 8 Z (yq Z Z)<|zDn<|yb Z (fun cn=>?_) (fun cn=>?_)
   ·refine zSr<|zVzAb Z<|z6<|ze<|zk (x := .bool _) Z ?_
    exact jb (by unfold instT; rw [if_neg e1, decide_eq_false (map_ne hk3 hk2 (by simpa using cn))]; rfl)
   ·refine zj<|zRg<|zVzAd Z Z<|zVzMi Z<|z6 ?_
    exact ⟨k + 1, zR4, zR1, zLe, ⟨hk2, map_take_succ hk3 hk2 hall (by simpa using cn)⟩, by omega⟩
  ·have hkn : k = (takesL x.op).length := by simp at ck; omega
   subst hkn
   rw [q7, ← hl, q7] at hall
   refine yf<|zSr<|zVzFF j2 Z jg Z Z<|zVzLi jl Z<|zd (makes_spec _) Z<|z7 (zMu Z)<|z7 (zXi Z Z)<|z7 (zXb Z Z)<|zVzAi Z<|zVzAb Z<|z6<|zSr<|zVzMb Z<|zVGvnot Z<|zVzMb Z<|zx (s := 50) Z (fun c1=>?_) (fun c1=>?_)
   ·refine z8 Z Z c1<|z8 Z Z c1<|z8 Z Z c1<|z8 Z Z c1<|z8 Z Z c1<|z8 Z Z c1<|zVzPt Z c1 Z<|zVzAb Z<|z6<|ze<|zk (x := .bool _) Z ?_
    exact jb (by unfold instT; rw [if_neg e1, decide_eq_true hall]; simp_all)
   ·refine za Z Z c1<|zVGvloadWF jp jf Z Z<|za Z Z c1<|zVzFF j2 Z j6 Z Z<|za Z Z c1<|zVzLi je Z<|za Z Z c1<|zd (kind_spec f x.dst (hd (by simp_all))) Z<|za Z Z c1<|zVzMi Z<|za Z Z c1<|zVGveqlI Z Z<|zVzPf Z c1 Z<|zVzAb Z<|z6<|ze<|zk (x := .bool _) Z ?_
    exact jb (by unfold instT; rw [if_neg e1, decide_eq_true hall]; simp_all)
def phiT (f : PFunc) (p : PPhi) : Bool := !(p.args.any fun v => !decide (kindV f v = kindV f p.dst))
theorem yphi1_spec (f : PFunc) (p : PPhi) (v : Int) (hv : hasV f v = true) (hd : hasV f p.dst = true) : AFun prog E 71 ([.int .i64 v] ++ [.pf (encF f), .pf (encPhi p)]) (.bool (!decide (kindV f v = kindV f p.dst))) := by
 refine zn func71 Z (by decide) Z<|zSr<|zVzAb Z<|z6<|zc<|zw (fun j => false) (by kernel_rfl) Z (zr (.rest _))<|zTk 0 Z (yk jp jf Z Z)<|zTk 1 Z (zMi Z)<|zTk 3 Z (yk jp jf Z Z)<|zTk 4 Z (zFF jq Z j6 Z Z)<|zTk 5 Z (zLi je Z)<|zOn 2 Z<|zd (kind_spec _ _ (by assumption)) Z<|z6<|zOn 6 Z<|zd (kind_spec _ _ (by assumption)) Z<|z6<|zTk 7 Z (yq Z Z)<|zTk 8 Z (zAb Z)<|zDn<|ze<|zk (x := .bool _) Z ?_
 simp_all
theorem yphi_spec (f : PFunc) (p : PPhi) (hp : okPhi p) (ha : p.args.all (hasV f) = true) (hd : hasV f p.dst = true) : AFun prog E 35 [.agg (encF f), .agg (encPhi p)] (.bool (phiT f p)) := by
 have hl1 := hp.1.lt
 refine zn func35 Z (by decide) Z<|zSr<|zz (cs := _) Z Z Z<|zz (cs := _) Z Z Z<|zVzAb Z<|z6<|zSr<|zVzFF jq Z ju Z Z<|zVzLf Z1 Z<|z7 (Gv.func Z Z)<|zd (containsFuncJ_spec p.args (by omega) (fun v hv => yphi1_spec f p v (List.all_eq_true.1 ha v hv) hd)) Z<|zVGvnot Z<|zVzAb Z<|z6<|ze<|zk (x := .bool _) Z ?_
 rfl
def termT (f : PFunc) (t : PTerm) : Bool := if t.kind = 0 then !decide (t.to0 = 0) else if t.kind = 1 then decide (kindV f t.var = 1) && !decide (t.to0 = 0) && !decide (t.to1 = 0) else decide (kindV f t.var = 0)
theorem yterm_spec (f : PFunc) (t : PTerm) (h : ¬ t.kind = 0 → hasV f t.var = true) : AFun prog E 37 [.agg (encF f), .agg (encTerm t)] (.bool (termT f t)) := by
 refine zn func37 Z (by decide) Z<|zSr<|zz (cs := _) Z Z Z<|zz (cs := _) Z Z Z<|zVzAb Z<|z6<|zc<|zSr<|zVzFF jk Z sizeOf57 Z Z<|zVzLi isAgg57 Z<|z6<|zi<|zSr<|zVGveqlI Z Z<|zVzAb Z<|z6<|yb Z (fun c2=>?_) (fun c2=>?_)
 ·refine zSr<|zVzFF jk Z Zp Z Z<|z7 (Gv.idxAF (j := 0) Z6 j6 Z Z Z (by decide) Z)<|zVzLi je Z<|z7 (yq Z Z)<|zVzAb Z<|z6<|ze<|zk (x := .bool _) Z ?_
  exact jb (by unfold termT; simp_all)
 ·refine zSr<|zVGveqlI Z Z<|zVzAb Z<|z6<|yb Z (fun c3=>?_) (fun c3=>?_)
  ·refine zSr<|zVGvloadWF jp jf Z Z<|zVzFF jk Z j6 Z Z<|zVzLi je Z<|zd (kind_spec f t.var (h (by simp_all))) Z<|zVGveqlI Z Z<|zVzMb Z<|zx (s := 20) Z (fun c4=>?_) (fun c4=>?_)
   ·refine za Z Z c4<|zVzFF jk Z Zp Z Z<|za Z Z c4<|z7 (Gv.idxAF (j := 0) Z6 j6 Z Z Z (by decide) Z)<|za Z Z c4<|zVzLi je Z<|za Z Z c4<|z7 (yq Z Z)<|zVzPt Z c4 Z<|zVzMb Z<|zx (s := 26) Z (fun c5=>?_) (fun c5=>?_)
    ·refine za Z Z c5<|zVzFF jk Z Zp Z Z<|za Z Z c5<|z7 (Gv.idxAF (j := 1) Z6 j6 Z Z Z (by decide) Z)<|za Z Z c5<|zVzLi je Z<|za Z Z c5<|z7 (yq Z Z)<|zVzPt Z c5 Z<|zVzAb Z<|z6<|ze<|zk (x := .bool _) Z ?_
     exact jb (by unfold termT; simp_all)
    ·refine z8 Z Z c5<|z8 Z Z c5<|z8 Z Z c5<|z8 Z Z c5<|zVzPf Z c5 Z<|zVzAb Z<|z6<|ze<|zk (x := .bool _) Z ?_
     exact jb (by unfold termT; simp_all)
   ·refine z8 Z Z c4<|z8 Z Z c4<|z8 Z Z c4<|z8 Z Z c4<|zVzPf Z c4 Z<|zVzMb Z<|z8 Z Z Z<|z8 Z Z Z<|z8 Z Z Z<|z8 Z Z Z<|zVzPf Z Z Z<|zVzAb Z<|z6<|ze<|zk (x := .bool _) Z ?_
    exact jb (by unfold termT; simp_all)
  ·refine zj<|zSr<|zVGvloadWF jp jf Z Z<|zVzFF jk Z j6 Z Z<|zVzLi je Z<|zd (kind_spec f t.var (h (by simp_all))) Z<|zVGveqlI Z Z<|zVzAb Z<|z6<|ze<|zk (x := .bool _) Z ?_
   exact jb (by unfold termT; simp_all)
end Go.Proofs.YtoicilchhkndmaaGreatDoor
namespace Go.Proofs.YtoicilchhkndmaaGreatDoor
open Go.Proofs.Tryz
open Go.Proofs
variable {E : World}
set_option maxRecDepth 20000
end Go.Proofs.YtoicilchhkndmaaGreatDoor
namespace Go.Proofs.YtoicilchhkndmaaGreatDoor
open Go.Proofs.Tryz
open Go.Proofs
variable {E : World}
set_option maxRecDepth 20000
end Go.Proofs.YtoicilchhkndmaaGreatDoor
namespace Go.Proofs.YtoicilchhkndmaaGreatDoor
open Go.Proofs.Tryz
section
variable {E : World} {P : Program} {n : Nat} {l : List Oper} {W : Nat → Bool} {Q : AEnv → OL → Prop} {fuel : Nat} {listed : Array Bool} {env : AEnv} {O Os Om : OL}
end
end Go.Proofs.YtoicilchhkndmaaGreatDoor
namespace Go.Proofs.YtoicilchhkndmaaGreatDoor
open Go.Proofs.Tryz
section
variable {E : World} {P : Program} {ops : Array Oper} {K : AEnv → OL → Prop} {env : AEnv} {O O' O'' : OL} {rest : List Oper}
variable {d ty : Nat} {pos : String} {af : Array Edge} {x y z : Operand} {t u e T : TypeId}
end
end Go.Proofs.YtoicilchhkndmaaGreatDoor
namespace Go.Proofs.YtoicilchhkndmaaGreatDoor
open Go.Proofs.Tryz
open Go.Proofs
variable {E : World}
set_option maxRecDepth 20000
theorem AFun.ofSame {E : World} {P : Program} {f : FuncId} {fn : Func} {c : Code} {ars : List AV} {vs : List Value} {r : Value} {x : AV} (hf : P.funcs[f]? = some fn) (hb : fn.body = some c) (hn : fn.name ≠ "runtime.NumGoroutine") (has : ars = vs.map lit)
  (h : ∀ w, Calls P f vs.toArray w fun e w' => e = .returned r ∧ w' = w) (hr : ∀ I, RepV I x r) : AFun P E f ars x := fun I F w us h1 h2 => by
 subst has
 rw [lit_uns h1]
 refine Fn.ofCalls hf hb hn ?_
 exact (h w).mono fun e w' ⟨he, hw⟩ => ⟨_, he, I, x, [], .refl _, hr I, by rw [hw]; exact h2, rfl⟩
theorem mul64_spec (x y : Nat) (hx : x < 18446744073709551616) (hy : y < 18446744073709551616) : AFun prog E 152 [.int .u64 (x : Int), .int .u64 (y : Int)] (.tup [.int .u64 ((x * y / 18446744073709551616 : Nat) : Int), .int .u64 ((x * y % 18446744073709551616 : Nat) : Int)]) :=
 AFun.ofSame (vs := [.int .u64 x, .int .u64 y]) func152 rfl (by decide) rfl (fun w => Tryz.bits_Mul64 x y hx hy w) (fun I => ⟨_, rfl, _, _, rfl, rfl, _, _, rfl, rfl, rfl⟩)
end Go.Proofs.YtoicilchhkndmaaGreatDoor
namespace Go.Proofs.YtoicilchhkndmaaGreatDoor
open Go.Proofs.Tryz
open Go.Proofs Go.Lib Go.Shelf Go.RowKit
theorem ps119_1 : PlacesS prog 119 9 1 1 [.str ⟨#[]⟩] := ⟨_, Zb, Zt, zeroValue9, by decide, by decide, by kernel_rfl⟩
set_option maxRecDepth 20000
variable {E : World}
def inB (s : ByteArray) (l : List ByteArray) : Bool := l.any fun t => decide (t = s)
theorem inB_iff {s : ByteArray} {l : List ByteArray} : inB s l = true ↔ s ∈ l := by
 unfold inB; rw [List.any_eq_true]
 constructor
 ·rintro ⟨x, hx, h⟩; have h : x = s := by simpa using h
  exact h ▸ hx
 ·intro h; exact ⟨s, h, by simp⟩
theorem inB_snoc {s t : ByteArray} {l : List ByteArray} : inB s (l ++ [t]) = (inB s l || decide (t = s)) := by unfold inB; rw [List.any_append]; simp
def UnlP (l : List ByteArray) : Prop := ∀ i (h : i < l.length), scanName l[i] = true ∧ inB l[i] (l.take i) = false
instance (l : List ByteArray) : Decidable (UnlP l) := by unfold UnlP; infer_instance
theorem unl_new {t : ByteArray} {l : List ByteArray} {mt : Int} (ht : mt = if inB t l = true then 1 else 0) (hc : decide (0 < mt) = false) : inB t l = false := by
 have hc := of_decide_eq_false hc
 cases h : inB t l with
 | true => rw [h] at ht; simp at ht; omega
 | false => rfl
theorem unl_step {s t : ByteArray} {l : List ByteArray} {m : Option Int} {mt : Int} (hs : m.getD 0 = if inB s l = true then 1 else 0) (ht : mt = if inB t l = true then 1 else 0) (hc : decide (0 < mt) = false) :
  (if s = t then some (mt + 1) else m).getD 0 = if (inB s l || decide (t = s)) = true then 1 else 0 := by
 have h := unl_new ht hc
 rw [h] at ht
 have ht : mt = 0 := by simpa using ht
 by_cases e : s = t
 ·subst e; simp [ht]
 ·rw [if_neg e, hs]
  have e2 : ¬ t = s := fun h => e h.symm
  simp [e2]
theorem unl_upto {l : List ByteArray} {k : Nat} (hn : ∀ i (h : i < l.length), i < k → scanName l[i] = true ∧ inB l[i] (l.take i) = false) (hk : k < l.length) (h1 : scanName l[k] = true) (h2 : inB l[k] (l.take k) = false) :
  ∀ i (h : i < l.length), i < k + 1 → scanName l[i] = true ∧ inB l[i] (l.take i) = false := fun i h hi => by
 by_cases e : i = k
 ·subst e; exact ⟨h1, h2⟩
 ·exact hn i h (by omega)
theorem unlike_spec (l : List ByteArray) (hl : l.length ≤ 100000000) (hs : ∀ s ∈ l, s.size ≤ 140737488355328) (hL : Letters E) : AFun prog E 100 [.fro 1 (l.map encS)] (.bool (decide (UnlP l))) := by
 refine zn func100 Z (by decide) Z<|zSr<|zVzAb Z<|z6<|zSr<|AOps.makeMap<|fun b6 => z7 (Gv.assign (v := mref _) Z)<|z6<|zc<|zSr<|zVzMf Z<|zVGvlenM Zb Z<|zVzMi Z<|z6<|zi<|yg (γ := Nat × List (ByteArray × Int)) [3, 7, 8] (fun g => [(9, .int .i64 g.1)]) (fun g => [(0, mapO b6 g.2)]) (fun g => g.1 ≤ l.length ∧ (∀ i (h : i < l.length), i < g.1 → scanName l[i] = true ∧ inB l[i] (l.take i) = false) ∧ ∀ s, (mget s g.2).getD 0 = if inB s (l.take g.1) = true then 1 else 0) (fun g => l.length - g.1) (0, []) zR1 zLe (⟨q5 _, fun i h h2 => absurd h2 (Nat.not_lt_zero _), fun s => Z⟩) ?_
 rintro ⟨k, es⟩ ⟨hk, hn, hm⟩
 try dsimp only at *
 refine zSr<|zVGvlss Z Z<|z6<|zc<|y9 Z (fun ck=>?_) (fun ck=>?_)
 ·have hk2 : k < l.length := by omega
  have hmk := hm l[k]
  have hz := hs _ (q6 hk2)
  refine zj<|zc<|zi<|zSr<|z7 (zIM k Zb Zt Z Z Z (q3 hk2))<|z7 (Gv.load1F (c := .str _) Y2 Z)<|z7 (Gv.assign (v := .str _) Z)<|z6<|zc<|zSr<|z7 (yy (v := .str _) Z)<|zd (zname_spec _ hz hL) Z<|zVGvnot Z<|zVzMb Z<|zx (s := 16) Z (fun c1=>?_) (fun c1=>?_)
  ·refine z8 Z Z c1<|z8 Z Z c1<|z8 Z Z c1<|z8 Z Z c1<|zVzPt Z c1 Z<|z6<|zy Z Z<|zSr<|zVzAb Z<|z6<|ze<|zk (x := .bool _) Z ?_
   exact jb (decide_eq_false fun h => by have h := h k hk2; simp_all).symm
  ·refine za Z Z c1<|z7 (yy (v := mref _) Z)<|za Z Z c1<|z7 (yy (v := .str _) Z)<|za Z Z c1<|z7 (Gv.lookup1S underlying131 jr Zz Z Z ⟨_, .head⟩)<|za Z Z c1<|z7 (q0 Z Z)<|zVzPf Z c1 Z<|z6<|yb Z (fun c2=>?_) (fun c2=>?_)
   ·refine zSr<|zVzAb Z<|z6<|ze<|zk (x := .bool _) Z ?_
    exact jb (decide_eq_false fun h => by have h := h k hk2; simp_all).symm
   ·refine zj<|zRg<|z7 (yy (v := mref _) Z)<|z7 (yy (v := .str _) Z)<|z7 (Gv.lookup1S underlying131 jr Zz Z Z ⟨_, .head⟩)<|z7 (Gv.add Z Z (by first | (unfold I64; omega) | (unfold I64; rw [hmk]; split <;> omega)))<|AOps.mapSet underlying131 jr Z Z Z .head<|z6<|zRg<|z7 (Gv.add Z Z (by first | (unfold I64; omega) | (unfold I64; rw [hmk]; split <;> omega)))<|zVzMi Z<|z6 ?_
    exact ⟨(k + 1, mset l[k] ((mget l[k] es).getD 0 + 1) es), zR3, zR1, zLe, ⟨hk2, unl_upto hn hk2 (by simpa using c1) (unl_new hmk (by assumption)), fun s => by dsimp only; rw [mget_set, q4 hk2, inB_snoc]; exact unl_step (hm s) hmk (by assumption)⟩, by dsimp only; omega⟩
 ·have hkn : k = l.length := by omega
  refine yf<|zSr<|zVzAb Z<|z6<|ze<|zk (x := .bool _) Z ?_
  exact jb (decide_eq_true fun i h => hn i h (by omega)).symm
theorem map_take {α : Type} {g : α → ByteArray} {l : List α} {k : Nat} (h : k < l.length) : (l.map g).take (k + 1) = (l.map g).take k ++ [g l[k]] := by
 rw [q4 (by simpa using h)]; simp
def VNames (f : PFunc) : List ByteArray := f.vars.map PVar.name
def BNames (f : PFunc) : List ByteArray := f.blocks.map PBlock.name
@[simp] theorem vn_len (f : PFunc) : (VNames f).length = f.vars.length := by unfold VNames; simp
@[simp] theorem bn_len (f : PFunc) : (BNames f).length = f.blocks.length := by unfold BNames; simp
theorem vn_take {f : PFunc} {k : Nat} (h : k < f.vars.length) : (VNames f).take (k + 1) = (VNames f).take k ++ [f.vars[k].name] := map_take h
theorem bn_take {f : PFunc} {k : Nat} (h : k < f.blocks.length) : (BNames f).take (k + 1) = (BNames f).take k ++ [f.blocks[k].name] := map_take h
def ParP (f : PFunc) : Prop := ∀ i (h : i < f.params.length), f.params[i] = (i : Int)
instance (f : PFunc) : Decidable (ParP f) := by unfold ParP; infer_instance
def TysP (f : PFunc) : Prop := ∀ i (h : i < f.vars.length), ¬ tyWord f.vars[i].ty = ⟨#[]⟩
instance (f : PFunc) : Decidable (TysP f) := by unfold TysP; infer_instance
def LensP (f : PFunc) : Prop := f.vars.length ≤ 512 ∧ f.params.length ≤ 8 ∧ f.params.length ≤ f.vars.length ∧ 1 ≤ f.blocks.length ∧ f.blocks.length ≤ 64
instance (f : PFunc) : Decidable (LensP f) := by unfold LensP; infer_instance
def NamesP (f : PFunc) : Prop := TysP f ∧ ParP f ∧ LensP f ∧ UnlP (VNames f) ∧ UnlP (BNames f)
instance (f : PFunc) : Decidable (NamesP f) := by unfold NamesP; infer_instance
theorem pnames_spec (f : PFunc) (h1 : f.vars.length ≤ 100000000) (h2 : f.blocks.length ≤ 100000000) (hp : f.params.length ≤ 100000000) (hn : okNames f) (hL : Letters E) : AFun prog E 62 [.agg (encF f)] (.bool (decide (NamesP f))) := by
 have hnv : (VNames f).length = f.vars.length := by unfold VNames; simp
 have hnb : (BNames f).length = f.blocks.length := by unfold BNames; simp
 refine zn func62 Z (by decide) Z<|zSr<|zz (cs := _) Z Z Z<|zVzAb Z<|z6<|zSr<|z7 (zAr Z)<|z7 (zAr Z)<|z6<|adopt_wp (t := 3) (k := 1) (T := 9) Z<|fun i3 => adopt_wp (t := 4) (k := 1) (T := 9) Z<|fun i4 => zc<|zSr<|zVzFF jd Z Y5 Z Z<|zVzLf isAgg22 Z<|zVGvlenM jz Z<|zVzMi Z<|z6<|zi<|yg (γ := Nat × Nat) [1, 4, 12, 13] (fun g => [(3, .own g.2 g.1), (14, .int .i64 g.1)]) (fun g => [(i4, .grow 1 9 []), (g.2, .grow 1 9 ((((VNames f).take g.1).map encS).flatten))]) (fun g => g.1 ≤ f.vars.length ∧ ∀ i (h : i < f.vars.length), i < g.1 → ¬ tyWord f.vars[i].ty = ⟨#[]⟩) (fun g => f.vars.length - g.1) (0, i3) zR2 zLe (⟨q5 _, fun i h h2 => absurd h2 (Nat.not_lt_zero _)⟩) ?_
 rintro ⟨k, i⟩ ⟨hk, hT⟩
 try dsimp only at *
 refine zSr<|zVGvlss Z Z<|z6<|zc<|y9 Z (fun ck=>?_) (fun ck=>?_)
 ·have hk2 : k < f.vars.length := by simp at ck; omega
  refine zj<|zc<|zi<|zSr<|z7 (zIM k jz Zs Z Z Z (q3 hk2))<|zVGvloadWF isAgg54 Zs Z Z<|zo (cs := [.str ⟨#[]⟩, .int .i64 0]) zeroValue54 Z Z<|fun i6 => zg Zs Z Z Z Z Z Z .head Z<|z6<|zSr<|z7 (zMo Z)<|z7 (zf Zh Z Zt (by decide) Z Z)<|z7 (zt (c := .str _) Y2 Z ⟨_, .head⟩ Z)<|yi (rows := [[_]]) ps119_1 Z Z Z Z Z<|yo (k := 1) Zb type9 Z Z Z Z Z (fun _ => .t2) (by rw [grow_len (k := 1) (fun _ => rfl), List.length_take]; omega) (by decide) Z (by show (_ + 1) * 16 ≤ _; omega) (by show _ + 1 ≤ _; omega)<|fun i22 => z7 (zAo Z)<|z6<|zSr<|z7 (zf Zh Z sizeOf52 (by decide) Z Z)<|z7 (zt (c := .int _ _) isAgg52 Z ⟨_, .head⟩ Z)<|zd (tyWord_spec _) Z<|z7 (Gv.eqlT Z Z)<|z6<|y9 Z (fun ct=>?_) (fun ct=>?_)
  ·refine zSr<|zVzAb Z<|z6<|ze<|zk (x := .bool _) Z ?_
   exact jb (decide_eq_false fun h => h.1 k hk2 (by simpa using ct)).symm
  ·refine zj<|zRg<|zVzAd Z Z<|zVzMi Z<|z6 ?_
   exact ⟨(k + 1, i22), zR4, zR2, ⟨_, (.drop (.refl _)), by dsimp only; rw [← grow_push (enc := encS) (vn_take hk2)]; rfl⟩, ⟨hk2, fun i h h2 => by by_cases e : i = k; (subst e; simpa using ct); exact hT i h (by dsimp only at h2; omega)⟩, by dsimp only; omega⟩
 ·have hkn : k = f.vars.length := by simp at ck; omega
  subst hkn
  rw [List.take_of_length_le (by omega : (VNames f).length ≤ f.vars.length)]
  have hTys : TysP f := fun i h => hT i h h
  refine yf<|zc<|zSr<|zVzFF jd Z Zm Z Z<|zVzLf Y4 Z<|zVGvlenM js Z<|zVzMi Z<|z6<|zi<|yg (γ := Nat × Nat) [1, 3, 29, 30] (fun g => [(4, .own g.2 g.1), (31, .int .i64 g.1)]) (fun g => [(g.2, .grow 1 9 ((((BNames f).take g.1).map encS).flatten)), (i, .grow 1 9 (((VNames f).map encS).flatten))]) (fun g => g.1 ≤ f.blocks.length) (fun g => f.blocks.length - g.1) (0, i4) zR2 zLe (q5 _) ?_
  rintro ⟨k, j⟩ hk
  try dsimp only at *
  refine zSr<|zVGvlss Z Z<|z6<|zc<|y9 Z (fun ck=>?_) (fun ck=>?_)
  ·have hk2 : k < f.blocks.length := by simp at ck; omega
   refine zj<|zc<|zi<|zSr<|z7 (zIM k js Z3 Z Z Z (q3 hk2))<|zVGvloadWF isAgg62 Z3 Z Z<|zo (cs := [.str ⟨#[]⟩, .raw (.slice none 0 0), .raw (.slice none 0 0), .int .i64 0, .int .i64 0, .int .i64 0, .int .i64 0]) Zl Z Z<|fun i8 => zg Z3 Z Z Z Z Z Z .head Z<|z6<|zRg<|z7 (zMo Z)<|z7 (zf j9 Z Zt (by decide) Z Z)<|z7 (zt (c := .str _) Y2 Z ⟨_, .head⟩ Z)<|yi (rows := [[_]]) ps119_1 Z Z Z Z Z<|yo (k := 1) Zb type9 Z Z Z Z Z (fun _ => .t1) (by rw [grow_len (k := 1) (fun _ => rfl), List.length_take]; omega) (by decide) Z (by show (_ + 1) * 16 ≤ _; omega) (by show _ + 1 ≤ _; omega)<|fun i39 => z7 (zAo Z)<|z6<|zRg<|zVzAd Z Z<|zVzMi Z<|z6 ?_
   exact ⟨(k + 1, i39), zR4, zR2, ⟨_, (.drop (.refl _)), by dsimp only; rw [← grow_push (enc := encS) (bn_take hk2)]; rfl⟩, hk2, by dsimp only; omega⟩
  ·have hkn : k = f.blocks.length := by simp at ck; omega
   subst hkn
   rw [List.take_of_length_le (by omega : (BNames f).length ≤ f.blocks.length)]
   refine yf<|zc<|zSr<|zVzFF jd Z ju Z Z<|zVzLf Z1 Z<|zVGvlenM ja Z<|zVzMi Z<|z6<|zi<|yg (γ := Nat) [1, 3, 4, 42, 43] (fun k => [(44, .int .i64 k)]) (fun k => [(j, .grow 1 9 (((BNames f).map encS).flatten)), (i, .grow 1 9 (((VNames f).map encS).flatten))]) (fun k => k ≤ f.params.length ∧ ∀ i (h : i < f.params.length), i < k → f.params[i] = (i : Int)) (fun k => f.params.length - k) 0 zR1 zLe (⟨q5 _, fun i h h2 => absurd h2 (Nat.not_lt_zero _)⟩) ?_
   rintro k ⟨hk, hP⟩
   refine zSr<|zVGvlss Z Z<|z6<|zc<|y9 Z (fun ck=>?_) (fun ck=>?_)
   ·have hk2 : k < f.params.length := by simp at ck; omega
    refine zj<|zc<|zi<|zSr<|zVzMi Z<|z7 (zIM k ja j6 Z Z Z (q3 hk2))<|zVzLi je Z<|zVzAi Z<|zVzAi Z<|z6<|zSr<|zVzMi Z<|zVzMi Z<|z7 (yq Z Z)<|z6<|yb Z (fun cp=>?_) (fun cp=>?_)
    ·refine zSr<|zVzAb Z<|z6<|ze<|zk (x := .bool _) Z ?_
     exact jb (decide_eq_false fun h => by have := h.2.1 k hk2; simp [this] at cp).symm
    ·refine zj<|zRg<|zVzAd Z Z<|zVzMi Z<|z6 ?_
     exact ⟨k + 1, ⟨rfl, rfl, rfl, rfl, rfl, trivial⟩, zR1, zLe, ⟨hk2, fun i h h2 => by by_cases e : i = k; (subst e; simpa using cp); exact hP i h (by omega)⟩, by omega⟩
   ·have hkn : k = f.params.length := by simp at ck; omega
    subst hkn
    have hPar : ParP f := fun i h => hP i h h
    refine zp (GStep.know (t := 3) (rows := (VNames f).map encS) Z .t1 (by intro r hr; obtain ⟨x, _, rfl⟩ := List.mem_map.1 hr; rfl) (by decide) (by simp))<|zp (GStep.know (t := 4) (rows := (BNames f).map encS) Z .head (by intro r hr; obtain ⟨x, _, rfl⟩ := List.mem_map.1 hr; rfl) (by decide) (by simp))<|yf<|zSr<|zVzMf Z<|zVGvlenM Zb Z<|z7 (Gv.leq Z Z)<|zVzMb Z<|zx (s := 56) Z (fun c3=>?_) (fun c3=>?_)
    ·refine za Z Z c3<|zVzFF jd Z ju Z Z<|za Z Z c3<|zVzLf Z1 Z<|za Z Z c3<|zVGvlenM ja Z<|za Z Z c3<|zVzMf Z<|za Z Z c3<|zVGvlenM Zb Z<|za Z Z c3<|z7 (Gv.minI Z Z)<|za Z Z c3<|z7 (Gv.leq Z Z)<|zVzPt Z c3 Z<|zVzMb Z<|zx (s := 65) Z (fun c4=>?_) (fun c4=>?_)
     ·refine za Z Z c4<|zVzMf Z<|za Z Z c4<|zVGvlenM Zb Z<|za Z Z c4<|z7 (Gv.geq Z Z)<|zVzPt Z c4 Z<|zVzMb Z<|zx (s := 70) Z (fun c5=>?_) (fun c5=>?_)
      ·refine za Z Z c5<|zVzMf Z<|za Z Z c5<|zVGvlenM Zb Z<|za Z Z c5<|z7 (Gv.leq Z Z)<|zVzPt Z c5 Z<|zVzMb Z<|zx (s := 75) Z (fun c6=>?_) (fun c6=>?_)
       ·refine za Z Z c6<|zVzMf Z<|za Z Z c6<|zd (unlike_spec (VNames f) (by omega) (fun s hs => by obtain ⟨v, hv, rfl⟩ := List.mem_map.1 hs; exact hn.1 v hv) hL) Z<|zVzPt Z c6 Z<|zVzMb Z<|zx (s := 79) Z (fun c7=>?_) (fun c7=>?_)
        ·refine za Z Z c7<|zVzMf Z<|za Z Z c7<|zd (unlike_spec (BNames f) (by omega) (fun s hs => by obtain ⟨v, hv, rfl⟩ := List.mem_map.1 hs; exact hn.2 v hv) hL) Z<|zVzPt Z c7 Z<|zVzAb Z<|z6<|ze<|zk (x := .bool _) Z ?_
         exact jb (by unfold NamesP LensP; simp_all <;> grind)
        ·refine z8 Z Z c7<|z8 Z Z c7<|zVzPf Z c7 Z<|zVzAb Z<|z6<|ze<|zk (x := .bool _) Z ?_
         exact jb (by unfold NamesP LensP; simp_all <;> grind)
       ·refine z8 Z Z c6<|z8 Z Z c6<|zVzPf Z c6 Z<|zVzMb Z<|z8 Z Z Z<|z8 Z Z Z<|zVzPf Z Z Z<|zVzAb Z<|z6<|ze<|zk (x := .bool _) Z ?_
        exact jb (by unfold NamesP LensP; simp_all <;> grind)
      ·refine z8 Z Z c5<|z8 Z Z c5<|z8 Z Z c5<|zVzPf Z c5 Z<|zVzMb Z<|z8 Z Z Z<|z8 Z Z Z<|zVzPf Z Z Z<|zVzMb Z<|z8 Z Z Z<|z8 Z Z Z<|zVzPf Z Z Z<|zVzAb Z<|z6<|ze<|zk (x := .bool _) Z ?_
       exact jb (by unfold NamesP LensP; simp_all <;> grind)
     ·refine z8 Z Z c4<|z8 Z Z c4<|z8 Z Z c4<|zVzPf Z c4 Z<|zVzMb Z<|z8 Z Z Z<|z8 Z Z Z<|z8 Z Z Z<|zVzPf Z Z Z<|zVzMb Z<|z8 Z Z Z<|z8 Z Z Z<|zVzPf Z Z Z<|zVzMb Z<|z8 Z Z Z<|z8 Z Z Z<|zVzPf Z Z Z<|zVzAb Z<|z6<|ze<|zk (x := .bool _) Z ?_
      exact jb (by unfold NamesP LensP; simp_all <;> grind)
    ·refine z8 Z Z c3<|z8 Z Z c3<|z8 Z Z c3<|z8 Z Z c3<|z8 Z Z c3<|z8 Z Z c3<|z8 Z Z c3<|zVzPf Z c3 Z<|zVzMb Z<|z8 Z Z Z<|z8 Z Z Z<|z8 Z Z Z<|zVzPf Z Z Z<|zVzMb Z<|z8 Z Z Z<|z8 Z Z Z<|z8 Z Z Z<|zVzPf Z Z Z<|zVzMb Z<|z8 Z Z Z<|z8 Z Z Z<|zVzPf Z Z Z<|zVzMb Z<|z8 Z Z Z<|z8 Z Z Z<|zVzPf Z Z Z<|zVzAb Z<|z6<|ze<|zk (x := .bool _) Z ?_
     exact jb (by unfold NamesP LensP; simp_all <;> grind)
def phiOK (f : PFunc) (p : PPhi) : Bool := !decide (p.args.length = 0) && decide (p.args.length = p.from_.length) && hasV f p.dst && p.args.all (hasV f) && p.from_.all (hasB f)
theorem phi1_spec (f : PFunc) (v : Int) : AFun prog E 104 ([.int .i64 v] ++ [.pf (encF f)]) (.bool (!hasB f v)) := by
 refine zn func104 Z (by decide) Z<|zSr<|zVzAb Z<|z6<|zSr<|zVGvloadWF jp jf Z Z<|zVzMi Z<|zd (at_spec _ _) Z<|zVGvnot Z<|zVzAb Z<|z6<|ze<|zk (x := .bool _) Z ?_
 rfl
theorem phi_spec (f : PFunc) (p : PPhi) (hp : okPhi p) : AFun prog E 65 [.agg (encF f), .agg (encPhi p)] (.bool (phiOK f p)) := by
 have hl1 := hp.1.lt
 have hl2 := hp.2.lt
 refine zn func65 Z (by decide) Z<|zSr<|zz (cs := _) Z Z Z<|zz (cs := _) Z Z Z<|zVzAb Z<|z6<|zc<|zSr<|zVzFF jq Z ju Z Z<|zVzLf Z1 Z<|zVGvlenM ja Z<|zVGveqlI Z Z<|zVzMb Z<|zx (s := 9) Z (fun c8=>?_) (fun c8=>?_)
 ·refine z8 Z Z c8<|z8 Z Z c8<|z8 Z Z c8<|z8 Z Z c8<|z8 Z Z c8<|z8 Z Z c8<|z8 Z Z c8<|zVzPt Z c8 Z<|zVzMb Z<|z8 Z Z Z<|z8 Z Z Z<|z8 Z Z Z<|z8 Z Z Z<|z8 Z Z Z<|zVzPt Z Z Z<|zVzMb Z<|z8 Z Z Z<|z8 Z Z Z<|z8 Z Z Z<|z8 Z Z Z<|z8 Z Z Z<|zVzPt Z Z Z<|z6<|zy Z Z<|zSr<|zVzAb Z<|z6<|ze<|zk (x := .bool _) Z ?_
  exact jb (by have := List.any_eq_not_all_not (l := p.from_) (p := fun x => !hasB f x); simp_all [phiOK, Int.ofNat_inj] <;> grind)
 ·refine za Z Z c8<|zVzFF jq Z ju Z Z<|za Z Z c8<|zVzLf Z1 Z<|za Z Z c8<|zVGvlenM ja Z<|za Z Z c8<|zVzFF jq Z ju Z Z<|za Z Z c8<|zVzLf Z1 Z<|za Z Z c8<|zVGvlenM ja Z<|za Z Z c8<|z7 (yq Z Z)<|zVzPf Z c8 Z<|zVzMb Z<|zx (s := 18) Z (fun c9=>?_) (fun c9=>?_)
  ·refine z8 Z Z c9<|z8 Z Z c9<|z8 Z Z c9<|z8 Z Z c9<|z8 Z Z c9<|zVzPt Z c9 Z<|zVzMb Z<|z8 Z Z Z<|z8 Z Z Z<|z8 Z Z Z<|z8 Z Z Z<|z8 Z Z Z<|zVzPt Z Z Z<|z6<|zy Z Z<|zSr<|zVzAb Z<|z6<|ze<|zk (x := .bool _) Z ?_
   exact jb (by have := List.any_eq_not_all_not (l := p.from_) (p := fun x => !hasB f x); simp_all [phiOK, Int.ofNat_inj] <;> grind)
  ·refine za Z Z c9<|zVGvloadWF jp jf Z Z<|za Z Z c9<|zVzFF jq Z j6 Z Z<|za Z Z c9<|zVzLi je Z<|za Z Z c9<|zd (has_spec _ _) Z<|za Z Z c9<|zVGvnot Z<|zVzPf Z c9 Z<|zVzMb Z<|zx (s := 25) Z (fun c10=>?_) (fun c10=>?_)
   ·refine z8 Z Z c10<|z8 Z Z c10<|z8 Z Z c10<|z8 Z Z c10<|z8 Z Z c10<|zVzPt Z c10 Z<|z6<|zy Z Z<|zSr<|zVzAb Z<|z6<|ze<|zk (x := .bool _) Z ?_
    exact jb (by have := List.any_eq_not_all_not (l := p.from_) (p := fun x => !hasB f x); simp_all [phiOK, Int.ofNat_inj] <;> grind)
   ·refine za Z Z c10<|zVGvloadWF jp jf Z Z<|za Z Z c10<|zVzFF jq Z ju Z Z<|za Z Z c10<|zVzLf Z1 Z<|za Z Z c10<|zd (vars_spec f p.args (by omega)) Z<|za Z Z c10<|zVGvnot Z<|zVzPf Z c10 Z<|z6<|yb Z (fun c11=>?_) (fun c11=>?_)
    ·refine zSr<|zVzAb Z<|z6<|ze<|zk (x := .bool _) Z ?_
     exact jb (by have := List.any_eq_not_all_not (l := p.from_) (p := fun x => !hasB f x); simp_all [phiOK, Int.ofNat_inj] <;> grind)
    ·refine zj<|zSr<|zVzFF jq Z ju Z Z<|zVzLf Z1 Z<|z7 (Gv.func Z Z)<|zd (containsFuncI_spec p.from_ (by omega) (phi1_spec f)) Z<|zVGvnot Z<|zVzAb Z<|z6<|ze<|zk (x := .bool _) Z ?_
     exact jb (by have := List.any_eq_not_all_not (l := p.from_) (p := fun x => !hasB f x); simp_all [phiOK, Int.ofNat_inj] <;> grind)
end Go.Proofs.YtoicilchhkndmaaGreatDoor
namespace Go.Proofs.YtoicilchhkndmaaGreatDoor
open Go.Proofs.Tryz
open Go.Proofs Go.Lib Go.Shelf Go.RowKit
set_option maxRecDepth 20000
variable {E : World}
theorem indexFuncP_spec {p : PPhi → Bool} {fn : FuncId} {c : List AV} (xs : List PPhi) (hl : xs.length ≤ 281474976710656) (hp : ∀ x ∈ xs, AFun prog E fn ([.agg (encPhi x)] ++ c) (.bool (p x))) :
  AFun prog E 101 [.fro 3 (xs.map encPhi), .fn fn [] c] (.int .i64 (firstI p xs 0)) := by
 refine zn func101 Z (by decide) Z<|zSr<|zVzAi Z<|z6<|zc<|zSr<|zVzMf Z<|zVGvlenM jw Z<|zVzMi Z<|z6<|zi<|yg (γ := Nat) [0, 1, 7] (fun k => [(8, .int .i64 k)]) (fun k => []) (fun k => k ≤ xs.length ∧ (xs.take k).all (fun x => !p x)) (fun k => xs.length - k) 0 zR1 zLe (⟨q5 _, Z⟩) ?_
 rintro k ⟨hk, hall⟩
 refine zSr<|zVGvlss Z Z<|z6<|zc<|y9 Z (fun ck=>?_) (fun ck=>?_)
 ·have hk2 : k < xs.length := by omega
  refine zj<|zc<|zi<|zSr<|zVzMi Z<|zVzAi Z<|z6<|zSr<|z7 (yy (v := .fn _ _ _) Z)<|zVzMf Z<|zVzMi Z<|z7 (Gv.idxM jw Z8 Z Z Z (q3 (by omega)))<|zVGvloadWF isAgg64 Z8 Z Z<|AOps.callVP Z (hp _ (q6 hk2)) Z<|z6<|yb Z (fun cp=>?_) (fun cp=>?_)
  ·refine zSr<|zVzMi Z<|zVzAi Z<|z6<|ze<|zk (x := .int _ _) Z ?_
   rw [firstI_drop p xs k hk hall, List.drop_eq_getElem_cons hk2, firstI, if_pos cp]
  ·refine zj<|zRg<|zVzAd Z Z<|zVzMi Z<|z6 ?_
   exact ⟨k + 1, zR3, zR1, zLe, ⟨hk2, by rw [q4 hk2, List.all_append, hall]; simp [cp]⟩, by omega⟩
 ·have hkn : k = xs.length := by omega
  refine yf<|zSr<|zVzAi Z<|z6<|ze<|zk (x := .int _ _) Z ?_
  rw [firstI_drop p xs k hk hall, hkn, List.drop_length, firstI]
theorem containsFuncP_spec {p : PPhi → Bool} {fn : FuncId} {c : List AV} (xs : List PPhi) (hl : xs.length ≤ 281474976710656) (hp : ∀ x ∈ xs, AFun prog E fn ([.agg (encPhi x)] ++ c) (.bool (p x))) :
  AFun prog E 63 [.fro 3 (xs.map encPhi), .fn fn [] c] (.bool (xs.any p)) := by
 refine zn func63 Z (by decide) Z<|zSr<|zVzAb Z<|z6<|zSr<|zVzMf Z<|z7 (yy (v := .fn _ _ _) Z)<|zd (indexFuncP_spec xs hl hp) Z<|z7 (Gv.geq Z Z)<|zVzAb Z<|z6<|ze<|zk (x := .bool _) Z ?_
 rw [firstI_ge]
theorem indexFuncX_spec {p : PInst → Bool} {fn : FuncId} {c : List AV} (xs : List PInst) (hl : xs.length ≤ 281474976710656) (hp : ∀ x ∈ xs, AFun prog E fn ([.agg (encInst x)] ++ c) (.bool (p x))) :
  AFun prog E 106 [.fro 4 (xs.map encInst), .fn fn [] c] (.int .i64 (firstI p xs 0)) := by
 refine zn func106 Z (by decide) Z<|zSr<|zVzAi Z<|z6<|zc<|zSr<|zVzMf Z<|zVGvlenM jx Z<|zVzMi Z<|z6<|zi<|yg (γ := Nat) [0, 1, 7] (fun k => [(8, .int .i64 k)]) (fun k => []) (fun k => k ≤ xs.length ∧ (xs.take k).all (fun x => !p x)) (fun k => xs.length - k) 0 zR1 zLe (⟨q5 _, Z⟩) ?_
 rintro k ⟨hk, hall⟩
 refine zSr<|zVGvlss Z Z<|z6<|zc<|y9 Z (fun ck=>?_) (fun ck=>?_)
 ·have hk2 : k < xs.length := by omega
  refine zj<|zc<|zi<|zSr<|zVzMi Z<|zVzAi Z<|z6<|zSr<|z7 (yy (v := .fn _ _ _) Z)<|zVzMf Z<|zVzMi Z<|z7 (Gv.idxM jx Z9 Z Z Z (q3 (by omega)))<|zVGvloadWF isAgg67 Z9 Z Z<|AOps.callVP Z (hp _ (q6 hk2)) Z<|z6<|yb Z (fun cp=>?_) (fun cp=>?_)
  ·refine zSr<|zVzMi Z<|zVzAi Z<|z6<|ze<|zk (x := .int _ _) Z ?_
   rw [firstI_drop p xs k hk hall, List.drop_eq_getElem_cons hk2, firstI, if_pos cp]
  ·refine zj<|zRg<|zVzAd Z Z<|zVzMi Z<|z6 ?_
   exact ⟨k + 1, zR3, zR1, zLe, ⟨hk2, by rw [q4 hk2, List.all_append, hall]; simp [cp]⟩, by omega⟩
 ·have hkn : k = xs.length := by omega
  refine yf<|zSr<|zVzAi Z<|z6<|ze<|zk (x := .int _ _) Z ?_
  rw [firstI_drop p xs k hk hall, hkn, List.drop_length, firstI]
theorem containsFuncX_spec {p : PInst → Bool} {fn : FuncId} {c : List AV} (xs : List PInst) (hl : xs.length ≤ 281474976710656) (hp : ∀ x ∈ xs, AFun prog E fn ([.agg (encInst x)] ++ c) (.bool (p x))) :
  AFun prog E 66 [.fro 4 (xs.map encInst), .fn fn [] c] (.bool (xs.any p)) := by
 refine zn func66 Z (by decide) Z<|zSr<|zVzAb Z<|z6<|zSr<|zVzMf Z<|z7 (yy (v := .fn _ _ _) Z)<|zd (indexFuncX_spec xs hl hp) Z<|z7 (Gv.geq Z Z)<|zVzAb Z<|z6<|ze<|zk (x := .bool _) Z ?_
 rw [firstI_ge]
theorem shaped1_spec (f : PFunc) (p : PPhi) (hp : okPhi p) : AFun prog E 64 ([.agg (encPhi p)] ++ [.pf (encF f)]) (.bool (!phiOK f p)) := by
 refine zn func64 Z (by decide) Z<|zSr<|zz (cs := _) Z Z Z<|zVzAb Z<|z6<|zSr<|zVGvloadWF jp jf Z Z<|zVGvloadWF isAgg64 Z8 Z Z<|zd (phi_spec _ _ (by assumption)) Z<|zVGvnot Z<|zVzAb Z<|z6<|ze<|zk (x := .bool _) Z ?_
 rfl
theorem shaped2_spec (f : PFunc) (x : PInst) (hx : okL x.args) : AFun prog E 67 ([.agg (encInst x)] ++ [.pf (encF f)]) (.bool (!instOK f x)) := by
 refine zn func67 Z (by decide) Z<|zSr<|zz (cs := _) Z Z Z<|zVzAb Z<|z6<|zSr<|zVGvloadWF jp jf Z Z<|zVGvloadWF isAgg67 Z9 Z Z<|zd (inst_spec _ _ (by assumption)) Z<|zVGvnot Z<|zVzAb Z<|z6<|ze<|zk (x := .bool _) Z ?_
 rfl
def blkOK (f : PFunc) (b : PBlock) : Bool := !(b.phis.any fun p => !phiOK f p) && !(b.insts.any fun x => !instOK f x) && termOK f b.term
theorem blk_bad1 {f : PFunc} {b : PBlock} (h : (b.phis.any fun p => !phiOK f p) = true) : blkOK f b = false := by unfold blkOK; rw [h]; rfl
theorem blk_bad2 {f : PFunc} {b : PBlock} (h : (b.insts.any fun x => !instOK f x) = true) : blkOK f b = false := by unfold blkOK; rw [h]; simp
theorem blk_bad3 {f : PFunc} {b : PBlock} (h : (!termOK f b.term) = true) : blkOK f b = false := by unfold blkOK; rw [show termOK f b.term = false by simpa using h]; simp
theorem blk_good {f : PFunc} {b : PBlock} (h1 : (b.phis.any fun p => !phiOK f p) = false) (h2 : (b.insts.any fun x => !instOK f x) = false) (h3 : (!termOK f b.term) = false) : blkOK f b = true := by unfold blkOK; rw [h1, h2, show termOK f b.term = true by simpa using h3]; rfl
def shapedB (f : PFunc) : Bool := decide (NamesP f) && (f.blocks.all (blkOK f) && decide (sumTo f.blocks ≤ 1024))
theorem Shaped_spec (f : PFunc) (hf : okFunc f) (h1 : f.vars.length ≤ 100000000) (h2 : f.blocks.length ≤ 100000000) (hp : f.params.length ≤ 100000000) (hn : okNames f) (hL : Letters E) : AFun prog E 34 [.agg (encF f)] (.bool (shapedB f)) := by
 refine zn func34 Z (by decide) Z<|zSr<|zz (cs := _) Z Z Z<|zVzAb Z<|z6<|zc<|zSr<|zVGvloadWF jp jf Z Z<|zd (pnames_spec _ (by omega) (by omega) (by omega) (by assumption) hL) Z<|zVGvnot Z<|z6<|yb Z (fun cn=>?_) (fun cn=>?_)
 ·refine zSr<|zVzAb Z<|z6<|ze<|zk (x := .bool _) Z ?_
  exact jb (by unfold shapedB; rw [show decide (NamesP f) = false by simpa using cn]; rfl)
 ·have hN : NamesP f := by simpa using cn
  have hbl := hN.2.2.1.2.2.2.2
  refine zj<|zSr<|zVzAi Z<|z6<|zc<|zSr<|zVzFF jd Z Zm Z Z<|zVzLf Y4 Z<|zVGvlenM js Z<|zVzMi Z<|z6<|zi<|yg (γ := Nat) [1, 11, 12] (fun k => [(3, .int .i64 (sumTo (f.blocks.take k))), (13, .int .i64 k)]) (fun k => []) (fun k => k ≤ f.blocks.length ∧ sumTo (f.blocks.take k) ≤ k * 562949953421312 ∧ (f.blocks.take k).all (blkOK f) = true) (fun k => f.blocks.length - k) 0 zR2 zLe (⟨q5 _, q5 _, Z⟩) ?_
  rintro k ⟨hk, hsum, hall⟩
  refine zSr<|zVGvlss Z Z<|z6<|zc<|y9 Z (fun ck=>?_) (fun ck=>?_)
  ·have hk2 : k < f.blocks.length := by simp at ck; omega
   obtain ⟨b, hbk⟩ : ∃ b, f.blocks[k] = b := ⟨_, rfl⟩
   have hget : f.blocks[k]? = some b := by rw [q3 hk2, hbk]
   have hb := hf.2.2.2 b (hbk ▸ q6 hk2)
   have hb1 := hb.1.lt
   have hb2 := hb.2.1.lt
   have hsucc := sumTo_succ f.blocks k hk2
   rw [hbk] at hsucc
   refine zj<|zc<|zi<|zSr<|z7 (zIM k js Z3 Z Z Z hget)<|zVGvloadWF isAgg62 Z3 Z Z<|zo (cs := [.str ⟨#[]⟩, .raw (.slice none 0 0), .raw (.slice none 0 0), .int .i64 0, .int .i64 0, .int .i64 0, .int .i64 0]) Zl Z Z<|fun i5 => zg Z3 Z Z Z Z Z Z .head Z<|z6<|zSr<|zVzMi Z<|z7 (zf j9 Z Zq (by decide) Z Z)<|z7 (zt (c := .fro _ _) isAgg55 Z ⟨_, .head⟩ Z)<|zVGvlenM jw Z<|z7 (zf j9 Z Zr (by decide) Z Z)<|z7 (zt (c := .fro _ _) isAgg56 Z ⟨_, .head⟩ Z)<|zVGvlenM jx Z<|zVzAd Z Z<|zVzAd Z Z<|zVzAi Z<|z6<|zSr<|z7 (zf j9 Z Zq (by decide) Z Z)<|z7 (zt (c := .fro _ _) isAgg55 Z ⟨_, .head⟩ Z)<|z7 (Gv.func Z Z)<|zd (containsFuncP_spec b.phis (by omega) (fun p hp => shaped1_spec f p (hb.2.2.1 p hp))) Z<|zVzMb Z<|zx (s := 30) Z (fun c1=>?_) (fun c1=>?_)
   ·refine z8 Z Z c1<|z8 Z Z c1<|z8 Z Z c1<|z8 Z Z c1<|zVzPt Z c1 Z<|zVzAb Z<|z6<|zSr<|zVzMb Z<|zVzMb Z<|z8 Z Z Z<|z8 Z Z Z<|z8 Z Z Z<|z8 Z Z Z<|z8 Z Z Z<|zVzPt Z Z Z<|z6<|zy Z Z<|zSr<|zVzAb Z<|z6<|ze<|zk (x := .bool _) Z ?_
    exact jb (by unfold shapedB; rw [show f.blocks.all (blkOK f) = false from Bool.eq_false_iff.2 (all_bad hk2 (by rw [hbk]; first | exact blk_bad1 (by assumption) | exact blk_bad2 (by assumption) | exact blk_bad3 (by assumption)))]; simp)
   ·refine za Z Z c1<|z7 (zf j9 Z Zr (by decide) Z Z)<|za Z Z c1<|z7 (zt (c := .fro _ _) isAgg56 Z ⟨_, .head⟩ Z)<|za Z Z c1<|z7 (Gv.func Z Z)<|za Z Z c1<|zd (containsFuncX_spec b.insts (by omega) (fun x hx => shaped2_spec f x (hb.2.2.2 x hx))) Z<|zVzPf Z c1 Z<|zVzAb Z<|z6<|zSr<|zVzMb Z<|zVzMb Z<|zx (s := 37) Z (fun c2=>?_) (fun c2=>?_)
    ·refine z8 Z Z c2<|z8 Z Z c2<|z8 Z Z c2<|z8 Z Z c2<|z8 Z Z c2<|zVzPt Z c2 Z<|z6<|zy Z Z<|zSr<|zVzAb Z<|z6<|ze<|zk (x := .bool _) Z ?_
     exact jb (by unfold shapedB; rw [show f.blocks.all (blkOK f) = false from Bool.eq_false_iff.2 (all_bad hk2 (by rw [hbk]; first | exact blk_bad1 (by assumption) | exact blk_bad2 (by assumption) | exact blk_bad3 (by assumption)))]; simp)
    ·refine za Z Z c2<|zVGvloadWF jp jf Z Z<|za Z Z c2<|z7 (zf j9 Z sizeOf60 (by decide) Z Z)<|za Z Z c2<|z7 (Gv.loadAC (l := [_, _, _, _]) isAgg60 sizeOf60 Z ⟨_, .head⟩ Z Z)<|za Z Z c2<|zd (term_spec _ _) Z<|za Z Z c2<|zVGvnot Z<|zVzPf Z c2 Z<|z6<|yb Z (fun c3=>?_) (fun c3=>?_)
     ·refine zSr<|zVzAb Z<|z6<|ze<|zk (x := .bool _) Z ?_
      exact jb (by unfold shapedB; rw [show f.blocks.all (blkOK f) = false from Bool.eq_false_iff.2 (all_bad hk2 (by rw [hbk]; first | exact blk_bad1 (by assumption) | exact blk_bad2 (by assumption) | exact blk_bad3 (by assumption)))]; simp)
     ·refine zj<|zRg<|zVzAd Z Z<|zVzMi Z<|z6 ?_
      exact ⟨k + 1, zR3, ⟨congrArg (AV.int .i64) (by rw [hsucc]; omega), rfl, trivial⟩, ⟨_, (.drop (.refl _)), rfl⟩, ⟨hk2, by rw [hsucc]; omega, all_take hk2 hall (by rw [hbk]; exact blk_good (by assumption) (by assumption) (by assumption))⟩, by omega⟩
  ·have hkn : k = f.blocks.length := by simp at ck; omega
   subst hkn
   rw [q7] at hall ⊢
   refine yf<|zSr<|zVzMi Z<|z7 (Gv.leq Z Z)<|zVzAb Z<|z6<|ze<|zk (x := .bool _) Z ?_
   exact jb (by unfold shapedB; rw [decide_eq_true hN, hall]; simp; omega)
theorem phiOK_iff (f : PFunc) (p : PPhi) : phiOK f p = true ↔ PhiP f p := by
 unfold phiOK PhiP
 simp only [q9, Bool.not_eq_true', decide_eq_false_iff_not, decide_eq_true_eq]
 constructor
 ·rintro ⟨⟨⟨⟨h1, h2⟩, h3⟩, h4⟩, h5⟩; exact ⟨h3, h2, by omega, h4, h5⟩
 ·rintro ⟨h3, h2, h1, h4, h5⟩; exact ⟨⟨⟨⟨by omega, h2⟩, h3⟩, h4⟩, h5⟩
theorem tyWord_ne (t : Int) : ¬ tyWord t = ⟨#[]⟩ ↔ 0 ≤ t ∧ t ≤ 2 := by
 unfold tyWord
 constructor
 ·intro h
  by_cases h0 : t = 0
  ·omega
  ·by_cases h1 : t = 1
   ·omega
   ·by_cases h2 : t = 2
    ·omega
    ·rw [if_neg h0, if_neg h1, if_neg h2] at h; exact absurd rfl h
 ·intro h e
  have : t = 0 ∨ t = 1 ∨ t = 2 := by omega
  rcases this with rfl | rfl | rfl <;> exact absurd e (by decide)
theorem blkOK_iff (f : PFunc) (b : PBlock) : blkOK f b = true ↔ BlkP f b := by
 unfold blkOK BlkP
 simp only [q9, Bool.not_eq_true', List.any_eq_false, Bool.not_eq_false]
 constructor
 ·rintro ⟨⟨h1, h2⟩, h3⟩
  exact ⟨fun p hp => (phiOK_iff f p).1 (by simpa using h1 p hp), fun x hx => (instOK_iff f x).1 (by simpa using h2 x hx), h3⟩
 ·rintro ⟨h1, h2, h3⟩
  exact ⟨⟨fun p hp => by simpa using (phiOK_iff f p).2 (h1 p hp), fun x hx => by simpa using (instOK_iff f x).2 (h2 x hx)⟩, h3⟩
theorem unlP_iff {l : List ByteArray} : UnlP l ↔ ∀ i (h : i < l.length), scanName l[i] = true ∧ l[i] ∉ l.take i := by
 unfold UnlP
 constructor <;> intro h i hi
 ·exact ⟨(h i hi).1, fun hm => by have := inB_iff.2 hm; rw [(h i hi).2] at this; cases this⟩
 ·exact ⟨(h i hi).1, Bool.eq_false_iff.2 fun hm => (h i hi).2 (inB_iff.1 hm)⟩
theorem vn_getE {f : PFunc} {i : Nat} (h : i < (VNames f).length) (h' : i < f.vars.length) : (VNames f)[i] = f.vars[i].name := by
 have : (VNames f)[i]? = some f.vars[i].name := by unfold VNames; rw [List.getElem?_map, q3 h']; rfl
 rw [q3 h] at this
 simpa using this
theorem bn_getE {f : PFunc} {i : Nat} (h : i < (BNames f).length) (h' : i < f.blocks.length) : (BNames f)[i] = f.blocks[i].name := by
 have : (BNames f)[i]? = some f.blocks[i].name := by unfold BNames; rw [List.getElem?_map, q3 h']; rfl
 rw [q3 h] at this
 simpa using this
theorem shapedB_eq (f : PFunc) : shapedB f = decide (ShapedP f) := by
 rw [Bool.eq_iff_iff, decide_eq_true_iff]
 unfold shapedB
 simp only [q9, decide_eq_true_iff, List.all_eq_true, blkOK_iff]
 unfold NamesP LensP ShapedP bad1
 simp only [unlP_iff]
 constructor
 ·rintro ⟨⟨h1, h2, ⟨g1, g2, g3, g4, g5⟩, h4, h5⟩, h6, h7⟩
  refine ⟨?_, h2, fun i h => ?_, fun i h => ?_, h7, h6⟩
  ·simp; omega
  ·have ht := (tyWord_ne _).1 (h1 i h)
   have hu := h4 i (by unfold VNames; simpa using h)
   have e := vn_getE (f := f) (i := i) (by unfold VNames; simpa using h) h
   rw [e] at hu
   exact ⟨by rw [name_eq]; exact hu.1, ht.1, ht.2, fun s hs e2 => hu.2 (by unfold VNames; rw [← List.map_take, ← e2]; exact hs)⟩
  ·have hu := h5 i (by unfold BNames; simpa using h)
   have e := bn_getE (f := f) (i := i) (by unfold BNames; simpa using h) h
   rw [e] at hu
   exact ⟨by rw [name_eq]; exact hu.1, fun s hs e2 => hu.2 (by unfold BNames; rw [← List.map_take, ← e2]; exact hs)⟩
 ·rintro ⟨h1, h2, h3, h4, h7, h6⟩
  simp at h1
  refine ⟨⟨fun i h => (tyWord_ne _).2 ⟨(h3 i h).2.1, (h3 i h).2.2.1⟩, h2, by omega, fun i h => ?_, fun i h => ?_⟩, h6, h7⟩
  ·have h' : i < f.vars.length := by simpa using h
   have e := vn_getE h h'
   rw [e]
   exact ⟨by rw [← name_eq]; exact (h3 i h').1, fun hm => (h3 i h').2.2.2 _ (by unfold VNames at hm; rw [← List.map_take] at hm; exact hm) rfl⟩
  ·have h' : i < f.blocks.length := by simpa using h
   have e := bn_getE h h'
   rw [e]
   exact ⟨by rw [← name_eq]; exact (h4 i h').1, fun hm => (h4 i h').2 _ (by unfold BNames at hm; rw [← List.map_take] at hm; exact hm) rfl⟩
end Go.Proofs.YtoicilchhkndmaaGreatDoor
namespace Go.Proofs.YtoicilchhkndmaaGreatDoor
open Go.Proofs.Tryz
open Go.Proofs Go.Lib Go.Shelf Go.RowKit
variable {E : World}
set_option maxRecDepth 20000
def blkT (f : PFunc) (b : PBlock) : Bool := b.phis.all (phiT f) && b.insts.all (instT f) && termT f b.term
def typedB (f : PFunc) : Bool := shapedB f && f.blocks.all (blkT f)
theorem small.shaped {f : PFunc} (hf : small f) (hL : Letters E) : AFun prog E 34 [.agg (encF f)] (.bool (shapedB f)) :=
 Shaped_spec f hf.ok (by have := hf.1; omega) (by have := hf.2.2.1; omega) (by have := hf.2.1; omega) hf.names hL
theorem term_var {f : PFunc} {t : PTerm} (h : termOK f t = true) (hk : ¬ t.kind = 0) : hasV f t.var = true := by
 unfold termOK at h
 rw [if_neg hk] at h
 split at h
 ·simp only [q9] at h; exact h.1.1
 ·split at h
  ·simp only [q9] at h; exact h.1
  ·cases h
theorem Typed_spec (f : PFunc) (hf : small f) (hL : Letters E) : AFun prog E 20 [.agg (encF f)] (.int .i64 (if typedB f then 0 else 3)) := by
 have hok := hf.ok
 refine zn func20 Z (by decide) Z<|zSr<|zz (cs := _) Z Z Z<|zVzAi Z<|z6<|zc<|zSr<|zVGvloadWF jp jf Z Z<|zd (hf.shaped hL) Z<|zVGvnot Z<|z6<|yb Z (fun cs=>?_) (fun cs=>?_)
 ·refine zSr<|zVzAi Z<|z6<|ze<|zk (x := .int _ _) Z ?_
  unfold typedB; rw [show shapedB f = false by simpa using cs]; rfl
 ·have hsb : shapedB f = true := by simpa using cs
  have hS : ShapedP f := by rw [shapedB_eq] at hsb; exact of_decide_eq_true hsb
  have hB := hS.2.2.2.2.2
  have hfl := hok.2.2.1.lt
  refine zj<|zc<|zSr<|zVzFF jd Z Zm Z Z<|zVzLf Y4 Z<|zVGvlenM js Z<|zVzMi Z<|z6<|zi<|yg (γ := Nat) [1, 13, 14] (fun k => [(15, .int .i64 k)]) (fun k => []) (fun k => k ≤ f.blocks.length ∧ (f.blocks.take k).all (blkT f) = true) (fun k => f.blocks.length - k) 0 zR1 zLe (⟨q5 _, Z⟩) ?_
  rintro k ⟨hk, hall⟩
  refine zSr<|zVGvlss Z Z<|z6<|zc<|y9 Z (fun ck=>?_) (fun ck=>?_)
  ·have hk2 : k < f.blocks.length := by simp at ck; omega
   obtain ⟨b, hbk⟩ : ∃ b, f.blocks[k] = b := ⟨_, rfl⟩
   have hget : f.blocks[k]? = some b := by rw [q3 hk2, hbk]
   have hmem : b ∈ f.blocks := hbk ▸ q6 hk2
   obtain ⟨hph, hin, htm⟩ := hB b hmem
   have hbad : blkT f b = false → typedB f = false := fun h => by unfold typedB; rw [Bool.eq_false_iff.2 (all_bad hk2 (by rw [hbk]; exact h))]; simp
   have hs5 := hok.2.2.2 b hmem
   have hpl := hs5.1.lt
   have hil := hs5.2.1.lt
   refine zj<|zc<|zi<|zSr<|z7 (zIM k js Z3 Z Z Z hget)<|zVGvloadWF isAgg62 Z3 Z Z<|zo (cs := [.str ⟨#[]⟩, .raw (.slice none 0 0), .raw (.slice none 0 0), .int .i64 0, .int .i64 0, .int .i64 0, .int .i64 0]) Zl Z Z<|fun i4 => zg Z3 Z Z Z Z Z Z .head Z<|ye (yu (t := 4) Z .head)<|z6<|zc<|zSr<|zVzFF j9 Z Zq Z Z<|zVzLf isAgg55 Z<|zVGvlenM jw Z<|zVzMi Z<|z6<|zi<|yg (γ := Nat) [1, 4, 13, 14, 15, 20, 21] (fun p => [(22, .int .i64 p)]) (fun p => []) (fun p => p ≤ b.phis.length ∧ (b.phis.take p).all (phiT f) = true) (fun p => b.phis.length - p) 0 zR1 zLe (⟨q5 _, Z⟩) ?_
   rintro p ⟨hp, hpall⟩
   refine zSr<|zVGvlss Z Z<|z6<|zc<|y9 Z (fun cp=>?_) (fun cp=>?_)
   ·have hp2 : p < b.phis.length := by simp at cp; omega
    have hpm := q6 hp2
    have hP := hph _ hpm
    refine zj<|zc<|zi<|zSr<|z7 (zIM p jw Z8 Z Z Z (q3 hp2))<|zVGvloadWF isAgg64 Z8 Z Z<|zo (cs := [.int .i64 0, .raw (.slice none 0 0), .raw (.slice none 0 0)]) Y1 Z Z<|fun i6 => zg Z8 Z Z Z Z Z Z .head Z<|ye (yu (t := 6) Z .head)<|z6<|zSr<|zVGvloadWF jp jf Z Z<|zVGvloadWF isAgg64 Z8 Z Z<|zd (yphi_spec f b.phis[p] (hs5.2.2.1 _ hpm) hP.2.2.2.1 hP.1) Z<|zVGvnot Z<|z6<|yb Z (fun cq=>?_) (fun cq=>?_)
    ·refine zSr<|zVzAi Z<|z6<|ze<|zk (x := .int _ _) Z ?_
     rw [hbad (by unfold blkT; rw [Bool.eq_false_iff.2 (all_bad hp2 (by simpa using cq))]; rfl)]; rfl
    ·refine zj<|zRg<|zVzAd Z Z<|zVzMi Z<|z6 ?_
     exact ⟨p + 1, ⟨rfl, rfl, rfl, rfl, rfl, rfl, rfl, trivial⟩, zR1, zLe, ⟨hp2, all_take hp2 hpall (by simpa using cq)⟩, by omega⟩
   ·have hpn : p = b.phis.length := by simp at cp; omega
    subst hpn
    rw [q7] at hpall
    refine yf<|zc<|zSr<|zVzFF j9 Z Zr Z Z<|zVzLf isAgg56 Z<|zVGvlenM jx Z<|zVzMi Z<|z6<|zi<|yg (γ := Nat) [1, 4, 13, 14, 15, 32, 33] (fun q => [(34, .int .i64 q)]) (fun q => []) (fun q => q ≤ b.insts.length ∧ (b.insts.take q).all (instT f) = true) (fun q => b.insts.length - q) 0 zR1 zLe (⟨q5 _, Z⟩) ?_
    rintro q ⟨hq, hqall⟩
    refine zSr<|zVGvlss Z Z<|z6<|zc<|y9 Z (fun cp2=>?_) (fun cp2=>?_)
    ·have hq2 : q < b.insts.length := by simp at cp2; omega
     have hqm := q6 hq2
     have hI := instP_F (hin _ hqm)
     have hId : makesB b.insts[q].op = true → hasV f b.insts[q].dst = true := fun h => by
      rcases hI.dst with ⟨d1, _⟩ | ⟨_, _, d3⟩
      ·rw [h] at d1; cases d1
      ·exact d3
     refine zj<|zc<|zi<|zSr<|z7 (zIM q jx Z9 Z Z Z (q3 hq2))<|zVGvloadWF isAgg67 Z9 Z Z<|zo (cs := [.int .i64 0, .int .i64 0, .raw (.slice none 0 0), .int .i64 0]) zeroValue67 Z Z<|fun i8 => zg Z9 Z Z Z Z Z Z .head Z<|ye (yu (t := 8) Z .head)<|z6<|zSr<|zVGvloadWF jp jf Z Z<|zVGvloadWF isAgg67 Z9 Z Z<|zd (yinst_spec f b.insts[q] (List.all_eq_true.2 hI.args) hI.len hId) Z<|zVGvnot Z<|z6<|yb Z (fun cq=>?_) (fun cq=>?_)
     ·refine zSr<|zVzAi Z<|z6<|ze<|zk (x := .int _ _) Z ?_
      rw [hbad (by unfold blkT; rw [hpall, Bool.eq_false_iff.2 (all_bad hq2 (by simpa using cq))]; rfl)]; rfl
     ·refine zj<|zRg<|zVzAd Z Z<|zVzMi Z<|z6 ?_
      exact ⟨q + 1, ⟨rfl, rfl, rfl, rfl, rfl, rfl, rfl, trivial⟩, zR1, zLe, ⟨hq2, all_take hq2 hqall (by simpa using cq)⟩, by omega⟩
    ·have hqn : q = b.insts.length := by simp at cp2; omega
     subst hqn
     rw [q7] at hqall
     refine yf<|zSr<|zVGvloadWF jp jf Z Z<|zVzFF j9 Z sizeOf60 Z Z<|zVGvloadWF isAgg60 sizeOf60 Z Z<|zd (yterm_spec f b.term (term_var htm)) Z<|zVGvnot Z<|z6<|yb Z (fun ct=>?_) (fun ct=>?_)
     ·refine zSr<|zVzAi Z<|z6<|ze<|zk (x := .int _ _) Z ?_
      rw [hbad (by unfold blkT; rw [hpall, hqall]; simpa using ct)]; rfl
     ·refine zj<|zRg<|zVzAd Z Z<|zVzMi Z<|z6 ?_
      exact ⟨k + 1, zR3, zR1, zLe, ⟨hk2, all_take hk2 hall (by rw [hbk]; unfold blkT; rw [hpall, hqall]; simpa using ct)⟩, by omega⟩
  ·have hkn : k = f.blocks.length := by simp at ck; omega
   subst hkn
   rw [q7] at hall
   refine yf<|zSr<|zVzAi Z<|z6<|ze<|zk (x := .int _ _) Z ?_
   unfold typedB; rw [hsb, hall]; rfl
end Go.Proofs.YtoicilchhkndmaaGreatDoor
namespace Go.Proofs.YtoicilchhkndmaaGreatDoor
open Go.Proofs.Tryz
open Go.Proofs Go.Lib Go.Shelf Go.RowKit
variable {E : World}
set_option maxRecDepth 20000
end Go.Proofs.YtoicilchhkndmaaGreatDoor
namespace Go.Proofs.YtoicilchhkndmaaGreatDoor
open Go.Proofs.Tryz
section
variable {S : Int → List Int} {at_ : Int → Int} {V : List Int} {N : Int → Int}
end
section
variable {S : Int → List Int} {at_ V : List Int} {preds : Int → List Int} {n : Nat}
end
section
variable {E : Int → List Int} {n : Nat}
end
end Go.Proofs.YtoicilchhkndmaaGreatDoor
namespace Go.Proofs.YtoicilchhkndmaaGreatDoor
open Go.Proofs.Tryz
open Go.Proofs
variable {E : World}
set_option maxRecDepth 20000
end Go.Proofs.YtoicilchhkndmaaGreatDoor
namespace Go.Proofs.YtoicilchhkndmaaGreatDoor
open Go.Proofs.Tryz
open Go.Proofs
variable {E : World}
set_option maxRecDepth 20000
end Go.Proofs.YtoicilchhkndmaaGreatDoor
namespace Go.Proofs.YtoicilchhkndmaaGreatDoor
open Go.Proofs.Tryz
section
variable {E : World} {P : Program} {env : AEnv} {O O' O'' : OL}
theorem GStep.knowIC {j off i m : Nat} {T T' : TypeId} {cs : List AV} {l : List Int} (hO : Pick O i (.grow 1 T (cI l)) O') (hP : Put O' j (.cells T' cs) (.cells T' (cs.set off (.fro 1 (l.map fun x => [.int .i64 x])))) O'') (hc : cs[off]? = some (.own i m)) (hm : l.length = m) : GStep E env O env O'' :=
 GStep.knowC (rows := l.map fun x => [.int .i64 x]) (by rw [cI_flat]; exact hO) hP hc (fun r hr => by obtain ⟨_, _, rfl⟩ := List.mem_map.1 hr; rfl) (by decide) (by rw [List.length_map]; exact hm)
theorem run_neq_ptr_nil {tp te : TypeId} {j : TypeInfo} (a : Addr) (hp : P.underlying tp = some (.pointer te)) (hte : P.info? te = some j) (w : World) :
  (binOp .neq tp (.pointer (some a)) (.pointer none)).run P w = .ok (.bool true) w := by
 have h : ∀ d : Nat, (Op.equalIn (d + 1) tp (.pointer (some a)) (.pointer none)).run P w = .ok false w := fun d => by
  simp [Op.equalIn, run_underlying hp, sizeOf, typeInfo, hte]
 simp only [binOp]
 simp [Op.equal, Op.maxDepth, h 9999]
theorem run_eql_ptr_nil {tp te : TypeId} {j : TypeInfo} (a : Addr) (hp : P.underlying tp = some (.pointer te)) (hte : P.info? te = some j) (w : World) :
  (binOp .eql tp (.pointer (some a)) (.pointer none)).run P w = .ok (.bool false) w := by
 have h : ∀ d : Nat, (Op.equalIn (d + 1) tp (.pointer (some a)) (.pointer none)).run P w = .ok false w := fun d => by
  simp [Op.equalIn, run_underlying hp, sizeOf, typeInfo, hte]
 simp only [binOp]
 simp [Op.equal, Op.maxDepth, h 9999]
variable {d ty : Nat} {pos : String} {af : Array Edge} {x y z : Operand} {t u e T : TypeId}
theorem Gv.neqPo {i off : Nat} {j : TypeInfo} (hp : P.underlying t = some (.pointer e)) (hte : P.info? e = some j) (hx : aev env x = .po i off) : Gv P env O (Oper.mk (some d) (.binOp .neq t x (.const (.pointer none)) u) ty pos af none) (.bool true) := Gv.ofEv fun I ρ h => by
 have h1 := h.ev x
 rw [hx] at h1
 obtain ⟨b, c, _, e1⟩ := h1
 exact ⟨_, rfl, fun w => by
  have e2 : Go.Proofs.YtoicilchhkndmaaGreatDoor.ev ρ (.const (.pointer none)) = .pointer none := rfl
  simp only [execOp, e1, e2]; simp [eqGuard, run_neq_ptr_nil _ hp hte]⟩
theorem Gv.eqlPo {i off : Nat} {j : TypeInfo} (hp : P.underlying t = some (.pointer e)) (hte : P.info? e = some j) (hx : aev env x = .po i off) : Gv P env O (Oper.mk (some d) (.binOp .eql t x (.const (.pointer none)) u) ty pos af none) (.bool false) := Gv.ofEv fun I ρ h => by
 have h1 := h.ev x
 rw [hx] at h1
 obtain ⟨b, c, _, e1⟩ := h1
 exact ⟨_, rfl, fun w => by
  have e2 : Go.Proofs.YtoicilchhkndmaaGreatDoor.ev ρ (.const (.pointer none)) = .pointer none := rfl
  simp only [execOp, e1, e2]; simp [eqGuard, run_eql_ptr_nil _ hp hte]⟩
end
end Go.Proofs.YtoicilchhkndmaaGreatDoor
namespace Go.Proofs.YtoicilchhkndmaaGreatDoor
open Go.Proofs.Tryz
open Go.Proofs
variable {E : World}
set_option maxRecDepth 20000
section
variable {S : Int → List Int} {n : Nat} (hG : Grph S n)
include hG
end
end Go.Proofs.YtoicilchhkndmaaGreatDoor
namespace Go.Proofs.YtoicilchhkndmaaGreatDoor
open Go.Proofs.Tryz
open Go.Proofs
variable {E : World}
set_option maxRecDepth 20000
section
variable {S : Int → List Int} {n : Nat} (hG : Grph S n)
include hG
end
end Go.Proofs.YtoicilchhkndmaaGreatDoor
namespace Go.Proofs.YtoicilchhkndmaaGreatDoor
open Go.Proofs.Tryz
open Go.Proofs Go.Lib Go.Shelf Go.RowKit
variable {E : World}
set_option maxRecDepth 20000
end Go.Proofs.YtoicilchhkndmaaGreatDoor
namespace Go.Proofs.YtoicilchhkndmaaGreatDoor
open Go.Proofs.Tryz
open Go.Proofs Go.Lib Go.Shelf Go.RowKit
variable {E : World}
set_option maxRecDepth 20000
end Go.Proofs.YtoicilchhkndmaaGreatDoor
namespace Go.Proofs.YtoicilchhkndmaaGreatDoor
open Go.Proofs.Tryz
open Go.Proofs Go.Lib Go.Shelf Go.RowKit
variable {E : World}
set_option maxRecDepth 20000
theorem typedB_shaped {f : PFunc} (h : typedB f = true) : ShapedP f := by
 unfold typedB at h
 rw [q9, shapedB_eq] at h
 exact of_decide_eq_true h.1
end Go.Proofs.YtoicilchhkndmaaGreatDoor
namespace Go.Proofs.YtoicilchhkndmaaGreatDoor
open Go.Proofs.Tryz
open Go.Proofs Go.Lib Go.Shelf Go.RowKit
variable {E : World}
set_option maxRecDepth 20000
end Go.Proofs.YtoicilchhkndmaaGreatDoor
namespace Go.Proofs.YtoicilchhkndmaaGreatDoor
open Go.Proofs.Tryz
open Go.Proofs Go.Lib Go.Shelf Go.RowKit
variable {E : World}
set_option maxRecDepth 20000
end Go.Proofs.YtoicilchhkndmaaGreatDoor
namespace Go.Proofs.YtoicilchhkndmaaGreatDoor
open Go.Proofs.Tryz
open Go.Proofs Go.Lib Go.Shelf Go.RowKit
variable {E : World}
set_option maxRecDepth 20000
end Go.Proofs.YtoicilchhkndmaaGreatDoor
namespace Go.Proofs.YtoicilchhkndmaaGreatDoor
open Go.Proofs.Tryz
open Go.Proofs Go.Lib Go.Shelf Go.RowKit
variable {E : World}
set_option maxRecDepth 20000
end Go.Proofs.YtoicilchhkndmaaGreatDoor
namespace Go.Proofs.YtoicilchhkndmaaGreatDoor
open Go.Proofs.Tryz
open Go.Proofs Go.Lib Go.Shelf Go.RowKit
variable {E : World}
set_option maxRecDepth 20000
end Go.Proofs.YtoicilchhkndmaaGreatDoor
namespace Go.Proofs.YtoicilchhkndmaaGreatDoor
open Go.Proofs.Tryz
open Go.Proofs Go.Lib Go.Shelf Go.RowKit
variable {E : World}
set_option maxRecDepth 20000
end Go.Proofs.YtoicilchhkndmaaGreatDoor
namespace Go.Proofs.YtoicilchhkndmaaGreatDoor
open Go.Proofs.Tryz
open Go.Proofs Go.Lib Go.Shelf Go.RowKit
variable {E : World}
set_option maxRecDepth 20000
end Go.Proofs.YtoicilchhkndmaaGreatDoor
